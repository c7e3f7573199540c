/- Part of a proof. -/
import Derived.Test.YtoahcpkibpomcaaGreatGVmF
set_option linter.all false
set_option maxHeartbeats 4000000
set_option maxRecDepth 100000
namespace Go.Proofs.YtoahcpkibpomcaaGreat
open Go.RowKit Go.Maps
variable {t x:Int}{W W' W0 w w' w0 w1:World}{o:Obj}{K:MK}{B0 Bi Bn Bv C bi bm bp d i j k m nm u vb vn:Nat}{c idom:List Int}{g preds:List (List Nat)}{seen:List Bool}{post pr xs:List Nat}{ds:List Deferred}
theorem xH:Keyed Tryz.prog 3:=int_keyed Tryz.underlying3
theorem wf64'(h:I64 x):(Lit.int .i64 x).wf=true:=by unfold I64 at h;simp[Lit.wf,IntKind.min,IntKind.max,IntKind.signed,IntKind.bits];omega
theorem wfU16 {x:Nat}(h:x<65536):(Lit.int .u16 (x:Int)).wf=true:=by simp[Lit.wf,IntKind.min,IntKind.max,IntKind.signed,IntKind.bits];omega
theorem vB(h:I64 x):keyOf Tryz.prog 3 (.int .i64 x)=some (.int .i64 x):=keyOf_int_mk Tryz.underlying3 (wf64' h)
theorem zeroU16 (w:World):(zeroValue 43).run Tryz.prog w=.ok (O 0) w:=by kernel_rfl
def xO (w:World)(b n:Nat)(f:Int->Nat):Prop:=
 (∃D:DataW Unit,w.ownsMap Tryz.prog 3 (plainElem Tryz.prog 43) b n D/\∀x,(Lit.int .i64 x).wf=true->D.atKey (.int .i64 x) (.lit (.int .u16 0))=.lit (.int .u16 (f x:Int)))/\∀x,f x<65536
theorem xO.made (w:World):xO (w.alloc (.map #[] 0)) w.heap.size 0 (fun _=>0):=⟨⟨_,World.ownsMap_made _ _ _ _,fun _ _=>rfl⟩,fun _=>by show 0<65536;decide⟩
theorem xO.blk{b n:Nat}{f:Int->Nat}(h:xO w b n f):∃es clock,w.heap[b]? =some (.map es clock):=by
 obtain⟨⟨D,⟨es,clock,h1,h2⟩,h3⟩,c⟩:=h;exact⟨es,clock,h1⟩
theorem xO.same{b n:Nat}{f:Int->Nat}(h:xO w b n f)(hb:w'.heap[b]? =w.heap[b]?):xO w' b n f:=by
 obtain⟨⟨D,⟨es,c,h1,h2⟩,h3⟩,d⟩:=h;exact⟨⟨D,⟨es,c,hb.trans h1,h2⟩,h3⟩,d⟩
theorem xO.kept{B:Nat}{b n:Nat}{f:Int->Nat}(h:xO w b n f)(g:Frm B w w'):xO w' b n f:=by
 obtain⟨es,d,c⟩:=h.blk;exact h.same ((g.kept _ _ c trivial).trans c.symm)
theorem xO.look{b n:Nat}{f:Int->Nat}(h:xO w b n f)(i:I64 x):
 (Instr.lookup 217 (.map (some b)) (.int .i64 x) false).run Tryz.prog w=.ok (.int .u16 (f x:Nat)) w:=by
 obtain⟨⟨D,h,hf⟩,_⟩:=h;obtain⟨c,g,d,j⟩:=h.lookup_int xH Tryz.underlying217 Tryz.underlying43 (zeroU16 w) (vB i);rw[hf x (wf64' i)] at d;simp only[DataW.lit.injEq,Lit.int.injEq,true_and] at d;subst d;exact g
theorem us{ops:Array Oper}{rest:List Oper}{o:Oper}{a:Act}{Q:Exit->Act->World->Prop}(hg:o.guard=none)(m x v:Operand)
 (j:o.op=.mapUpdate 217 m x v) {b n:Nat} {f:Int->Nat} (h:xO w b n f) (hn:n<9000000000000000000) (kx:Int) (vv:Nat) (hm:a.eval m=.map (some b)) (t:a.eval x=.int .i64 kx) (hv:a.eval v=.int .u16 (vv:Int))
 (g:I64 kx) (d:vv<65536)
 (u:∀w',xO w' b (n+1) (iY f kx vv)->w.grownBy w' (some b)->wpList Tryz.prog ops Q rest (a.put o.dst undef) w'):wpList Tryz.prog ops Q (o::rest) a w:=by
 obtain⟨⟨D,h,hf⟩,k⟩:=h;refine wpList_mapUpdate_own (H:=Unit) w hg m x v 217 j 3 43 xH Tryz.underlying217 _ b n D hm h (by unfold maxLen;omega) _ _ _ t hv (vB g) _ [] (plainElem_int Tryz.underlying43 (wfU16 d)) ?_;intro w1 i c;refine u w1 ⟨⟨_,i,fun y hy=>?_⟩,fun y=>?_⟩ c
 ·have l:WideAt.IsKeyLit (.int .i64 kx):=xH.key (vB g)
  by_cases e:y=kx
  ·subst e;simp only[iY,if_true];exact Maps.atKey_put_same h.isMap l _ _
  ·simp only[iY,if_neg e];rw[Maps.atKey_put_other (by simpa using e)];exact hf y hy
 ·unfold iY;split
  ·exact d
  ·exact k y
open Go.RowKit
theorem MachAt.grownMap{m:Mach}{ov:Value}(h:MachAt w K m ov){es:Array _}{c:Nat}(hm:w.heap[vb]? =some (.map es c))(hB:K.B<=vb)(hg:w.grownBy w' (some vb)):MachAt w' K m ov:=by
 have n1:vb≠K.pm:=by rintro rfl;rw[h.blk] at hm;cases hm
 have n2:vb≠K.rb:=by rintro rfl;rw[h.ram] at hm;cases hm
 have hb:Below K.B w w':=(Below.refl _ _).grown hg (Qd h.size) (fun k hk=>by simp at hk;omega);refine⟨zL hg h.blk (by simpa using n1),zL hg h.ram (by simpa using n2),h.rlen,h.rlt,h.out.kept hg ?_,h.olt,h.obd,h.fuel,h.inp,h.pol,h.gpm,h.grb,h.prog.below hb,h.inn.below zr hb,h.irq.below xQ hb⟩;rcases h.out.2 with⟨hv,_⟩|⟨g,i,cur,hv,_,d,_⟩
 ·left;rw[hv];rfl
 ·right;rw[hv];intro e;simp only[Value.ownBlock,Option.some.injEq] at e;subst e;rw[d] at hm;cases hm
theorem Frm.grownMap{B:Nat}(h:Frm B w0 w)(c:w0.heap.size<=vb)(hB:B<=w0.heap.size)(hg:w.grownBy w' (some vb)):Frm B w0 w':=
 ⟨h.below.grown hg (Jn hB h.below.size) (fun k hk=>by simp at hk;omega),fun k o hk hs=>zL hg (h.kept k o hk hs) (by have:=lt_of_block hk;simp;omega)⟩
structure CSt (K:MK) (w0 w:World) (m:Mach) (vb vn:Nat) (v:Int->Nat):Prop where
 mach:∃ov,MachAt w K m ov
 frm:Frm K.B w0 w
 map:xO w vb vn v
 new:w0.heap.size<=vb
 gb:K.B<w0.heap.size
theorem CSt.alloc{m:Mach}{v:Int->Nat}(h:CSt K w0 w m vb vn v)(o:Obj):CSt K w0 (w.alloc o) m vb vn v:=by
 obtain⟨ov,hm⟩:=h.mach;exact⟨⟨ov,hm.keep ((Below.refl _ _).alloc (Je _) o)⟩,h.frm.trans ((Frm.refl _ _).alloc (by have:=hm.size;omega) o),h.map.kept ((Frm.refl K.B w).alloc (by have:=hm.size;omega) o),h.new,h.gb⟩
theorem CSt.store{m:Mach}{n':Nat}{v v':Int->Nat}(h:CSt K w0 w m vb vn v)(hm:xO w' vb n' v')(hg:w.grownBy w' (some vb)):CSt K w0 w' m vb n' v':=by
 obtain⟨ov,d⟩:=h.mach;obtain⟨es,c,hb⟩:=h.map.blk;exact⟨⟨ov,d.grownMap hb (by have:=h.new;have:=h.gb;omega) hg⟩,h.frm.grownMap h.new (Qd h.gb) hg,hm,h.new,h.gb⟩
theorem CSt.step {K:MK}{w0 w w':World}{m m':Mach}{vb vn:Nat}{v:Int->Nat}{c:Value}(h:CSt K w0 w m vb vn v)(g:MachAt w' K m' c)(d:Frm K.B w w'):CSt K w0 w' m' vb vn v:=
 ⟨⟨c,g⟩,h.frm.trans d,h.map.kept d,h.new,h.gb⟩
theorem rh {blocks:List IBlk}{a:Nat}(h:a<blocks.length):blocks[a]? =some (xz blocks a):=by
 unfold xz;rw[Ni,Jj,Jd h];rfl
theorem ru (E:IEnv)(call:Int->List Nat->Mach->Res Nat)(blocks:List IBlk)(n:Nat)(a:Int)(args:List Nat)(v:Int->Nat)(m:Mach):tJ E call blocks (n+1) a args v m=
 match iq E call (xz blocks a).ops (r7 (xz blocks a).params args v) m with
 |.trap k i m'=> .trap k i m'
 |.ok v2 m2=>
  if m2.fuel<=0 then .trap 7 0 m2
  else if(xz blocks a).term.kind=4 then .ok (if(xz blocks a).term.a=-1 then 0 else v2 (xz blocks a).term.a) m2.pay
  else if(xz blocks a).term.kind=5 then .trap 1 0 m2.pay
  else tJ E call blocks n (wK (xz blocks a).term (v2 (xz blocks a).term.a)).block ((wK (xz blocks a).term (v2 (xz blocks a).term.a)).args.map v2) v2 m2.pay:=rfl
theorem j7 (E:IEnv)(call:Int->List Nat->Mach->Res Nat)(o:IOp)(os:List IOp)(v:Int->Nat)(m:Mach):iq E call (o::os) v m=
 if m.fuel<=0 then .trap 7 0 m
 else match oV E call o v m.pay with
  |.ok r m'=>iq E call os (setV v o.res r) m'
  |.trap k i m'=> .trap k i m':=rfl
def fJ (w:World)(xs:List Nat)(e:Ending)(w':World):Prop:=∃v,e=.returned v/\w'.ownsRow w.heap.size 3 1 v xs.length (xs.map zj)/\Y w w'
theorem k8(hv:zw g):(decide (0<(g.map (List.map Int.ofNat)).length) && pB (g.map (List.map Int.ofNat)))=true:=by
 obtain⟨d,h1⟩:=hv;simp only[Nr,Jm,decide_eq_true_eq,pB,Oe,Nu];refine⟨d,?_⟩;rintro _ ⟨l,hl,rfl⟩ s hs;simp only[Nu] at hs;obtain⟨x,c,rfl⟩:=hs;have:=h1 l hl x c;simp;omega
theorem rows_int{B:Nat}{v:Value}(h:aaB zj w B v g):aaB zN w B v (g.map (List.map Int.ofNat)):=(aaB.map (enc:=zN) (enc':=zj) Int.ofNat (fun _=>rfl)).2 h
theorem tK (w:World)(sv:Value)(g:List (List Nat))(B:Nat)(hB:B<=w.heap.size)(h:aaB zj w B sv g)(hv:zw g)(c:g.length<=2000000)(hr:∀row∈g,row.length<=2000000):
 I 93 #[.agg #[sv]] w fun e w'=>e=.returned (.bool true)/\Y w w':=by
 have:=lR w sv (g.map (List.map Int.ofNat)) B hB (rows_int h) (by simpa using c) (by intro row hm;simp only[Nu] at hm;obtain⟨l,hl,rfl⟩:=hm;simpa using hr l hl);rw[k8 hv] at this;exact this
theorem yA (z:Value)(n:Nat):madeCells #[z] n=(List.replicate n z).toArray:=by
 rw[<-toList_madeCells_one]
theorem iC (w1:World)(n:Nat):Dfs w1 (((w1.alloc (G (madeCells #[.bool false] n) 4)).alloc (G #[T w1.heap.size n n] 97)).alloc (G #[L] 149)) w1.heap.size n (w1.heap.size+1) w1.heap.size (w1.heap.size+1+1) (List.replicate n false) [] (.slice none 0 0) []:=by
 refine⟨zB (zI Zs),?_,by simp,⟨_,zI Zs,Jv _ _ _ _⟩,by omega,Jv _ _ _ _,?_⟩
 ·rw[zB (zB (zI rfl)),yA];simp[agc]
 ·exact(((Below.refl _ _).alloc (Je _) _).alloc Zs _).alloc Zt _
structure DInv (g:List (List Nat)) (seen:List Bool) (stk:List (Nat×Nat)) (post:List Nat):Prop where
 len:seen.length=g.length
 cnt:seen.count true=stk.length+post.length
 node:∀p∈stk,p.1<g.length
 fin:∀u∈post,u<g.length
theorem tI (l:List Bool)(u:Nat)(h:l[u]? =some false):(l.set u true).count true=l.count true+1:=by
 induction l generalizing u with
 |nil=>simp at h
 |cons b r ih=>
  cases u with
  |zero=>simp at h;subst h;simp
  |succ u=>
   simp only[List.getElem?_cons_succ] at h;simp only[Jg,Nf,ih u h];omega
theorem DInv.start(hv:zw g):DInv g ((List.replicate g.length false).set 0 true) ([]++ [(0,0)]) []:=by
 refine⟨by simp,?_,by simp;exact hv.1,by simp⟩;rw[tI _ _ (by simp[Nm,hv.1])];simp[List.count_replicate]
theorem DInv.le{d:List (Nat×Nat)}{c:List Nat}(h:DInv g seen d c):d.length+c.length<=g.length:=by
 rw[<-h.cnt,<-h.len];exact List.count_le_length
theorem DInv.pop{st:List (Nat×Nat)}{d:List Nat}(h:DInv g seen (st++ [(u,j)]) d):DInv g seen st (d++ [u]):=
 ⟨h.len,by have:=h.cnt;simp at this ⊢;omega,fun p hp=>h.node p (by simp[hp]),fun x c=>by
   rcases Jl.1 c with c|c
   ·exact h.fin x c
   ·have:=h.node (u,j) Zs;simp at c;subst c;exact this⟩
theorem DInv.skip{st:List (Nat×Nat)}(h:DInv g seen (st++ [(u,j)]) post):DInv g seen (st++ [(u,j+1)]) post:=
 ⟨h.len,by have:=h.cnt;simp at this ⊢;omega,fun p hp=>by
   rcases Jl.1 hp with hp|hp
   ·exact h.node p (by simp[hp])
   ·have:=h.node (u,j) Zs;simp at hp;subst hp;exact this,h.fin⟩
theorem DInv.enter{c:List (Nat×Nat)}{s:Nat}(h:DInv g seen c post)(hs:seen[s]? =some false):DInv g (seen.set s true) (c++ [(s,0)]) post:=by
 have d:s<g.length:=by rw[<-h.len];exact(Jh.1 hs).1
 refine⟨by simp[h.len],by rw[tI _ _ hs,h.cnt];simp;omega,fun p hp=>?_,h.fin⟩;rcases Jl.1 hp with hp|hp
 ·exact h.node p hp
 ·simp at hp;subst hp;exact d
theorem lJ (w:World)(sv:Value)(g:List (List Nat))(B:Nat)(hB:B<=w.heap.size)(h:aaB zj w B sv g)(hv:zw g)(hn:g.length<=2000000)(hr:∀row∈g,row.length<=2000000)
 (k0:Nat) (F:List Nat) (hF:kV g k0 ((List.replicate g.length false).set 0 true) [(0,0)] [] F):
 I 40 #[.agg #[sv]] w (fJ w F.reverse):=by
 obtain⟨a,b7,rfl,f6⟩:=h.form;obtain⟨ii,e1,d2,d1,d0⟩:=info_parts Tryz.info_int;obtain⟨ib,g1,f1,f0,e9⟩:=info_parts Tryz.info_bool;have a1:Y w (w.alloc (G #[.slice a g.length b7] 105)):=(Below.refl _ _).alloc (Je _) _;have HV:=Ja hv;have HR:=Ja hr;have HF:=Ja hF;clear hv hr hF;have d9:=run_make_row' (P:=Tryz.prog) 97 4 (.bool false) 1 Tryz.underlying97 Tryz.info_bool rfl .i64 .i64 g.length Zo Zo;go_enter Tryz.func40,Tryz.ntmps40;go_wp2_with (go_at_call 93;go_must (refine(tK _ _ g B Zt (h.below (a1.mono hB)) HV.out hn HR.out).mono ?_;rintro e w1 ⟨rfl,a3⟩;obtain⟨c8,c4⟩:=bcell a3))
 have c7:Dfs w1 (((w1.alloc (G (madeCells #[.bool false] g.length) 4)).alloc (G #[T w1.heap.size g.length g.length] 97)).alloc (G #[L] 149)) w1.heap.size g.length (w1.heap.size+1) w1.heap.size (w1.heap.size+1+1) (List.replicate g.length false) [] (.slice none 0 0) []:=iC w1 g.length;refine(oF w1 _ w1.heap.size g.length (w1.heap.size+1) w1.heap.size (w1.heap.size+1+1) (List.replicate g.length false) [] (.slice none 0 0) [] 0 c7 HV.out.1 Zd).mono ?_;rintro e w2 ⟨rfl,hd⟩;have HD:=Ja hd;clear hd c7 d9;go_wp2_with fail
 go_loopg [4] k0 (fun k pv wr=>∃seen stk c,Hid (Dfs w1 wr w1.heap.size g.length (w1.heap.size+1) w1.heap.size (w1.heap.size+1+1) seen stk pv c/\kV g k seen stk c F/\DInv g seen stk c))
 case atStart=>exact⟨_,_,_,HD.out,HF.out,DInv.start HV.out⟩
 case round=>
  obtain⟨seen,stk,c,l⟩:=hrel
  cases gk with
  |zero=>
   obtain⟨rfl,rfl⟩:=l.out.2.1;obtain⟨sv,hk,d⟩:=l.out.1.hk;obtain⟨a0,c0,rfl⟩:=zG d;have ck:=cell_of_one hk;simp only[Ow] at ck;have x:Y w w1:=a1.trans (a3.mono Zs);have d8:=x.size;have c9:=Ja (x.trans (l.out.1.hb.mono x.size));have c2:=l.out.2.2.le;clear hk d a3 c8 c4 a1 x h;go_wp2_with (go_at_call 95;go_must (refine(mK wr _ _ c l.out.1.hp Zo).mono ?_;rintro e w3 ⟨rfl,d4,e2⟩))
   go_ret;refine⟨_,rfl,?_,?_⟩
   ·have:=vY d4 (base':=w.heap.size) Zo
    simpa using this
   ·refine c9.out.grown e2 (by have:=c9.out.size;omega) (fun k hk=>?_);have:=l.out.1.hp.lt k hk
    omega
  |succ k=>
   obtain⟨st,u,j,rfl,b8⟩:=l.out.2.1;obtain⟨sv,hk,d⟩:=l.out.1.hk;simp only[Jk,Nq,Ow,Ng,vH] at d;obtain⟨gk,cp,rfl,g4,g3⟩:=d.form Zo;have g5:=(zm d).1;have f4:=(zm d).2;have f5:(st.length:Int)<=cp:=Zo;have d7:u<g.length:=l.out.2.2.node (u,j) Zs;obtain⟨row,a5⟩:∃row,g[u]? =some row:=⟨_,Jd d7⟩
   have x:Y w w1:=a1.trans (a3.mono Zs);have d8:=x.size;have b6:=x.trans (l.out.1.hb.mono x.size);obtain⟨b,o,a2,f8,rfl,hb,hc,e8,hx⟩:=(h.below (b6.mono hB)).row a5;have hrl:=HR.out row (Ji a5);have c2:=l.out.2.2.le;simp only[Jk,Nq,Ow] at c2;have ck:=cell_of_one hk;have fk:=free_of_one hk;have cu:A wr gk (st.length*2) (U u):=(d.cellAt _ Zo).trans (by rw[Nc (by rw[yK];omega)];simp[yK,Nat.mul_comm,zj]);have cj:A wr gk (st.length*2+1) (U j):=(d.cellAt _ Zo).trans (by rw[Nc (by rw[yK];omega)];simp[yK,show st.length*2+1-2*st.length=1 by omega,zj]);have fj:N wr gk (st.length*2+1):=d.frozenAt _
   have g6:A wr w.heap.size 0 (.slice (some ⟨b,o,none⟩) g.length b7):=by
    have h1:(w.alloc (G #[.slice (some ⟨b,o,none⟩) g.length b7] 105)).heap[w.heap.size]? =_:=zI rfl;exact cell_of_one (zH l.out.1.hb (zH a3 h1 Zs) (by have:=a3.size;simp at this;omega))
   have f2:(u:Int)<g.length:=Zo;have b0:=Ja a5;have f9:=Ja d;have HK:=Ja hk;have HX:=Ja hx;have h5:=Ja b6;clear a5 d hk hx b6 x a1 a3 c8 c4 h;rcases b8 with⟨hj,t⟩|⟨s,hs,i,t⟩|⟨s,hs,i,t⟩
   ·have c3:row.length=j:=by rw[hj];simp[succ,Jj,b0.out]
    have b1:((j:Int)==(row.length:Int))=true:=by simp[c3]
    have a4:=Ja t;have hp:=l.out.1.hp;have g0:=lt_of_block HK.out;clear c3 hj t;go_wp2_with fail;go_quiet (fail);have own43:∀n,(wr.drewN n).ownsRow (w1.heap.size+1+1+1) 3 1 _ c.length (c.map zj):=fun n=>ji hp
    go_wp2_with (at_builtin;go_must (refine wpList_append_lies _ rfl (.tmp 43) (.tmp 48) 22 rfl (w1.heap.size+1+1+1) 3 ii (U 0) 1 8 Tryz.underlying22 e1 d2 d1 d0 rfl Zd _ c.length (c.map zj) rfl ((own43 _).alloc _) ⟨wr.heap.size,0,none⟩ 1 1 [U u] rfl rfl (Oi (cs:=#[U u]) (zI Zs)) (by simp[Value.oneCell']) Zd (by unfold maxLen;omega) Zo Zt (wr.heap.size+1) Zs ?_;intro g2 f7 w2 b3 a6 g9 f3;have m:=(l.out.1.drewN (k:=nq)).push a6 b3;have b4:=zL a6 (zB (kg HK.out)) (zC hp HK.out (.inl Zo));have h4:=cell_of_one b4;have h0:=free_of_one b4;have e6:=Ja b4;have a7:=Ja m;clear b4 m b3 a6 hp own43))
    go_roundg k
    case measure=>omega
    case rel=>exact⟨seen,st,c++ [u],a7.out.popStk e6.out,a4.out,l.out.2.2.pop⟩
   ·have y:row[j]? =some s:=by rw[<-hs];simp[succ,Jj,b0.out]
    have e0:j<row.length:=(Jh.1 y).1;have b1:((j:Int)==(row.length:Int))=false:=by simp;omega
    have d5:(j:Int)<row.length:=Zo;obtain⟨b2,o2,rfl,e3,cs⟩:=HX.out j s y;simp only[zj] at cs;have m:∀n,Dfs w1 ((wr.drewN n).setCell ⟨gk,st.length*2+1,none⟩ (U ((j:Int)+1))) _ _ _ _ _ _ _ _ _:=fun n=>(l.out.1.drewN (k:=n)).bump HK.out
    have e4:=fun n=>cell_of_one (m n).hv
    have e5:∀n,A ((wr.drewN n).setCell ⟨gk,st.length*2+1,none⟩ (U ((j:Int)+1))) w1.heap.size s (.bool true):=fun n=>zA (m n).hs (by simp[i,agc])
    have b9:s<g.length:=by rw[<-l.out.2.2.len];exact(Jh.1 i).1
    have d3:(s:Int)<g.length:=Zo;have a7:=Ja m;have a4:=Ja t;clear t hs i y m;go_wp2_with fail;go_quiet (fail);go_wp2_with fail
    go_roundg k
    case measure=>omega
    case rel=>exact⟨seen,st++ [(u,j+1)],c,a7.out _,a4.out,l.out.2.2.skip⟩
   ·have y:row[j]? =some s:=by rw[<-hs];simp[succ,Jj,b0.out]
    have e0:j<row.length:=(Jh.1 y).1;have b1:((j:Int)==(row.length:Int))=false:=by simp;omega
    have d5:(j:Int)<row.length:=Zo;obtain⟨b2,o2,rfl,e3,cs⟩:=HX.out j s y;simp only[zj] at cs;have m:∀n,Dfs w1 ((wr.drewN n).setCell ⟨gk,st.length*2+1,none⟩ (U ((j:Int)+1))) _ _ _ _ _ _ _ _ _:=fun n=>(l.out.1.drewN (k:=n)).bump HK.out
    have e4:=fun n=>cell_of_one (m n).hv
    have e5:∀n,A ((wr.drewN n).setCell ⟨gk,st.length*2+1,none⟩ (U ((j:Int)+1))) w1.heap.size s (.bool false):=fun n=>zA (m n).hs (by simp[i,agc])
    have b9:s<g.length:=by rw[<-l.out.2.2.len];exact(Jh.1 i).1
    have d3:(s:Int)<g.length:=Zo;have b5:=l.out.2.2.skip.enter i;have a7:=Ja m;have a4:=Ja t;have d6:=Ja b5;clear t hs i y m b5;go_wp2_with fail;go_quiet (fail);go_wp2_with (go_at_call 94;go_must (refine(oF w1 _ w1.heap.size g.length (w1.heap.size+1) w1.heap.size (w1.heap.size+1+1) seen (st++ [(u,j+1)]) _ c s (a7.out _) b9 Zt).mono ?_;rintro e w2 ⟨rfl,c5⟩;have e7:=Ja c5;clear c5))
    go_roundg k
    case measure=>omega
    case rel=>exact⟨seen.set s true,st++ [(u,j+1)]++ [(s,0)],c,e7.out,a4.out,d6.out⟩
theorem rG{F:List Nat}:∀(k:Nat) (seen:List Bool) (stk:List (Nat×Nat)) (post:List Nat),kV g k seen stk post F->DInv g seen stk post->F.length<=g.length/\∀u∈F,u<g.length
 |0,seen,stk,post,h,hi=>by
  obtain⟨rfl,rfl⟩:=h
  exact⟨by have:=hi.le;simpa using this,hi.fin⟩
 |k+1,seen,stk,post,h,hi=>by
  obtain⟨st,u,j,rfl,⟨_,h⟩|⟨s,_,_,h⟩|⟨s,_,hs,h⟩⟩:=h
  ·exact rG k _ _ _ h hi.pop
  ·exact rG k _ _ _ h hi.skip
  ·exact rG k _ _ _ h (hi.skip.enter hs)
theorem tV.nodes{c:List Nat}(h:tV g c)(hv:zw g):c.length<=g.length/\∀u∈c,u<g.length:=by
 obtain⟨k,h⟩:=h;have:=rG k _ _ _ h (DInv.start hv)
 simpa using this
theorem tp (w:World)(sv:Value)(g:List (List Nat))(B:Nat)(hB:B<=w.heap.size)(h:aaB zj w B sv g)(hv:zw g)(d:g.length<=2000000)(hr:∀row∈g,row.length<=2000000)(c:List Nat)(ho:tV g c):
 I 40 #[.agg #[sv]] w (fJ w c):=by
 obtain⟨k0,ho⟩:=ho;have:=lJ w sv g B hB h hv d hr k0 _ ho
 rwa [List.reverse_reverse] at this
end Go.Proofs.YtoahcpkibpomcaaGreat
set_option maxRecDepth 8000
namespace Go.Proofs.YtoahcpkibpomcaaGreat
open Go.RowKit
variable {t x:Int}{W W' W0 w w' w0 w1:World}{o:Obj}{K:MK}{B0 Bi Bn Bv C bi bm bp d i j k m nm u vb vn:Nat}{c idom:List Int}{g preds:List (List Nat)}{seen:List Bool}{post pr xs:List Nat}{ds:List Deferred}
theorem mD{P:List (List Nat)}{n s:Nat}(h:∀r∈P,r.length<=m):∀r∈xS n P s,r.length<=m+1:=by
 intro r hr;rcases Qe hr with hr|rfl
 ·have:=h r hr;omega
 ·simp only[Jk,Nq,Ow]
  by_cases hs:s<P.length
  ·have:=h (P.getD s []) (by rw[Jj,Jd hs];exact Uf hs);omega
  ·rw[Jj,Of Zo];simp
theorem oB (n:Nat):∀(l:List Nat) (P:List (List Nat)) (m:Nat),(∀r∈P,r.length<=m)->∀r∈l.foldl (xS n) P,r.length<=m+l.length
 | [],_,_,h=>h
 |s::l,P,m,h=>fun r hr=>by
  have:=oB n l _ (m+1) (mD h) r hr;simp only[Nq];omega
theorem rj (g:List (List Nat))(D:Nat)(c:∀row∈g,row.length<=D):∀(l:List Nat) (P:List (List Nat)) (m:Nat),(∀r∈P,r.length<=m)->∀r∈l.foldl (yh g) P,r.length<=m+l.length*D
 | [],_,_,h=>by simpa using h
 |u::l,P,m,h=>fun r hr=>by
  have hd:(succ g u).length<=D:=by
   unfold succ;rw[Jj]
   cases e:g[u]? with
   |none=>simp
   |some row=>exact c row (Ji e)
  have:=rj g D c l _ (m+D) (fun r hr=>by have:=oB u (succ g u) P m h r hr;omega) r hr;simp only[Nq,Nat.add_mul,Nat.one_mul];omega
theorem pred_len{D:Nat}(d:∀row∈g,row.length<=D)(c row:List Nat)(k j n N:Nat)(hk:k<=N){s:Nat}
 (h:((row.take j).foldl (xS n) ((c.take k).foldl (yh g) (List.replicate N [])))[s]? =some pr):pr.length<=k*D+j:=by
 have h1:=oB n (row.take j) _ (0+(c.take k).length*D) (rj g D d (c.take k) (List.replicate N []) 0 (by intro r hr;rw[(List.mem_replicate.1 hr).2];simp)) pr (Ji h);have h2:(c.take k).length<=k:=List.length_take_le _ _;have h3:(row.take j).length<=j:=List.length_take_le _ _;have i:=Qw D h2;omega
structure ViewMem (w0 w:World) (B0 B bv bm bp n:Nat) (ov:Value) (ord:List Nat) (nm:Nat) (f:Int->Int) (preds:List (List Nat)):Prop where
 hv:w.heap[bv]? =some (.cells #[ov,.map (some bm),.slice (some ⟨bp,0,none⟩) n n] 202 (0,0))
 ho:w.ownsRow B0 3 1 ov ord.length (ord.map zj)
 ho2:∀g,ov.ownBlock=some g->g<B
 hm:ud w bm nm f
 hp:OwnRows zj 3 22 w B bp preds
 hl:preds.length=n
 hb:Below B0 w0 w
 lt:B0<=bv/\B0<=bm/\B0<=bp/\bv<B/\bm<B/\bp<B/\B<=w.heap.size
def oN (w:World)(C bv:Nat)(ord:List Nat)(f:Int->Int)(preds:List (List Nat)):Prop:=
 ∃ov bm pv nm,A w bv 0 ov/\A w bv 1 (.map (some bm))/\A w bv 2 pv/\xp zj w C ov ord/\ud w bm nm f/\bm<C/\aaB zj w C pv preds/\bv<C
theorem oN.below{bv:Nat}{c:List Nat}{f:Int->Int}(h:oN w C bv c f preds)(hb:Below C w w'):oN w' C bv c f preds:=by
 obtain⟨ov,bm,pv,nm,c0,c1,c2,ho,hm,d,hp,hl⟩:=h;exact⟨ov,bm,pv,nm,(hb.cell (p:=⟨bv,0,none⟩) hl).trans c0,(hb.cell (p:=⟨bv,1,none⟩) hl).trans c1,(hb.cell (p:=⟨bv,2,none⟩) hl).trans c2,ho.below hb,hm.same (hb.block bm d),d,hp.below hb,hl⟩
def RetView (w:World)(ord:List Nat)(f:Int->Int)(preds:List (List Nat))(e:Ending)(w':World):Prop:=
 ∃bv,e=.returned (F bv)/\w.heap.size<=bv/\oN w' w'.heap.size bv ord f preds/\Y w w'
theorem ViewMem.read{B bv n:Nat}{ov:Value}{c:List Nat}{f:Int->Int}(h:ViewMem w0 w B0 B bv bm bp n ov c nm f preds):oN w w.heap.size bv c f preds:=by
 refine⟨ov,bm,T bp n n,nm,zA h.hv Zs,zA h.hv Zs,zA h.hv Zs,rY h.ho (Je _),h.hm,h.hm.lt,?_,lt_of_block h.hv⟩;have:=h.hp.asRows (Je w.heap.size)
 rwa [h.hl] at this
theorem Tryz.info_ints:(Tryz.prog.info? 22).map (fun i=>(i.zero,i.size,i.bytes))=some (some (.slice none 0 0),1,24):=by kernel_rfl
theorem ViewMem.store{B bv n:Nat}{ov:Value}{i:List Nat}{f f':Int->Int}(h:ViewMem w0 w B0 B bv bm bp n ov i nm f preds)
 (hg:w.grownBy w' (some bm)) (hm:ud w' bm j f'):ViewMem w0 w' B0 B bv bm bp n ov i j f' preds:=by
 obtain⟨hv,ho,ho2,d,hp,hl,hb,o⟩:=h;obtain⟨c,m⟩:=hp.blk;refine⟨zL hg hv (by simpa using d.ne hv),ho.kept hg ?_,ho2,hm,hp.kept hg (by simpa using d.ne m) (by intro k hk;cases hk;omega),hl,hb.grown hg (by have:=lt_of_block hv;have:=d.lt;omega) (by intro k hk;cases hk;omega),by have:=hg.size;omega⟩;right;intro e;rcases ho.2 with⟨rfl,_⟩|⟨g,u,cur,rfl,t,l,_⟩
 ·simp[Value.ownBlock] at e
 ·simp only[Value.ownBlock,Option.some.injEq] at e;subst e;exact d.ne l rfl
theorem ViewMem.push{w2:World}{B bv n s x g H:Nat}{ov:Value}{y:List Nat}{f:Int->Int}{d:List (List Nat)}{row:List Nat}{a:Option Addr}(h:ViewMem w0 w B0 B bv bm bp n ov y nm f d)
 (hs:d[s]? =some row) (hc:A w bp s (.slice a row.length m)) (hg:(w.alloc o).grownBy w2 (Value.slice a row.length m).ownBlock)
 (a3:w2.ownsRow B 3 1 (T g (row.length+1) u) (row.length+1) (row.map zj++ [zj x]))
 (a5:(Value.slice a row.length m).ownBlock=some g∨g=H) (hH:w.heap.size<=H):
 ViewMem w0 (w2.setCell ⟨bp,s,none⟩ (T g (row.length+1) u)) B0 B bv bm bp n ov y nm f (d.set s (row++ [x])):=by
 obtain⟨hv,ho,ho2,j,hp,hl,hb,b0⟩:=h;obtain⟨c,l⟩:=hp.blk;obtain⟨a',a6,a1,a0,_⟩:=hp.get hs;rw[hc] at a1;cases a1;have a2:=zC a0 hv (.inl Zo);have i:∀k,(Value.slice a row.length m).ownBlock=some k->B<=k:=fun k hk=>(a0.lt k hk).1
 have a4:bv≠bp:=by rintro rfl;rw[hv] at l;simp at l
 have t:=hp.put Zd hs hc hg (row':=row++ [x]) (by simpa using a3) a5 hH;simp only[Jk,Nq,Ow,Ng] at t;refine⟨zR (zL hg (zB hv) a2) (by simpa using a4),?_,ho2,?_,t,by simp[hl],?_,by have:=hg.size;simp[World.setCell] at this ⊢;omega⟩
 ·refine ownsRow_setCell_other ((ho.alloc o).kept hg ?_) ?_ _
  ·cases hk:ov.ownBlock with
   |none=>exact .inl rfl
   |some k=>
    right;intro e;have:=ho2 k hk;have:=i k e.symm;omega
  ·exact zC (b:=bp) ho l (.inr Zd)
 ·refine j.same ?_;rw[Below.heap_setCell _ _ _ _ (by simpa using j.ne l),hg.block bm (by have:=j.lt;simp;omega) (fun e=>by have:=i bm e.symm;omega),Below.heap_alloc _ _ _ j.lt]
 ·have a7:=lt_of_block hv;exact((hb.alloc Zo o).grown hg Zt (fun k hk=>by have:=i k hk;omega)).setCell (show B0<=bp by omega) _
theorem uj{row:Option Nat}(h:w.drew.grownBy w' row):w.grownBy w' row:=⟨h.os,h.tape,h.output,h.size,h.block⟩
theorem uG{B:Nat}(h:Below B w w'):Below B w w'.drew:=h.drew
theorem lq{n:Nat}{v:Value}(c:A w' n 0 v)(h:Below (n+1) W0 w')(hl:n<W0.heap.size)(o:Obj):A (w'.alloc o) n 0 v/\Below (n+1) W0 (w'.alloc o):=by
 have:=h.size;exact⟨by rw[Oo (w:=w') (Below.heap_alloc _ _ _ Zt)];exact c,h.alloc Zo o⟩
theorem oY{n:Nat}{v:Value}(c:A w' n 0 v)(h:Below (n+1) W0 w')(hl:n<W0.heap.size)(hb:Y w' w1):A w1 n 0 v/\Below (n+1) W0 w1:=by
 have:=h.size;exact⟨(hb.cell (p:=⟨n,0,none⟩) (show n<_ by omega)).trans c,h.trans (hb.mono Zo)⟩
theorem ww{n:Nat}(c:n=w.heap.size)(d:Hid (w.alloc o=W0))(h:Below (n+1) W0 w'):Below n w w':=by
 have e:=d.out;subst e;subst c;exact((Below.refl _ _).alloc (Je _) _).trans (h.mono Zo)
theorem o7{B:Nat}(hB:B<=w.heap.size)(c:Hid (w.alloc o=W0))(h:Below (w.heap.size+1) W0 w'):B<=w'.heap.size:=by
 have:=(ww rfl c h).size;omega
theorem nP{B:Nat}{v:Value}(d:aaB zj w B v g)(hB:B<=w.heap.size)(c:Hid (w.alloc o=W0))(h:Below (w.heap.size+1) W0 w'):aaB zj w' B v g:=
 d.below ((ww rfl c h).mono hB)
theorem aJ{X wy:World}{F F':List Nat}{ao:Option Addr}{co bv n:Nat}(h:F.length=F'.length)(c:w1.ownsRow X.heap.size 3 1 (.slice ao F.length co) F.length (F.map zj))(lg:w.heap.size<W0.heap.size)
 (i:W0.heap.size<=X.heap.size) (hb:Below (w.heap.size+1) W0 wy) (hg:w1.grownBy wy none) (d:wy.heap.size=bv)
 (hm:wy.heap[bm]? =some (.map #[] 0)) (hp:Q wy bp (madeCells #[L] n) 22) (lt:w.heap.size<bm/\w.heap.size<bp):
 ∃bv' bm' bp' ov,Value.pointer (some ⟨bv,0,none⟩)=.pointer (some ⟨bv',0,none⟩)/\Hid (ViewMem W0 (wy.alloc (G #[.slice ao F'.length co,.map (some bm),T bp n n] 202)) (w.heap.size+1) (wy.alloc (G #[.slice ao F'.length co,.map (some bm),T bp n n] 202)).heap.size bv' bm' bp' n ov F 0 (fun _=>0) (List.replicate n [])):=by
 rw[<-h];have h1:=hb.size;have h2:=hg.size;have ho:=(c.kept hg (by cases ao<;>simp[Value.ownBlock])).alloc (G #[.slice ao F.length co,.map (some bm),T bp n n] 202);have h3:=lt_of_block hm;have j:=lt_of_block hp;refine⟨bv,bm,bp,.slice ao F.length co,rfl,zI d,vY ho Zo,fun g hg=>(ho.lt g hg).2,?_,OwnRows.made _ (by rw[zB hp,yA]),by simp,hb.alloc Zo _,?_⟩
 ·exact⟨_,⟨#[],0,zB hm,(let⟨es,clock,h1,h2,_⟩:=(World.ownsMap_made (H:=Unit) w Tryz.prog 3 (plainElem Tryz.prog 3));by
   rw[zI rfl] at h1;cases h1;exact h2),Je _,rfl⟩,fun _ _=>rfl⟩
 ·simp only[World.size_alloc];omega
theorem view_any (w:World)(sv:Value)(g:List (List Nat))(B:Nat)(hB:B<=w.heap.size)(h:aaB zj w B sv g)(hv:zw g)(hn:g.length<=2000000)(hr:∀row∈g,row.length<=2000000)
 (c:List Nat) (hF:tV g c):
 I 140 #[.agg #[sv]] w (RetView w c (atF c c.length) (un g c)):=by
 obtain⟨a,x,rfl,g9⟩:=h.form;obtain⟨ii,f0,d3,d2,d1⟩:=info_parts Tryz.info_int;have d6:Y w (w.alloc (G #[.slice a g.length x] 105)):=(Below.refl _ _).alloc (Je _) _;have e5:=@run_makeMap Tryz.prog;have e6:=run_make_row' (P:=Tryz.prog) 103 22 (L) 24 Tryz.underlying103 Tryz.info_ints rfl .i64 .i64 g.length Zo Zo;have HV:=Ja hv;have HR:=Ja hr;have HF:=Ja hF;have cg:A (w.alloc (G #[.slice a g.length x] 105)) w.heap.size 0 (.slice a g.length x):=cell_of_one (zI rfl);clear hv hr hF;go_enter Tryz.func140,Tryz.ntmps140;go_upto_region 1 with fail;generalize c4:w.alloc (G #[.slice a g.length x] 105)=W0 at cg ⊢;have a0:=Ja c4;have h0:=Below.refl (w.heap.size+1) W0;have lg:w.heap.size<W0.heap.size:=Jw W0 _ cg;clear c4 d6
 go_cut [3] (fun s3 wx=>∃bv bm bp ov,s3=.pointer (some ⟨bv,0,none⟩)/\Hid (ViewMem W0 wx (w.heap.size+1) wx.heap.size bv bm bp g.length ov c 0 (fun _=>0) (List.replicate g.length [])))
 case first=>
  go_region_held3 (fun w'=>A w' w.heap.size 0 (.slice a g.length x)/\Below (w.heap.size+1) W0 w')
   (first
     |(go_split_ands;refine⟨?_,?_⟩<;>assumption)
     |(go_split_ands;refine⟨?_,uG ?_⟩<;>assumption)
     |(go_split_ands;exact lq ‹_› ‹_› Zz _)
     |(go_split_ands;exact oY ‹_› ‹_› Zz Zz))
   ((go_at_call 40;refine(tp _ _ g B (o7 hB a0 (by repeat' (first|assumption|(with_reducible refine Below.drew ?_)|(with_reducible refine Below.alloc ?_ ?_ _)|omega|(simp<;>omega)))) (nP h hB a0 (by repeat' (first|assumption|(with_reducible refine Below.drew ?_)|(with_reducible refine Below.alloc ?_ ?_ _)|omega|(simp<;>omega)))) HV.out hn HR.out c HF.out).mono ?_;rintro e w1 ⟨ov,rfl,b8,a6⟩;obtain⟨ao,co,rfl⟩:=zG b8))
  all_goals
   go_wp2_with fail;go_meet;have e2:=a6.size;simp at e2;refine aJ (w:=w) (w1:=w1) (F:=c) rfl b8 lg ?_ ?_ ?_ ?_ ?_ ?_ ?_
   ·simp<;>omega
   ·repeat' (first|assumption|(with_reducible refine Below.drew ?_)|(with_reducible refine Below.alloc ?_ ?_ _)|(refine Below.trans ?_ (Below.mono a6 ?_))|omega|(simp<;>omega))
   ·repeat' (first|(with_reducible exact oI _ _)|(with_reducible refine World.grownBy.trans ?_ (Uo _ _ _)))
   ·simp
   ·repeat' (first|(refine zI ?_;first|rfl|(simp;done))|(refine zB ?_)|(refine zH a6 ?_ ?_)|omega|(simp<;>omega))
   ·repeat' (first|(refine zI ?_;first|rfl|(simp;done))|(refine zB ?_)|(refine zH a6 ?_ ?_)|omega|(simp<;>omega))
   ·constructor<;>first|omega|(simp<;>omega)
 case rest=>
  obtain⟨bv,bm,bp,ov,rfl,a7⟩:=hcut;obtain⟨BB,c5⟩:∃BB,BB=wc.heap.size:=⟨_,rfl⟩
  rw[<-c5] at a7;clear c5 e5 e6;have ho:=a7.out.ho;obtain⟨ao,co,rfl⟩:=zG ho;have c3:=a7.out.hv;have f5:=K0 c3;clear ho c3;have e3:=(HF.out.nodes HV.out).1;go_wp2_with fail
  go_loopw [22] (fun i wr=>∃k:Nat,k<=c.length/\i=U k/\Hid (ViewMem W0 wr (w.heap.size+1) BB bv bm bp g.length (.slice ao c.length co) c k (atF c k) ((c.take k).foldl (yh g) (List.replicate g.length [])))) (fun i _=>c.length-(intOf i).toNat)
  case atStart=>exact⟨0,Jt _,rfl,by rw[show atF c 0=fun _=>0 from rfl];simpa using a7⟩
  case round=>
   obtain⟨k,hk,rfl,HK⟩:=hrel
   by_cases e7:k<c.length
   ·obtain⟨n,a5⟩:∃n,c[k]? =some n:=⟨_,Jd e7⟩
    have e4:n<g.length:=(HF.out.nodes HV.out).2 n (Ji a5);have g3:(n:Int)<g.length:=Zo;have g6:(k:Int)<c.length:=Zo;have e0:=rY HK.out.ho (Je _);obtain⟨ao',i0,f2,_,hx⟩:=e0;cases f2;obtain⟨bo,oo,rfl,_,c8⟩:=hx k n a5;simp only[zj] at c8;have f4:=K1 HK.out.hv;obtain⟨row,u⟩:∃row,g[n]? =some row:=⟨_,Jd e4⟩
    have d0:=Ja a5;clear hx a5 f5;obtain⟨b,o,a2,h5,rfl,hb,hc,g0,hx⟩:=h.row u;have HX:=Ja hx;have HC:=Ja hc;clear hx hc;go_wp2_with (at_mapUpdate;go_must (refine rW rfl (.tmp 30) (.tmp 31) (.tmp 32) rfl HK.out.hm Zo (n:Int) (k:Int) rfl rfl rfl Zo Zo ?_;intro w2 b9 c0;have m:=HK.out.store c0 b9;have d5:=(m.hb.cell (p:=⟨w.heap.size,0,none⟩) (show w.heap.size<w.heap.size+1 by omega)).trans cg;have hc:=((ww rfl a0 m.hb).cell (p:=⟨b,o+n,none⟩) (show b<w.heap.size by omega)).trans HC.out;have d7:=Ja m;clear m b9 c0))
    have hrl:=HR.out row (Ji u);have b3:=Ja u;clear HK c8 f4 u
    go_loopw [39] (fun i wx=>∃j:Nat,j<=row.length/\i=U j/\Hid (ViewMem W0 wx (w.heap.size+1) BB bv bm bp g.length (.slice (some ⟨bo,oo,none⟩) c.length co) c (k+1) (fun y=>if y=(n:Int) then(k:Int) else atF c k y) ((row.take j).foldl (xS n) ((c.take k).foldl (yh g) (List.replicate g.length []))))) (fun i _=>row.length-(intOf i).toNat)
    case atStart=>exact⟨0,Jt _,rfl,by simpa using d7⟩
    case round=>
     obtain⟨j,hj,rfl,d⟩:=hrel
     by_cases d4:j<row.length
     ·obtain⟨s,a1⟩:∃s,row[j]? =some s:=⟨_,Jd d4⟩
      have e1:s<g.length:=HV.out.2 row (Ji b3.out) s (Ji a1);obtain⟨b2,o2,rfl,h7,c7⟩:=HX.out j s a1;have cs:=((ww rfl a0 d.out.hb).cell (p:=⟨b2,o2+j,none⟩) (show b2<w.heap.size by omega)).trans c7;simp only[zj] at cs;have b7:=d.out.hl;obtain⟨pr,a3⟩:∃pr,((row.take j).foldl (xS n) ((c.take k).foldl (yh g) (List.replicate g.length [])))[s]? =some pr:=⟨_,Jd (by rw[b7];exact e1)⟩
      obtain⟨ap,b1,cp,a4,fp⟩:=d.out.hp.get a3;have c2:=K2 d.out.hv;have h6:=d.out.lt.2.2.2.2.2.2;have g2:pr.length<=4000004000000:=by have:=pred_len HR.out c row k j n _ (Jn hk e3) a3;omega
      have g1:(s:Int)<g.length:=Zo;have g5:(j:Int)<row.length:=Zo;have lb:=d.out.lt;have d9:=lt_of_block d.out.hv;have b6:=d.out.hp.bplt;have d8:=zC a4 d.out.hv (.inl Zo);obtain⟨cc,b0⟩:=d.out.hp.blk;have b5:=zC a4 b0 (.inr Zd);have c9:=Ja a3;have f8:=Ja a1;have i2:=Ja b0;have f9:=Ja a4;clear a3 a1 b0 a4 c7 b7 d5 hc;have f3:∀o,N (wr.alloc o) bp s:=fun o=>(Qm (w:=wr) (Below.heap_alloc _ _ _ b6)).trans fp
      have f6:∀o,A (wr.alloc o) bp s (.slice ap pr.length b1):=fun o=>(Oo (w:=wr) (Below.heap_alloc _ _ _ b6)).trans cp
      have f7:∀o,A (wr.alloc o) bv 2 (T bp g.length g.length):=fun o=>(Oo (w:=wr) (Below.heap_alloc _ _ _ d9)).trans c2
      go_upto_block 3 with fail
      go_cut [7] (fun s7 wx=>Hid (ViewMem W0 wx (w.heap.size+1) BB bv bm bp g.length (.slice (some ⟨bo,oo,none⟩) c.length co) c (k+1) (fun y=>if y=(n:Int) then(k:Int) else atF c k y) (((row.take j).foldl (xS n) ((c.take k).foldl (yh g) (List.replicate g.length []))).set s (pr++ [n]))))
      case first=>
       go_upto_region 9 with fail
       go_region_law (first|(refine step_append_lies _ (by rfl) (.tmp 54) (.tmp 56) _ (by rfl) BB 3 ii (U 0) 1 8 Tryz.underlying22 f0 d3 d2 d1 rfl Zo (.slice ap pr.length b1) pr.length (pr.map zj) (by rfl) ((f9.out.alloc _).drew) ⟨wr.heap.size,0,none⟩ 1 1 [U n] (by rfl) (by rfl) (Oi (cs:=#[U n]) (t:=3) (fr:=(0,0)) (heap_alloc_new wr _)) (by simp[Value.oneCell']) Zo (by unfold maxLen;omega) Zo Zt (wr.heap.size+1) Zs ?_;intro gg h4 w3 b4 l f1 g4;have i1:=(l.cell_far ⟨bv,2,none⟩ Zt (Ne.symm d8)).trans (f7 _);have h9:=(l.cell_far ⟨bp,s,none⟩ Zt (Ne.symm b5)).trans (f6 _);have h8:=(l.frozen_far ⟨bp,s,none⟩ Zt (Ne.symm b5)).trans (f3 _)))
       all_goals (go_wp2_with fail;go_meet;exact Ja (d.out.push c9.out cp (uj l) b4 f1 Zo))
      case rest=>
       go_wp2_with fail;go_roundw
       case rel=>exact⟨j+1,by omega,by go_num,by rw[Nh,f8.out];simpa[xS,Jj,c9.out] using hcut⟩
       case measure=>simp[intOf];omega
     ·go_wp2_with fail;go_roundw
      case rel=>exact⟨k+1,by omega,by go_num,by
       have e9:j=row.length:=Zo;have h1:=d;rw[e9,Nl] at h1;rw[Nh,d0.out,List.foldl_append];have h2:succ g n=row:=by simp[succ,Jj,b3.out]
       have h3:atF c (k+1)=fun y=>if y=(n:Int) then(k:Int) else atF c k y:=by
        funext y;simp only[atF,Jj,d0.out,Ot]
       rw[h3]
       simpa[yh,h2] using h1⟩
      case measure=>simp[intOf];omega
   ·have e8:k=c.length:=Zo;subst e8;go_wp2_with fail;go_ret;refine⟨bv,rfl,?_,?_,ww rfl a0 HK.out.hb⟩
    ·have:=HK.out.lt;omega
    ·have:=HK.out.read
     rwa [Nl] at this
def wN (N m:Nat)(z:Value):List Value:=List.replicate m z++List.replicate (N-m) (U 0)
theorem nY (N:Nat)(z:Value):wN N 0 z=List.replicate N (U 0):=by simp[wN]
theorem mI (N:Nat)(z:Value):wN N N z=List.replicate N z:=by simp[wN]
theorem kK{N:Nat}(z:Value)(h:j<m):(wN N m z)[j]? =some z:=by
 unfold wN;rw[Np (by simpa using h)];simp[h]
theorem sL{N:Nat}(z:Value)(h:m+k<=N):splice (wN N m z) m (List.replicate k z)=wN N (m+k) z:=by
 unfold splice wN
 have e1:List.take m (List.replicate m z++List.replicate (N-m) (U 0))=List.replicate m z:=by
  rw[List.take_append_of_le_length Zs,Oy Zs]
 have e2:List.drop (m+(List.replicate k z).length) (List.replicate m z++List.replicate (N-m) (U 0))=List.replicate (N-(m+k)) (U 0):=by
  rw[List.drop_append,List.drop_eq_nil_of_le Zs,Op,List.drop_replicate]
  congr 1;simp;omega
 rw[e1,e2,<-Nv,List.replicate_append_replicate]
theorem qW{N:Nat}(z:Value)(h:k<=N):splice (List.replicate N (U 0)) 0 (List.replicate k z)=wN N k z:=by
 have:=sL (m:=0) z (by omega:0+k<=N);rw[nY] at this
 simpa using this
theorem lr (w:World)(s o a3 N:Nat)(hc:A w s o (U (-1)))(h1:1<=N)(hN:N<=4000000):
 I 145 #[.slice (some ⟨s,o,none⟩) 1 a3,U N] w fun e w'=>e=.returned (.slice (some ⟨w.heap.size,0,none⟩) N N)/\Q w' w.heap.size (List.replicate N (U (-1))).toArray 3/\Y w w':=by
 obtain⟨ii,a7,b2,a4,b1⟩:=info_parts Tryz.info_int;have a5:=run_make_row' (P:=Tryz.prog) 22 3 (U 0) 8 Tryz.underlying22 Tryz.info_int rfl .i64 .i64 N Zo Zo;go_enter Tryz.func145,Tryz.ntmps145
 have x:I 151 #[.int .u64 1,.int .u64 (N:Int)] w fun e w'=>e=.returned (.tuple #[.int .u64 0,.int .u64 (N:Int)])/\w'=w:=by
  refine(Tryz.bits_Mul 1 N Zo Zo w).mono ?_;rintro e w1 ⟨rfl,rfl⟩;refine⟨?_,rfl⟩;rw[show 1*N/18446744073709551616=0 by omega,show 1*N%18446744073709551616=N by omega];rfl
 have hs:=jU hc;have b7:(N:Int)<=9223372036854775807:=Zo;have b6:¬(N:Int)<0:=Zo;have y: [U (-1)].length=Nat.min 1 N:=(Ud h1).symm;have l:Q (w.alloc (.cells (madeCells #[U 0] N) 3)) w.heap.size (List.replicate N (U 0)).toArray 3:=by rw[zI rfl,yA]
 have k:∀(j:Nat) (v:Value),[U (-1)][j]? =some v->(w.alloc (.cells (madeCells #[U 0] N) 3)).cell? ((⟨s,o,none⟩:Addr).add j)=some v:=by
  intro j v g
  cases j with
  |zero=>simp at g;subst g;exact(Ok _ _ _ hs).trans hc
  |succ j=>simp at g
 have t:Y w (w.alloc (.cells (madeCells #[U 0] N) 3)):=(Below.refl _ _).alloc (Je _) _;have u:(Tryz.prog.info? 3).map (·.size)=some 1:=by rw[a7];simp[a4]
 go_wp2_with (first|(go_at_call 151;refine x.mono ?_;rintro e w1 ⟨rfl,rfl⟩)|(with_reducible refine wpList_copy_splice rfl (.tmp 31) (.tmp 32) 22 22 rfl 3 Tryz.underlying22 u (some ⟨w1.heap.size,0,none⟩) (some ⟨s,o,none⟩) N N 1 a3 rfl rfl w1.heap.size 0 (List.replicate N (U 0)) 3 l [U (-1)] y (fun _=>⟨rfl,_,rfl,k⟩) Zt (by simp[Value.oneCell']) w1.heap.size w1 t (Je _) ?_;intro w2 c b0))
 have a2:Hid (Q w2 w1.heap.size (wN N 1 (U (-1))).toArray 3):=by
  have:=c.out;rw[show([U (-1)]:List Value)=List.replicate 1 (U (-1)) from rfl,qW _ h1] at this;exact Ja this
 clear x c t k l y a5
 go_loopw [8] (fun i wr=>∃m:Nat,i=U m/\1<=m/\(m:Int)<=N/\Hid (Q wr w1.heap.size (wN N m (U (-1))).toArray 3)/\Y w1 wr) (fun i _=>N-(intOf i).toNat)
 case atStart=>exact⟨1,rfl,by omega,by omega,a2,b0⟩
 case round=>
  obtain⟨m,rfl,y,b4,c,a0⟩:=hrel
  by_cases b5:(m:Int)<N
  ·have e1:(m:Int)<=N:=Zo;have e2:(0:Int)<=m:=Zo;go_wp2
   obtain⟨w3,b3,a1,d⟩:∃w3:World,(Sem.run Tryz.prog (Builtin.copy_ #[22,22] 3 #[.slice (some ⟨w1.heap.size,m,none⟩) (N-m) (N-m),.slice (some ⟨w1.heap.size,0,none⟩) m N]) wr.drew=.ok (U ((min m (N-m):Nat):Int)) w3.drew)/\Hid (Q w3 w1.heap.size (wN N (m+min m (N-m)) (U (-1))).toArray 3)/\Y w1 w3:=by
    refine⟨wr.setRow w1.heap.size (splice (wN N m (U (-1))) m (List.replicate (min m (N-m)) (U (-1)))).toArray,?_,?_,py a0 (Je _) _⟩
    ·have:=run_copy_row (P:=Tryz.prog) wr.drew 22 22 3 3 w1.heap.size m (N-m) (N-m) ⟨w1.heap.size,0,none⟩ m N (wN N m (U (-1))).toArray 3 (List.replicate (min m (N-m)) (U (-1))) Tryz.underlying22 u c.out
      (by rw[Qr]) (fun j v g=>by
       have a6:j<min m (N-m):=by
        have:=(Jh.1 g).1;simpa using this
       rw[Nm,if_pos a6] at g;cases g;have ea:(⟨w1.heap.size,0,none⟩:Addr).add j=⟨w1.heap.size,j,none⟩:=by by_cases h:j=0<;>simp[Addr.add,h]
       rw[ea];refine zA (w:=wr.drew) (b:=w1.heap.size) (cs:=(wN N m (U (-1))).toArray) c.out ?_;simp only[List.getElem?_toArray]
       exact kK _ Zo) (by simp[wN];omega) (by intro v hv;rw[List.eq_of_mem_replicate hv];rfl)
     rw[Qr] at this;refine(this.trans ?_);unfold splice;simp only[Nv,Qr];rfl
    ·have:=setRow_heap wr w1.heap.size _ (splice (wN N m (U (-1))) m (List.replicate (min m (N-m)) (U (-1)))).toArray _ _ c.out;rw[sL _ Zo] at this ⊢;exact Ja this
   clear c a0;go_wp2
   go_region
   go_wp2;go_roundw
   case rel=>exact⟨m+min m (N-m),by rw[Int.natCast_add],by omega,by omega,a1,⟨d.os,d.tape,d.output,d.size,d.block⟩⟩
   case measure=>simp[intOf];omega
  ·go_wp2;go_ret;have:m=N:=Zo;subst this;refine⟨rfl,?_,a0⟩;have:=c.out;rw[mI] at this
   simpa using this
end Go.Proofs.YtoahcpkibpomcaaGreat
set_option maxRecDepth 8000
namespace Go.Proofs.YtoahcpkibpomcaaGreat
open Go.RowKit Go.Shelf
variable {t x:Int}{W W' W0 w w' w0 w1:World}{o:Obj}{K:MK}{B0 Bi Bn Bv C bi bm bp d i j k m nm u vb vn:Nat}{c idom:List Int}{g preds:List (List Nat)}{seen:List Bool}{post pr xs:List Nat}{ds:List Deferred}
attribute [local go_sem] Oper.semAt_some
def aaT (Bv Bn n:Nat)(xs:List Nat)(bv bp op len cap:Nat)(ar:Option Addr)(capr:Nat)(W:World):Prop:=
 A W Bv 0 (F bv)/\A W Bn 0 (U n)/\A W bv 2 (.slice (some ⟨bp,op,none⟩) len cap)/\n<len/\
  A W bp (op+n) (.slice ar xs.length capr)/\∀(j:Nat) (x:Nat),xs[j]? =some x->∃b o,ar=some ⟨b,o,none⟩/\A W b (o+j) (U x)
theorem aH (m:Nat)(hm:1<=m)(l Bv Bn n:Nat)(xs:List Nat)(bv bp op len g:Nat)(ar:Option Addr)(c:Nat)(hx:xs.length<=4000004000000)(J Jx:List Nat->World->Prop)
 (hY:∀(pre:List Nat) (x:Nat) (W:World),J pre W->xs[pre.length]? =some x->YieldAt Fence.wide (m-1) Tryz.prog l #[U x] W fun e W'=>
   (e=.returned (.bool true)/\J (pre++ [x]) W'/\(aaT Bv Bn n xs bv bp op len g ar c W->aaT Bv Bn n xs bv bp op len g ar c W'))∨(e=.returned (.bool false)/\Jx (pre++ [x]) W'))
 (a1:∀pre W k,J pre W->J pre (W.drewN k)) (W:World) (hR:aaT Bv Bn n xs bv bp op len g ar c W) (h0:J [] W):
 CallsIn Fence.wide m Tryz.prog 152 #[.func (.yield l) #[] #[],F Bv,F Bn] W fun e W'=>(∃v,e=.returned v)/\
  ((∃ys,ys=xs/\J ys W')∨(∃pre,pre<+:xs/\Jx pre W')):=by
 have a3:=Ja hR;obtain⟨c1,c2,c3,hn,c4,hc⟩:=hR;have a6:(n:Int)<len:=Zo;refine callsIn_of_wp Tryz.func152 rfl trivial ?_ rfl;simp only[Tryz.ntmps152,List.size_toArray,Nq,Ow,Nat.reduceAdd,Nat.reduceSub,Array.replicate_succ,Array.replicate_zero,List.push_toArray,List.append_toArray,Op,List.cons_append]
 gi_wp2
 gi_region
 gi_wp2
 gi_loopw [14] (fun i wr=>∃k:Nat,k<=xs.length/\i=U k/\J (xs.take k) wr/\Hid (aaT Bv Bn n xs bv bp op len g ar c wr)) (fun i _=>xs.length-(intOf i).toNat)
 case atStart=>exact⟨0,Jt _,rfl,a1 _ _ 1 h0,a3⟩
 case round=>
  obtain⟨k,hk,rfl,j,HR⟩:=hrel
  by_cases w:k<xs.length
  ·obtain⟨x,d⟩:∃x,xs[k]? =some x:=⟨_,Jd w⟩
   obtain⟨b,o,a0,a7⟩:=HR.out.2.2.2.2.2 k x d;obtain⟨fn,a4,assign,body,hy,hR⟩:=hY _ x wr j (by rw[Oc,Ud hk];exact d);have h:xs.take (k+1)=xs.take k++ [x]:=by rw[Nh,d];rfl
   have t:=Ja h;have b0:=Ja d;have a5:(k:Int)<xs.length:=Zo;subst a0;clear d h c1 c2 c3 c4 hc hY
   gi_wp2
   refine hR.mono ?_;rintro e W3 (⟨rfl,a2,y⟩|⟨rfl,u⟩)
   ·gi_wp2
    go_roundw
    case rel=>exact⟨k+1,by omega,by go_num,by rw[t.out];exact a2,y HR⟩
    case measure=>simp[intOf];omega
   ·gi_wp2
    refine bodyPost_ret (results_none rfl _ _ _) rfl ?_;exact⟨⟨_,rfl⟩,.inr ⟨_,by rw[<-t.out];exact List.take_prefix _ _,u⟩⟩
  ·obtain rfl:k=xs.length:=by omega
   gi_wp2
   go_end0
   exact⟨⟨_,rfl⟩,.inl ⟨_,Nl,j⟩⟩
theorem lj (p:Option Addr)(n:Int)(w:World):
 I 147 #[.pointer p,U n] w fun e w'=>e=.returned (.func (.func 152) #[] #[F w.heap.size,F (w.heap.size+1)])/\
  w'=(w.alloc (G #[.pointer p] 192)).alloc (G #[U n] 3):=by
 go_enter Tryz.func147,Tryz.ntmps147;go_wp2;go_ret;exact⟨rfl,rfl⟩
theorem aaT.below{n bv op len g:Nat}{ar:Option Addr}(h:aaT Bv Bn n xs bv bp op len g ar d W)(hb:Below C W W')(l:W.heap.size<=C):aaT Bv Bn n xs bv bp op len g ar d W':=by
 obtain⟨c1,c2,c3,i,c4,k⟩:=h;have up:∀ {a:Addr} {v:Value},W.cell? a=some v->W'.cell? a=some v:=fun {a v} h=>(hb.cell (Jy (Jw W a h) l)).trans h
 refine⟨up c1,up c2,up c3,i,up c4,fun j x hj=>?_⟩;obtain⟨b,o,e,c⟩:=k j x hj;exact⟨b,o,e,up c⟩
theorem mC{x:Nat}(h:xs[k]? =some x):xs.attach.take (k+1)=xs.attach.take k++ [⟨x,Ji h⟩]:=by
 rw[Nh]
 congr 1
 obtain⟨c,rfl⟩:=Jh.1 h;rw[Jd (by simpa using c)];simp
theorem nH (m:Nat)(hm:1<=m)(Bv Bn n:Nat)(xs:List Nat)(bv bp op len d:Nat)(ar:Option Addr)(c:Nat)(g:xs.length<=4000004000000)(w:World)(i:aaT Bv Bn n xs bv bp op len d ar c w):
 SeqStopsK Fence.wide m Tryz.prog 152 #[F Bv,F Bn] (fun x: {p//p∈xs}=> #[U (x.1:Int)]) (fun W W'=>aaT Bv Bn n xs bv bp op len d ar c W->aaT Bv Bn n xs bv bp op len d ar c W')
  (fun ys=>ys.map (·.1)=xs) (fun _=>True) xs.length w:=fun l J Jx W hW hJ _ hY h0=>by
 refine(aH m hm l Bv Bn n xs bv bp op len d ar c g (fun pre W=>J (xs.attach.take pre.length) W) (fun pre W=>Jx (xs.attach.take pre.length) W) (fun pre x W1 h1 h2=>?_)
  (fun pre W1 k h=>hJ _ W1 (W1.drewN k) none h ⟨rfl,rfl,rfl,Je _,fun _ _ _=>rfl⟩ (fun _ e=>by cases e)) W (i.below hW (Je _)) (by simpa using h0)).mono ?_
 ·have j:pre.length<xs.length:=(Jh.1 h2).1;refine(hY _ ⟨x,Ji h2⟩ W1 h1 (by rw[Oc,List.length_attach];omega)).mono ?_;rw[Jk,Ju,mC h2];exact fun e w' h=>h
 ·rintro e w' ⟨hv,(⟨ys,rfl,h⟩|⟨pre,_,h⟩)⟩
  ·exact⟨hv,.inl ⟨_,by simp,h⟩⟩
  ·exact⟨hv,.inr ⟨_,trivial,h⟩⟩
end Go.Proofs.YtoahcpkibpomcaaGreat
set_option maxRecDepth 8000
namespace Go.Proofs.YtoahcpkibpomcaaGreat
open Go.RowKit
variable {t x:Int}{W W' W0 w w' w0 w1:World}{o:Obj}{K:MK}{B0 Bi Bn Bv C bi bm bp d i j k m nm u vb vn:Nat}{c idom:List Int}{g preds:List (List Nat)}{seen:List Bool}{post pr xs:List Nat}{ds:List Deferred}
theorem UpN.lt{f:Int->Int}:∀ {k a a':Nat},UpN c f t k a a'->a<c.length->a'<c.length
 |0,_,_,h,ha=>by rw[h.2];exact ha
 |k+1,_,_,h,_=>by obtain⟨_,a1,h1,_,h2⟩:=h;exact UpN.lt h2 h1
theorem nj{b n:Nat}{f:Int->Int}(h:ud w b n f)(c:-9223372036854775808<=x/\x<=9223372036854775807)(k:Nat):
 (Instr.lookup 171 (.map (some b)) (U x) false).run Tryz.prog (w.drewN k)=.ok (U (f x)) (w.drewN k):=
 (ud.look (h.same (w':=w.drewN k) rfl) c).1
theorem meet_any (w:World)(Bv Bi bv bm nm bi:Nat)(f:Int->Int)(c:List Int)(hn:c.length<=2000000)
 (c1:A w Bv 0 (F bv)) (c2:A w bv 1 (.map (some bm))) (hm:ud w bm nm f)
 (c3:A w Bi 0 (T bi c.length c.length)) (hi:Q w bi (c.map (Value.int .i64)).toArray 3)
 (k0 a b r:Nat) (ha:a<c.length) (hb:b<c.length) (hM:qZ c f k0 a b r):
 I 146 #[U a,U b,F Bv,F Bi] w fun e w'=>e=.returned (U r)/\∃n,w'=w.drewN n:=by
 have m:=Ja hM;have HI:=Ja hi;have i:=Ja hm;clear hM hi hm;go_enter Tryz.func146,Tryz.ntmps146;go_wp2
 go_loopg [0,1] k0 (fun k x y wr=>∃a b:Nat,a<c.length/\b<c.length/\x=U a/\y=U b/\Hid (qZ c f k a b r)/\∃n,wr=w.drewN n)
 case atStart=>exact⟨a,b,ha,hb,rfl,rfl,m,0,rfl⟩
 case round=>
  clear ha hb m a b;obtain⟨a,b,ha,hb,rfl,rfl,m,n,rfl⟩:=hrel
  cases gk with
  |zero=>
   obtain⟨rfl,rfl⟩:=m.out;have a2:((r:Int) !=(r:Int))=false:=by simp
   go_wp2;go_ret
   exact⟨rfl,n,rfl⟩
  |succ k=>
   obtain⟨a3,j,a',h,j',b',o,hM⟩:=m.out;have a2:((a:Int) !=(b:Int))=true:=by simp;omega
   have l:=Ja h;have g:=Ja o;have a4:=Ja hM;have a0:=UpN.lt h ha;have u:=UpN.lt o hb;clear a3 h o hM m;go_wp2
   go_loopg [0] j (fun j x wr=>∃a:Nat,a<c.length/\x=U a/\Hid (UpN c f (f b) j a a')/\∃n,wr=w.drewN n)
   case atStart=>exact⟨a,ha,rfl,l,n,rfl⟩
   case round=>
    clear l;obtain⟨x,b0,rfl,l,n2,rfl⟩:=hrel;have la:=nj i.out (x:=(x:Int)) Zo;have lb:=nj i.out (x:=(b:Int)) Zo
    cases gk with
    |zero=>
     obtain⟨ht,rfl⟩:=l.out;have d:decide (f b<f a')=false:=by simpa using ht
     go_wp2;go_quiet (fail);go_wp2
     go_loopg [1] j' (fun j y wr=>∃y0:Nat,y0<c.length/\y=U y0/\Hid (UpN c f (f a') j y0 b')/\∃n,wr=w.drewN n)
     case atStart=>exact⟨b,hb,rfl,g,_,World.drewN_drewN _ _ _⟩
     case round=>
      clear g d;obtain⟨y,a7,rfl,g,n3,rfl⟩:=hrel;have lc:=nj i.out (x:=(y:Int)) Zo
      cases gk with
      |zero=>
       obtain⟨ht,rfl⟩:=g.out;have d:decide (f a'<f b')=false:=by simpa using ht
       go_wp2;go_quiet (fail);go_wp2
       go_roundg k
       case measure=>omega
       case rel=>exact⟨a',b',a0,u,rfl,rfl,a4,_,World.drewN_drewN _ _ _⟩
      |succ j2=>
       obtain⟨ht,y1,h1,hy,h⟩:=g.out;have d:decide (f a'<f y)=true:=by simpa using ht
       have cy:A w bi y (U y1):=zA HI.out (by simp[hy]);have a5:(y:Int)<c.length:=Zo;have t:=Ja h;clear hy h g;go_wp2;go_quiet (fail);go_wp2
       go_roundg j2
       case measure=>omega
       case rel=>exact⟨y1,h1,rfl,t,_,rfl⟩
    |succ j2=>
     obtain⟨ht,a1,h1,hx,h⟩:=l.out;have d:decide (f b<f x)=true:=by simpa using ht
     have cx:A w bi x (U a1):=zA HI.out (by simp[hx]);have a6:(x:Int)<c.length:=Zo;have t:=Ja h;clear hx h l;go_wp2;go_quiet (fail);go_wp2
     go_roundg j2
     case measure=>omega
     case rel=>exact⟨a1,h1,rfl,t,_,rfl⟩
end Go.Proofs.YtoahcpkibpomcaaGreat
set_option maxRecDepth 8000
namespace Go.Proofs.YtoahcpkibpomcaaGreat
open Go.RowKit Go.Shelf
variable {t x:Int}{W W' W0 w w' w0 w1:World}{o:Obj}{K:MK}{B0 Bi Bn Bv C bi bm bp d i j k m nm u vb vn:Nat}{c idom:List Int}{g preds:List (List Nat)}{seen:List Bool}{post pr xs:List Nat}{ds:List Deferred}
attribute [local go_sem] Oper.semAt_some
theorem wi.snoc {idom:List Int}{f:Int->Int}{p:Nat}:∀ {ps:List Nat} {d d1 d2:Int},wi idom f ps d d1->mJ idom f p d1 d2->wi idom f (ps++ [p]) d d2
 | [],d,d1,d2,h,h2=>by cases h;exact⟨d2,h2,rfl⟩
 |q::ps,d,d1,d2,⟨d0,h0,h⟩,h2=>⟨d0,h0,wi.snoc h h2⟩
theorem UpN.unique{f:Int->Int}:∀ {k k2 a r r2:Nat},UpN c f t k a r->UpN c f t k2 a r2->r=r2
 |0,0,_,_,_,h,h2=>h.2.trans h2.2.symm
 |0,_+1,_,_,_,h,h2=>absurd h2.1 h.1
 |_+1,0,_,_,_,h,h2=>absurd h.1 h2.1
 |k+1,k2+1,a,r,r2,⟨_,a1,_,h,h3⟩,⟨_,a2,_,h2,h4⟩=>by
  obtain rfl:a1=a2:=by rw[h] at h2;exact Int.ofNat_inj.1 (Nt h2)
  exact UpN.unique h3 h4
theorem qZ.unique{f:Int->Int}:∀ {k k2 a b r r2:Nat},qZ c f k a b r->qZ c f k2 a b r2->r=r2
 |0,0,_,_,_,_,h,h2=>h.2.trans h2.2.symm
 |0,_+1,_,_,_,_,h,h2=>absurd h.1 h2.1
 |_+1,0,_,_,_,_,h,h2=>absurd h2.1 h.1
 |k+1,k2+1,a,b,r,r2,⟨_,j,a1,h1,j',b1,h2,h3⟩,⟨_,i,a2,g1,i',b2,g2,g3⟩=>by
  obtain rfl:=UpN.unique h1 g1;obtain rfl:=UpN.unique h2 g2;exact qZ.unique h3 g3
theorem mJ.unique{f:Int->Int}{p:Nat}{d d1 d2:Int}(h:mJ c f p d d1)(h2:mJ c f p d d2):d1=d2:=by
 obtain⟨x,j,h⟩:=h;obtain⟨y,g,h2⟩:=h2;obtain rfl:x=y:=by rw[j] at g;simpa using g
 rcases h with⟨a,rfl⟩|⟨a,b,rfl⟩|⟨a,dn,rfl,_,k,r,hm,rfl⟩<;>rcases h2 with⟨a',e⟩|⟨a',b',e⟩|⟨a',dn',e0,_,k',r',i,e⟩
 ·exact e.symm
 ·exact absurd a a'
 ·exact absurd a a'
 ·exact absurd a' a
 ·exact e.symm
 ·omega
 ·exact absurd a' a
 ·omega
 ·obtain rfl:dn=dn':=by omega
  rw[e,qZ.unique hm i]
theorem wi.unique{f:Int->Int}:∀ {ps:List Nat} {d d1 d2:Int},wi c f ps d d1->wi c f ps d d2->d1=d2
 | [],_,_,_,h,h2=>h.trans h2.symm
 |p::ps,d,d1,d2,⟨e,h,h'⟩,⟨e2,g,g'⟩=>by
  obtain rfl:=h.unique g;exact wi.unique h' g'
structure DomMem (w W:World) (bv Bi bi n:Nat) (idom:List Int):Prop where
 hv:W.heap[w.heap.size]? =some (.cells #[.pointer (some ⟨bv,0,none⟩)] 192 (0,0))
 hi:W.heap[Bi]? =some (.cells #[.slice (some ⟨bi,0,none⟩) n n] 22 (0,0))
 hm:W.heap[Bi+1]? =some (.cells #[.func (.func 146) #[] #[.pointer (some ⟨w.heap.size,0,none⟩),.pointer (some ⟨Bi,0,none⟩)]] 204 (0,0))
 hr:W.heap[bi]? =some (.cells (idom.map (Value.int .i64)).toArray 3 (0,0))
 hl:idom.length=n
 hb:Below w.heap.size w W
 lt:w.heap.size<bi/\bi<Bi
theorem DomMem.kept{bv n:Nat}{row:Option Nat}(h:DomMem w W bv Bi bi n idom)(hg:W.grownBy W' row)
 (c:∀r,row=some r->w.heap.size<r/\r≠bi/\r≠Bi/\r≠Bi+1):DomMem w W' bv Bi bi n idom:=by
 obtain⟨hv,hi,hm,hr,hl,hb,lt⟩:=h;refine⟨zL hg hv (fun e=>by have:=c _ e;omega),zL hg hi (fun e=>(c _ e).2.2.1 rfl),zL hg hm (fun e=>(c _ e).2.2.2 rfl),zL hg hr (fun e=>(c _ e).2.1 rfl),hl,hb.grown hg hb.size (fun k hk=>?_),lt⟩;have:=c _ hk;omega
theorem DomMem.own{bv n:Nat}{row:Option Nat}(h:DomMem w W bv Bi bi n idom)(hg:W.grownBy W' row)
 (c:∀r,row=some r->∃o:Obj,W.heap[r]? =some o/\o.isCells=false) (hB:∀r,row=some r->w.heap.size<=r):DomMem w W' bv Bi bi n idom:=by
 refine h.kept hg (fun r e=>?_);obtain⟨o,ho,d⟩:=c r e
 have aux:∀ {b:Nat} {cs:Array Value} {t:TypeId},Q W b cs t->r≠b:=by
  rintro b cs t hb rfl;rw[hb] at ho;cases ho;cases d
 exact⟨Nat.lt_of_le_of_ne (hB r e) (Ne.symm (aux h.hv)),aux h.hr,aux h.hi,aux h.hm⟩
theorem DomMem.set{bv n:Nat}(h:DomMem w W bv Bi bi n c)(k:Nat)(d:Int):DomMem w (W.setCell ⟨bi,k,none⟩ (U d)) bv Bi bi n (c.set k d):=by
 obtain⟨hv,hi,hm,hr,hl,hb,lt⟩:=h;refine⟨zR hv Zt,zR hi Zt,zR hm Zt,?_,by simpa using hl,hb.setCell Zt _,lt⟩;rw[zD hr];simp
def oh (B:Nat)(W:World)(ds:List Deferred):Prop:=
 ∃Ds:List Nat,ds=Ds.map (fun D=> {target:=.collected D,args:=#[]})/\Ds.Nodup/\∀D∈Ds,B<=D/\W.heap[D]? =some (.deferred (some []))
theorem oh.keeps{B:Nat}(h:oh B W ds)(hk:KeepsFrom 0 W W'):oh B W' ds:=by
 obtain⟨Ds,rfl,h1,h2⟩:=h;exact⟨Ds,rfl,h1,fun D hD=>⟨(h2 D hD).1,hk.same D _ (Jt _) (h2 D hD).2 rfl⟩⟩
theorem oh.push{B:Nat}{D:Nat}(h:oh B W0 ds)(hk:KeepsFrom 0 W0 W)(g:W0.heap.size<=D)(hB:B<=D)(d:W.heap[D]? =some (.deferred (some []))):
 oh B W ({target:=.collected D,args:=#[]}::ds):=by
 obtain⟨Ds,rfl,h1,h2⟩:=h;refine⟨D::Ds,rfl,Qt.2 ⟨fun hm=>?_,h1⟩,fun E c=>?_⟩
 ·have:=(Array.getElem?_eq_some_iff.1 (h2 D hm).2).1;omega
 ·rcases Jq.1 c with rfl|c
  ·exact⟨hB,d⟩
  ·exact⟨(h2 E c).1,hk.same E _ (Jt _) (h2 E c).2 rfl⟩
theorem sr{F:Fence}{P:Program}{fn:Func}{c:Array Value}{R:Ending->World->Prop}(B:Nat)(G:World->Prop)
 (g:∀W D,B<=D->W.heap[D]? =some (.deferred (some []))->G W->G (W.putObj D (.deferred none))) (d:∀W,G W->LeavesIn F m P fn c R [] .returning W):
 ∀(Ds:List Nat) (W:World),Ds.Nodup->(∀D∈Ds,B<=D/\W.heap[D]? =some (.deferred (some [])))->G W->LeavesInM F m P fn c R (Ds.map (fun D=> {target:=.collected D,args:=#[]})) .returning W
 | [],W,_,_,h=>d W h
 |D::Ds,W,hn,hd,h=>by
  have hD:=hd D Zs;refine⟨by simp,.inl ⟨D,_,rfl,run_takeDeferred hD.2,?_⟩⟩;refine sr B G g d Ds _ (Qt.1 hn).2 (fun E hE=>⟨(hd E (by simp[hE])).1,?_⟩) (g W D hD.1 hD.2 h);rw[World.putObj_heap_other (by rintro rfl;exact(Qt.1 hn).1 hE)];exact(hd E (by simp[hE])).2
theorem _root_.Go.KeepsFrom.from0(h:KeepsFrom 0 W W')(B:Nat):KeepsFrom B W W':=⟨h.size,fun k o _ hk ho=>h.same k o (Jt _) hk ho⟩
theorem uh (W:World)(o:Obj):KeepsFrom 0 W (W.alloc o):=⟨by simp,fun k o' _ hk _=>(Below.heap_alloc _ _ _ (Array.getElem?_eq_some_iff.1 hk).1).trans hk⟩
theorem uu{b:Nat}{cs:Array Value}{t:TypeId}(h:Q W b cs t)(v:Value):KeepsFrom 0 W (W.setCell ⟨b,i,none⟩ v):=
 ⟨by simp,fun k o _ hk hc=>(Below.heap_setCell _ _ _ k (fun e=>by subst e;rw[h] at hk;cases hk;cases hc)).trans hk⟩
theorem uW (W:World)(n:Nat):KeepsFrom 0 W (W.drewN n):=⟨Je _,fun _ _ _ h _=>h⟩
theorem oH{bv n:Nat}(h:Q w1 (w.heap.size+2) (List.replicate n (U (-1))).toArray 3/\Y w w1/\Q w1 w.heap.size #[F bv] 192)
 (d:w.heap.size+2<w1.heap.size) (h1:1<=n):
 DomMem w (((w1.setCell ⟨w.heap.size+2,0,none⟩ (U 0)).alloc (G #[T (w.heap.size+2) n n] 22)).alloc (G #[.func (.func 146) #[] #[F w.heap.size,F w1.heap.size]] 204))
  bv w1.heap.size (w.heap.size+2) n ((0:Int)::List.replicate (n-1) (-1)):=by
 obtain⟨hr,hb,hv⟩:=h;have c:=zD (i:=0) hr (U 0);refine⟨zB (zB (zR hv Zs)),zB (zI Zs),zI Zs,?_,by simp;omega,?_,by omega,d⟩
 ·rw[zB (zB c)];obtain⟨m,rfl⟩:∃m,n=m+1:=⟨n-1,by omega⟩
  simp[Qz]
 ·exact((hb.setCell Zs _).alloc Zt _).alloc Zt _
theorem vA{b:Nat}{a:Addr}(h:a.block≠b)(u:Value):(W.setCell ⟨b,i,none⟩ u).cell? a=W.cell? a:=by
 have:(W.setCell ⟨b,i,none⟩ u).heap[a.block]? =W.heap[a.block]?:=Below.heap_setCell _ _ _ _ h;unfold World.cell?;rw[this]
theorem aaT.keptObj{n:Nat}{bv op len:Nat}{ar:Option Addr}{g:Nat}{row:Option Nat}(h:aaT Bv Bn n xs bv bp op len i ar g W)(hg:W.grownBy W' row)
 (d:∀r,row=some r->∃o:Obj,W.heap[r]? =some o/\o.isCells=false):aaT Bv Bn n xs bv bp op len i ar g W':=by
 obtain⟨c1,c2,c3,k,c4,l⟩:=h;refine⟨cell_kept c1 hg d,cell_kept c2 hg d,cell_kept c3 hg d,k,cell_kept c4 hg d,fun j x hj=>?_⟩;obtain⟨b,o,e,c⟩:=l j x hj;exact⟨b,o,e,cell_kept c hg d⟩
theorem aaT.set{n:Nat}{bv op len g:Nat}{ar:Option Addr}{Bd:Nat}(h:aaT Bv Bn n xs bv bp op len g ar d W)(u:Value)
 (h1:Bv≠Bd) (h2:Bn≠Bd) (h3:bv≠Bd) (m:bp≠Bd) (l:∀(j x:Nat),xs[j]? =some x->∀a,ar=some a->a.block≠Bd):aaT Bv Bn n xs bv bp op len g ar d (W.setCell ⟨Bd,0,none⟩ u):=by
 obtain⟨c1,c2,c3,i,c4,k⟩:=h;refine⟨(vA h1 u).trans c1,(vA h2 u).trans c2,(vA h3 u).trans c3,i,(vA m u).trans c4,fun j x hj=>?_⟩;obtain⟨b,o,e,c⟩:=k j x hj;exact⟨b,o,e,(vA (a:=⟨b,o+j,none⟩) (l j x hj ⟨b,o,none⟩ e) u).trans c⟩
theorem jt{bv:Nat}{k:List Nat}{f:Int->Int}{c:List (List Nat)}(t:oN w C bv k f c)(hb:Below C w W){x:Nat}(g:c[x]? =some pr)
 (c1:A W Bv 0 (F bv)) (c2:A W Bn 0 (U x)):
 ∃bp op len cap ar capr,aaT Bv Bn x pr bv bp op len cap ar capr W/\bp<C/\∀(j y:Nat),pr[j]? =some y->∀a,ar=some a->a.block<C:=by
 obtain⟨ov,bm,pv,nm,e0,e1,e2,ho,hm,u,hp,hl⟩:=t;obtain⟨a,cap,rfl,m⟩:=hp.form;obtain⟨b,o,a2,i,rfl,h,d,a0,l⟩:=hp.row g;refine⟨b,o,c.length,cap,a2,i,⟨c1,c2,(hb.cell (p:=⟨bv,2,none⟩) hl).trans e2,(Jh.1 g).1,(hb.cell (p:=⟨b,o+x,none⟩) h).trans d,fun j y hj=>?_⟩,h,fun j y hj a e=>?_⟩
 ·obtain⟨b2,o2,e,hB,d⟩:=l j y hj;exact⟨b2,o2,e,(hb.cell (p:=⟨b2,o2+j,none⟩) hB).trans d⟩
 ·obtain⟨b2,o2,e2,hB,d⟩:=l j y hj;rw[e2] at e;cases e;exact hB
theorem qQ (w:World)(C bv n:Nat)(k6:List Nat)(f:Int->Int)(a0:List (List Nat))(hC:C<=w.heap.size)(hV:oN w C bv k6 f a0)(h1:1<=n)(hn:n<=2000000)
 (ns:List Nat) (n4:k6=0::ns) (l3:∀x∈ns,x<n) (o6:ns.length<=2000000) (hpl:a0.length=n) (l0:∀row∈a0,row.length<=4000004000000) (k0:Nat) (idom':List Int) (hD:ip a0 f ns k0 ((0:Int)::List.replicate (n-1) (-1)) idom'):
 I 141 #[F bv,U n] w fun e w'=>∃g,e=.returned (T g n n)/\w.heap.size<=g/\Q w' g (idom'.map (Value.int .i64)).toArray 3/\Below w.heap.size w w':=by
 have HV:=Ja hV;have HD:=Ja hD;have HN:=Ja l3;have o5:=Ja l0;clear hV hD l3 l0;refine(callsIn_wide (n:=100)).1 (callsIn_of_wp_marks Tryz.func141 rfl trivial ?_ rfl);simp only[Tryz.ntmps141,List.size_toArray,Nq,Ow,Nat.reduceAdd,Nat.reduceSub,Array.replicate_succ,Array.replicate_zero,List.push_toArray,List.append_toArray,Op,List.cons_append];refine wpIn_wide.2 ?_
 have i2:∀W:World,W=(w.alloc (G #[F bv] 192)).alloc (G #[U (-1)] 3)->I 145 #[T (w.heap.size+1) 1 1,U n] W fun e w1=>
  e=.returned (T (w.heap.size+2) n n)/\A w1 (w.heap.size+2) 0 (U (-1))/\N w1 (w.heap.size+2) 0/\w.heap.size+2<w1.heap.size/\Hid (Q w1 (w.heap.size+2) (List.replicate n (U (-1))).toArray 3/\Below w.heap.size w w1/\Q w1 w.heap.size #[F bv] 192):=by
  rintro W rfl;have n0:((w.alloc (G #[F bv] 192)).alloc (G #[U (-1)] 3)).heap.size=w.heap.size+2:=by simp
  have hb:Below w.heap.size w ((w.alloc (G #[F bv] 192)).alloc (G #[U (-1)] 3)):=((Below.refl _ _).alloc (Je _) _).alloc Zs _;refine(lr _ (w.heap.size+1) 0 1 n (zA (zI Zs) Zs) h1 Zo).mono ?_;rintro e w1 ⟨rfl,hr,j1⟩;rw[n0] at hr j1 ⊢;exact⟨rfl,zA hr (by rw[List.getElem?_toArray,Nm,if_pos Zo]),zE hr,lt_of_block hr,hr,hb.trans (j1.mono Zo),zH j1 (zB (zI rfl)) Zo⟩
 have c3:∀(w1:World) (a:Addr) (u:Value) (o:Obj),(((w1.setCell a u).alloc o).alloc (G #[.nilFunc] 204)).cell? ⟨w1.heap.size+1,0,none⟩=some .nilFunc:=fun w1 a u o=>zA (zI Zs) Zs
 have f3:∀(w1:World) (a:Addr) (u:Value) (o:Obj),N (((w1.setCell a u).alloc o).alloc (G #[.nilFunc] 204)) (w1.heap.size+1) 0:=fun w1 a u o=>zE (zI Zs)
 go_wp2_with (go_at_call 145;go_must (refine(i2 _ rfl).mono ?_;rintro e w1 ⟨rfl,c0,f0,m3,HW⟩))
 refine wp_loop_ghost (fun k a W=>∃(ch:Bool) (ds:List Deferred),∃u9 h0 g9 g6 g5 g4 g3 g2 k5 k4 k3 g1 g0 f9 f8 f7 f6 f5 f4 f2 f1 e9 e8 e7 e6 e5 e4 e3 d9 d8 d7 d6 d5 d4 d3 d2 c9 c8 c7 c5 c4 c2 b9 b8:Value,a= {tmps:=#[.pointer (some ⟨bv,0,none⟩),U n,.pointer (some ⟨w.heap.size,0,none⟩),undef,.slice none 0 0,.pointer (some ⟨w1.heap.size,0,none⟩),.pointer (some ⟨w1.heap.size+1,0,none⟩),.bool ch,undef,u9,h0,g9,.slice (some ⟨w.heap.size+1,0,none⟩) 1 1,U n,.slice (some ⟨w.heap.size+2,0,none⟩) n n,.slice (some ⟨w.heap.size+2,0,none⟩) n n,.pointer (some ⟨w.heap.size+2,0,none⟩),.func (.func 146) #[] #[.pointer (some ⟨w.heap.size,0,none⟩),.pointer (some ⟨w1.heap.size,0,none⟩)],g6,g5,g4,g3,g2,k5,k4,k3,g1,g0,f9,f8,f7,f6,f5,f4,f2,f1,e9,e8,e7,e6,e5,e4,e3,d9,d8,d7,d6,d5,d4,d3,d2,c9,c8,c7,c5,c4,c2,b9,b8],defers:=ds }/\oh w.heap.size W ds/\∃idom,DomMem w W bv w1.heap.size (w.heap.size+2) n idom/\((ch=true/\ip a0 f ns k idom idom')∨(ch=false/\idom=idom'))) k0 ?_ ?_
 ·refine⟨true,[],_,_,_,_,_,_,_,_,_,_,_,_,_,_,_,_,_,_,_,_,_,_,_,_,_,_,_,_,_,_,_,_,_,_,_,_,_,_,_,_,_,_,_,_,rfl,⟨[],rfl,List.nodup_nil,by simp⟩,_,oH HW.out m3 h1,.inl ⟨rfl,HD.out⟩⟩
 clear HD HW c0 f0 c3 f3 i2;rintro k a W ⟨ch,ds,u9,h0,g9,g6,g5,g4,g3,g2,k5,k4,k3,g1,g0,f9,f8,f7,f6,f5,f4,f2,f1,e9,e8,e7,e6,e5,e4,e3,d9,d8,d7,d6,d5,d4,d3,d2,c9,c8,c7,c5,c4,c2,b9,b8,rfl,hM,idom,h4,l7⟩;have HM:=Ja hM;have t:=Ja h4;have j3:=Ja l7;clear hM h4 l7;have cI:=cell_of_one t.out.hi;have cV:=cell_of_one t.out.hv
 cases ch with
 |false=>
  go_wp2;obtain⟨Ds,rfl,hnd,n6⟩:=HM.out;obtain rfl:idom=idom':=j3.out.elim (fun h=>Bool.noConfusion h.1) (fun h=>h.2);refine sr w.heap.size (fun W=>Q W (w.heap.size+2) (idom.map (Value.int .i64)).toArray 3/\Below w.heap.size w W) ?_ ?_ Ds W hnd n6 ⟨t.out.hr,t.out.hb⟩
  ·rintro W D hB hd ⟨h1,h2⟩;exact⟨zL (grownBy_putObj' W D _) h1 (by rintro e;cases e;rw[h1] at hd;cases hd),h2.grown (grownBy_putObj' W D _) h2.size (by rintro k e;cases e;exact hB)⟩
  ·rintro W ⟨h1,h2⟩
   exact⟨_,results_tmp rfl _ _ _,_,rfl,by omega,h1,h2⟩
 |true=>
  have o3:=HV.out;obtain⟨ov,bm,pv,nm,e0,e1,e2,ho,hm,q0,hp,hl⟩:=o3;obtain⟨aO,capO,rfl,n8,h9⟩:=ho;subst n4;obtain⟨b,o,rfl,q6,n9⟩:=h9 0 0 rfl;simp only[Nq] at n8 e0;have HX:=Ja h9;clear e2 hm hp h9 n9 e1;have e0:=(t.out.hb.cell (p:=⟨bv,0,none⟩) (show bv<w.heap.size by omega)).trans e0;have l1:1<=capO:=Zo;go_upto_region 7 with fail
  go_cut [23,24,25] from 18 to 25 (fun s l i wx=>wx=W/\l=U (ns.length:Int)/\i=U 0/\∃o' c',s=.slice (some ⟨b,o',none⟩) ns.length c'/\Hid (0<ns.length->o'=o+1))
  case first=>
   go_wp2
   all_goals go_meet
   ·exact⟨rfl,rfl,rfl,_,_,rfl,by unfold Hid;intro h;omega⟩
   ·exact⟨rfl,rfl,rfl,_,_,rfl,fun _=>rfl⟩
  case rest=>
   obtain⟨rfl,rfl,rfl,o',c',rfl,HO⟩:=hcut
   obtain⟨k,i1,h5,a3,h7,rfl⟩:∃k2 i1 h5,ny a0 f ns idom false i1 h5/\((h5=false/\idom'=i1)∨(h5=true/\ip a0 f ns k2 i1 idom'))/\k=k2+1:=by
    rcases j3.out with⟨_,h⟩|⟨h,_⟩
    ·cases k with
     |zero=>exact h.elim
     |succ k=>obtain⟨i1,ch,h1,h2⟩:=h;exact⟨k,i1,ch,h1,h2,rfl⟩
    ·cases h
   have a5:=Ja a3;have k1:=Ja h7;clear a3 h7 j3 cI cV;go_wp2;refine wp_loop_ghost (fun k a W=>∃(i:Nat) (ch:Bool) (ds:List Deferred),∃u9 h0 g9 g6 g5 g4 g3 g2 g1 g0 f9 f8 f7 f6 f5 f4 f2 f1 e9 e8 e7 e6 e5 e4 e3 d9 d8 d7 d6 d5 d4 d3 d2 c9 c8 c7 c5 c4 c2 b9 b8:Value,a= {tmps:=#[.pointer (some ⟨bv,0,none⟩),U n,.pointer (some ⟨w.heap.size,0,none⟩),undef,.slice none 0 0,.pointer (some ⟨w1.heap.size,0,none⟩),.pointer (some ⟨w1.heap.size+1,0,none⟩),.bool ch,undef,u9,h0,g9,.slice (some ⟨w.heap.size+1,0,none⟩) 1 1,U n,.slice (some ⟨w.heap.size+2,0,none⟩) n n,.slice (some ⟨w.heap.size+2,0,none⟩) n n,.pointer (some ⟨w.heap.size+2,0,none⟩),.func (.func 146) #[] #[.pointer (some ⟨w.heap.size,0,none⟩),.pointer (some ⟨w1.heap.size,0,none⟩)],g6,g5,g4,g3,g2,(.slice (some ⟨b,o',none⟩) ns.length c'),(U (ns.length:Int)),(U i),g1,g0,f9,f8,f7,f6,f5,f4,f2,f1,e9,e8,e7,e6,e5,e4,e3,d9,d8,d7,d6,d5,d4,d3,d2,c9,c8,c7,c5,c4,c2,b9,b8],defers:=ds }/\k+i=ns.length/\oh w.heap.size W ds/\∃idom,DomMem w W bv w1.heap.size (w.heap.size+2) n idom/\ny a0 f (ns.drop i) idom ch i1 h5) ns.length ?_ ?_
   ·exact⟨0,false,ds,_,_,_,_,_,_,_,_,_,_,_,_,_,_,_,_,_,_,_,_,_,_,_,_,_,_,_,_,_,_,_,_,_,_,_,_,_,_,_,_,_,rfl,rfl,HM.out,idom,t.out,a5.out⟩
   clear a5 HM t ds idom;rintro j a W ⟨i,ch,ds,u9,h0,g9,g6,g5,g4,g3,g2,g1,g0,f9,f8,f7,f6,f5,f4,f2,f1,e9,e8,e7,e6,e5,e4,e3,d9,d8,d7,d6,d5,d4,d3,d2,c9,c8,c7,c5,c4,c2,b9,b8,rfl,q3,hM,idom,h4,a3⟩;have HM:=Ja hM;have t:=Ja h4;have a5:=Ja a3;clear hM h4 a3
   by_cases q1:(i:Int)<ns.length
   ·obtain⟨x,hx⟩:∃x,ns[i]? =some x:=⟨_,Jd Zo⟩
    have p4:=HN.out x (Ji hx);obtain⟨b1,o1,o0,_,h8⟩:=HX.out (i+1) x (by simpa using hx);obtain⟨rfl,rfl⟩:b=b1/\o=o1:=by simpa using o0
    have h8:A W b (o'+i) (U x):=by
     rw[HO.out Zo,Nat.add_assoc,Nat.add_comm 1 i];exact(t.out.hb.cell (p:=⟨b,o+(i+1),none⟩) (show b<w.heap.size by omega)).trans h8
    have cV:=cell_of_one t.out.hv;have q7:w.heap.size<W.heap.size:=lt_of_block t.out.hv;have p1:w1.heap.size+1<W.heap.size:=lt_of_block t.out.hm;go_wp2_with (go_at_call 147;refine(lj _ _ _).mono ?_;rintro e w2 ⟨rfl,rfl⟩)
    have b5:ns.drop i=x::ns.drop (i+1):=by
     rw[Qn Zo]
     congr 1
     have:=Jd (l:=ns) (i:=i) Zo;rw[hx] at this;exact(Nt this).symm
    have hp:=a5.out;rw[b5] at hp;obtain⟨pr,d0,old,k7,a6,a2,h6,b6⟩:=hp;have m2:(((W.alloc (G #[U (-1)] 3)).alloc (G #[F bv] 192)).alloc (G #[U x] 3)).heap.size=W.heap.size+3:=by simp
    have b0:DomMem w (((W.alloc (G #[U (-1)] 3)).alloc (G #[F bv] 192)).alloc (G #[U x] 3)) bv w1.heap.size (w.heap.size+2) n idom:=
     ((t.out.kept (Uo W _ none) (fun _ e=>by cases e)).kept (Uo _ _ none) (fun _ e=>by cases e)).kept (Uo _ _ none) (fun _ e=>by cases e)
    have b7:Boxed (((W.alloc (G #[U (-1)] 3)).alloc (G #[F bv] 192)).alloc (G #[U x] 3)) W.heap.size 3 (U (-1)):=((Boxed.new W _ _).alloc _).alloc _;have i9:KeepsFrom 0 W (((W.alloc (G #[U (-1)] 3)).alloc (G #[F bv] 192)).alloc (G #[U x] 3)):=((uh _ _).trans (uh _ _)).trans (uh _ _);obtain⟨bp,op,len,o4,ar,m4,b4,q5,l8⟩:=jt HV.out (b0.hb.mono hC) k7 (Bv:=W.heap.size+1) (Bn:=W.heap.size+1+1) (cell_of_one (zB (zI Zs))) (cell_of_one (zI Zs));generalize (((W.alloc (G #[U (-1)] 3)).alloc (G #[F bv] 192)).alloc (G #[U x] 3))=W4 at m2 b0 b7 i9 b4 ⊢;have m5:=Ja a6;have HC:=Ja b6;have q8:=Ja a2
    refine(wpIn_wide (n:=100)).1 (wpIn_rangeFunc_ownG rfl Zd (gf:=152) (lb:=#[F (W.heap.size+1),F (W.heap.size+1+1)]) rfl trivial (enters_of Tryz.func152 Zk rfl)
     (nH 99 Zd (W.heap.size+1) (W.heap.size+1+1) x pr bv bp op len o4 ar m4 (o5.out pr (Ji k7)) W4 b4) (fun h k x=>k (h x)) (fun V l o o' hl ho hc _ h=>h.keptObj (grownBy_putObj' V l o') (fun r e=>by cases e;exact⟨o,ho,hc⟩)) (Below.refl _ _) (fun _=>rfl)
     (fun pre V=>DomMem w V bv w1.heap.size (w.heap.size+2) n idom/\KeepsFrom 0 W4 V/\∃d,Boxed V W.heap.size 3 (U d)/\OkD idom d/\wi idom f (pre.map (·.1)) (-1) d) (fun _ _ _=>False)
     ?own (fun _ _ _ _ _ hs _ _=>hs) ⟨b0,KeepsFrom.refl _ _,-1,b7,.inl rfl,rfl⟩ ?a1 ?assign ?body ?done ?stop)
    case own=>
     rintro s X Y row ⟨hd,hk,d,hb,ho,hp⟩ hg hr;exact⟨hd.own hg (fun r e=>(hr r e).2) (fun r e=>by have:=(hr r e).1;omega),ownFrom_keepsFrom (β:=Unit) (Je W4.heap.size) () X Y row hk hg hr,d,hb.kept hg (fun e=>by have:=(hr _ e.symm).1;omega),ho,hp⟩
    case assign=>
     intro l x W K hK
     gi_wp2
     exact hK
    case body=>
     clear h8 b4 b0 b7 a2 a6 b6 h6 hx b5 e0 cV;rintro l pre ⟨p,hp⟩ V ⟨hd,hk,d,hb,ho,b2⟩ p0;have a7:(pre++ [(⟨p,hp⟩: {p//p∈pr})]).map (fun x=>x.1)=pre.map (fun x=>x.1)++ [p]:=by rw[Js];rfl
     have a7:=Ja a7;obtain⟨hpl,a6⟩:=m5.out p hp;obtain⟨d1,l2,j4⟩:=a6 d ho;obtain⟨x0,i0,k9⟩:=j4;have HD:=Ja hd;have HK:=Ja hk;have HB:=Ja hb;have b3:=Ja (Jb l2 (b2.snoc ⟨x0,i0,k9⟩));have cI:=cell_of_one hd.hi;have cM:=cell_of_one hd.hm;have cD:=hb.cell;have fD:=hb.frozen;have n2:p<n:=by rw[<-hd.hl];exact hpl
     have cr:A V (w.heap.size+2) p (U x0):=zA hd.hr (by simp[i0]);have p8:(p:Int)<n:=Zo;clear hd hk hb b2 ho l2 a6 i0 hpl;rcases k9 with⟨i8,rfl⟩|⟨i8,q4,rfl⟩|⟨i8,dn,rfl,n7,k2,r,j5,rfl⟩
     ·gi_wp2
      refine(show _/\_/\_ from⟨KeepsFrom.refl _ _,fun h=>h,HD.out,HK.out,_,HB.out,b3.out.1,?_⟩);rw[a7.out];exact b3.out.2
     ·gi_wp2
      refine(show _/\_/\_ from⟨(uu HB.out _).from0 _,fun h=>h.set _ Zo Zo Zo Zo (fun j y hj a e=>by have:=l8 j y hj a e;omega),HD.out.kept (grownBy_setCell' V _ _) (fun r e=>by cases e;have:=HD.out.lt;omega),HK.out.trans (uu HB.out _),_,HB.out.set _,b3.out.1,?_⟩)
      show wi idom f ((pre++ [(⟨p,hp⟩: {p//p∈pr})]).map (fun x=>x.1)) (-1) _
      rw[a7.out];exact b3.out.2
     ·have hnd:¬(dn:Int)<0:=Zo
      gi_wp2
      obtain⟨ov,bm',p3,m6,e0,e1,e2,n3,l4,o9,n1,q2⟩:=HV.out.below (HD.out.hb.mono hC);refine⟨trivial,CallsIn.inRound l (callsIn_wide.2 ((meet_any V w.heap.size w1.heap.size bv bm' m6 (w.heap.size+2) f idom (by rw[HD.out.hl];exact hn) (cell_of_one HD.out.hv) e1 l4 (by rw[HD.out.hl];exact cI) HD.out.hr k2 p dn r (by rw[HD.out.hl];exact n2) n7 j5).mono ?_))⟩;rintro e V2 ⟨rfl,m,rfl⟩;clear e0 e1 e2 n3 l4 n1
      gi_wp2
      have m1:Boxed (V.drewN m) W.heap.size 3 (U dn):=HB.out;have l6:V.grownBy (V.drewN m) none:=⟨rfl,rfl,rfl,Je _,fun _ _ _=>rfl⟩
      have l5:KeepsFrom 0 V ((V.drewN m).setCell ⟨W.heap.size,0,none⟩ (U r)):=(uW V m).trans (uu m1 _);refine(show _/\_/\_ from⟨l5.from0 _,fun h=>(h.keptObj l6 (fun r e=>by cases e)).set _ Zo Zo Zo Zo (fun j y hj a e=>by have:=l8 j y hj a e;omega),(HD.out.kept l6 (fun r e=>by cases e)).kept (grownBy_setCell' _ _ _) (fun r e=>by cases e;have:=HD.out.lt;omega),HK.out.trans l5,_,m1.set _,b3.out.1,?_⟩)
      show wi idom f ((pre++ [(⟨p,hp⟩: {p//p∈pr})]).map (fun x=>x.1)) (-1) _
      rw[a7.out];exact b3.out.2
    case done=>
     rintro D xs V hD m7 ⟨hd,hk,d,hb,ho,b2⟩ l9;rw[m7] at b2;obtain rfl:=wi.unique b2 a2;have cI:=cell_of_one hd.hi;have cD:=hb.cell;have cr:A V (w.heap.size+2) x (U old):=zA hd.hr (by simp[h6]);have fr:N V (w.heap.size+2) x:=zE hd.hr;have p5:(x:Int)<n:=Zo;have HD:=Ja hd;have m0:=Ja (HM.out.push (i9.trans hk) Zo (by have:=t.out.hb.size;omega) l9);clear hd hk hb ho b2 l9 h8 b4 b0 b7 a2 a6 b6 h6 hx b5 e0 cV;rcases HC.out with⟨rfl,a4⟩|⟨n5,a4⟩
     ·have j2:=Ja a4;clear a4;have o2:(old !=old)=false:=by simp
      go_wp2;go_quiet (fail);go_wp2;have j0:V.grownBy (V.drewN nq) none:=⟨rfl,rfl,rfl,Je _,fun _ _ _=>rfl⟩
      refine⟨j-1,by omega,i+1,ch,_,_,_,_,_,_,_,_,_,_,_,_,_,_,_,_,_,_,_,_,_,_,_,_,_,_,_,_,_,_,_,_,_,_,_,_,_,_,_,_,_,_,(by rw[Int.natCast_add];rfl),by omega,m0.out.keeps (uW V nq),idom,HD.out.kept j0 (fun r e=>by cases e),j2.out⟩
     ·have j2:=Ja a4;clear a4;have o2:(old !=d)=true:=by simpa using n5
      go_wp2;go_quiet (fail);go_wp2;have j0:V.grownBy (V.drewN nq) none:=⟨rfl,rfl,rfl,Je _,fun _ _ _=>rfl⟩
      refine⟨j-1,by omega,i+1,true,_,_,_,_,_,_,_,_,_,_,_,_,_,_,_,_,_,_,_,_,_,_,_,_,_,_,_,_,_,_,_,_,_,_,_,_,_,_,_,_,_,_,(by rw[Int.natCast_add];rfl),by omega,(m0.out.keeps (uW V nq)).keeps (uu (W:=V.drewN nq) HD.out.hr _),idom.set x d,(HD.out.kept j0 (fun r e=>by cases e)).set x d,j2.out⟩
    case stop=>
     rintro D c pre V _ _ h _;exact h.elim
   ·go_wp2;obtain rfl:i=ns.length:=by omega
    have hp:=a5.out;rw[List.drop_length] at hp;obtain⟨rfl,rfl⟩:=hp;refine⟨k,by omega,?_⟩;rcases k1.out with⟨rfl,rfl⟩|⟨rfl,h⟩
    ·exact .inl ⟨_,⟨rfl,rfl⟩,HM.out,t.out⟩
    ·exact .inr ⟨_,⟨rfl,rfl⟩,HM.out,_,t.out,h⟩
end Go.Proofs.YtoahcpkibpomcaaGreat
