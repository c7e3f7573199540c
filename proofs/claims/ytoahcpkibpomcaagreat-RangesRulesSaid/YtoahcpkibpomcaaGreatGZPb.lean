/- Part of a proof. -/
import Derived.Test.YtoahcpkibpomcaaGreatGApp
import Derived.Carry
import Derived.Deep.MidRow
import Derived.Deep.OwnRows
import Derived.Defers
import Derived.Laws.BitsLemmas
import Derived.Laws.BytesArg
import Derived.Laws.CopyOwn
import Derived.Lib.BufferWrite
import Derived.Lib.EndianBits
import Derived.LoopIn
import Derived.LoopNIn
import Derived.OwnWalkIn
import Derived.RangeFuncBound
import Derived.RangeFuncCalls
import Derived.RangeFuncLeaves
import Derived.RangeFuncNested
import Derived.Recover
import Derived.RegionIn
import Derived.Shelf.Abstract
import Derived.Shelf.Bits.Mul64
import Derived.Shelf.RegionOpen
import Derived.StillTail
import Derived.TacticsInMore
import Derived.WideKeyEntry
set_option linter.all false
set_option maxHeartbeats 3200000
set_option maxRecDepth 100000
namespace Go.Proofs.YtoahcpkibpomcaaGreat
open Go.RowKit
variable {g:List (List Nat)}{w w':World}{seen:List Bool}{c post:List Nat}{u x:Int}{b12 b13 bt i j k m1 m2:Nat}{K:MK}{m:Mach}{f ov:Value}{t:Slv}{blocks:List IBlk}{o:IOp}{pv:List Value}
def fJ (w:World)(xs:List Nat)(e:Ending)(w':World):Prop:=∃v,e=.returned v/\w'.ownsRow w.heap.size 3 1 v xs.length (xs.map zj)/\Q w w'
theorem k8(hv:zw g):(decide (0<(g.map (List.map Int.ofNat)).length) && pB (g.map (List.map Int.ofNat)))=true:=by
 obtain⟨h0,h1⟩:=hv;simp only[Nr,Jm,decide_eq_true_eq,pB,Oe,Nu];refine⟨h0,?_⟩;rintro _ ⟨l,hl,rfl⟩ s hs;simp only[Nu] at hs;obtain⟨x,c,rfl⟩:=hs;have:=h1 l hl x c;simp;omega
theorem afU{B:Nat}{v:Value}(h:aaB zj w B v g):aaB zN w B v (g.map (List.map Int.ofNat)):=(aaB.map (enc:=zN) (enc':=zj) Int.ofNat (fun _=>rfl)).2 h
theorem tK (w:World)(sv:Value)(g:List (List Nat))(B:Nat)(d:B<=w.heap.size)(h:aaB zj w B sv g)(hv:zw g)(c:g.length<=2000000)(hr:∀row∈g,row.length<=2000000):
 O 93 #[.agg #[sv]] w fun e w'=>e=.returned (.bool true)/\Q w w':=by
 have:=lR w sv (g.map (List.map Int.ofNat)) B d (afU h) (by simpa using c) (by intro row hm;simp only[Nu] at hm;obtain⟨l,hl,rfl⟩:=hm;simpa using hr l hl);rw[k8 hv] at this;exact this
theorem yA (z:Value)(n:Nat):madeCells #[z] n=(List.replicate n z).toArray:=by
 rw[<-toList_madeCells_one]
theorem iC (w1:World)(n:Nat):Dfs w1 (((w1.alloc (G (madeCells #[.bool false] n) 4)).alloc (G #[L w1.heap.size n n] 97)).alloc (G #[U] 149)) w1.heap.size n (w1.heap.size+1) w1.heap.size (w1.heap.size+1+1) (List.replicate n false) [] (.slice none 0 0) []:=by
 refine⟨zB (zI Zs),?_,by simp,⟨_,zI Zs,Jv _ _ _ _⟩,by omega,Jv _ _ _ _,?_⟩
 ·rw[zB (zB (zI rfl)),yA];simp[qy]
 ·exact(((Below.refl _ _).alloc (Je _) _).alloc Zs _).alloc Zt _
structure DInv (g:List (List Nat)) (seen:List Bool) (stk:List (Nat×Nat)) (post:List Nat):Prop where
 len:seen.length=g.length
 cnt:seen.count true=stk.length+post.length
 node:∀p∈stk,p.1<g.length
 fin:∀u∈post,u<g.length
theorem tI (l:List Bool)(u:Nat)(h:l[u]? =some false):(l.set u true).count true=l.count true+1:=by
 induction l generalizing u with
 |nil=>simp at h
 |cons b r ih=>
  cases u with
  |zero=>simp at h;subst h;simp
  |succ u=>
   simp only[List.getElem?_cons_succ] at h;simp only[Jg,Nf,ih u h];omega
theorem DInv.start(hv:zw g):DInv g ((List.replicate g.length false).set 0 true) ([]++ [(0,0)]) []:=by
 refine⟨by simp,?_,by simp;exact hv.1,by simp⟩;rw[tI _ _ (by simp[Nm,hv.1])];simp[List.count_replicate]
theorem DInv.le{d:List (Nat×Nat)}(h:DInv g seen d c):d.length+c.length<=g.length:=by
 rw[<-h.cnt,<-h.len];exact List.count_le_length
theorem DInv.pop{st:List (Nat×Nat)}{u:Nat}{d:List Nat}(h:DInv g seen (st++ [(u,j)]) d):DInv g seen st (d++ [u]):=
 ⟨h.len,by have:=h.cnt;simp at this ⊢;omega,fun p hp=>h.node p (by simp[hp]),fun x c=>by
   rcases Jl.1 c with c|c
   ·exact h.fin x c
   ·have:=h.node (u,j) Zs;simp at c;subst c;exact this⟩
theorem DInv.skip{st:List (Nat×Nat)}{u:Nat}(h:DInv g seen (st++ [(u,j)]) post):DInv g seen (st++ [(u,j+1)]) post:=
 ⟨h.len,by have:=h.cnt;simp at this ⊢;omega,fun p hp=>by
   rcases Jl.1 hp with hp|hp
   ·exact h.node p (by simp[hp])
   ·have:=h.node (u,j) Zs;simp at hp;subst hp;exact this,h.fin⟩
theorem DInv.enter{c:List (Nat×Nat)}{s:Nat}(h:DInv g seen c post)(hs:seen[s]? =some false):DInv g (seen.set s true) (c++ [(s,0)]) post:=by
 have d:s<g.length:=by rw[<-h.len];exact(Jh.1 hs).1
 refine⟨by simp[h.len],by rw[tI _ _ hs,h.cnt];simp;omega,fun p hp=>?_,h.fin⟩;rcases Jl.1 hp with hp|hp
 ·exact h.node p hp
 ·simp at hp;subst hp;exact d
theorem lJ (w:World)(sv:Value)(g:List (List Nat))(B:Nat)(hB:B<=w.heap.size)(h:aaB zj w B sv g)(hv:zw g)(hn:g.length<=2000000)(hr:∀row∈g,row.length<=2000000)
 (k0:Nat) (F:List Nat) (hF:kV g k0 ((List.replicate g.length false).set 0 true) [(0,0)] [] F):
 O 40 #[.agg #[sv]] w (fJ w F.reverse):=by
 obtain⟨a,b5,rfl,f4⟩:=h.form;obtain⟨ii,d8,c9,c8,c7⟩:=info_parts Tryz.info_int;obtain⟨ib,g0,e8,e7,e6⟩:=info_parts Tryz.info_bool;have x:Q w (w.alloc (G #[.slice a g.length b5] 105)):=(Below.refl _ _).alloc (Je _) _;have HV:=Ja hv;have HR:=Ja hr;have HF:=Ja hF;clear hv hr hF;have d6:=run_make_row' (P:=Tryz.prog) 97 4 (.bool false) 1 Tryz.underlying97 Tryz.info_bool rfl .i64 .i64 g.length Zo Zo;go_enter Tryz.func40,Tryz.ntmps40;go_wp2_with (go_at_call 93;go_must (refine(tK _ _ g B Zt (h.below (x.mono hB)) HV.out hn HR.out).mono ?_;rintro e w1 ⟨rfl,y⟩;obtain⟨c4,c1⟩:=bcell y))
 have c3:Dfs w1 (((w1.alloc (G (madeCells #[.bool false] g.length) 4)).alloc (G #[L w1.heap.size g.length g.length] 97)).alloc (G #[U] 149)) w1.heap.size g.length (w1.heap.size+1) w1.heap.size (w1.heap.size+1+1) (List.replicate g.length false) [] (.slice none 0 0) []:=iC w1 g.length;refine(oF w1 _ w1.heap.size g.length (w1.heap.size+1) w1.heap.size (w1.heap.size+1+1) (List.replicate g.length false) [] (.slice none 0 0) [] 0 c3 HV.out.1 Zd).mono ?_;rintro e w2 ⟨rfl,hd⟩;have HD:=Ja hd;clear hd c3 d6;go_wp2_with fail
 go_loopg [4] k0 (fun k pv wr=>∃seen stk c,Hid (Dfs w1 wr w1.heap.size g.length (w1.heap.size+1) w1.heap.size (w1.heap.size+1+1) seen stk pv c/\kV g k seen stk c F/\DInv g seen stk c))
 case atStart=>exact⟨_,_,_,HD.out,HF.out,DInv.start HV.out⟩
 case round=>
  obtain⟨seen,stk,c,i⟩:=hrel
  cases gk with
  |zero=>
   obtain⟨rfl,rfl⟩:=i.out.2.1;obtain⟨sv,hk,d⟩:=i.out.1.hk;obtain⟨a0,c0,rfl⟩:=zG d;have ck:=cell_of_one hk;simp only[Ow] at ck;have q:Q w w1:=x.trans (y.mono Zs);have d5:=q.size;have c5:=Ja (q.trans (i.out.1.hb.mono q.size));have b8:=i.out.2.2.le;clear hk d y c4 c1 x q h;go_wp2_with (go_at_call 95;go_must (refine(mK wr _ _ c i.out.1.hp Zo).mono ?_;rintro e w3 ⟨rfl,d1,d9⟩))
   go_ret;refine⟨_,rfl,?_,?_⟩
   ·have:=vY d1 (base':=w.heap.size) Zo
    simpa using this
   ·refine c5.out.grown d9 (by have:=c5.out.size;omega) (fun k hk=>?_);have:=i.out.1.hp.lt k hk
    omega
  |succ k=>
   obtain⟨st,u,j,rfl,b6⟩:=i.out.2.1;obtain⟨sv,hk,d⟩:=i.out.1.hk;simp only[Jk,Nq,Ow,Ng,vH] at d;obtain⟨gk,cp,rfl,g3,g1⟩:=d.form Zo;have g4:=(zm d).1;have f2:=(zm d).2;have f3:(st.length:Int)<=cp:=Zo;have d4:u<g.length:=i.out.2.2.node (u,j) Zs;obtain⟨row,a3⟩:∃row,g[u]? =some row:=⟨_,Jd d4⟩
   have q:Q w w1:=x.trans (y.mono Zs);have d5:=q.size;have b4:=q.trans (i.out.1.hb.mono q.size);obtain⟨b,o,a2,f6,rfl,hb,hc,e5,hx⟩:=(h.below (b4.mono hB)).row a3;have hrl:=HR.out row (Ji a3);have b8:=i.out.2.2.le;simp only[Jk,Nq,Ow] at b8;have ck:=cell_of_one hk;have fk:=free_of_one hk;have cu:T wr gk (st.length*2) (I u):=(d.cellAt _ Zo).trans (by rw[Nc (by rw[yK];omega)];simp[yK,Nat.mul_comm,zj]);have cj:T wr gk (st.length*2+1) (I j):=(d.cellAt _ Zo).trans (by rw[Nc (by rw[yK];omega)];simp[yK,show st.length*2+1-2*st.length=1 by omega,zj]);have fj:Y wr gk (st.length*2+1):=d.frozenAt _
   have g5:T wr w.heap.size 0 (.slice (some ⟨b,o,none⟩) g.length b5):=by
    have h1:(w.alloc (G #[.slice (some ⟨b,o,none⟩) g.length b5] 105)).heap[w.heap.size]? =_:=zI rfl;exact cell_of_one (zH i.out.1.hb (zH y h1 Zs) (by have:=y.size;simp at this;omega))
   have f0:(u:Int)<g.length:=Zo;have a6:=Ja a3;have f8:=Ja d;have HK:=Ja hk;have HX:=Ja hx;have g9:=Ja b4;clear a3 d hk hx b4 q x y c4 c1 h;rcases b6 with⟨hj,m⟩|⟨s,hs,f,m⟩|⟨s,hs,f,m⟩
   ·have b9:row.length=j:=by rw[hj];simp[succ,Jj,a6.out]
    have a7:((j:Int)==(row.length:Int))=true:=by simp[b9]
    have a1:=Ja m;have hp:=i.out.1.hp;have f9:=lt_of_block HK.out;clear b9 hj m;go_wp2_with fail;go_quiet (fail);have own43:∀n,(wr.drewN n).ownsRow (w1.heap.size+1+1+1) 3 1 _ c.length (c.map zj):=fun n=>ji hp
    go_wp2_with (at_builtin;go_must (refine wpList_append_lies _ rfl (.tmp 43) (.tmp 48) 22 rfl (w1.heap.size+1+1+1) 3 ii (I 0) 1 8 Tryz.underlying22 d8 c9 c8 c7 rfl Zd _ c.length (c.map zj) rfl ((own43 _).alloc _) ⟨wr.heap.size,0,none⟩ 1 1 [I u] rfl rfl (Oi (cs:=#[I u]) (zI Zs)) (by simp[Value.oneCell']) Zd (by unfold maxLen;omega) Zo Zt (wr.heap.size+1) Zs ?_;intro g2 f5 w2 b0 a4 g6 f1;have l:=(i.out.1.drewN (k:=nq)).push a4 b0;have b1:=zL a4 (zB (kg HK.out)) (zC hp HK.out (.inl Zo));have g8:=cell_of_one b1;have g7:=free_of_one b1;have e3:=Ja b1;have a5:=Ja l;clear b1 l b0 a4 hp own43))
    go_roundg k
    case measure=>omega
    case rel=>exact⟨seen,st,c++ [u],a5.out.popStk e3.out,a1.out,i.out.2.2.pop⟩
   ·have t:row[j]? =some s:=by rw[<-hs];simp[succ,Jj,a6.out]
    have d7:j<row.length:=(Jh.1 t).1;have a7:((j:Int)==(row.length:Int))=false:=by simp;omega
    have d2:(j:Int)<row.length:=Zo;obtain⟨b2,o2,rfl,e0,cs⟩:=HX.out j s t;simp only[zj] at cs;have l:∀n,Dfs w1 ((wr.drewN n).setCell ⟨gk,st.length*2+1,none⟩ (I ((j:Int)+1))) _ _ _ _ _ _ _ _ _:=fun n=>(i.out.1.drewN (k:=n)).bump HK.out
    have e1:=fun n=>cell_of_one (l n).hv
    have e2:∀n,T ((wr.drewN n).setCell ⟨gk,st.length*2+1,none⟩ (I ((j:Int)+1))) w1.heap.size s (.bool true):=fun n=>zA (l n).hs (by simp[f,qy])
    have b7:s<g.length:=by rw[<-i.out.2.2.len];exact(Jh.1 f).1
    have d0:(s:Int)<g.length:=Zo;have a5:=Ja l;have a1:=Ja m;clear m hs f t l;go_wp2_with fail;go_quiet (fail);go_wp2_with fail
    go_roundg k
    case measure=>omega
    case rel=>exact⟨seen,st++ [(u,j+1)],c,a5.out _,a1.out,i.out.2.2.skip⟩
   ·have t:row[j]? =some s:=by rw[<-hs];simp[succ,Jj,a6.out]
    have d7:j<row.length:=(Jh.1 t).1;have a7:((j:Int)==(row.length:Int))=false:=by simp;omega
    have d2:(j:Int)<row.length:=Zo;obtain⟨b2,o2,rfl,e0,cs⟩:=HX.out j s t;simp only[zj] at cs;have l:∀n,Dfs w1 ((wr.drewN n).setCell ⟨gk,st.length*2+1,none⟩ (I ((j:Int)+1))) _ _ _ _ _ _ _ _ _:=fun n=>(i.out.1.drewN (k:=n)).bump HK.out
    have e1:=fun n=>cell_of_one (l n).hv
    have e2:∀n,T ((wr.drewN n).setCell ⟨gk,st.length*2+1,none⟩ (I ((j:Int)+1))) w1.heap.size s (.bool false):=fun n=>zA (l n).hs (by simp[f,qy])
    have b7:s<g.length:=by rw[<-i.out.2.2.len];exact(Jh.1 f).1
    have d0:(s:Int)<g.length:=Zo;have b3:=i.out.2.2.skip.enter f;have a5:=Ja l;have a1:=Ja m;have d3:=Ja b3;clear m hs f t l b3;go_wp2_with fail;go_quiet (fail);go_wp2_with (go_at_call 94;go_must (refine(oF w1 _ w1.heap.size g.length (w1.heap.size+1) w1.heap.size (w1.heap.size+1+1) seen (st++ [(u,j+1)]) _ c s (a5.out _) b7 Zt).mono ?_;rintro e w2 ⟨rfl,c2⟩;have e4:=Ja c2;clear c2))
    go_roundg k
    case measure=>omega
    case rel=>exact⟨seen.set s true,st++ [(u,j+1)]++ [(s,0)],c,e4.out,a1.out,d3.out⟩
theorem rG{F:List Nat}:∀(k:Nat) (seen:List Bool) (stk:List (Nat×Nat)) (post:List Nat),kV g k seen stk post F->DInv g seen stk post->F.length<=g.length/\∀u∈F,u<g.length
 |0,seen,stk,post,h,hi=>by
  obtain⟨rfl,rfl⟩:=h
  exact⟨by have:=hi.le;simpa using this,hi.fin⟩
 |k+1,seen,stk,post,h,hi=>by
  obtain⟨st,u,j,rfl,⟨_,h⟩|⟨s,_,_,h⟩|⟨s,_,hs,h⟩⟩:=h
  ·exact rG k _ _ _ h hi.pop
  ·exact rG k _ _ _ h hi.skip
  ·exact rG k _ _ _ h (hi.skip.enter hs)
theorem tV.nodes(h:tV g c)(hv:zw g):c.length<=g.length/\∀u∈c,u<g.length:=by
 obtain⟨k,h⟩:=h;have:=rG k _ _ _ h (DInv.start hv)
 simpa using this
theorem tp (w:World)(sv:Value)(g:List (List Nat))(B:Nat)(f:B<=w.heap.size)(h:aaB zj w B sv g)(hv:zw g)(d:g.length<=2000000)(hr:∀row∈g,row.length<=2000000)(c:List Nat)(ho:tV g c):
 O 40 #[.agg #[sv]] w (fJ w c):=by
 obtain⟨k0,ho⟩:=ho;have:=lJ w sv g B f h hv d hr k0 _ ho
 rwa [List.reverse_reverse] at this
theorem inRam_no (a:Nat):wo a=false↔a<16384∨24576<=a:=by
 rw[<-Bool.not_eq_true,qG];omega
theorem sX(h:MachAt w K m ov)(a:Nat)(f:a<65536)(hr:wo a=false):O 159 #[F K.pm,M a] w fun e w'=>e=.panicked [oE 2 a]/\w=w':=by
 clear h;rcases(inRam_no a).1 hr with hlt|hge
 ·have c:(a:Int)<16384:=Zo;clear hr hlt;go_enter Tryz.func159,Tryz.ntmps159;go_wp2_with (go_at_call 153;go_must (refine(wj 2 a _).mono ?_;rintro e w' ⟨rfl,rfl⟩))
  exact⟨rfl,rfl,rfl⟩
 ·have c:24576<=(a:Int):=Zo;have d:¬(a:Int)<16384:=Zo;clear hr hge;go_enter Tryz.func159,Tryz.ntmps159;go_wp2_with (go_at_call 153;go_must (refine(wj 2 a _).mono ?_;rintro e w' ⟨rfl,rfl⟩))
  exact⟨rfl,rfl,rfl⟩
theorem vX(h:MachAt w K m ov)(a:Nat)(f:a<65536)(hr:wo a=true):O 159 #[F K.pm,M a] w fun e w'=>e=.returned (.pointer (some ⟨K.rb,a-16384,none⟩))/\w=w':=by
 have c6:=h.c6;clear h;have c:=(qG a).1 hr;have h1:¬(a:Int)<16384:=Zo;have h2:¬24576<=(a:Int):=Zo;have h3:0<=(a:Int)-16384:=Zo;have g:(a:Int)-16384<8192:=Zo;have d:((a:Int)-16384).toNat=a-16384:=Zo;have i:=Ja d;clear hr c d;go_enter Tryz.func159,Tryz.ntmps159;go_wp2;go_ret;exact⟨rfl,rfl⟩
def jk (w:World)(B:Nat)(x:IEdge)(e:Ending)(w':World):Prop:=∃av,e=.returned (.agg #[I x.block,av])/\zY w B av x.args/\I64 x.block/\Q w w'
theorem edge_any{B:Nat}{t:ITerm}{tv:Value}(ht:wH w B tv t.to)(hk:I64 t.kind)(hB:B<=w.heap.size)(ho:bS blocks t)(h4:t.kind≠4)(h5:t.kind≠5)(a:Nat)(ha:a<65536):
 O 156 #[.agg #[I t.kind,I t.a,tv],M a] w (jk w B (wK t a)):=by
 obtain⟨ta,tc,rfl,a6,a4⟩:=ht.form;obtain⟨h0,h1,h2,h3,_⟩:=ho
 have get:∀k,k<t.to.length->∃b o ab ac,ta=some ⟨b,o,none⟩/\b<B/\T w b (o+k*2) (I (t.to.getD k ⟨0,[]⟩).block)/\T w b (o+k*2+1) (.slice ab (t.to.getD k ⟨0,[]⟩).args.length ac)/\zY w B (.slice ab (t.to.getD k ⟨0,[]⟩).args.length ac) (t.to.getD k ⟨0,[]⟩).args/\I64 (t.to.getD k ⟨0,[]⟩).block:=fun k hk=>by
  have e:t.to.getD k ⟨0,[]⟩=t.to[k]:=by rw[Jj,Jd hk];rfl
  obtain⟨b,o,a2,a1,a0,y,av,u,l⟩:=ht.get (Jd hk);obtain⟨ab,ac,rfl,_,_⟩:=l.form;rw[e];exact⟨b,o,ab,ac,a2,a1,a0,u,l,y⟩
 have GET:=Ja get;clear get ht;have d:∀(x:IEdge) (av:Value) (w':World),zY w B av x.args->I64 x.block->Q w w'->jk w B x (.returned (.agg #[I x.block,av])) w':=fun x av w' h1 h2 h3=>⟨av,rfl,h1,h2,h3⟩
 have c:=Ja d;clear d
 by_cases c2:t.kind=2
 ·have l2:=h2 c2
  by_cases c0:a=0
  ·have e:wK t a=t.to.getD 1 ⟨0,[]⟩:=by unfold wK;rw[if_pos ⟨c2,c0⟩]
   rw[e];obtain⟨b,o,ab,ac,rfl,g,k1,k2,k3,k4⟩:=GET.out 1 Zo;generalize t.to.getD 1 ⟨0,[]⟩=x at *;have q1:(w.cell? ⟨b,o+2,none⟩)=_:=k1;have q2:(w.cell? ⟨b,o+2+1,none⟩)=_:=k2;have f:b<w.heap.size:=Zo;have K3:=Ja (Jb k3 k4);have m:(1:Int)<t.to.length:=Zo;subst c0;rw[c2]
   try simp only[Nat.zero_mul,Uk] at q1 q2
   clear h0 h1 h2 h3 k1 k2 k3 k4 e;go_enter Tryz.func156,Tryz.ntmps156;go_wp2;refine bodyPost_ret (v:=.agg #[I x.block,.slice ab x.args.length ac]) (by simp[results,Tryz.results156,go_sem]) rfl ?_;exact c.out _ _ _ K3.out.1 K3.out.2 (by repeat' (first|exact Below.refl _ _|(refine Below.alloc ?_ (by simp<;>omega) _)|(refine Below.setCell ?_ Zs _)))
  ·have e:wK t a=t.to.getD 0 ⟨0,[]⟩:=by unfold wK;rw[if_neg (fun h=>c0 h.2),if_neg Zo]
   rw[e];obtain⟨b,o,ab,ac,rfl,g,k1,k2,k3,k4⟩:=GET.out 0 Zo;generalize t.to.getD 0 ⟨0,[]⟩=x at *;have q1:(w.cell? ⟨b,o+0*2,none⟩)=_:=k1;have q2:(w.cell? ⟨b,o+0*2+1,none⟩)=_:=k2;have f:b<w.heap.size:=Zo;have K3:=Ja (Jb k3 k4);have m:(0:Int)<t.to.length:=Zo;have a7:((a:Int)==0)=false:=Ze;rw[c2]
   try simp only[Nat.zero_mul,Uk] at q1 q2
   clear h0 h1 h2 h3 k1 k2 k3 k4 e;go_enter Tryz.func156,Tryz.ntmps156;go_wp2;refine bodyPost_ret (v:=.agg #[I x.block,.slice ab x.args.length ac]) (by simp[results,Tryz.results156,go_sem]) rfl ?_;exact c.out _ _ _ K3.out.1 K3.out.2 (by repeat' (first|exact Below.refl _ _|(refine Below.alloc ?_ (by simp<;>omega) _)|(refine Below.setCell ?_ Zs _)))
 ·by_cases c3:t.kind=3
  ·have e:wK t a=t.to.getD (min a (t.to.length-1)) ⟨0,[]⟩:=by unfold wK;rw[if_neg (fun h=>c2 h.1),if_pos c3]
   have l3:=h3 c3;rw[e];obtain⟨i,hi⟩:∃i,min a (t.to.length-1)=i:=⟨_,rfl⟩
   rw[hi];have q:i<t.to.length:=Zo;have j:(i:Int)=if(t.to.length:Int)-1<(a:Int) then(t.to.length:Int)-1 else(a:Int):=by split<;>omega
   have a3:∀(ts:Array TypeId) (t2:TypeId) (W:World),(Builtin.min_ ts t2 #[I a,I ((t.to.length:Int)-1)]).run Tryz.prog W=.ok (I i) W:=fun ts t2 W=>by rw[j];exact run_min_int2 ..
   have a5:0<=(t.to.length:Int)-1:=Zo;clear j;obtain⟨b,o,ab,ac,rfl,g,k1,k2,k3,k4⟩:=GET.out i q;generalize t.to.getD i ⟨0,[]⟩=x at *;have q1:(w.cell? ⟨b,o+i*2,none⟩)=_:=k1;have q2:(w.cell? ⟨b,o+i*2+1,none⟩)=_:=k2;have f:b<w.heap.size:=Zo;have K3:=Ja (Jb k3 k4);have m:(i:Int)<t.to.length:=Zo;rw[c3]
   try simp only[Nat.zero_mul,Uk] at q1 q2
   clear h0 h1 h2 h3 k1 k2 k3 k4 e;go_enter Tryz.func156,Tryz.ntmps156;go_wp2;refine bodyPost_ret (v:=.agg #[I x.block,.slice ab x.args.length ac]) (by simp[results,Tryz.results156,go_sem]) rfl ?_;exact c.out _ _ _ K3.out.1 K3.out.2 (by repeat' (first|exact Below.refl _ _|(refine Below.alloc ?_ (by simp<;>omega) _)|(refine Below.setCell ?_ Zs _)))
  ·have e:wK t a=t.to.getD 0 ⟨0,[]⟩:=by unfold wK;rw[if_neg (fun h=>c2 h.1),if_neg c3]
   have c1:t.kind=1:=Zo;have l1:=h1 c1;rw[e];obtain⟨b,o,ab,ac,rfl,g,k1,k2,k3,k4⟩:=GET.out 0 Zo;generalize t.to.getD 0 ⟨0,[]⟩=x at *;have q1:(w.cell? ⟨b,o+0*2,none⟩)=_:=k1;have q2:(w.cell? ⟨b,o+0*2+1,none⟩)=_:=k2;have f:b<w.heap.size:=Zo;have K3:=Ja (Jb k3 k4);have m:(0:Int)<t.to.length:=Zo;rw[c1]
   try simp only[Nat.zero_mul,Uk] at q1 q2
   clear h0 h1 h2 h3 k1 k2 k3 k4 e;go_enter Tryz.func156,Tryz.ntmps156;go_wp2;refine bodyPost_ret (v:=.agg #[I x.block,.slice ab x.args.length ac]) (by simp[results,Tryz.results156,go_sem]) rfl ?_;exact c.out _ _ _ K3.out.1 K3.out.2 (by repeat' (first|exact Below.refl _ _|(refine Below.alloc ?_ (by simp<;>omega) _)|(refine Below.setCell ?_ Zs _)))
def y9 (l:List Nat):ByteArray:=strOfNums (l.map fun(n:Nat)=>(n:Int))
def yV (x:Nat)(ov:Value)(k i:Nat)(s:ByteArray)(inp pol:Nat):Array Value:=#[M x,ov,I k,M i,.string s,I inp,I pol]
theorem mp{b:Nat}{l:List Nat}(h:A w b (l.map q8).toArray 5)(hl:l.length=8192):
 (convert 49 9 (L b 8192 8192)).run Tryz.prog w=.ok (.string (y9 l)) w:=by
 refine run_convert_bytes_arg w 49 5 Tryz.underlying49 Tryz.underlying5 b 0 8192 8192 (l.map fun(n:Nat)=>(n:Int)) (by simpa using hl) (fun i hi=>?_) 9 Tryz.underlying9;rw[Ng];have c:i<l.length:=Zo;refine zA h ?_;simp[Jj,Jd c,q8]
theorem zu{b:Nat}(h:w.grownBy w' (some b))(j:Nat)(v:Value):w.grownBy (w'.setCell ⟨b,j,none⟩ v) (some b):=
 ⟨h.os,h.tape,h.output,by have:=h.size;simpa[World.setCell] using this,fun q hq hn=>by rw[Below.heap_setCell _ _ _ _ (by simpa using hn)];exact h.block q hq hn⟩
structure FinS (K:MK) (m:Mach) (ov:Value) (b13 bt:Nat) (k i:Nat) (w':World):Prop where
 c13:w'.cell? ⟨b13,0,none⟩=some (.pointer (some ⟨K.pm,0,none⟩))
 c6:w'.cell? ⟨K.pm,6,none⟩=some (.slice (some ⟨K.rb,0,none⟩) 8192 8192)
 c10:w'.cell? ⟨K.pm,10,none⟩=some ov
 c11:w'.cell? ⟨K.pm,11,none⟩=some (.int .i64 (m.inputs:Int))
 c12:w'.cell? ⟨K.pm,12,none⟩=some (.int .i64 (m.polls:Int))
 t0:w'.cell? ⟨bt,0,none⟩=some (.int .i64 (k:Int))
 t1:w'.cell? ⟨bt,1,none⟩=some (.int .u16 (i:Int))
 ram:w'.heap[K.rb]? =some (.cells (m.ram.map q8).toArray 5 (0,0))
theorem FinS.set(h:FinS K m ov b13 bt k i w')(n1:b12≠b13)(n2:b12≠K.pm)(n3:b12≠bt)(n4:b12≠K.rb)(j:Nat)(v:Value):FinS K m ov b13 bt k i (w'.setCell ⟨b12,j,none⟩ v):=by
 have c:∀ {b q:Nat} {x:Value},b12≠b->T w' b q x->T (w'.setCell ⟨b12,j,none⟩ v) b q x:=fun hn hc=>by
  rw[Oo (w:=w') (Below.heap_setCell _ _ _ _ (by simpa using Ne.symm hn))];exact hc
 exact⟨c n1 h.c13,c n2 h.c6,c n2 h.c10,c n2 h.c11,c n2 h.c12,c n3 h.t0,c n3 h.t1,zR h.ram (by simpa using Ne.symm n4)⟩
theorem FinS.drew(h:FinS K m ov b13 bt k i w'):FinS K m ov b13 bt k i w'.drew:=⟨h.c13,h.c6,h.c10,h.c11,h.c12,h.t0,h.t1,h.ram⟩
theorem FinS.all{oa:Option Addr}{oc:Nat}(hrl:m.ram.length=8192)(h:FinS K m (.slice oa m.out.length oc) b13 bt k i w'):T w' b13 0 (F K.pm)/\T w' K.pm 6 (L K.rb 8192 8192)/\T w' K.pm 10 (.slice oa m.out.length oc)/\T w' K.pm 11 (I (m.inputs:Int))/\T w' K.pm 12 (I (m.polls:Int))/\T w' bt 0 (I k)/\T w' bt 1 (M i)/\(convert 49 9 (L K.rb 8192 8192)).run Tryz.prog w'=.ok (.string (y9 m.ram)) w':=⟨h.c13,h.c6,h.c10,h.c11,h.c12,h.t0,h.t1,mp h.ram hrl⟩
theorem pE(h:MachAt w K m ov)(y:A w b13 #[F K.pm] 208)(g:A w b12 #[M 0,U,I 0,M 0,.string {data:=#[]},I 0,I 0] 57)(k i x:Nat):
 O 148 #[.agg #[I k,M i],M x,F b13,F b12] w fun e w'=>
  e=.returned (.tuple #[])/\A w' b12 (yV x ov k i (y9 m.ram) m.inputs m.polls) 57/\w.grownBy w' (some b12):=by
 obtain⟨oa,oc,rfl⟩:=zG h.out;have hrl:=h.rlen;have n1:b12≠b13:=by rintro rfl;rw[g] at y;simp at y
 have n2:b12≠K.pm:=by rintro rfl;rw[h.blk] at g;simp[r9] at g
 have n4:b12≠K.rb:=by
  rintro rfl;rw[h.ram] at g;have:=congrArg (fun o=>match o with|some (Obj.cells _ t _)=>t|_=>0) g;simp at this
 have n3:b12≠w.heap.size:=by have:=lt_of_block g;omega
 have b:=(Below.refl w.heap.size w).alloc (Je _) (G #[I k,M i] 55);have hM:=h.keep b
 have l:FinS K m (.slice oa m.out.length oc) b13 w.heap.size k i (w.alloc (G #[I k,M i] 55)):=
  ⟨zA (zB y) Zs,hM.c6,hM.c10,hM.c11,hM.c12,zA (zI rfl) Zs,zA (zI rfl) Zs,hM.ram⟩
 have c:=zB (o:=G #[I k,M i] 55) g;have f8:w.grownBy (w.alloc (G #[I k,M i] 55)) (some b12):=Uo w _ _;have d0:T (w.alloc (G #[I k,M i] 55)) b12 0 (M 0):=zA c Zs;have f0:Y (w.alloc (G #[I k,M i] 55)) b12 0:=zE c;have d1:T (w.alloc (G #[I k,M i] 55)) b12 1 (U):=zA c Zs;have f1:Y (w.alloc (G #[I k,M i] 55)) b12 1:=zE c;have d2:T (w.alloc (G #[I k,M i] 55)) b12 2 (I 0):=zA c Zs;have f2:Y (w.alloc (G #[I k,M i] 55)) b12 2:=zE c;have d3:T (w.alloc (G #[I k,M i] 55)) b12 3 (M 0):=zA c Zs;have f3:Y (w.alloc (G #[I k,M i] 55)) b12 3:=zE c;have d4:T (w.alloc (G #[I k,M i] 55)) b12 4 (.string {data:=#[]}):=zA c Zs;have f4:Y (w.alloc (G #[I k,M i] 55)) b12 4:=zE c;have d5:T (w.alloc (G #[I k,M i] 55)) b12 5 (I 0):=zA c Zs;have f5:Y (w.alloc (G #[I k,M i] 55)) b12 5:=zE c;have d6:T (w.alloc (G #[I k,M i] 55)) b12 6 (I 0):=zA c Zs;have f6:Y (w.alloc (G #[I k,M i] 55)) b12 6:=zE c;have HG:=Ja f8;have HB:=Ja c;clear h hM b y g f8 c;go_enter Tryz.func148,Tryz.ntmps148;go_upto_region 1 with fail;generalize hW:w.alloc (G #[I k,M i] 55)=W at *;generalize w.heap.size=bt at *;have u:∀w',FinS K m (.slice oa m.out.length oc) b13 bt k i w'->(convert 49 9 (L K.rb 8192 8192)).run Tryz.prog w'=.ok (.string (y9 m.ram)) w':=fun w' hs=>mp hs.ram hrl
 have c1:=l.c13;have c2:=l.c6;have c3:=l.c10;have c4:=l.c11;have c5:=l.c12;have c6:=l.t0;have c7:=l.t1;have cc:=u _ l;have a5:∀(w':World) (j:Nat) (v:Value),FinS K m (.slice oa m.out.length oc) b13 bt k i w'->FinS K m (.slice oa m.out.length oc) b13 bt k i (w'.setCell ⟨b12,j,none⟩ v):=fun w' j v hs=>hs.set n1 n2 n3 n4 j v
 have d:=Ja a5;have i1:=Ja u;have HS:=Ja l;clear a5 u l hW;refine wp_region_noPanic ?_;refine wp_region_held_drew (S:=(fun w'=>T w' b13 0 (F K.pm)/\T w' K.pm 6 (L K.rb 8192 8192)/\T w' K.pm 10 (.slice oa m.out.length oc)/\T w' K.pm 11 (I (m.inputs:Int))/\T w' K.pm 12 (I (m.polls:Int))/\T w' bt 0 (I k)/\T w' bt 1 (M i)/\(convert 49 9 (L K.rb 8192 8192)).run Tryz.prog w'=.ok (.string (y9 m.ram)) w')) Zk (HS.out.drew.all hrl) (fun hHeld=>?_);have f9:=Ja HS.out.drew;have f:=Ja (show W.drew.heap[b12]? =_ from HB.out);have h7:=Ja (show w.grownBy W.drew (some b12) from⟨HG.out.os,HG.out.tape,HG.out.output,HG.out.size,HG.out.block⟩);clear c1 c2 c3 c4 c5 c6 c7 cc HS HB HG d0 f0 d1 f1 d2 f2 d3 f3 d4 f4 d5 f5 d6 f6;generalize W.drew=Wa at *;refine Th 0 ?_
 try simp only[Yp]
 refine Th 1 ?_
 try simp only[Yp]
 refine Th 2 ?_
 try simp only[Yp]
 refine Th 3 ?_
 try simp only[Yp]
 refine Th 4 ?_
 try simp only[Yp]
 refine Th 5 ?_
 try simp only[Yp]
 refine Th 6 ?_
 try simp only[Yp]
 refine Th 7 ?_
 try simp only[Yp]
 refine Th 8 ?_
 try simp only[Yp]
 refine Th 9 ?_
 try simp only[Yp]
 refine Th 10 ?_
 try simp only[Yp]
 refine Th 11 ?_
 try simp only[Yp]
 refine Th 12 ?_
 try simp only[Yp]
 refine Th 13 ?_
 try simp only[Yp]
 refine Th 14 ?_
 try simp only[Yp]
 refine Th 15 ?_
 try simp only[Yp]
 refine Th 16 ?_
 try simp only[Yp]
 refine Th 17 ?_
 try simp only[Yp]
 refine Th 18 ?_
 try simp only[Yp]
 have e0:=K0 f.out;have g0:Y Wa b12 0:=zE f.out;have e1:=K1 f.out;have g1:Y Wa b12 1:=zE f.out;have e2:=K2 f.out;have g2:Y Wa b12 2:=zE f.out;have e3:=K3 f.out;have g3:Y Wa b12 3:=zE f.out;have e4:=K4 f.out;have g4:Y Wa b12 4:=zE f.out;have e5:=K5 f.out;have g5:Y Wa b12 5:=zE f.out;have e6:=K6 f.out;have g6:Y Wa b12 6:=zE f.out;refine wpAnyH_ready (rs:=[19]) Zk Zs ?_;refine AllReadyH.cons (o:=_) rfl (fun K hK=>?_) ?_
 ·skip
  go_simp;have e8:=Ja (d.out ((((((Wa.setCell ⟨b12,0,none⟩ (M 0)).setCell ⟨b12,1,none⟩ (U)).setCell ⟨b12,2,none⟩ (I 0)).setCell ⟨b12,3,none⟩ (M 0)).setCell ⟨b12,4,none⟩ (.string {data:=#[]})).setCell ⟨b12,5,none⟩ (I 0)) 6 (I 0) (d.out (((((Wa.setCell ⟨b12,0,none⟩ (M 0)).setCell ⟨b12,1,none⟩ (U)).setCell ⟨b12,2,none⟩ (I 0)).setCell ⟨b12,3,none⟩ (M 0)).setCell ⟨b12,4,none⟩ (.string {data:=#[]})) 5 (I 0) (d.out ((((Wa.setCell ⟨b12,0,none⟩ (M 0)).setCell ⟨b12,1,none⟩ (U)).setCell ⟨b12,2,none⟩ (I 0)).setCell ⟨b12,3,none⟩ (M 0)) 4 (.string {data:=#[]}) (d.out (((Wa.setCell ⟨b12,0,none⟩ (M 0)).setCell ⟨b12,1,none⟩ (U)).setCell ⟨b12,2,none⟩ (I 0)) 3 (M 0) (d.out ((Wa.setCell ⟨b12,0,none⟩ (M 0)).setCell ⟨b12,1,none⟩ (U)) 2 (I 0) (d.out (Wa.setCell ⟨b12,0,none⟩ (M 0)) 1 (U) (d.out Wa 0 (M 0) f9.out)))))));have c8:A (Wa.setCell ⟨b12,0,none⟩ (M 0)) b12 #[M 0,U,I 0,M 0,.string {data:=#[]},I 0,I 0] 57:=by rw[zD f.out];rfl
  have c0:A ((Wa.setCell ⟨b12,0,none⟩ (M 0)).setCell ⟨b12,1,none⟩ (U)) b12 #[M 0,U,I 0,M 0,.string {data:=#[]},I 0,I 0] 57:=by rw[zD c8];rfl
  have b9:A (((Wa.setCell ⟨b12,0,none⟩ (M 0)).setCell ⟨b12,1,none⟩ (U)).setCell ⟨b12,2,none⟩ (I 0)) b12 #[M 0,U,I 0,M 0,.string {data:=#[]},I 0,I 0] 57:=by rw[zD c0];rfl
  have b8:A ((((Wa.setCell ⟨b12,0,none⟩ (M 0)).setCell ⟨b12,1,none⟩ (U)).setCell ⟨b12,2,none⟩ (I 0)).setCell ⟨b12,3,none⟩ (M 0)) b12 #[M 0,U,I 0,M 0,.string {data:=#[]},I 0,I 0] 57:=by rw[zD b9];rfl
  have b7:A (((((Wa.setCell ⟨b12,0,none⟩ (M 0)).setCell ⟨b12,1,none⟩ (U)).setCell ⟨b12,2,none⟩ (I 0)).setCell ⟨b12,3,none⟩ (M 0)).setCell ⟨b12,4,none⟩ (.string {data:=#[]})) b12 #[M 0,U,I 0,M 0,.string {data:=#[]},I 0,I 0] 57:=by rw[zD b8];rfl
  have b6:A ((((((Wa.setCell ⟨b12,0,none⟩ (M 0)).setCell ⟨b12,1,none⟩ (U)).setCell ⟨b12,2,none⟩ (I 0)).setCell ⟨b12,3,none⟩ (M 0)).setCell ⟨b12,4,none⟩ (.string {data:=#[]})).setCell ⟨b12,5,none⟩ (I 0)) b12 #[M 0,U,I 0,M 0,.string {data:=#[]},I 0,I 0] 57:=by rw[zD b7];rfl
  have b5:A (((((((Wa.setCell ⟨b12,0,none⟩ (M 0)).setCell ⟨b12,1,none⟩ (U)).setCell ⟨b12,2,none⟩ (I 0)).setCell ⟨b12,3,none⟩ (M 0)).setCell ⟨b12,4,none⟩ (.string {data:=#[]})).setCell ⟨b12,5,none⟩ (I 0)).setCell ⟨b12,6,none⟩ (I 0)) b12 #[M 0,U,I 0,M 0,.string {data:=#[]},I 0,I 0] 57:=by rw[zD b6];rfl
  have a4:=Ja b5;have h6:=Ja (zu (zu (zu (zu (zu (zu (zu h7.out 0 (M 0)) 1 (U)) 2 (I 0)) 3 (M 0)) 4 (.string {data:=#[]})) 5 (I 0)) 6 (I 0));refine hK.out _ _ (FinS.all hrl e8.out) (fun hHeld=>?_);clear hK K e0 g0 e1 g1 e2 g2 e3 g3 e4 g4 e5 g5 e6 g6 c8 c0 b9 b8 b7 b6 b5 f9 f h7
  try simp only[Yp]
  generalize (((((((Wa.setCell ⟨b12,0,none⟩ (M 0)).setCell ⟨b12,1,none⟩ (U)).setCell ⟨b12,2,none⟩ (I 0)).setCell ⟨b12,3,none⟩ (M 0)).setCell ⟨b12,4,none⟩ (.string {data:=#[]})).setCell ⟨b12,5,none⟩ (I 0)).setCell ⟨b12,6,none⟩ (I 0))=Wb at *;refine Th 20 ?_
  try simp only[Yp]
  have e0:=K0 a4.out;have g0:Y Wb b12 0:=zE a4.out;refine wpAnyH_ready (rs:=[21]) Zk Zs ?_;refine AllReadyH.cons (o:=_) rfl (fun K hK=>?_) ?_
  ·skip
   go_simp;have e7:=Ja (d.out Wb 0 (M x) e8.out);have b4:A (Wb.setCell ⟨b12,0,none⟩ (M x)) b12 #[M x,U,I 0,M 0,.string {data:=#[]},I 0,I 0] 57:=by rw[zD a4.out];rfl
   have a3:=Ja b4;have h5:=Ja (zu h6.out 0 (M x));refine hK.out _ _ (FinS.all hrl e7.out) (fun hHeld=>?_);clear hK K e0 g0 b4 e8 a4 h6
   try simp only[Yp]
   generalize (Wb.setCell ⟨b12,0,none⟩ (M x))=Wc at *;refine Th 22 ?_
   try simp only[Yp]
   have e1:=K1 a3.out;have g1:Y Wc b12 1:=zE a3.out;refine wpAnyH_ready (rs:=[23]) Zk Zs ?_;refine AllReadyH.cons (o:=_) rfl (fun K hK=>?_) ?_
   ·skip
    go_simp;have d9:=Ja (d.out Wc 1 (.slice oa m.out.length oc) e7.out);have b3:A (Wc.setCell ⟨b12,1,none⟩ (.slice oa m.out.length oc)) b12 #[M x,.slice oa m.out.length oc,I 0,M 0,.string {data:=#[]},I 0,I 0] 57:=by rw[zD a3.out];rfl
    have q:=Ja b3;have h4:=Ja (zu h5.out 1 (.slice oa m.out.length oc));refine hK.out _ _ (FinS.all hrl d9.out) (fun hHeld=>?_);clear hK K e1 g1 b3 e7 a3 h5
    try simp only[Yp]
    generalize (Wc.setCell ⟨b12,1,none⟩ (.slice oa m.out.length oc))=Wd at *;refine Th 24 ?_
    try simp only[Yp]
    have e2:=K2 q.out;have g2:Y Wd b12 2:=zE q.out;have e3:=K3 q.out;have g3:Y Wd b12 3:=zE q.out;refine wpAnyH_ready (rs:=[25]) Zk Zs ?_;refine AllReadyH.cons (o:=_) rfl (fun K hK=>?_) ?_
    ·skip
     go_simp;have d8:=Ja (d.out (Wd.setCell ⟨b12,2,none⟩ (I k)) 3 (M i) (d.out Wd 2 (I k) d9.out));have b2:A (Wd.setCell ⟨b12,2,none⟩ (I k)) b12 #[M x,.slice oa m.out.length oc,I k,M 0,.string {data:=#[]},I 0,I 0] 57:=by rw[zD q.out];rfl
     have b1:A ((Wd.setCell ⟨b12,2,none⟩ (I k)).setCell ⟨b12,3,none⟩ (M i)) b12 #[M x,.slice oa m.out.length oc,I k,M i,.string {data:=#[]},I 0,I 0] 57:=by rw[zD b2];rfl
     have a2:=Ja b1;have g9:=Ja (zu (zu h4.out 2 (I k)) 3 (M i));refine hK.out _ _ (FinS.all hrl d8.out) (fun hHeld=>?_);clear hK K e2 g2 e3 g3 b2 b1 d9 q h4
     try simp only[Yp]
     generalize ((Wd.setCell ⟨b12,2,none⟩ (I k)).setCell ⟨b12,3,none⟩ (M i))=We at *;refine Th 26 ?_
     try simp only[Yp]
     have e4:=K4 a2.out;have g4:Y We b12 4:=zE a2.out;refine wpAnyH_ready (rs:=[27]) Zk Zs ?_;refine AllReadyH.cons (o:=_) rfl (fun K hK=>?_) ?_
     ·skip
      go_simp;have d7:=Ja (d.out We 4 (.string (y9 m.ram)) d8.out);have b0:A (We.setCell ⟨b12,4,none⟩ (.string (y9 m.ram))) b12 #[M x,.slice oa m.out.length oc,I k,M i,.string (y9 m.ram),I 0,I 0] 57:=by rw[zD a2.out];rfl
      have a1:=Ja b0;have g8:=Ja (zu g9.out 4 (.string (y9 m.ram)));refine hK.out _ _ (FinS.all hrl d7.out) (fun hHeld=>?_);clear hK K e4 g4 b0 d8 a2 g9
      try simp only[Yp]
      generalize (We.setCell ⟨b12,4,none⟩ (.string (y9 m.ram)))=Wf at *;refine Th 28 ?_
      try simp only[Yp]
      have e5:=K5 a1.out;have g5:Y Wf b12 5:=zE a1.out;refine wpAnyH_ready (rs:=[29]) Zk Zs ?_;refine AllReadyH.cons (o:=_) rfl (fun K hK=>?_) ?_
      ·skip
       go_simp;have c9:=Ja (d.out Wf 5 (I (m.inputs:Int)) d7.out);have a7:A (Wf.setCell ⟨b12,5,none⟩ (I (m.inputs:Int))) b12 #[M x,.slice oa m.out.length oc,I k,M i,.string (y9 m.ram),I (m.inputs:Int),I 0] 57:=by rw[zD a1.out];rfl
       have a0:=Ja a7;have g7:=Ja (zu g8.out 5 (I (m.inputs:Int)));refine hK.out _ _ (FinS.all hrl c9.out) (fun hHeld=>?_);clear hK K e5 g5 a7 d7 a1 g8
       try simp only[Yp]
       generalize (Wf.setCell ⟨b12,5,none⟩ (I (m.inputs:Int)))=Wg at *;refine Th 30 ?_
       try simp only[Yp]
       have e6:=K6 a0.out;have g6:Y Wg b12 6:=zE a0.out;refine wpAnyH_ready (rs:=[31]) Zk Zs ?_;refine AllReadyH.cons (o:=_) rfl (fun K hK=>?_) ?_
       ·skip
        go_simp;have h8:=Ja (d.out Wg 6 (I (m.polls:Int)) c9.out);have a6:A (Wg.setCell ⟨b12,6,none⟩ (I (m.polls:Int))) b12 #[M x,.slice oa m.out.length oc,I k,M i,.string (y9 m.ram),I (m.inputs:Int),I (m.polls:Int)] 57:=by rw[zD a0.out];rfl
        have i0:=Ja a6;have h9:=Ja (zu g7.out 6 (I (m.polls:Int)));refine hK.out _ _ (FinS.all hrl h8.out) (fun hHeld=>?_);clear hK K e6 g6 a6 c9 a0 g7
        try simp only[Yp]
        generalize (Wg.setCell ⟨b12,6,none⟩ (I (m.polls:Int)))=Wh at *;refine wpAnyH_done Zk (NoPanic.normal ?_) _;go_wp2
        go_end0
        exact⟨rfl,i0.out,h9.out⟩
       ·exact AllReadyH.nil
      ·exact AllReadyH.nil
     ·exact AllReadyH.nil
    ·exact AllReadyH.nil
   ·exact AllReadyH.nil
  ·exact AllReadyH.nil
 ·exact AllReadyH.nil
open Go.RowKit Go.Maps
theorem px (w:World):(zeroValue 3).run Tryz.prog w=.ok (I 0) w:=by kernel_rfl
def wA (w:World)(b n:Nat)(g:Int->Option Int):Prop:=
 ∃D:DataW Unit,w.ownsMap Tryz.prog 3 (plainElem Tryz.prog 3) b n D/\∀x,I64 x->D.atKey (.int .i64 x) (.lit (.int .i64 0))=.lit (.int .i64 ((g x).getD 0))/\Maps.has D (.int .i64 x)=(g x).isSome
theorem wA.made (w:World):wA (w.alloc (.map #[] 0)) w.heap.size 0 (fun _=>none):=⟨_,World.ownsMap_made _ _ _ _,fun _ _=>⟨rfl,rfl⟩⟩
theorem wA.blk{b n:Nat}{g:Int->Option Int}(h:wA w b n g):∃es clock,w.heap[b]? =some (.map es clock):=by
 obtain⟨D,⟨es,clock,h1,h2⟩,h3⟩:=h;exact⟨es,clock,h1⟩
theorem wA.same{b n:Nat}{g:Int->Option Int}(h:wA w b n g)(hb:w'.heap[b]? =w.heap[b]?):wA w' b n g:=by
 obtain⟨D,⟨es,c,h1,h2⟩,h3⟩:=h;exact⟨D,⟨es,c,hb.trans h1,h2⟩,h3⟩
theorem wA.look{b n:Nat}{g:Int->Option Int}(h:wA w b n g)(i:I64 x):
 (Instr.lookup 171 (.map (some b)) (.int .i64 x) false).run Tryz.prog w=.ok (.int .i64 ((g x).getD 0)) w:=by
 obtain⟨D,h,hf⟩:=h;obtain⟨c,f,d,j⟩:=h.lookup_int xH Tryz.underlying171 Tryz.underlying3 (px w) (vB i);rw[(hf x i).1] at d;simp only[DataW.lit.injEq,Lit.int.injEq,true_and] at d;subst d;exact f
theorem wA.lookOk{b n:Nat}{g:Int->Option Int}(h:wA w b n g)(f:I64 x):
 (Instr.lookup 171 (.map (some b)) (.int .i64 x) true).run Tryz.prog w=.ok (.tuple #[.int .i64 ((g x).getD 0),.bool (g x).isSome]) w:=by
 obtain⟨D,h,hf⟩:=h;obtain⟨v,ps,d,hv⟩:=h.look_ok xH Tryz.underlying171 (px w) (plainElem_int Tryz.underlying3 Zd) (vB f);rw[(hf x f).1] at hv;obtain⟨c,rfl,i,_⟩:=plainElem_int_inv Tryz.underlying3 hv;simp only[Prod.mk.injEq,DataW.lit.injEq,Lit.int.injEq,true_and] at i;rw[(hf x f).2,<-i.1] at d;exact d
def lS (g:Int->Option Int)(x v:Int):Int->Option Int:=fun y=>if y=x then some v else g y
theorem rec_idle (p:Addr)(w:World):
 CallsD Tryz.prog 149 #[.pointer (some p)] .returning w fun e u' w'=>e=.returned (.tuple #[])/\u'=.returning/\w=w':=by
 refine callsD_of_wpS Tryz.func149 rfl fun c₀ cs hu=>?_
 apply wpS_seq;apply wpS_region;simp[wpOpsS,go_sem,recoverD,hu,Tryz.ntmps149,Exit.thenS];apply wpS_seq;apply wpS_seq;apply wpS_region;simp[wpOpsS,go_sem,recoverD,hu,Tryz.ntmps149,Exit.thenS];refine wpS_cond (t:=true) (by simp[Act.eval,Array.replicate]) ?_;simp only[if_true];refine wpS_of_wp (wp_ret ?_);cases c₀
 simp_all [Exit.thenS,bodyPostS,results,Tryz.results149]
theorem kA (v:Value)(w:World):(Instr.typeAssert (.iface 213 v) 20 213 true).run Tryz.prog w=.ok (.tuple #[v,.bool true]) w:=by kernel_rfl
theorem pi(h:MachAt w K m ov){d:Nat}(o:A w b13 #[F K.pm] 208)(u:A w b12 #[M 0,U,I 0,M 0,.string {data:=#[]},I 0,I 0] 57)
 (l:T w d 0 (.func (.func 148) #[] #[F b13,F b12])) (k i:Nat) (g:List PanicEntry):
 CallsD Tryz.prog 149 #[F d] (.panicking (oE k i::g)) w fun e u' w'=>
  e=.returned (.tuple #[])/\u'=.panicking ({oE k i with recovered:=true }::g)/\A w' b12 (yV 0 ov k i (y9 m.ram) m.inputs m.polls) 57/\w.grownBy w' (some b12):=by
 refine callsD_of_wpS Tryz.func149 rfl fun c₀ cs f=>?_
 unfold oE at f ⊢;apply wpS_seq;apply wpS_region;simp[wpOpsS,go_sem,recoverD,f,Tryz.ntmps149,Exit.thenS];apply wpS_seq;apply wpS_seq;apply wpS_region;simp[wpOpsS,go_sem,recoverD,f,Tryz.ntmps149,Exit.thenS];refine wpS_cond (t:=false) (by simp[Act.eval,Array.replicate]) ?_;simp only[Bool.false_eq_true,if_false];refine wpS_of_wp (wp_skip ?_);simp only[Exit.thenS];refine wpS_of_wp ?_;have a1:=kA (.agg #[I k,M i]);have HH:=Ja h;have HU:=Ja f;have H2:=Ja (Jb o u);clear h f o u
 have e:(#[Value.pointer (some ⟨d,0,none⟩)]++(((((Array.replicate 18 undef).setIfInBounds 3 (Value.iface 213 (.agg #[I k,M i]))).setIfInBounds 0 (Value.iface 213 (.agg #[I k,M i]))).setIfInBounds 4 (Value.iface 213 (.agg #[I k,M i]))).setIfInBounds 5 (Value.bool false)):Array Value)=#[.pointer (some ⟨d,0,none⟩),.iface 213 (.agg #[I k,M i]),undef,undef,.iface 213 (.agg #[I k,M i]),.iface 213 (.agg #[I k,M i]),.bool false,undef,undef,undef,undef,undef,undef,undef,undef,undef,undef,undef,undef]:=by
  simp[Array.replicate,List.replicate]
 rw[e];clear e;have x:=Jw w _ l;have a0:(w.alloc (G #[I k,M i] 213)).cell? ⟨d,0,none⟩=_:=(Oo (w:=w) (Below.heap_alloc _ _ _ x)).trans l;have y:=HH.out.keep ((Below.refl _ _).alloc (Je _) (G #[I k,M i] 213));have hF:=Ja (pE y (b12:=b12) (b13:=b13) (zB H2.out.1) (zB H2.out.2) k i 0);clear y;go_wp2_with (go_at_call 148;go_must (refine hF.out.mono ?_;rintro e w4 ⟨rfl,h5,j⟩))
 have hg:w.grownBy w4 (some b12):=⟨j.os,j.tape,j.output,Jn Zs j.size,fun q hq hn=>(j.block q Zt hn).trans (Below.heap_alloc _ _ _ hq)⟩
 have f:=HU.out;cases c₀;simp only at f;simp[bodyPostS,results,Tryz.results149,h5,hg]
def afS (l:List ByteArray):Bool:=l.all fun s=>decide (s.size=4096)
def lF (o:IObj)(l:List IObj):Bool:=l.all fun x=>!uK o x
def lm (nb:Nat)(l:List IObj)(i:Nat):Bool:=match l[i]? with|some o=>sW nb o && lF o (l.take i)|none=>true
def ig (nb:Nat)(l:List IObj):Bool:=(List.range l.length).all (lm nb l)
def wB (p:IProg):Bool:=afS p.banks && ig p.banks.length p.data
theorem xX{α:Type}(f:α->Bool){l:List α}{x:α}(h:l[k]? =some x):(l.take (k+1)).all f=((l.take k).all f && f x):=by
 rw[Nh,h,List.all_append];simp
theorem aaN{α:Type}(f:α->Bool){l:List α}{x:α}(h:l[k]? =some x)(hf:f x=false):l.all f=false:=by
 rw[Um];exact⟨x,Ji h,by rw[hf];simp⟩
theorem mO{nb:Nat}{l:List IObj}(hi:i<l.length)(h:lm nb l i=false):ig nb l=false:=by
 unfold ig;rw[Um];exact⟨i,Ol.2 hi,by rw[h];simp⟩
def mQ (nb:Nat)(l:List IObj)(i:Nat):Bool:=(List.range i).all (lm nb l)
theorem nU (nb:Nat)(l:List IObj)(i:Nat):mQ nb l (i+1)=(mQ nb l i && lm nb l i):=by unfold mQ;rw[List.range_succ,List.all_append];simp
theorem kN{V:PV}{p:IProg}(hp:ProgIn w w.heap.size V p):
 O 116 #[yH V p] w fun e w'=>e=.returned (.bool (wB p))/\Q w w':=by
 obtain⟨Vf,Va,Vd,Vb⟩:=V;obtain⟨f1,f2,e1,_,_⟩:=hp.funcs.form;obtain⟨a1,a2,e2,_,_⟩:=hp.args.form;have c7:=hp.data;have c8:=hp.banks;obtain⟨d1,d2,e3,i2,l0⟩:=hp.data.form;obtain⟨b1,b2,e4,l6,l3⟩:=hp.banks.form;simp only at e1 e2 e3 e4 c7 c8;subst e1 e2 e3 e4;have HP:=Ja hp;have h5:=Ja c7;have k2:=Ja c8;unfold yH;simp only;have l1:p.data.length<=d2:=i2;have l4:p.banks.length<=9223372036854775807:=Zo;clear hp c7 c8;go_enter Tryz.func116,Tryz.ntmps116;go_upto_region 1 with fail;have g7:Q w (w.alloc (G (Z p f1 f2 a1 a2 d1 d2 b1 b2) 29)):=(Below.refl _ _).alloc (Je _) _;have b7:=zI (W:=w) (o:=G (Z p f1 f2 a1 a2 d1 d2 b1 b2) 29) rfl;generalize k1:w.alloc (G (Z p f1 f2 a1 a2 d1 d2 b1 b2) 29)=W0 at *;have m:=Ja g7;have c0:=Ja b7;have p5:=K5 b7;have p4:=K4 b7;clear k1 g7 b7;go_wp2
 go_loopw [12] (fun kv wx=>∃k:Nat,k<=p.banks.length/\kv=I k/\wx=W0/\Hid ((p.banks.take k).all (fun s=>decide (s.size=4096))=true)) (fun kv _=>p.banks.length-(intOf kv).toNat)
 case atStart=>exact⟨0,Jt _,rfl,rfl,by rfl⟩
 case round=>
  obtain⟨k,hk,rfl,rfl,HK⟩:=hrel;generalize j2:wr=W0 at *;clear j2
  by_cases d0:k<p.banks.length
  ·have h9:(k:Int)<p.banks.length:=Zo;have h7:=Ja d0;obtain⟨s,hs⟩:∃s,p.banks[k]? =some s:=⟨_,Jd d0⟩
   obtain⟨b,o,rfl,hb,hc,k9⟩:=k2.out.get hs;rw[Nk] at hc;have cs:=zV m.out hb hc;have a4:=xX (fun s:ByteArray=>decide (s.size=4096)) hs;have a5:=fun h=>aaN (fun s:ByteArray=>decide (s.size=4096)) hs h
   have HT:=Ja (Jb a4 a5);clear hs hc hb a4 a5 d0
   by_cases hq:s.size=4096
   ·have t1:((s.size:Int) !=4096)=false:=by rw[bne_eq_false_iff_eq];omega
    have HQ:=Ja hq;clear hq;go_wp2;go_roundw
    case rel=>exact⟨k+1,h7.out,by go_num,by trivial,Ja (by rw[HT.out.1,HK.out];simp[HQ.out])⟩
    case measure=>have:=h7.out;simp[intOf];omega
   ·have t1:((s.size:Int) !=4096)=true:=by rw[bne_iff_ne];omega
    have HQ:=Ja hq;clear hq;go_wp2;go_ret;refine⟨rH ?_,m.out⟩;have i1:afS p.banks=false:=HT.out.2 (by simp[HQ.out]);unfold wB;rw[i1];rfl
  ·obtain rfl:k=p.banks.length:=by omega
   have h9:¬(p.banks.length:Int)<p.banks.length:=Zo;have g5:afS p.banks=true:=by have:=HK.out;rw[Nl] at this;exact this
   have f9:wB p=ig p.banks.length p.data:=by unfold wB;rw[g5];rfl
   have d5:=Ja f9;clear g5 f9 HK;go_wp2
   go_loopw [23] (fun iv wx=>∃i:Nat,i<=p.data.length/\iv=I i/\Hid (Q W0 wx/\mQ p.banks.length p.data i=true)) (fun iv _=>p.data.length-(intOf iv).toNat)
   case atStart=>exact⟨0,Jt _,rfl,Below.refl _ _,by rfl⟩
   case round=>
    obtain⟨i,hi,rfl,HI⟩:=hrel
    by_cases u:i<p.data.length
    ·skip
     have e6:(i:Int)<p.data.length:=Zo;have d9:=Ja u;obtain⟨o,ho⟩:∃o,p.data[i]? =some o:=⟨_,Jd u⟩
     obtain⟨b,oo,rfl,hb,b0,a7,a6,g2,g3,g0⟩:=h5.out.get ho;have c:Q w wr:=m.out.trans (HI.out.1.mono m.out.size);have e0:=zV c hb b0;have e1:=zV c hb a7;have e2:=zV c hb a6;have x4:=zA (i:=4) (v:=.slice (some ⟨b,oo,none⟩) p.data.length d2) (zH HI.out.1 c0.out (lt_of_block c0.out)) Zs;have d3:=zH HI.out.1 c0.out (lt_of_block c0.out);have h6:=Ja (show I64 o.bank/\o.addr<65536/\o.size<65536 from⟨g2,g3,g0⟩);have l7:=Ja c;have HO:=Ja (Jb ho hb);have g1:lm p.banks.length p.data i=(sW p.banks.length o && lF o (p.data.take i)):=by unfold lm;rw[ho]
     have d7:=Ja g1;have g4:=fun h=>mO (nb:=p.banks.length) u h
     have h8:=Ja g4;clear ho hb b0 a7 a6 g2 g3 g0 u c g1 g4 p5 p4;go_upto_region 10 with fail;have a3:=zI (W:=wr) (o:=G #[I o.bank,M (o.addr:Int),M (o.size:Int)] 89) rfl;have f:=zB (o:=G #[I o.bank,M (o.addr:Int),M (o.size:Int)] 89) d3;have c2:=HI.out.1.alloc (HI.out.1.size) (G #[I o.bank,M (o.addr:Int),M (o.size:Int)] 89);have l2:W0.heap.size<=wr.heap.size:=HI.out.1.size;generalize k0:wr.alloc (G #[I o.bank,M (o.addr:Int),M (o.size:Int)] 89)=W1 at *;generalize wr.heap.size=b6 at *;have f0:=K0 a3;have e8:=K1 a3;have e7:=K2 a3;have y0:=K0 f;have y1:=K1 f;have y2:=K2 f;have y3:=K3 f;have y4:=K4 f;have y5:=K5 f;have l:=Ja (Jb c2 (m.out.trans (c2.mono m.out.size)));have HZ:=Ja (Jb a3 f);have a0:=kL ((HP.out.below l.out.2).mono l.out.2.size) o h6.out;unfold yH iz at a0;simp only at a0;have b4:=Ja a0;clear k0 a3 f c2 a0 d3 e0 e1 e2 x4;obtain⟨q1,c5⟩:∃q,sW p.banks.length o=q:=⟨_,rfl⟩
     rw[c5] at b4;have h4:=Ja c5;clear c5
     cases q1 with
     |false=>
      go_wp2_with (go_at_call 135;go_must (refine b4.out.mono ?_;rintro e w2 ⟨rfl,g⟩))
      go_ret;refine⟨rH ?_,l.out.2.trans (g.mono l.out.2.size)⟩;rw[d5.out]
      exact(h8.out (by rw[d7.out,h4.out];rfl)).symm
     |true=>
      go_upto_region 12 with(go_at_call 135;go_must (refine b4.out.mono ?_;rintro e w2 ⟨rfl,g⟩))
      have v4:=zA (i:=4) (v:=.slice (some ⟨b,oo,none⟩) p.data.length d2) (zH g HZ.out.2 (lt_of_block HZ.out.2)) Zs;have g8:=Ja (Jb (zH g HZ.out.1 (lt_of_block HZ.out.1)) g);have c3:=l.out.2.trans (g.mono l.out.2.size);have d:=Ja (Jb c3 (l.out.1.trans (g.mono l.out.1.size)));have k3:i<=d2:=Zo;clear f0 e8 e7 y0 y1 y2 y3 y4 y5 g c3;go_wp2
      go_loopw [37] (fun jv wx=>∃j:Nat,j<=i/\jv=I j/\Hid (Q w2 wx/\lF o (p.data.take j)=true)) (fun jv _=>i-(intOf jv).toNat)
      case atStart=>exact⟨0,Jt _,rfl,Below.refl _ _,by rfl⟩
      case round=>
       obtain⟨j,hj,rfl,HJ⟩:=hrel
       by_cases b3:j<i
       ·have e5:(j:Int)<i:=Zo;have d8:=Ja b3;obtain⟨x,hx⟩:∃x,p.data[j]? =some x:=⟨_,Jd Zo⟩
        obtain⟨b',o',e',b9,b0,a7,a6,f5,f6,f4⟩:=h5.out.get hx;cases e';have c:=d.out.1.trans (HJ.out.1.mono d.out.1.size);have e0:=zV c b9 b0;have e1:=zV c b9 a7;have e2:=zV c b9 a6;have f3:=zH HJ.out.1 g8.out.1 (lt_of_block g8.out.1);have i0:=Ja (show I64 x.bank/\x.addr<65536/\x.size<65536 from⟨f5,f6,f4⟩);have a4:=xX (fun y=>!uK o y) hx;have f8:(p.data.take i)[j]? =some x:=by rw[Ug,if_pos b3];exact hx
        have a5:=fun h=>aaN (fun y=>!uK o y) f8 h
        have HT:=Ja (Jb a4 a5);have k4:=Ja c;clear hx b9 b0 a7 a6 f5 f6 f4 a4 a5 f8 b3 c;go_upto_region 15 with fail;have b5:=zI (W:=wr) (o:=G #[I x.bank,M (x.addr:Int),M (x.size:Int)] 89) rfl;have t:=zB (o:=G #[I x.bank,M (x.addr:Int),M (x.size:Int)] 89) f3;have g6:=HJ.out.1.alloc HJ.out.1.size (G #[I x.bank,M (x.addr:Int),M (x.size:Int)] 89);generalize j9:wr.alloc (G #[I x.bank,M (x.addr:Int),M (x.size:Int)] 89)=W8 at *;generalize wr.heap.size=b8 at *;have f0:=K0 t;have e8:=K1 t;have e7:=K2 t;have k7:=K0 b5;have k6:=K1 b5;have k5:=K2 b5;have c9:=nT W8 o x h6.out i0.out;unfold iz at c9;have d6:=Ja c9;have c1:=Ja g6;clear j9 b5 t f3 g6 c9 e0 e1 e2;obtain⟨q2,c4⟩:∃q,uK o x=q:=⟨_,rfl⟩
        rw[c4] at d6;have g9:=Ja c4;clear c4
        cases q2 with
        |true=>
         go_wp2_with (go_at_call 136;go_must (refine d6.out.mono ?_;rintro e w3 ⟨rfl,d4⟩))
         go_ret;have j1:=c1.out.trans (d4.mono c1.out.size);refine⟨rH ?_,d.out.1.trans (j1.mono d.out.1.size)⟩;rw[d5.out]
         exact(h8.out (by rw[d7.out];unfold lF;rw[HT.out.2 (by rw[g9.out];rfl),Uh])).symm
        |false=>
         go_wp2_with (go_at_call 136;go_must (refine d6.out.mono ?_;rintro e w3 ⟨rfl,d4⟩))
         go_roundw
         case rel=>exact⟨j+1,d8.out,by go_num,Ja ⟨c1.out.trans (d4.mono c1.out.size),by unfold lF;rw[HT.out.1];have:=HJ.out.2;unfold lF at this;rw[this,g9.out];rfl⟩⟩
         case measure=>have:=d8.out;simp[intOf];omega
       ·obtain rfl:j=i:=by omega
        have e5:¬(j:Int)<j:=Zo;go_wp2;go_roundw
        case rel=>
         refine⟨j+1,d9.out,by go_num,Ja ⟨d.out.2.trans (HJ.out.1.mono d.out.2.size),?_⟩⟩;rw[nU,HI.out.2,d7.out,h4.out,HJ.out.2];rfl
        case measure=>have:=d9.out;simp[intOf];omega
    ·obtain rfl:i=p.data.length:=by omega
     have e6:¬(p.data.length:Int)<p.data.length:=Zo;go_wp2;go_ret;refine⟨rH ?_,m.out.trans (HI.out.1.mono m.out.size)⟩;rw[d5.out];exact HI.out.2.symm
def tX (n:Int):Bool:=decide (0<=n) && decide (n<=8)
def sR (p:IProg):Int:=
 if 2000<p.funcs.length∨512<p.data.length∨64<p.banks.length then 2
 else if p.args.length≠p.funcs.length then 1
 else if p.args.all tX=false then 1
 else if yw p p.entry=false∨(p.handler≠-1/\yw p p.handler=false) then 1
 else if wB p=false then 37
 else 0
def m9 (w:World)(x:Int)(e:Ending)(w':World):Prop:=e=.returned (I x)/\Q w w'
theorem kB{V:PV}{p:IProg}(hp:ProgIn w w.heap.size V p):O 68 #[yH V p] w (m9 w (sR p)):=by
 have i:∀(W:World),Q w W->p.args.length=p.funcs.length->∀f,O 115 #[yH V p,I f] W fun e w'=>e=.returned (.bool (yw p f))/\Q W w':=fun W hb hl f=>kR ((hp.below hb).mono hb.size) hl f
 have j:∀(W:World),Q w W->O 116 #[yH V p] W fun e w'=>e=.returned (.bool (wB p))/\Q W w':=fun W hb=>kN ((hp.below hb).mono hb.size)
 obtain⟨Vf,Va,Vd,Vb⟩:=V;obtain⟨f1,f2,e1,_,_⟩:=hp.funcs.form;have c0:=hp.args;obtain⟨a1,a2,e2,_,_⟩:=hp.args.form;obtain⟨d1,d2,e3,_,_⟩:=hp.data.form;obtain⟨b1,b2,e4,_,_⟩:=hp.banks.form;simp only at e1 e2 e3 e4 c0;subst e1 e2 e3 e4;unfold yH at i j ⊢;simp only at i j ⊢;have e8:p.args.length<=9223372036854775807:=Zo;have e6:=Ja c0;have d3:=Ja i;have d6:=Ja j;have b3:Q w (w.alloc (G (Z p f1 f2 a1 a2 d1 d2 b1 b2) 29)):=(Below.refl _ _).alloc (Je _) _;have l:=zI (W:=w) (o:=G (Z p f1 f2 a1 a2 d1 d2 b1 b2) 29) rfl;obtain⟨q1,h1⟩:∃q,decide (2000<p.funcs.length)=q:=⟨_,rfl⟩
 obtain⟨q2,h2⟩:∃q,decide (512<p.data.length)=q:=⟨_,rfl⟩
 obtain⟨q3,h3⟩:∃q,decide (64<p.banks.length)=q:=⟨_,rfl⟩
 have f4:decide ((2000:Int)<(p.funcs.length:Int))=q1:=zZ h1 Zo;have f3:decide ((512:Int)<(p.data.length:Int))=q2:=zZ h2 Zo;have f0:decide ((64:Int)<(p.banks.length:Int))=q3:=zZ h3 Zo;have HQ:=Ja (Jb h1 (Jb h2 h3));clear hp c0 i j
 by_cases u:q1=true∨q2=true∨q3=true
 ·have hh:sR p=2:=by
   unfold sR;rw[if_pos];rcases u with e|e|e
   ·exact .inl (of_decide_eq_true (HQ.out.1.trans e))
   ·exact .inr (.inl (of_decide_eq_true (HQ.out.2.1.trans e)))
   ·exact .inr (.inr (of_decide_eq_true (HQ.out.2.2.trans e)))
  rw[hh];have HB:=Ja u;clear hh u l;cases q1<;>cases q2<;>cases q3
  all_goals first
   |(exfalso;have:=HB.out;simp at this;done)
   |(go_enter Tryz.func68,Tryz.ntmps68
     go_wp2;go_ret
     exact⟨rfl,b3⟩)
 ·obtain⟨e1,e2,e3⟩:q1=false/\q2=false/\q3=false:=by
   cases q1<;>cases q2<;>cases q3<;>simp at u ⊢
  subst e1 e2 e3
  have c8:sR p=if p.args.length≠p.funcs.length then 1 else if p.args.all tX=false then 1 else if yw p p.entry=false∨(p.handler≠-1/\yw p p.handler=false) then 1 else if wB p=false then 37 else 0:=by
   unfold sR;rw[if_neg];rintro(e|e|e)
   ·exact absurd e (of_decide_eq_false HQ.out.1)
   ·exact absurd e (of_decide_eq_false HQ.out.2.1)
   ·exact absurd e (of_decide_eq_false HQ.out.2.2)
  rw[c8];clear c8 u
  by_cases hl:p.args.length=p.funcs.length
  ·rw[if_neg (fun h=>h hl)];generalize b6:(if p.args.all tX=false then(1:Int) else if yw p p.entry=false∨(p.handler≠-1/\yw p p.handler=false) then 1 else if wB p=false then 37 else 0)=res;have c3:=Ja b6;clear b6;have t1:((p.args.length:Int) !=(p.funcs.length:Int))=false:=by rw[bne_eq_false_iff_eq];omega
   have HL:=Ja hl;clear hl;go_enter Tryz.func68,Tryz.ntmps68;go_upto_region 5 with fail;generalize e5:w.alloc (G (Z p f1 f2 a1 a2 d1 d2 b1 b2) 29)=W0 at *;have g:=Ja b3;have a0:=Ja l;have y0:=K0 l;have y1:=K1 l;have y2:=K2 l;have y3:=K3 l;have y4:=K4 l;have y5:=K5 l;clear e5 b3 l;go_wp2
   go_loopw [31] (fun kv wx=>∃k:Nat,k<=p.args.length/\kv=I k/\wx=W0/\Hid ((p.args.take k).all tX=true)) (fun kv _=>p.args.length-(intOf kv).toNat)
   case atStart=>exact⟨0,Jt _,rfl,rfl,by rfl⟩
   case round=>
    obtain⟨k,hk,rfl,rfl,HK⟩:=hrel;generalize e0:wr=W0 at *;clear e0
    by_cases c1:k<p.args.length
    ·have d8:(k:Int)<p.args.length:=Zo;have d7:=Ja c1;obtain⟨n,hn⟩:∃n,p.args[k]? =some n:=⟨_,Jd c1⟩
     obtain⟨b,o,rfl,hb,hc,e7⟩:=e6.out.get hn;rw[Nk] at hc;have cn:=zV g.out hb hc;have HT:=Ja (Jb (xX tX hn) (fun h=>aaN tX hn h));obtain⟨q1,g1⟩:∃q,decide (0<=n)=q:=⟨_,rfl⟩
     obtain⟨q2,g2⟩:∃q,decide (n<=8)=q:=⟨_,rfl⟩
     have d0:decide (n<0)=!q1:=by rw[<-g1];by_cases h:0<=n<;>simp[h]<;>omega
     have c9:decide (8<n)=!q2:=by rw[<-g2];by_cases h:n<=8<;>simp[h]<;>omega
     have HA:=Ja (show tX n=(q1 && q2) by unfold tX;rw[g1,g2]);clear hn hc hb c1 g1 g2;cases q1<;>cases q2
     case true.true=>
      simp only[Bool.not_true] at d0 c9;go_wp2;go_roundw
      case rel=>exact⟨k+1,d7.out,by go_num,by trivial,Ja (by rw[HT.out.1,HK.out,HA.out];rfl)⟩
      case measure=>have:=d7.out;simp[intOf];omega
     all_goals simp only[Bool.not_true,Bool.not_false] at d0 c9
     all_goals go_wp2
     all_goals go_ret
     all_goals refine⟨zh ?_,g.out⟩
     all_goals rw[<-c3.out,if_pos (HT.out.2 (by rw[HA.out];rfl))]
    ·obtain rfl:k=p.args.length:=by omega
     have d8:¬(p.args.length:Int)<p.args.length:=Zo;have c2:p.args.all tX=true:=by have:=HK.out;rw[Nl] at this;exact this
     have b7:=c3.out;rw[if_neg (by rw[c2];simp)] at b7;have b5:=Ja b7;clear b7 c2 HK;go_upto_region 11 with fail;obtain⟨qe,b9⟩:∃q,yw p p.entry=q:=⟨_,rfl⟩
     have c7:O 115 #[.agg (Z p f1 f2 a1 a2 d1 d2 b1 b2),I p.entry] W0 fun e w'=>e=.returned (.bool qe)/\Q W0 w':=by rw[<-b9];exact d3.out _ g.out HL.out _
     have b4:=Ja c7;have c4:=Ja b9;clear c7 b9
     cases qe with
     |false=>
      go_wp2_with (go_at_call 115;go_must (refine b4.out.mono ?_;rintro e w2 ⟨rfl,m⟩))
      go_ret;refine⟨zh ?_,g.out.trans (m.mono g.out.size)⟩
      rw[<-b5.out,if_pos (.inl c4.out)]
     |true=>
      by_cases hh:p.handler=-1
      ·have t2:(p.handler !=-1)=false:=by rw[bne_eq_false_iff_eq];exact hh
       have a5:Hid ((if wB p=false then(37:Int) else 0)=res):=by
        have h:=b5.out;rw[if_neg (by rintro(e|e);(rw[c4.out] at e;cases e);exact e.1 hh)] at h;exact h
       clear hh;go_upto_region 13 with(go_at_call 115;go_must (refine b4.out.mono ?_;rintro e w2 ⟨rfl,m⟩;have c:=zH m a0.out (lt_of_block a0.out);have u0:=K0 c;have u1:=K1 c;have u2:=K2 c;have u3:=K3 c;have u4:=K4 c;have u5:=K5 c))
       have d:=g.out.trans (m.mono g.out.size);obtain⟨qp,t⟩:∃q,wB p=q:=⟨_,rfl⟩
       have a3:O 116 #[.agg (Z p f1 f2 a1 a2 d1 d2 b1 b2)] w2 fun e w'=>e=.returned (.bool qp)/\Q w2 w':=by rw[<-t];exact d6.out _ d
       have a7:=Ja a3;have a6:=Ja t;clear a3 t
       cases qp with
       |false=>
        go_wp2_with (go_at_call 116;go_must (refine a7.out.mono ?_;rintro e w5 ⟨rfl,x⟩))
        go_ret;refine⟨zh ?_,(d).trans (x.mono (d).size)⟩
        rw[<-a5.out,if_pos a6.out]
       |true=>
        go_wp2_with (go_at_call 116;go_must (refine a7.out.mono ?_;rintro e w5 ⟨rfl,x⟩))
        go_ret;refine⟨zh ?_,(d).trans (x.mono (d).size)⟩;rw[<-a5.out,if_neg (by rw[a6.out];simp)]
      ·have t2:(p.handler !=-1)=true:=by rw[bne_iff_ne];exact hh
       obtain⟨qh,b8⟩:∃q,yw p p.handler=q:=⟨_,rfl⟩
       have d5:=Ja b8;have c5:∀W,Q w W->O 115 #[.agg (Z p f1 f2 a1 a2 d1 d2 b1 b2),I p.handler] W fun e w'=>e=.returned (.bool qh)/\Q W w':=fun W hb=>by rw[<-b8];exact d3.out _ hb HL.out _
       have d4:=Ja c5;have HH:=Ja hh;have g1:True:=trivial;clear hh b8 c5
       cases qh with
       |false=>
        go_wp2_with (first|(go_at_call 115;have d9:=g1;clear g1;go_must (refine b4.out.mono ?_;rintro e w2 ⟨rfl,m⟩;have c:=zH m a0.out (lt_of_block a0.out);have u0:=K0 c;have u1:=K1 c;have u2:=K2 c;have u3:=K3 c;have u4:=K4 c;have u5:=K5 c;have d:=g.out.trans (m.mono g.out.size)))|(go_at_call 115;go_must (refine(d4.out _ d).mono ?_;rintro e w4 ⟨rfl,b0⟩)))
        go_ret;refine⟨zh ?_,d.trans (b0.mono d.size)⟩
        rw[<-b5.out,if_pos (.inr ⟨HH.out,d5.out⟩)]
       |true=>
        have a5:Hid ((if wB p=false then(37:Int) else 0)=res):=by
         have h:=b5.out;rw[if_neg (by rintro(e|e);(rw[c4.out] at e;cases e);(rw[d5.out] at e;cases e.2))] at h;exact h
        go_upto_region 13 with(first|(go_at_call 115;have d9:=g1;clear g1;go_must (refine b4.out.mono ?_;rintro e w2 ⟨rfl,m⟩;have c:=zH m a0.out (lt_of_block a0.out);have u0:=K0 c;have u1:=K1 c;have u2:=K2 c;have u3:=K3 c;have u4:=K4 c;have u5:=K5 c;have d:=g.out.trans (m.mono g.out.size)))|(go_at_call 115;go_must (refine(d4.out _ d).mono ?_;rintro e w4 ⟨rfl,b0⟩;have y:=zH b0 c (lt_of_block c);have v0:=K0 y;have v1:=K1 y;have v2:=K2 y;have v3:=K3 y;have v4:=K4 y;have v5:=K5 y)))
        have a4:=d.trans (b0.mono d.size);obtain⟨qp,t⟩:∃q,wB p=q:=⟨_,rfl⟩
        have a3:O 116 #[.agg (Z p f1 f2 a1 a2 d1 d2 b1 b2)] w4 fun e w'=>e=.returned (.bool qp)/\Q w4 w':=by rw[<-t];exact d6.out _ a4
        have a7:=Ja a3;have a6:=Ja t;clear a3 t
        cases qp with
        |false=>
         go_wp2_with (go_at_call 116;go_must (refine a7.out.mono ?_;rintro e w5 ⟨rfl,x⟩))
         go_ret;refine⟨zh ?_,(a4).trans (x.mono (a4).size)⟩
         rw[<-a5.out,if_pos a6.out]
        |true=>
         go_wp2_with (go_at_call 116;go_must (refine a7.out.mono ?_;rintro e w5 ⟨rfl,x⟩))
         go_ret;refine⟨zh ?_,(a4).trans (x.mono (a4).size)⟩;rw[<-a5.out,if_neg (by rw[a6.out];simp)]
  ·rw[if_pos hl];have t1:((p.args.length:Int) !=(p.funcs.length:Int))=true:=by rw[bne_iff_ne];omega
   clear hl l;go_enter Tryz.func68,Tryz.ntmps68;go_wp2;go_ret;exact⟨rfl,b3⟩
def opF (p:IProg)(o:IOp):Bool:=
 (zi o.code).is &&
  (if o.code=26 then decide (0<=o.a) && decide (o.a<p.funcs.length) && decide ((o.args.length:Int)=p.args.getD o.a.toNat 0) && decide (-1<=o.res) && decide (o.b=0) && decide (o.n=0)
   else if o.code=2 then decide (0<=o.a) && decide (o.a<p.data.length) && decide (0<=o.res) && decide (o.b=0) && decide (o.args.length=0)
   else decide ((zi o.code).res=decide (0<=o.res)) && decide (-1<=o.res) && ((zi o.code).a||decide (o.a=0)) && ((zi o.code).b||decide (o.b=0)) && ((zi o.code).n||decide (o.n=0)) && decide (o.args.length=0) &&
    (decide (o.code≠24) && decide (o.code≠25)||decide (1<=o.n) && decide (o.n<=255)))
def uM (blocks:List IBlk)(e:IEdge):Bool:=decide (1<=e.block) && decide (e.block<blocks.length) && decide (e.args.length=(xz blocks e.block).params.length)
def tz (blocks:List IBlk)(t:ITerm):Bool:=
 t.to.all (uM blocks) &&
  (if t.kind=1 then decide (t.to.length=1) && decide (t.a=0)
   else if t.kind=2 then decide (t.to.length=2)
   else if t.kind=3 then decide (1<=t.to.length)
   else if t.kind=4 then decide (t.to.length=0)
   else if t.kind=5 then decide (t.to.length=0) && decide (t.a=0)
   else false)
abbrev wO:=(Int->Option Int)×(Int->Option Int)
variable {d:wO}
def rB (d:wO)(v i k:Int):Option wO:=if(d.1 v).isSome∨v<0∨65535<v then none else some (lS d.1 v i,lS d.2 v k)
def vJ (i:Int):List Int->wO->Option wO
 | [],d=>some d
 |v::vs,d=>(rB d v i (-1)).bind (vJ i vs)
def sS (p:IProg)(i:Int):List IOp->Int->wO->Option wO
 | [],_,d=>some d
 |o::os,k,d=>if opF p o then(if 0<=o.res then(rB d o.res i k).bind (sS p i os (k+1)) else sS p i os (k+1) d) else none
def pS (p:IProg)(blocks:List IBlk)(i:Int)(b:IBlk)(d:wO):Option wO:=
 ((vJ i b.params d).bind (sS p i b.ops 0)).bind fun d'=>if tz blocks b.term then some d' else none
def uH (p:IProg)(blocks:List IBlk):List IBlk->Int->wO->Option wO
 | [],_,d=>some d
 |b::bs,i,d=>(pS p blocks i b d).bind (uH p blocks bs (i+1))
def wg (p:IProg)(blocks:List IBlk):Option wO:=uH p blocks blocks 0 (fun _=>none,fun _=>none)
theorem afl{p:IProg}(h:opF p o=true):OkOp p o:=by
 unfold opF at h;rw[Jm] at h;obtain⟨h1,h2⟩:=h;refine⟨?_,?_,?_⟩
 ·have:=rJ o.code;rcases this with⟨h,e⟩|⟨h,e⟩|⟨h,e⟩|⟨h,e⟩|⟨h,e⟩|⟨h,e⟩|⟨h,e⟩|⟨h,e⟩
  all_goals first|omega|(rw[e] at h1;exact absurd h1 Zd)
 ·intro h;rw[if_neg Zo,if_pos h] at h2;simp only[Jm,decide_eq_true_eq] at h2;omega
 ·intro h;rw[if_pos h] at h2;simp only[Jm,decide_eq_true_eq] at h2;omega
theorem acV{t:ITerm}(h:tz blocks t=true):bS blocks t:=by
 unfold tz at h;rw[Jm,Oe] at h;obtain⟨h1,h2⟩:=h
 have hk:t.kind=1/\t.to.length=1∨t.kind=2/\t.to.length=2∨t.kind=3/\1<=t.to.length∨t.kind=4∨t.kind=5:=by
  by_cases k1:t.kind=1
  ·rw[if_pos k1] at h2;simp only[Jm,decide_eq_true_eq] at h2;exact .inl ⟨k1,h2.1⟩
  by_cases k2:t.kind=2
  ·rw[if_neg k1,if_pos k2] at h2;simp only[decide_eq_true_eq] at h2;exact .inr (.inl ⟨k2,h2⟩)
  by_cases k3:t.kind=3
  ·rw[if_neg k1,if_neg k2,if_pos k3] at h2;simp only[decide_eq_true_eq] at h2;exact .inr (.inr (.inl ⟨k3,h2⟩))
  by_cases k4:t.kind=4
  ·exact .inr (.inr (.inr (.inl k4)))
  by_cases k5:t.kind=5
  ·exact .inr (Zi k5)
  rw[if_neg k1,if_neg k2,if_neg k3,if_neg k4,if_neg k5] at h2;cases h2
 refine⟨by omega,by omega,by omega,by omega,fun e he=>?_⟩;have:=h1 e he;unfold uM at this;simp only[Jm,decide_eq_true_eq] at this;omega
structure ChkAt (w:World) (C m1 m2:Nat) (pv:List Value) (blv idv:Value) (n:Nat) (d:wO):Prop where
 blk:w.heap[C]? =some (.cells (pv++ [blv,.map (some m1),.map (some m2),idv]).toArray 173 (0,0))
 plen:pv.length=6
 map1:wA w m1 n d.1
 map2:wA w m2 n d.2
 ne:m1≠m2
 dom:∀x,(d.1 x).isSome=(d.2 x).isSome
structure Kept (m1 m2:Nat) (w w':World):Prop where
 os:w'.os=w.os
 tape:w'.tape=w.tape
 output:w'.output=w.output
 size:w.heap.size<=w'.heap.size
 block:∀k,k<w.heap.size->k≠m1->k≠m2->w'.heap[k]? =w.heap[k]?
theorem Kept.refl (m1 m2:Nat)(w:World):Kept m1 m2 w w:=⟨rfl,rfl,rfl,Je _,fun _ _ _ _=>rfl⟩
theorem Kept.trans{a b c:World}(h:Kept m1 m2 a b)(k:Kept m1 m2 b c):Kept m1 m2 a c:=
 ⟨k.os.trans h.os,k.tape.trans h.tape,k.output.trans h.output,Jn h.size k.size,fun i hi x1 x2=>(k.block i (Jy hi h.size) x1 x2).trans (h.block i hi x1 x2)⟩
theorem Kept.of(h:Q w w'):Kept m1 m2 w w':=⟨h.os,h.tape,h.output,h.size,fun i hi _ _=>h.block i hi⟩
theorem Kept.below{B:Nat}(h:Kept m1 m2 w w')(h1:B<=m1)(h2:B<=m2)(c:B<=w.heap.size):Below B w w':=
 ⟨h.os,h.tape,h.output,h.size,fun i hi=>h.block i Zo Zo Zo⟩
theorem Kept.blk{b:Nat}{o:Obj}(h:Kept m1 m2 w w')(hb:w.heap[b]? =some o)(h1:b≠m1)(h2:b≠m2):w'.heap[b]? =some o:=(h.block b (lt_of_block hb) h1 h2).trans hb
theorem wA.lt{b n:Nat}{g:Int->Option Int}(h:wA w b n g):b<w.heap.size:=by
 obtain⟨es,ck,hb⟩:=h.blk;exact lt_of_block hb
theorem ChkAt.below{C:Nat}{c:Value}{n:Nat}(h:ChkAt w C m1 m2 pv f c n d)(hb:Q w w'):ChkAt w' C m1 m2 pv f c n d:=
 ⟨zH hb h.blk (lt_of_block h.blk),h.plen,h.map1.same (hb.block m1 h.map1.lt),h.map2.same (hb.block m2 h.map2.lt),h.ne,h.dom⟩
theorem ChkAt.ne1{C:Nat}{c:Value}{n:Nat}(h:ChkAt w C m1 m2 pv f c n d):C≠m1/\C≠m2:=by
 obtain⟨i,k,h1⟩:=h.map1.blk;obtain⟨g,j,h2⟩:=h.map2.blk;have:=h.blk;exact⟨fun e=>(by rw[e,h1] at this;cases this),fun e=>(by rw[e,h2] at this;cases this)⟩
theorem oK{C n:Nat}{q l:Value}(h:ChkAt w C m1 m2 pv q l n d)(v i k:Int)(hv:I64 v)(hi:I64 i)(hk:I64 k)(g:rB d v i k=none):
 O 137 #[F C,I v,I i,I k] w fun e w'=>e=.returned (.bool false)/\w'=w:=by
 obtain⟨hb,hl,m,x,u,hd⟩:=h
 obtain⟨p0,p1,p2,p3,p4,p5,rfl⟩:∃a b c d e f,pv=[a,b,c,d,e,f]:=by
  match pv,hl with
  | [a,b,c,d,e,f],_=>exact⟨a,b,c,d,e,f,rfl⟩
 have o:=m.lookOk hv;have y:T w C 7 (.map (some m1)):=zA hb rfl;obtain⟨q0,h0⟩:∃b,(d.1 v).isSome=b:=⟨_,rfl⟩
 obtain⟨q1,h1⟩:∃b,decide (v<0)=b:=⟨_,rfl⟩
 obtain⟨q2,h2⟩:∃b,decide (65535<v)=b:=⟨_,rfl⟩
 rw[h0] at o
 have t:(q0||q1||q2)=true:=by
  unfold rB at g;rw[h0] at g
  split at g
  ·rename_i j
   rcases j with j|j|j
   ·rw[j];rfl
   ·rw[<-h1,decide_eq_true j];simp
   ·rw[<-h2,decide_eq_true j];simp
  ·cases g
 clear g hb;cases q0<;>cases q1<;>cases q2
 all_goals first|(cases t;done)|skip
 all_goals go_enter Tryz.func137,Tryz.ntmps137
 all_goals go_wp2
 all_goals go_ret
 all_goals exact⟨rfl,rfl⟩
def rR (o:IOp):List Int:=(if(zi o.code).a then [o.a] else [])++(if(zi o.code).b then [o.b] else [])++o.args
def ut (t:ITerm):Bool:=decide (t.kind=2)||(decide (t.kind=3)||decide (t.kind=4) && decide (t.a≠-1))
def mE (t:ITerm):List Int:=(if ut t then [t.a] else [])++(t.to.map (·.args)).flatten
def zy (blocks:List IBlk):List (List Nat):=blocks.map fun b=>b.term.to.map fun e=>e.block.toNat
def yy (d:wO)(g:List (List Nat))(i k:Int)(v:Int):Bool:=
 match d.1 v,d.2 v with
 |some b,some a=>!(decide (b=i) && decide (k<=a)) && wE g b.toNat i.toNat
 |_,_=>false
def xF (d:wO)(g:List (List Nat))(i:Int):List IOp->Int->Bool
 | [],_=>true
 |o::os,k=>(rR o).all (yy d g i k) && xF d g i os (k+1)
def aaC (d:wO)(g:List (List Nat))(b:IBlk)(i:Int):Bool:=xF d g i b.ops 0 && (mE b.term).all (yy d g i b.ops.length)
def tO (d:wO)(g:List (List Nat)):List IBlk->Int->Bool
 | [],_=>true
 |b::bs,i=>aaC d g b i && tO d g bs (i+1)
def iM (blocks:List IBlk)(d:wO):Bool:=decide ((vD (zy blocks)).length=blocks.length) && tO d (zy blocks) blocks 0
def yi (p:IProg)(n:Nat):Bool:=
 match p.funcs.getD n [] with
 | []=>true
 |b::bs=>decide ((b.params.length:Int)=p.args.getD n 0) && ((wg p (b::bs)).map (iM (b::bs))).getD false
def vC (p:IProg):Int:=if sR p≠0 then sR p else if(List.range p.funcs.length).all (yi p) then 0 else 51
theorem uX {i:Int}:∀(l m:List Int) (d:wO),vJ i (l++m) d=(vJ i l d).bind (vJ i m)
 | [],m,d=>rfl
 |v::l,m,d=>by
  show(rB d v i (-1)).bind (vJ i (l++m))=((rB d v i (-1)).bind (vJ i l)).bind (vJ i m)
  cases rB d v i (-1) with
  |none=>rfl
  |some d'=>exact uX l m d'
theorem nF{p:IProg}{i:Int}{b:IBlk}{d':wO}(h:pS p blocks i b d=some d'):tz blocks b.term=true/\∃d1,vJ i b.params d=some d1/\sS p i b.ops 0 d1=some d':=by
 unfold pS at h
 cases h1:vJ i b.params d with
 |none=>rw[h1] at h;cases h
 |some d1=>
  rw[h1,Nw] at h
  cases h2:sS p i b.ops 0 d1 with
  |none=>rw[h2] at h;cases h
  |some d2=>
   rw[h2,Nw] at h
   split at h
   ·cases h;exact⟨‹_›,d1,rfl,h2⟩
   ·cases h
theorem nk {p:IProg}{i:Int}:∀(os:List IOp) (k:Int) (d d':wO),sS p i os k d=some d'->∀o∈os,opF p o=true
 | [],_,_,_,_,o,ho=>by cases ho
 |x::os,k,d,d',h,o,ho=>by
  unfold sS at h
  split at h
  ·rename_i hx
   rcases Jq.1 ho with rfl|ho
   ·exact hx
   ·split at h
    ·cases h1:rB d x.res i k with
     |none=>rw[h1] at h;cases h
     |some d1=>rw[h1,Nw] at h;exact nk os _ _ _ h o ho
    ·exact nk os _ _ _ h o ho
  ·cases h
theorem rV{p:IProg}:∀(bs:List IBlk) (i:Int) (d d':wO),uH p blocks bs i d=some d'->∀b∈bs,(∀o∈b.ops,opF p o=true)/\tz blocks b.term=true
 | [],_,_,_,_,b,hb=>by cases hb
 |x::bs,i,d,d',h,b,hb=>by
  unfold uH at h
  cases h1:pS p blocks i x d with
  |none=>rw[h1] at h;cases h
  |some d1=>
   rw[h1,Nw] at h;rcases Jq.1 hb with rfl|hb
   ·obtain⟨h2,d2,_,h3⟩:=nF h1;exact⟨nk _ _ _ _ h3,h2⟩
   ·exact rV bs _ _ _ h b hb
theorem tF {p:IProg}{n:Nat}{b:IBlk}{bs:List IBlk}(hf:p.funcs[n]? =some (b::bs))(h:yi p n=true):
 (b.params.length:Int)=p.args.getD n 0/\∃d,wg p (b::bs)=some d/\iM (b::bs) d=true:=by
 unfold yi at h;rw[Jj,hf,Ot] at h;simp only[Jm,decide_eq_true_eq] at h;obtain⟨h1,h2⟩:=h;refine⟨h1,?_⟩
 cases h3:wg p (b::bs) with
 |none=>rw[h3] at h2;cases h2
 |some d=>rw[h3] at h2;exact⟨d,rfl,h2⟩
theorem se {p:IProg}(h:sR p=0):(p.funcs.length<=2000/\p.data.length<=512/\p.banks.length<=64)/\p.args.length=p.funcs.length/\p.args.all tX=true/\yw p p.entry=true/\(p.handler≠-1->yw p p.handler=true)/\wB p=true:=by
 unfold sR at h
 split at h
 ·omega
 split at h
 ·omega
 split at h
 ·omega
 split at h
 ·omega
 split at h
 ·omega
 rename_i h1 h2 h3 c f
 refine⟨by omega,by simpa using h2,by simpa using h3,?_,?_,by simpa using f⟩
 ·simpa using fun e=>c (.inl e)
 ·intro d
  simpa using fun e=>c (.inr ⟨d,e⟩)
theorem rz {p:IProg}(h:vC p=0):sR p=0/\∀n,n<p.funcs.length->yi p n=true:=by
 unfold vC at h
 split at h
 ·rename_i h1;exact absurd h h1
 ·rename_i h1
  refine⟨by omega,?_⟩
  split at h
  ·rename_i h2
   intro n c;exact Oe.1 h2 n (Ol.2 c)
  ·omega
theorem jM {p:IProg}(h:vC p=0)(l:∀blocks∈p.funcs,∀b∈blocks,b.params.length<=65536):OkProg p:=by
 obtain⟨h0,k⟩:=rz h;obtain⟨_,t,j,_,w,g⟩:=se h0
 have m:∀i,0<=p.args.getD i 0/\p.args.getD i 0<=8:=by
  intro i;rw[Jj]
  cases u:p.args[i]? with
  |none=>simp
  |some x=>
   have:=Oe.1 j x (Ji u);unfold tX at this;simp only[Jm,decide_eq_true_eq] at this;exact this
 refine⟨fun blocks hb b hbb=>?_,fun i b bs hi=>?_,fun f=>?_,?_,fun i=>?_,t⟩
 ·obtain⟨n,f⟩:=Ny hb;have q:=(Jh.1 f).1;have y:=k n q
  match blocks,hbb,f with
  |b0::bs,hbb,f=>
   obtain⟨_,d,hs,_⟩:=tF f y;obtain⟨k1,k2⟩:=rV _ _ _ _ hs b hbb;exact⟨fun o ho=>afl (k1 o ho),acV k2,l _ hb b hbb⟩
 ·exact(tF hi (k i (Jh.1 hi).1)).1
 ·have:=w f;unfold yw at this;simp only[Jm,decide_eq_true_eq,beq_iff_eq] at this;obtain⟨a,b,c⟩:=this;exact⟨a,by omega,c⟩
 ·intro s hs;unfold wB at g;rw[Jm] at g;have:=g.1;unfold afS at this
  simpa using Oe.1 this s hs
 ·have:=m i;omega
inductive Evn where
 |op (o:IOp)
 |arg (v x:Int)
def Evn.out:Evn->Option Int
 |.op o=>if 0<=o.res then some o.res else none
 |.arg v _=>some v
def Evn.ins:Evn->List Int
 |.op o=>if 0<=o.res then(if(zi o.code).a=true then [o.a] else [])++(if(zi o.code).b=true then [o.b] else []) else []
 |.arg _ x=> [x]
def evS (p:IProg)(k:Nat)(q:Slv×Bool):Evn->Slv×Bool
 |.op o=>opS p k q o
 |.arg v x=>ahv k q (v,x)
def evB (bl:List IBlk)(b:IBlk):List Evn:=b.ops.map .op++b.term.to.flatMap fun e=>((xz bl e.block).params.zip e.args).map fun x=> .arg x.1 x.2
theorem evB_fold (p:IProg)(bl:List IBlk)(k:Nat)(b:IBlk)(q:Slv×Bool):aft p bl k q b=(evB bl b).foldl (evS p k) q:=by
 unfold evB aft;rw[List.foldl_append,List.foldl_map,List.foldl_flatMap]
 congr 1
 funext q e
 unfold agT;rw[List.foldl_map];rfl
def evL (bl:List IBlk)(order:List Nat):List Evn:=order.flatMap fun i:Nat=>evB bl (xz bl (i:Int))
theorem af7{p:IProg}{n:Nat}{bl:List IBlk}(h:∀i∈c,qf n bl (xz bl i))(s:Slv):rk p bl c k s=(evL bl c).foldl (evS p k) (s,false):=by
 unfold rk evL;rw[List.foldl_flatMap];generalize (s,false)=q
 induction c generalizing q with
 |nil=>rfl
 |cons i l ih=>
  rw[Qk,Qk,afX (h i (.head _)),evB_fold];exact ih (fun j hj=>h j (.tail _ hj)) _
def mb (p:IProg)(t:Slv)(o:IOp):Option Rg:=
 if o.code=1 then some (pt o.n)
 else if o.code=2 then some (pt (((p.data.getD o.a.toNat ⟨0,0,0⟩).addr+o.n)%65536))
 else if(zi o.code).b=true then some (qs o.code (t.get o.a) (t.get o.b))
 else if(zi o.code).a=true then some (qs o.code (t.get o.a) zx)
 else none
def opQ (p:IProg)(t:Slv)(o:IOp):Slv:=
 if 0<=o.res then(match mb p t o with|some a=>⟨t.r.set o.res.toNat a,t.kn⟩|none=>t) else t
def agf (t:Slv)(v x:Int):Slv:=t.put v (if t.knw v=true then tn (t.get x) (t.get v) else t.get x)
def evQ (p:IProg)(t:Slv):Evn->Slv
 |.op o=>opQ p t o
 |.arg v x=>agf t v x
def EvOk (n:Nat):Evn->Prop
 |.op o=>agh n o/\o.code<=27/\(0<=o.res->∀x∈Evn.ins (.op o),0<=x/\x.toNat<n)
 |.arg v x=>(0<=v/\v.toNat<n)/\0<=x/\x.toNat<n
def ag9 (Q:Int->Prop):(Int->Prop)->List Evn->Prop
 |_,[]=>True
 |kn,ev::es=>(∀x∈ev.ins,kn x/\∀e∈ev::es,e.out≠some x)/\(match ev with|.op o=>0<=o.res->¬kn o.res/\¬Q o.res/\∀e∈es,e.out≠some o.res|.arg v _=>Q v)/\ag9 Q (fun x=>kn x∨ev.out=some x) es
theorem ag9.imp {Q:Int->Prop}:∀ {es:List Evn} {k k':Int->Prop},(∀x,k x↔k' x)->ag9 Q k es->ag9 Q k' es
 | [],_,_,_,_=>trivial
 |ev::es,k,k',h,⟨h1,h2,h3⟩=>by
  refine⟨fun x hx=>⟨(h x).1 (h1 x hx).1,(h1 x hx).2⟩,?_,ag9.imp (fun x=>by rw[h x]) h3⟩
  cases ev with
  |op o=>exact fun h0=>⟨fun hk=>(h2 h0).1 ((h _).2 hk),(h2 h0).2⟩
  |arg v x=>exact h2
def FixEv (p:IProg)(s:Slv):Evn->Prop
 |.op o=>FixOp p o s
 |.arg v x=>aha (v,x) s
theorem rf {n:Nat}{s:Slv}(hs:OkS n s){v:Int}(hv:v.toNat<n)(a:Rg):(s.put v a).get v=a/\(s.put v a).knw v=true:=⟨(en hs hv a).2,(en hs hv a).1⟩
theorem gr{s:Slv}{v:Int}(h:v.toNat≠u.toNat)(a:Rg):(s.put v a).get u=s.get u/\(s.put v a).knw u=s.knw u:=by
 unfold Slv.get Slv.knw Slv.put;simp only[Jj];rw[Ns h,Ns h];exact⟨rfl,rfl⟩
theorem cw{n:Nat}{s:Slv}(hs:OkS n s)(hk:k<=4){v:Int}(hv:v.toNat<n)(a:Rg):
 ((setF k s v a).1.get v=if s.knw v=true then tn a (s.get v) else a)/\(setF k s v a).1.knw v=true/\∀u:Int,v.toNat≠u.toNat->(setF k s v a).1.get u=s.get u/\(setF k s v a).1.knw u=s.knw u:=by
 have c:∀b,ahq k b=b:=fun b=>if_neg Zo
 unfold setF
 by_cases h1:s.knw v=true
 ·rw[if_pos h1]
  by_cases h2:pC (tn a (s.get v)) (s.get v)=true
  ·rw[if_pos h2,if_pos h1];exact⟨(j4 h2).symm,h1,fun u _=>⟨rfl,rfl⟩⟩
  ·rw[if_neg h2,if_pos h1,c];exact⟨(rf hs hv _).1,(rf hs hv _).2,fun u hu=>gr hu _⟩
 ·rw[if_neg h1,if_neg h1,c];exact⟨(rf hs hv _).1,(rf hs hv _).2,fun u hu=>gr hu _⟩
theorem app_un {c:Int}(i:3<=c)(hb:(zi c).b=false)(a b b':Rg):em c a b=em c a b':=by
 by_cases h:c=3∨c=4
 ·unfold em;rw[agU h a b b']
  cases n5 c a b' with
  |none=>rfl
  |some r=>
   simp only;have e:(c<=17/\yf a=true/\((c=3∨c=4)∨yf b=true))↔(c<=17/\yf a=true/\((c=3∨c=4)∨yf b'=true)):=⟨fun k=>⟨k.1,k.2.1,.inl h⟩,fun k=>⟨k.1,k.2.1,.inl h⟩⟩
   by_cases h2:c<=17/\yf a=true/\((c=3∨c=4)∨yf b=true)
   ·rw[if_pos h2,if_pos (e.1 h2),if_neg Zo,if_neg Zo,ax h a.lo b.lo b'.lo]
   ·rw[if_neg h2,if_neg (fun k=>h2 (e.2 k))]
 ·have g:¬(5<=c/\c<=17):=fun k=>by
   unfold zi at hb;rw[if_neg Zo,if_neg Zo,if_pos k] at hb;cases hb
  have hr:∀x,n5 c a x=if c=19 then some ⟨0,255⟩ else if c=23 then some ⟨0,255⟩ else none:=fun x=>by
   unfold n5
   iterate 15 rw[if_neg Zo]
  unfold em;rw[hr b,hr b']
  by_cases f:c=19
  ·rw[if_pos f];simp only;rw[if_neg Zo,if_neg Zo]
  ·rw[if_neg f]
   by_cases d:c=23
   ·rw[if_pos d];simp only;rw[if_neg Zo,if_neg Zo]
   ·rw[if_neg d]
theorem ae3 {c:Int}(g:3<=c/\c<=27)(d:(zi c).a=false)(a b:Rg):em c a b=zx:=by
 have h:c=24∨c=26∨c=27:=by
  have f:c=3∨c=4∨c=18∨c=19∨(5<=c/\c<=17)∨c=20∨c=21∨c=22∨c=23∨c=24∨c=25∨c=26∨c=27:=Zo;rcases f with rfl|rfl|rfl|rfl|h|rfl|rfl|rfl|rfl|h|rfl|h|h
  ·cases d
  ·cases d
  ·cases d
  ·cases d
  ·unfold zi at d;rw[if_neg Zo,if_neg Zo,if_pos h] at d;cases d
  ·cases d
  ·cases d
  ·cases d
  ·cases d
  ·exact .inl h
  ·cases d
  ·exact .inr (.inl h)
  ·exact .inr (.inr h)
 rcases h with rfl|rfl|rfl<;>rfl
structure Sim (n:Nat) (Q:Int->Prop) (s t:Slv):Prop where
 oks:OkS n s
 okt:OkS n t
 eq:∀v:Int,0<=v->s.knw v=true->s.get v=t.get v
 full:∀v:Int,0<=v->v.toNat<n->s.knw v=false->t.get v=zx
 kn:∀v:Int,0<=v->Q v->t.knw v=s.knw v
theorem val_eq{p:IProg}{n:Nat}{Q:Int->Prop}{s:Slv}(h:Sim n Q s t)(h0:0<=o.res)(f:1<=o.code/\o.code<=27)(hk:∀x∈Evn.ins (.op o),0<=x/\s.knw x=true):(mb p t o).getD zx=na p s o:=by
 unfold mb na
 by_cases h1:o.code=1
 ·rw[if_pos h1,if_pos h1];rfl
 rw[if_neg h1,if_neg h1]
 by_cases h2:o.code=2
 ·rw[if_pos h2,if_pos h2];rfl
 rw[if_neg h2,if_neg h2];have c:3<=o.code/\o.code<=27:=Zo;have hi:Evn.ins (.op o)=(if(zi o.code).a=true then [o.a] else [])++(if(zi o.code).b=true then [o.b] else []):=if_pos h0
 by_cases hb:(zi o.code).b=true
 ·have d:(zi o.code).a=true:=by
   have:=rJ o.code;rcases this with⟨_,e⟩|⟨_,e⟩|⟨_,e⟩|⟨_,e⟩|⟨_,e⟩|⟨_,e⟩|⟨_,e⟩|⟨_,e⟩
   all_goals first|(rw[e] at hb;cases hb;done)|(rw[e])
  have ka:=hk o.a (by rw[hi,if_pos d];exact Jz _ (.head _));have kb:=hk o.b (by rw[hi,if_pos hb];exact Qf _ (.head _));rw[if_pos hb]
  show qs o.code (t.get o.a) (t.get o.b)=_
  rw[p6 c (h.okt.get _) (h.okt.get _),h.eq _ ka.1 ka.2,h.eq _ kb.1 kb.2]
 ·rw[if_neg hb]
  by_cases d:(zi o.code).a=true
  ·have ka:=hk o.a (by rw[hi,if_pos d];exact Jz _ (.head _));rw[if_pos d]
   show qs o.code (t.get o.a) zx=_
   rw[p6 c (h.okt.get _) xr,h.eq _ ka.1 ka.2];exact app_un c.1 (by simpa using hb) _ _ _
  ·rw[if_neg d];exact(ae3 c (by simpa using d) _ _).symm
theorem vt{v:Int}(hv:0<=v)(c:0<=u)(h:v≠u):v.toNat≠u.toNat:=by omega
theorem OkS.setR{n:Nat}(h:OkS n t)(v:Nat){a:Rg}(d:a.ok):OkS n ⟨t.r.set v a,t.kn⟩:=
 ⟨by show(t.r.set v a).length=n;rw[Nd,h.rl],h.kl,fun x c=>by
   rcases Qe c with c|rfl
   ·exact h.ok x c
   ·exact d⟩
theorem agM{n:Nat}(h:OkS n t){v:Int}(hv:v.toNat<n)(a:Rg):(⟨t.r.set v.toNat a,t.kn⟩:Slv).get v=a:=by
 unfold Slv.get;simp only[Jj];rw[Nn (by rw[h.rl];exact hv)];rfl
theorem getR_ne{v:Int}(h:v.toNat≠u.toNat)(a:Rg):(⟨t.r.set v.toNat a,t.kn⟩:Slv).get u=t.get u:=by
 unfold Slv.get;simp only[Jj];rw[Ns h]
structure Pass (p:IProg) (n:Nat) (Q:Int->Prop) (es:List Evn) (s s' t':Slv):Prop where
 sim:Sim n Q s' t'
 fix:∀e∈es,FixEv p s' e
 grow:∀v:Int,0<=v->s.knw v=true->s'.knw v=true/\(s.get v).sub (s'.get v)
 stay:∀v:Int,0<=v->(∀e∈es,e.out≠some v)->s'.get v=s.get v/\s'.knw v=s.knw v
theorem agu (a b:Rg):a.sub (tn a b):=⟨Nat.min_le_left _ _,Nat.le_max_left _ _⟩
theorem agi (a b:Rg):b.sub (tn a b):=⟨Nat.min_le_right _ _,Nat.le_max_right _ _⟩
theorem Rg.sub.refl (a:Rg):a.sub a:=⟨Je _,Je _⟩
theorem Rg.sub.trans {a b c:Rg}(h:a.sub b)(k:b.sub c):a.sub c:=⟨Jn k.1 h.1,Jn h.2 k.2⟩
theorem ek {p:IProg}{n k:Nat}(y:k<=4){Q:Int->Prop}:∀(es:List Evn) (s t:Slv) (c:Bool),(∀e∈es,EvOk n e)->ag9 Q (fun x=>0<=x/\s.knw x=true) es->Sim n Q s t->
 Pass p n Q es s (es.foldl (evS p k) (s,c)).1 (es.foldl (evQ p) t)
 | [],s,t,c,_,_,hS=>⟨hS,(fun e he=>by cases he),fun v _ hv=>⟨hv,Rg.sub.refl _⟩,fun v _ _=>⟨rfl,rfl⟩⟩
 |.op o::es,s,t,c,hE,hG,hS=>by
  obtain⟨g1,g2,g3⟩:=hG;have ho:=hE _ (.head _)
  by_cases h0:0<=o.res
  ·obtain⟨h1,h2,h3⟩:=g2 h0;obtain⟨hv,c1,_⟩:=ho.1 h0
   have b0:s.knw o.res=false:=by
    cases e:s.knw o.res with
    |false=>rfl
    |true=>exact absurd ⟨h0,e⟩ h1
   have f:=val_eq (p:=p) hS h0 ⟨c1,ho.2.1⟩ fun x hx=>(g1 x hx).1
   obtain⟨e1,e2,e3⟩:=cw (k:=k) hS.oks y hv (na p s o);rw[b0,if_neg Zd] at e1;have a6:=af5 (p:=p) hS.oks ho.1 h0
   have i:evS p k (s,c) (.op o)=((setF k s o.res (na p s o)).1,c||(setF k s o.res (na p s o)).2):=by
    show opS p k (s,c) o=_
    unfold opS;rw[if_pos h0];rfl
   obtain⟨s1,g⟩:∃s1,(setF k s o.res (na p s o)).1=s1:=⟨_,rfl⟩
   rw[g] at e1 e2 e3 i;have m:OkS n s1:=by rw[<-g];exact hS.oks.set _ a6
   have a4:∀v:Int,0<=v->(opQ p t o).get v=(if v=o.res then na p s o else t.get v)/\(opQ p t o).knw v=t.knw v:=fun v d=>by
    unfold opQ;rw[if_pos h0]
    cases l:mb p t o with
    |some a=>
     rw[l] at f;have f:a=na p s o:=f;refine⟨?_,rfl⟩
     by_cases ev:v=o.res
     ·rw[if_pos ev,ev];simp only;rw[agM hS.okt hv,f]
     ·rw[if_neg ev];exact getR_ne (vt h0 d (Ne.symm ev)) _
    |none=>
     rw[l] at f;have f:zx=na p s o:=f;refine⟨?_,rfl⟩
     by_cases ev:v=o.res
     ·rw[if_pos ev,ev];simp only;rw[hS.full _ h0 hv b0,f]
     ·rw[if_neg ev]
   have a1:OkS n (opQ p t o):=by
    unfold opQ;rw[if_pos h0]
    cases l:mb p t o with
    |some a=>
     rw[l] at f;have f:a=na p s o:=f
     exact hS.okt.setR _ (by rw[f];exact a6)
    |none=>exact hS.okt
   have b1:Sim n Q s1 (opQ p t o):=⟨m,a1,fun v d hk=>by
    rw[(a4 v d).1]
    by_cases ev:v=o.res
    ·rw[if_pos ev,ev,e1]
    ·have:=e3 v (vt h0 d (Ne.symm ev));rw[if_neg ev,this.1]
     exact hS.eq v d (by rw[<-this.2];exact hk),
    fun v d w hk=>by
     rw[(a4 v d).1]
     by_cases ev:v=o.res
     ·rw[ev,e2] at hk;cases hk
     ·have:=e3 v (vt h0 d (Ne.symm ev));rw[if_neg ev]
      exact hS.full v d w (by rw[<-this.2];exact hk),
    fun v d l=>by
     have ev:v≠o.res:=fun e=>h2 (by rw[<-e];exact l)
     have:=e3 v (vt h0 d (Ne.symm ev));rw[(a4 v d).2,this.2]
     exact hS.kn v d l⟩
   have a0:ag9 Q (fun x=>0<=x/\s1.knw x=true) es:=g3.imp fun x=>by
    show((0<=x/\s.knw x=true)∨(if 0<=o.res then some o.res else none)=some x)↔_
    rw[if_pos h0]
    by_cases ev:x=o.res
    ·rw[ev];exact⟨fun _=>⟨h0,e2⟩,fun _=> .inr rfl⟩
    ·constructor
     ·rintro(⟨a,b⟩|e)
      ·exact⟨a,by rw[(e3 x (vt h0 a (Ne.symm ev))).2];exact b⟩
      ·exact absurd (Nt e).symm ev
     ·rintro⟨a,b⟩;exact .inl ⟨a,by rw[<-(e3 x (vt h0 a (Ne.symm ev))).2];exact b⟩
   have ih:=ek (p:=p) y es s1 (opQ p t o) (c||(setF k s o.res (na p s o)).2) (fun e he=>hE e (.tail _ he)) a0 b1;rw[Qk,Qk,i]
   show Pass p n Q (.op o::es) s (es.foldl (evS p k) (s1,c||(setF k s o.res (na p s o)).2)).1 (es.foldl (evQ p) (opQ p t o))
   generalize (es.foldl (evS p k) (s1,c||(setF k s o.res (na p s o)).2)).1=s' at ih ⊢;have a7:=ih.stay o.res h0 h3;refine⟨ih.sim,fun e he=>?_,fun v d hk=>?_,fun v d hn=>?_⟩
   ·rcases Jq.1 he with rfl|he
    ·intro _;refine⟨by rw[a7.2];exact e2,?_⟩;rw[a7.1,e1]
     have b4:∀x∈Evn.ins (.op o),s'.get x=s.get x:=fun x hx=>by
      obtain⟨⟨q1,q2⟩,q3⟩:=g1 x hx;have j:x≠o.res:=fun e=>q3 (.op o) (.head _) (by show(if 0<=o.res then some o.res else none)=some x;rw[if_pos h0,e])
      rw[(ih.stay x q1 fun e he=>q3 e (.tail _ he)).1];exact(e3 x (vt h0 q1 (Ne.symm j))).1
     have hi:Evn.ins (.op o)=(if(zi o.code).a=true then [o.a] else [])++(if(zi o.code).b=true then [o.b] else []):=if_pos h0
     have:na p s' o=na p s o:=by
      unfold na
      by_cases k1:o.code=1
      ·rw[if_pos k1,if_pos k1]
      rw[if_neg k1,if_neg k1]
      by_cases k2:o.code=2
      ·rw[if_pos k2,if_pos k2]
      rw[if_neg k2,if_neg k2];have c2:=ho.2.1
      by_cases ha:(zi o.code).a=true
      ·rw[b4 o.a (by rw[hi,if_pos ha];exact Jz _ (.head _))]
       by_cases hb:(zi o.code).b=true
       ·rw[b4 o.b (by rw[hi,if_pos hb];exact Qf _ (.head _))]
       ·exact app_un Zo (by simpa using hb) _ _ _
      ·rw[ae3 Zo (by simpa using ha),ae3 Zo (by simpa using ha)]
     rw[this];exact Rg.sub.refl _
    ·exact ih.fix e he
   ·have j:v≠o.res:=fun e=>by rw[e,b0] at hk;cases hk
    have q:=e3 v (vt h0 d (Ne.symm j));have:=ih.grow v d (by rw[q.2];exact hk);rw[q.1] at this;exact this
   ·have j:v≠o.res:=fun e=>hn (.op o) (.head _) (by show(if 0<=o.res then some o.res else none)=some v;rw[if_pos h0,e])
    have q:=e3 v (vt h0 d (Ne.symm j));have:=ih.stay v d fun e he=>hn e (.tail _ he)
    rw[q.1,q.2] at this;exact this
  ·have i:evS p k (s,c) (.op o)=(s,c):=if_neg h0;have b8:evQ p t (.op o)=t:=if_neg h0
   have a0:ag9 Q (fun x=>0<=x/\s.knw x=true) es:=g3.imp fun x=>by
    show((0<=x/\s.knw x=true)∨(if 0<=o.res then some o.res else none)=some x)↔_
    rw[if_neg h0];exact⟨fun h=>(by rcases h with h|h;exact h;cases h),.inl⟩
   have ih:=ek (p:=p) y es s t c (fun e he=>hE e (.tail _ he)) a0 hS;rw[Qk,Qk,i,b8];refine⟨ih.sim,fun e he=>?_,ih.grow,fun v d hn=>ih.stay v d fun e he=>hn e (.tail _ he)⟩;rcases Jq.1 he with rfl|he
   ·exact fun h=>absurd h h0
   ·exact ih.fix e he
 |.arg v x::es,s,t,c,hE,hG,hS=>by
  obtain⟨g1,g2,g3⟩:=hG;obtain⟨⟨d,w⟩,a3,c3⟩:=hE _ (.head _);obtain⟨⟨_,b6⟩,b2⟩:=g1 x (.head _);have b5:x≠v:=fun e=>b2 (.arg v x) (.head _) (by rw[e];rfl)
  obtain⟨e1,e2,e3⟩:=cw (k:=k) hS.oks y w (s.get x);have i:evS p k (s,c) (.arg v x)=((setF k s v (s.get x)).1,c||(setF k s v (s.get x)).2):=rfl;obtain⟨s1,g⟩:∃s1,(setF k s v (s.get x)).1=s1:=⟨_,rfl⟩
  rw[g] at e1 e2 e3 i;have m:OkS n s1:=by rw[<-g];exact hS.oks.set _ (hS.oks.get _)
  have c0:=hS.kn v d g2;have b3:=hS.eq x a3 b6
  have b7:(agf t v x).get v=s1.get v:=by
   unfold agf;rw[(rf hS.okt w _).1,e1,c0]
   by_cases h:s.knw v=true
   ·rw[if_pos h,if_pos h,b3,hS.eq v d h]
   ·rw[if_neg h,if_neg h,b3]
  have a5:∀u:Int,0<=u->u≠v->(agf t v x).get u=t.get u/\(agf t v x).knw u=t.knw u:=fun u hu j=>gr (vt d hu (Ne.symm j)) _
  have a1:OkS n (agf t v x):=hS.okt.put _ (by split;exact i7 (hS.okt.get _) (hS.okt.get _);exact hS.okt.get _)
  have b1:Sim n Q s1 (agf t v x):=⟨m,a1,fun u hu hk=>by
   by_cases ev:u=v
   ·rw[ev,b7]
   ·have q:=e3 u (vt d hu (Ne.symm ev));rw[(a5 u hu ev).1,q.1]
    exact hS.eq u hu (by rw[<-q.2];exact hk),
   fun u hu hun hk=>by
    by_cases ev:u=v
    ·rw[ev,e2] at hk;cases hk
    ·have q:=e3 u (vt d hu (Ne.symm ev));rw[(a5 u hu ev).1]
     exact hS.full u hu hun (by rw[<-q.2];exact hk),
   fun u hu l=>by
    by_cases ev:u=v
    ·rw[ev,e2];exact(rf hS.okt w _).2
    ·have q:=e3 u (vt d hu (Ne.symm ev));rw[(a5 u hu ev).2,q.2]
     exact hS.kn u hu l⟩
  have a0:ag9 Q (fun x=>0<=x/\s1.knw x=true) es:=g3.imp fun u=>by
   show((0<=u/\s.knw u=true)∨some v=some u)↔_
   by_cases ev:u=v
   ·rw[ev];exact⟨fun _=>⟨d,e2⟩,fun _=> .inr rfl⟩
   ·constructor
    ·rintro(⟨a,b⟩|e)
     ·exact⟨a,by rw[(e3 u (vt d a (Ne.symm ev))).2];exact b⟩
     ·exact absurd (Nt e).symm ev
    ·rintro⟨a,b⟩;exact .inl ⟨a,by rw[<-(e3 u (vt d a (Ne.symm ev))).2];exact b⟩
  have ih:=ek (p:=p) y es s1 (agf t v x) (c||(setF k s v (s.get x)).2) (fun e he=>hE e (.tail _ he)) a0 b1;rw[Qk,Qk,i]
  show Pass p n Q (.arg v x::es) s (es.foldl (evS p k) (s1,c||(setF k s v (s.get x)).2)).1 (es.foldl (evQ p) (agf t v x))
  generalize (es.foldl (evS p k) (s1,c||(setF k s v (s.get x)).2)).1=s' at ih ⊢;have a2:=ih.grow v d e2
  have b9:(s.get x).sub (s1.get v):=by
   rw[e1]
   split
   ·exact agu _ _
   ·exact Rg.sub.refl _
  refine⟨ih.sim,fun e he=>?_,fun u hu hk=>?_,fun u hu hn=>?_⟩
  ·rcases Jq.1 he with rfl|he
   ·refine⟨a2.1,?_⟩;have q:=ih.stay x a3 fun e he=>b2 e (.tail _ he)
    show(s'.get x).sub (s'.get v)
    rw[q.1,(e3 x (vt d a3 (Ne.symm b5))).1];exact b9.trans a2.2
   ·exact ih.fix e he
  ·by_cases ev:u=v
   ·rw[ev] at hk ⊢;refine⟨a2.1,Rg.sub.trans ?_ a2.2⟩;rw[e1,if_pos hk];exact agi _ _
   ·have q:=e3 u (vt d hu (Ne.symm ev));have:=ih.grow u hu (by rw[q.2];exact hk);rw[q.1] at this;exact this
  ·have ev:u≠v:=fun e=>hn (.arg v x) (.head _) (by rw[e];rfl)
   have q:=e3 u (vt d hu (Ne.symm ev));have:=ih.stay u hu fun e he=>hn e (.tail _ he)
   rw[q.1,q.2] at this;exact this
theorem hull_in {a g:Rg}(h:a.sub g):pC (tn a g) g=true:=by
 have h1:min a.lo g.lo=g.lo:=Nat.min_eq_right h.1;have h2:max a.hi g.hi=g.hi:=Nat.max_eq_right h.2;unfold pC tn;simp[h1,h2]
theorem set_in{s:Slv}{v:Int}{a:Rg}(hk:s.knw v=true)(h:a.sub (s.get v)):setF k s v a=(s,false):=by
 unfold setF;rw[if_pos hk,if_pos (hull_in h)]
theorem aeX{p:IProg}:∀(es:List Evn) (s:Slv),(∀e∈es,FixEv p s e)->es.foldl (evS p k) (s,false)=(s,false)
 | [],_,_=>rfl
 |.op o::es,s,h=>by
  have h1:evS p k (s,false) (.op o)=(s,false):=by
   show opS p k (s,false) o=_
   unfold opS
   by_cases h0:0<=o.res
   ·have:=h _ (.head _) h0;rw[if_pos h0];unfold q7;rw[set_in this.1 this.2];rfl
   ·rw[if_neg h0]
  rw[Qk,h1]
  exact aeX es s fun e he=>h e (.tail _ he)
 |.arg v x::es,s,h=>by
  have h1:evS p k (s,false) (.arg v x)=(s,false):=by
   have:=h _ (.head _)
   show q7 k v (s.get x) (s,false)=_
   unfold q7;rw[set_in this.1 this.2];rfl
  rw[Qk,h1];exact aeX es s fun e he=>h e (.tail _ he)
end Go.Proofs.YtoahcpkibpomcaaGreat
