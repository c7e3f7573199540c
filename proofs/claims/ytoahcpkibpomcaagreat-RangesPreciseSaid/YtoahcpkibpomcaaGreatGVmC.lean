/- Part of a proof. -/
import Derived.Test.YtoahcpkibpomcaaGreatGZo0
set_option linter.all false
set_option maxHeartbeats 4000000
set_option maxRecDepth 100000
namespace Go.Proofs.YtoahcpkibpomcaaGreat
open Go.RowKit
variable {g preds:List (List Nat)}{W0 w w' w0 w1 w2:World}{seen:List Bool}{B0 C bh bm bp c i j m nm tg u:Nat}{post:List Nat}{o:Obj}{P:Nat->Prop}{M:MS}
def fJ (w:World)(xs:List Nat)(e:Ending)(w':World):Prop:=∃v,e=.returned v/\w'.ownsRow w.heap.size 3 1 v xs.length (xs.map zj)/\O w w'
theorem k8(hv:zw g):(decide (0<(g.map (List.map Int.ofNat)).length) && pB (g.map (List.map Int.ofNat)))=true:=by
 obtain⟨h0,h1⟩:=hv;simp only[Nr,Jm,decide_eq_true_eq,pB,Oe,Nu];refine⟨h0,?_⟩;rintro _ ⟨l,hl,rfl⟩ s hs;simp only[Nu] at hs;obtain⟨x,c,rfl⟩:=hs;have:=h1 l hl x c;simp;omega
theorem agm{B:Nat}{v:Value}(h:aaB zj w B v g):aaB zN w B v (g.map (List.map Int.ofNat)):=(aaB.map (enc:=zN) (enc':=zj) Int.ofNat (fun _=>rfl)).2 h
theorem tK (w:World)(sv:Value)(g:List (List Nat))(B:Nat)(hB:B<=w.heap.size)(h:aaB zj w B sv g)(hv:zw g)(c:g.length<=2000000)(hr:∀row∈g,row.length<=2000000):
 A 93 #[.agg #[sv]] w fun e w'=>e=.returned (.bool true)/\O w w':=by
 have:=lR w sv (g.map (List.map Int.ofNat)) B hB (agm h) (by simpa using c) (by intro row hm;simp only[Nu] at hm;obtain⟨l,hl,rfl⟩:=hm;simpa using hr l hl);rw[k8 hv] at this;exact this
theorem yA (z:Value)(n:Nat):madeCells #[z] n=(List.replicate n z).toArray:=by
 rw[<-toList_madeCells_one]
theorem iC (w1:World)(n:Nat):Dfs w1 (((w1.alloc (G (madeCells #[.bool false] n) 4)).alloc (G #[Y w1.heap.size n n] 97)).alloc (G #[F] 149)) w1.heap.size n (w1.heap.size+1) w1.heap.size (w1.heap.size+1+1) (List.replicate n false) [] (.slice none 0 0) []:=by
 refine⟨zB (zI Zs),?_,by simp,⟨_,zI Zs,Jv _ _ _ _⟩,by omega,Jv _ _ _ _,?_⟩
 ·rw[zB (zB (zI rfl)),yA];simp[sl]
 ·exact(((Below.refl _ _).alloc (Je _) _).alloc Zs _).alloc Zt _
structure DInv (g:List (List Nat)) (seen:List Bool) (stk:List (Nat×Nat)) (post:List Nat):Prop where
 len:seen.length=g.length
 cnt:seen.count true=stk.length+post.length
 node:∀p∈stk,p.1<g.length
 fin:∀u∈post,u<g.length
theorem tI (l:List Bool)(u:Nat)(h:l[u]? =some false):(l.set u true).count true=l.count true+1:=by
 induction l generalizing u with
 |nil=>simp at h
 |cons b r ih=>
  cases u with
  |zero=>simp at h;subst h;simp
  |succ u=>
   simp only[List.getElem?_cons_succ] at h;simp only[Jg,Nf,ih u h];omega
theorem DInv.start(hv:zw g):DInv g ((List.replicate g.length false).set 0 true) ([]++ [(0,0)]) []:=by
 refine⟨by simp,?_,by simp;exact hv.1,by simp⟩;rw[tI _ _ (by simp[Nm,hv.1])];simp[List.count_replicate]
theorem DInv.le{d:List (Nat×Nat)}{c:List Nat}(h:DInv g seen d c):d.length+c.length<=g.length:=by
 rw[<-h.cnt,<-h.len];exact List.count_le_length
theorem DInv.pop{st:List (Nat×Nat)}{d:List Nat}(h:DInv g seen (st++ [(u,j)]) d):DInv g seen st (d++ [u]):=
 ⟨h.len,by have:=h.cnt;simp at this ⊢;omega,fun p hp=>h.node p (by simp[hp]),fun x c=>by
   rcases Jl.1 c with c|c
   ·exact h.fin x c
   ·have:=h.node (u,j) Zs;simp at c;subst c;exact this⟩
theorem DInv.skip{st:List (Nat×Nat)}(h:DInv g seen (st++ [(u,j)]) post):DInv g seen (st++ [(u,j+1)]) post:=
 ⟨h.len,by have:=h.cnt;simp at this ⊢;omega,fun p hp=>by
   rcases Jl.1 hp with hp|hp
   ·exact h.node p (by simp[hp])
   ·have:=h.node (u,j) Zs;simp at hp;subst hp;exact this,h.fin⟩
theorem DInv.enter{c:List (Nat×Nat)}{s:Nat}(h:DInv g seen c post)(hs:seen[s]? =some false):DInv g (seen.set s true) (c++ [(s,0)]) post:=by
 have d:s<g.length:=by rw[<-h.len];exact(Jh.1 hs).1
 refine⟨by simp[h.len],by rw[tI _ _ hs,h.cnt];simp;omega,fun p hp=>?_,h.fin⟩;rcases Jl.1 hp with hp|hp
 ·exact h.node p hp
 ·simp at hp;subst hp;exact d
theorem lJ (w:World)(sv:Value)(g:List (List Nat))(B:Nat)(hB:B<=w.heap.size)(h:aaB zj w B sv g)(hv:zw g)(hn:g.length<=2000000)(hr:∀row∈g,row.length<=2000000)
 (k0:Nat) (F:List Nat) (hF:kV g k0 ((List.replicate g.length false).set 0 true) [(0,0)] [] F):
 A 40 #[.agg #[sv]] w (fJ w F.reverse):=by
 obtain⟨a,b4,rfl,f5⟩:=h.form;obtain⟨ii,d7,c8,c7,c5⟩:=info_parts Tryz.info_int;obtain⟨ib,g0,f0,e8,e7⟩:=info_parts Tryz.info_bool;have y:O w (w.alloc (G #[.slice a g.length b4] 105)):=(Below.refl _ _).alloc (Je _) _;have HV:=Ja hv;have HR:=Ja hr;have HF:=Ja hF;clear hv hr hF;have d5:=run_make_row' (P:=Tryz.prog) 97 4 (.bool false) 1 Tryz.underlying97 Tryz.info_bool rfl .i64 .i64 g.length Zo Zo;go_enter Tryz.func40,Tryz.ntmps40;go_wp2_with (go_at_call 93;go_must (refine(tK _ _ g B Zt (h.below (y.mono hB)) HV.out hn HR.out).mono ?_;rintro e w1 ⟨rfl,a1⟩;obtain⟨c3,b9⟩:=bcell a1))
 have c2:Dfs w1 (((w1.alloc (G (madeCells #[.bool false] g.length) 4)).alloc (G #[Y w1.heap.size g.length g.length] 97)).alloc (G #[.slice none 0 0] 149)) w1.heap.size g.length (w1.heap.size+1) w1.heap.size (w1.heap.size+1+1) (List.replicate g.length false) [] (.slice none 0 0) []:=iC w1 g.length;refine(oF w1 _ w1.heap.size g.length (w1.heap.size+1) w1.heap.size (w1.heap.size+1+1) (List.replicate g.length false) [] (.slice none 0 0) [] 0 c2 HV.out.1 Zd).mono ?_;rintro e w2 ⟨rfl,hd⟩;have HD:=Ja hd;clear hd c2 d5;go_wp2_with fail
 go_loopg [4] k0 (fun k pv wr=>∃seen stk c,Hid (Dfs w1 wr w1.heap.size g.length (w1.heap.size+1) w1.heap.size (w1.heap.size+1+1) seen stk pv c/\kV g k seen stk c F/\DInv g seen stk c))
 case atStart=>exact⟨_,_,_,HD.out,HF.out,DInv.start HV.out⟩
 case round=>
  obtain⟨seen,stk,c,l⟩:=hrel
  cases gk with
  |zero=>
   obtain⟨rfl,rfl⟩:=l.out.2.1;obtain⟨sv,hk,d⟩:=l.out.1.hk;obtain⟨a0,c0,rfl⟩:=zG d;have ck:=cell_of_one hk;simp only[Ow] at ck;have t:O w w1:=y.trans (a1.mono Zs);have d4:=t.size;have c4:=Ja (t.trans (l.out.1.hb.mono t.size));have b7:=l.out.2.2.le;clear hk d a1 c3 b9 y t h;go_wp2_with (go_at_call 95;go_must (refine(mK wr _ _ c l.out.1.hp Zo).mono ?_;rintro e w3 ⟨rfl,d0,e0⟩))
   go_ret;refine⟨_,rfl,?_,?_⟩
   ·have:=vY d0 (base':=w.heap.size) Zo
    simpa using this
   ·refine c4.out.grown e0 (by have:=c4.out.size;omega) (fun k hk=>?_);have:=l.out.1.hp.lt k hk
    omega
  |succ k=>
   obtain⟨st,u,j,rfl,b5⟩:=l.out.2.1;obtain⟨sv,hk,d⟩:=l.out.1.hk;simp only[Jk,Nq,Ow,Ng,vH] at d;obtain⟨gk,cp,rfl,g3,g1⟩:=d.form Zo;have g4:=(zm d).1;have f3:=(zm d).2;have f4:(st.length:Int)<=cp:=Zo;have d3:u<g.length:=l.out.2.2.node (u,j) Zs;obtain⟨row,a4⟩:∃row,g[u]? =some row:=⟨_,Jd d3⟩
   have t:O w w1:=y.trans (a1.mono Zs);have d4:=t.size;have b3:=t.trans (l.out.1.hb.mono t.size);obtain⟨b,o,a2,f7,rfl,hb,hc,e6,hx⟩:=(h.below (b3.mono hB)).row a4;have hrl:=HR.out row (Ji a4);have b7:=l.out.2.2.le;simp only[Jk,Nq,Ow] at b7;have ck:=cell_of_one hk;have fk:=free_of_one hk;have cu:T wr gk (st.length*2) (I u):=(d.cellAt _ Zo).trans (by rw[Nc (by rw[yK];omega)];simp[yK,Nat.mul_comm,zj]);have cj:T wr gk (st.length*2+1) (I j):=(d.cellAt _ Zo).trans (by rw[Nc (by rw[yK];omega)];simp[yK,show st.length*2+1-2*st.length=1 by omega,zj]);have fj:N wr gk (st.length*2+1):=d.frozenAt _
   have g5:T wr w.heap.size 0 (.slice (some ⟨b,o,none⟩) g.length b4):=by
    have h1:(w.alloc (G #[.slice (some ⟨b,o,none⟩) g.length b4] 105)).heap[w.heap.size]? =_:=zI rfl;exact cell_of_one (zH l.out.1.hb (zH a1 h1 Zs) (by have:=a1.size;simp at this;omega))
   have f1:(u:Int)<g.length:=Zo;have a7:=Ja a4;have f8:=Ja d;have HK:=Ja hk;have HX:=Ja hx;have h5:=Ja b3;clear a4 d hk hx b3 t y a1 c3 b9 h;rcases b5 with⟨hj,q⟩|⟨s,hs,i,q⟩|⟨s,hs,i,q⟩
   ·have b8:row.length=j:=by rw[hj];simp[succ,Jj,a7.out]
    have a8:((j:Int)==(row.length:Int))=true:=by simp[b8]
    have a3:=Ja q;have hp:=l.out.1.hp;have f9:=lt_of_block HK.out;clear b8 hj q;go_wp2_with fail;go_quiet (fail);have own43:∀n,(wr.drewN n).ownsRow (w1.heap.size+1+1+1) 3 1 _ c.length (c.map zj):=fun n=>ji hp
    go_wp2_with (at_builtin;go_must (refine wpList_append_lies _ rfl (.tmp 43) (.tmp 48) 22 rfl (w1.heap.size+1+1+1) 3 ii (I 0) 1 8 Tryz.underlying22 d7 c8 c7 c5 rfl Zd _ c.length (c.map zj) rfl ((own43 _).alloc _) ⟨wr.heap.size,0,none⟩ 1 1 [I u] rfl rfl (Oi (cs:=#[I u]) (zI Zs)) (by simp[Value.oneCell']) Zd (by unfold maxLen;omega) Zo Zt (wr.heap.size+1) Zs ?_;intro g2 f6 w2 a9 a5 g6 f2;have m:=(l.out.1.drewN (k:=nq)).push a5 a9;have b0:=zL a5 (zB (kg HK.out)) (zC hp HK.out (.inl Zo));have h4:=cell_of_one b0;have g8:=free_of_one b0;have e4:=Ja b0;have a6:=Ja m;clear b0 m a9 a5 hp own43))
    go_roundg k
    case measure=>omega
    case rel=>exact⟨seen,st,c++ [u],a6.out.popStk e4.out,a3.out,l.out.2.2.pop⟩
   ·have x:row[j]? =some s:=by rw[<-hs];simp[succ,Jj,a7.out]
    have d6:j<row.length:=(Jh.1 x).1;have a8:((j:Int)==(row.length:Int))=false:=by simp;omega
    have d1:(j:Int)<row.length:=Zo;obtain⟨b2,o2,rfl,e1,cs⟩:=HX.out j s x;simp only[zj] at cs;have m:∀n,Dfs w1 ((wr.drewN n).setCell ⟨gk,st.length*2+1,none⟩ (I ((j:Int)+1))) _ _ _ _ _ _ _ _ _:=fun n=>(l.out.1.drewN (k:=n)).bump HK.out
    have e2:=fun n=>cell_of_one (m n).hv
    have e3:∀n,T ((wr.drewN n).setCell ⟨gk,st.length*2+1,none⟩ (I ((j:Int)+1))) w1.heap.size s (.bool true):=fun n=>zA (m n).hs (by simp[i,sl])
    have b6:s<g.length:=by rw[<-l.out.2.2.len];exact(Jh.1 i).1
    have c9:(s:Int)<g.length:=Zo;have a6:=Ja m;have a3:=Ja q;clear q hs i x m;go_wp2_with fail;go_quiet (fail);go_wp2_with fail
    go_roundg k
    case measure=>omega
    case rel=>exact⟨seen,st++ [(u,j+1)],c,a6.out _,a3.out,l.out.2.2.skip⟩
   ·have x:row[j]? =some s:=by rw[<-hs];simp[succ,Jj,a7.out]
    have d6:j<row.length:=(Jh.1 x).1;have a8:((j:Int)==(row.length:Int))=false:=by simp;omega
    have d1:(j:Int)<row.length:=Zo;obtain⟨b2,o2,rfl,e1,cs⟩:=HX.out j s x;simp only[zj] at cs;have m:∀n,Dfs w1 ((wr.drewN n).setCell ⟨gk,st.length*2+1,none⟩ (I ((j:Int)+1))) _ _ _ _ _ _ _ _ _:=fun n=>(l.out.1.drewN (k:=n)).bump HK.out
    have e2:=fun n=>cell_of_one (m n).hv
    have e3:∀n,T ((wr.drewN n).setCell ⟨gk,st.length*2+1,none⟩ (I ((j:Int)+1))) w1.heap.size s (.bool false):=fun n=>zA (m n).hs (by simp[i,sl])
    have b6:s<g.length:=by rw[<-l.out.2.2.len];exact(Jh.1 i).1
    have c9:(s:Int)<g.length:=Zo;have b1:=l.out.2.2.skip.enter i;have a6:=Ja m;have a3:=Ja q;have d2:=Ja b1;clear q hs i x m b1;go_wp2_with fail;go_quiet (fail);go_wp2_with (go_at_call 94;go_must (refine(oF w1 _ w1.heap.size g.length (w1.heap.size+1) w1.heap.size (w1.heap.size+1+1) seen (st++ [(u,j+1)]) _ c s (a6.out _) b6 Zt).mono ?_;rintro e w2 ⟨rfl,c1⟩;have e5:=Ja c1;clear c1))
    go_roundg k
    case measure=>omega
    case rel=>exact⟨seen.set s true,st++ [(u,j+1)]++ [(s,0)],c,e5.out,a3.out,d2.out⟩
theorem rG{F:List Nat}:∀(k:Nat) (seen:List Bool) (stk:List (Nat×Nat)) (post:List Nat),kV g k seen stk post F->DInv g seen stk post->F.length<=g.length/\∀u∈F,u<g.length
 |0,seen,stk,post,h,hi=>by
  obtain⟨rfl,rfl⟩:=h
  exact⟨by have:=hi.le;simpa using this,hi.fin⟩
 |k+1,seen,stk,post,h,hi=>by
  obtain⟨st,u,j,rfl,⟨_,h⟩|⟨s,_,_,h⟩|⟨s,_,hs,h⟩⟩:=h
  ·exact rG k _ _ _ h hi.pop
  ·exact rG k _ _ _ h hi.skip
  ·exact rG k _ _ _ h (hi.skip.enter hs)
theorem tV.nodes{c:List Nat}(h:tV g c)(hv:zw g):c.length<=g.length/\∀u∈c,u<g.length:=by
 obtain⟨k,h⟩:=h;have:=rG k _ _ _ h (DInv.start hv)
 simpa using this
theorem tp (w:World)(sv:Value)(g:List (List Nat))(B:Nat)(hB:B<=w.heap.size)(h:aaB zj w B sv g)(hv:zw g)(d:g.length<=2000000)(hr:∀row∈g,row.length<=2000000)(c:List Nat)(ho:tV g c):
 A 40 #[.agg #[sv]] w (fJ w c):=by
 obtain⟨k0,ho⟩:=ho;have:=lJ w sv g B hB h hv d hr k0 _ ho
 rwa [List.reverse_reverse] at this
theorem zM {fn:Func}{p:Tmp}{ty:TypeId}(h:fn.results=#[.cell p ty])(c:Array Value)(P:Program)(w:World):
 (results fn c).run P w=((asAddr (c.getD p undef)).run P w).andThen fun a w₁=>(loadVar ty a).run P w₁:=by
 simp only[results,h];simp[Sem.run_bind,Result.andThen]
structure GMem (V w:World) (bp bh n m:Nat) (R:List (List Int)):Prop where
 hg:w.heap[bh]? =some (.cells #[.slice (some ⟨bp,0,none⟩) n n] 105 (0,0))
 hr:OwnRows zN 3 22 w V.heap.size bp R
 hl:R.length=n
 hrl:∀row∈R,row.length<=m
 hb:Below V.heap.size V w
 gp:V.heap.size<=bp
 gh:V.heap.size<=bh
theorem GMem.start (V:World)(n m:Nat):GMem V ((V.alloc (G (madeCells #[F] n) 22)).alloc (G #[Y V.heap.size n n] 105)) V.heap.size (V.heap.size+1) n m (List.replicate n []):=by
 refine⟨zI Zs,OwnRows.made n ?_,by simp,(by intro r hr;rw[(List.mem_replicate.1 hr).2];simp),((Below.refl _ V).alloc (Je _) _).alloc Zs _,Je _,by omega⟩;rw[zB (zI rfl),yA]
theorem GMem.start' (V:World)(b:Nat)(hb:V.heap.size=b)(n m:Nat):GMem V ((V.alloc (G (madeCells #[F] n) 22)).alloc (G #[Y b n n] 105)) b (b+1) n m (List.replicate n []):=by
 subst hb;exact GMem.start V n m
theorem GMem.alloc{V:World}{n:Nat}{R:List (List Int)}(h:GMem V w bp bh n m R)(o:Obj):GMem V (w.alloc o) bp bh n m R:=
 ⟨zB h.hg,h.hr.kept (row:=none) ⟨rfl,rfl,rfl,by simp,fun k hk _=>Below.heap_alloc w o k hk⟩ Zs Zs,h.hl,h.hrl,h.hb.alloc h.hb.size o,h.gp,h.gh⟩
theorem GMem.put{V:World}{n s g H d:Nat}{R:List (List Int)}{row row':List Int}{a:Option Addr}(h:GMem V w bp bh n m R)(hs:R[s]? =some row)
 (y:T w bp s (.slice a row.length d)) (hg:(w.alloc o).grownBy w2 (Value.slice a row.length d).ownBlock)
 (t:w2.ownsRow V.heap.size 3 1 (Y g row'.length c) row'.length (row'.map zN)) (a0:(Value.slice a row.length d).ownBlock=some g∨g=H) (hH:w.heap.size<=H) (hm:row'.length<=m):
 GMem V (w2.setCell ⟨bp,s,none⟩ (Y g row'.length c)) bp bh n m (R.set s row'):=by
 obtain⟨h1,h2,h3,a1,u,h5,h6⟩:=h;obtain⟨a',a2,l,i,_⟩:=h2.get hs;rw[y] at l;cases l;have n1:=zC i h1 (.inr Zd);have q:=h2.put Zd hs y hg (row':=row') t a0 hH;have l1:=lt_of_block h1;obtain⟨cc,j⟩:=h2.blk;have x:bh≠bp:=fun e=>by subst e;rw[h1] at j;simp at j
 exact⟨zR (zL hg (zB h1) n1) (by simpa using x),q,by simpa using h3,fun r hr=>by(rcases Qe hr with hr|rfl;exact a1 r hr;exact hm),((u.alloc (by have:=u.size;omega) o).grown hg (by have:=u.size;simp;omega) (fun k hk=>(i.lt k hk).1)).setCell h5 _,h5,h6⟩
section
variable {α:Type} {enc:α->Value} {e eS:TypeId} {w:World} {B bp:Nat} {rows:List (List α)}
theorem OwnRows.base (h:OwnRows enc e eS w B bp rows){B':Nat}(hB:B'<=B):OwnRows enc e eS w B' bp rows:=by
 obtain⟨vs,h1,h2,h3,c⟩:=h;exact⟨vs,h1,h2,fun k r v a b=>vY (h3 k r v a b) hB,c⟩
theorem OwnRows.below(h:OwnRows enc e eS w B bp rows)(hb:O w w'):OwnRows enc e eS w' B bp rows:=by
 obtain⟨vs,h1,h2,h3,c⟩:=h;exact⟨vs,zH hb h1 (lt_of_block h1),h2,fun k r v a b=>p7 (h3 k r v a b) hb (Je _),c⟩
theorem OwnRows.set (h:OwnRows enc e eS w B bp rows){a:Addr}(c:a.block≠bp)(d:a.block<B)(u:Value):OwnRows enc e eS (w.setCell a u) B bp rows:=
 h.kept (w':=w.setCell a u) (row:=some a.block) ⟨rfl,rfl,rfl,by simp[World.setCell],fun k _ hk=>Below.heap_setCell _ _ _ _ (fun e=>hk (by rw[e]))⟩ (fun e=>c (by cases e;rfl)) (fun k hk=>by cases hk;exact d)
end
end Go.Proofs.YtoahcpkibpomcaaGreat
set_option maxRecDepth 8000
namespace Go.Proofs.YtoahcpkibpomcaaGreat
open Go.RowKit
variable {g preds:List (List Nat)}{W0 w w' w0 w1 w2:World}{seen:List Bool}{B0 C bh bm bp c i j m nm tg u:Nat}{post:List Nat}{o:Obj}{P:Nat->Prop}{M:MS}
theorem mD{P:List (List Nat)}{n s:Nat}(h:∀r∈P,r.length<=m):∀r∈xS n P s,r.length<=m+1:=by
 intro r hr;rcases Qe hr with hr|rfl
 ·have:=h r hr;omega
 ·simp only[Jk,Nq,Ow]
  by_cases hs:s<P.length
  ·have:=h (P.getD s []) (by rw[Jj,Jd hs];exact Uf hs);omega
  ·rw[Jj,Of Zo];simp
theorem oB (n:Nat):∀(l:List Nat) (P:List (List Nat)) (m:Nat),(∀r∈P,r.length<=m)->∀r∈l.foldl (xS n) P,r.length<=m+l.length
 | [],_,_,h=>h
 |s::l,P,m,h=>fun r hr=>by
  have:=oB n l _ (m+1) (mD h) r hr;simp only[Nq];omega
theorem rj (g:List (List Nat))(D:Nat)(c:∀row∈g,row.length<=D):∀(l:List Nat) (P:List (List Nat)) (m:Nat),(∀r∈P,r.length<=m)->∀r∈l.foldl (yh g) P,r.length<=m+l.length*D
 | [],_,_,h=>by simpa using h
 |u::l,P,m,h=>fun r hr=>by
  have hd:(succ g u).length<=D:=by
   unfold succ;rw[Jj]
   cases e:g[u]? with
   |none=>simp
   |some row=>exact c row (Ji e)
  have:=rj g D c l _ (m+D) (fun r hr=>by have:=oB u (succ g u) P m h r hr;omega) r hr;simp only[Nq,Nat.add_mul,Nat.one_mul];omega
theorem pred_len{D:Nat}(d:∀row∈g,row.length<=D)(c row:List Nat)(k j n N:Nat)(hk:k<=N){s:Nat}{pr:List Nat}
 (h:((row.take j).foldl (xS n) ((c.take k).foldl (yh g) (List.replicate N [])))[s]? =some pr):pr.length<=k*D+j:=by
 have h1:=oB n (row.take j) _ (0+(c.take k).length*D) (rj g D d (c.take k) (List.replicate N []) 0 (by intro r hr;rw[(List.mem_replicate.1 hr).2];simp)) pr (Ji h);have h2:(c.take k).length<=k:=List.length_take_le _ _;have h3:(row.take j).length<=j:=List.length_take_le _ _;have i:=Qw D h2;omega
structure ViewMem (w0 w:World) (B0 B bv bm bp n:Nat) (ov:Value) (ord:List Nat) (nm:Nat) (f:Int->Int) (preds:List (List Nat)):Prop where
 hv:w.heap[bv]? =some (.cells #[ov,.map (some bm),.slice (some ⟨bp,0,none⟩) n n] 202 (0,0))
 ho:w.ownsRow B0 3 1 ov ord.length (ord.map zj)
 ho2:∀g,ov.ownBlock=some g->g<B
 hm:ud w bm nm f
 hp:OwnRows zj 3 22 w B bp preds
 hl:preds.length=n
 hb:Below B0 w0 w
 lt:B0<=bv/\B0<=bm/\B0<=bp/\bv<B/\bm<B/\bp<B/\B<=w.heap.size
def oN (w:World)(C bv:Nat)(ord:List Nat)(f:Int->Int)(preds:List (List Nat)):Prop:=
 ∃ov bm pv nm,T w bv 0 ov/\T w bv 1 (.map (some bm))/\T w bv 2 pv/\xp zj w C ov ord/\ud w bm nm f/\bm<C/\aaB zj w C pv preds/\bv<C
theorem oN.below{bv:Nat}{c:List Nat}{f:Int->Int}(h:oN w C bv c f preds)(hb:Below C w w'):oN w' C bv c f preds:=by
 obtain⟨ov,bm,pv,nm,c0,c1,c2,ho,hm,d,hp,hl⟩:=h;exact⟨ov,bm,pv,nm,(hb.cell (p:=⟨bv,0,none⟩) hl).trans c0,(hb.cell (p:=⟨bv,1,none⟩) hl).trans c1,(hb.cell (p:=⟨bv,2,none⟩) hl).trans c2,ho.below hb,hm.same (hb.block bm d),d,hp.below hb,hl⟩
def RetView (w:World)(ord:List Nat)(f:Int->Int)(preds:List (List Nat))(e:Ending)(w':World):Prop:=
 ∃bv,e=.returned (Q bv)/\w.heap.size<=bv/\oN w' w'.heap.size bv ord f preds/\O w w'
theorem ViewMem.read{B bv n:Nat}{ov:Value}{c:List Nat}{f:Int->Int}(h:ViewMem w0 w B0 B bv bm bp n ov c nm f preds):oN w w.heap.size bv c f preds:=by
 refine⟨ov,bm,Y bp n n,nm,zA h.hv Zs,zA h.hv Zs,zA h.hv Zs,rY h.ho (Je _),h.hm,h.hm.lt,?_,lt_of_block h.hv⟩;have:=h.hp.asRows (Je w.heap.size)
 rwa [h.hl] at this
theorem Tryz.info_ints:(Tryz.prog.info? 22).map (fun i=>(i.zero,i.size,i.bytes))=some (some (.slice none 0 0),1,24):=by kernel_rfl
theorem ViewMem.store{B bv n:Nat}{ov:Value}{i:List Nat}{f f':Int->Int}(h:ViewMem w0 w B0 B bv bm bp n ov i nm f preds)
 (hg:w.grownBy w' (some bm)) (hm:ud w' bm j f'):ViewMem w0 w' B0 B bv bm bp n ov i j f' preds:=by
 obtain⟨hv,ho,ho2,d,hp,hl,hb,o⟩:=h;obtain⟨c,m⟩:=hp.blk;refine⟨zL hg hv (by simpa using d.ne hv),ho.kept hg ?_,ho2,hm,hp.kept hg (by simpa using d.ne m) (by intro k hk;cases hk;omega),hl,hb.grown hg (by have:=lt_of_block hv;have:=d.lt;omega) (by intro k hk;cases hk;omega),by have:=hg.size;omega⟩;right;intro e;rcases ho.2 with⟨rfl,_⟩|⟨g,t,cur,rfl,q,l,_⟩
 ·simp[Value.ownBlock] at e
 ·simp only[Value.ownBlock,Option.some.injEq] at e;subst e;exact d.ne l rfl
theorem ViewMem.push{B bv n s x g t H:Nat}{ov:Value}{u:List Nat}{f:Int->Int}{d:List (List Nat)}{row:List Nat}{a:Option Addr}(h:ViewMem w0 w B0 B bv bm bp n ov u nm f d)
 (hs:d[s]? =some row) (hc:T w bp s (.slice a row.length m)) (hg:(w.alloc o).grownBy w2 (Value.slice a row.length m).ownBlock)
 (a2:w2.ownsRow B 3 1 (Y g (row.length+1) t) (row.length+1) (row.map zj++ [zj x]))
 (a4:(Value.slice a row.length m).ownBlock=some g∨g=H) (hH:w.heap.size<=H):
 ViewMem w0 (w2.setCell ⟨bp,s,none⟩ (Y g (row.length+1) t)) B0 B bv bm bp n ov u nm f (d.set s (row++ [x])):=by
 obtain⟨hv,ho,ho2,j,hp,hl,hb,a7⟩:=h;obtain⟨c,l⟩:=hp.blk;obtain⟨a',a5,a0,y,_⟩:=hp.get hs;rw[hc] at a0;cases a0;have a1:=zC y hv (.inl Zo);have i:∀k,(Value.slice a row.length m).ownBlock=some k->B<=k:=fun k hk=>(y.lt k hk).1
 have a3:bv≠bp:=by rintro rfl;rw[hv] at l;simp at l
 have q:=hp.put Zd hs hc hg (row':=row++ [x]) (by simpa using a2) a4 hH;simp only[Jk,Nq,Ow,Ng] at q;refine⟨zR (zL hg (zB hv) a1) (by simpa using a3),?_,ho2,?_,q,by simp[hl],?_,by have:=hg.size;simp[World.setCell] at this ⊢;omega⟩
 ·refine ownsRow_setCell_other ((ho.alloc o).kept hg ?_) ?_ _
  ·cases hk:ov.ownBlock with
   |none=>exact .inl rfl
   |some k=>
    right;intro e;have:=ho2 k hk;have:=i k e.symm;omega
  ·exact zC (b:=bp) ho l (.inr Zd)
 ·refine j.same ?_;rw[Below.heap_setCell _ _ _ _ (by simpa using j.ne l),hg.block bm (by have:=j.lt;simp;omega) (fun e=>by have:=i bm e.symm;omega),Below.heap_alloc _ _ _ j.lt]
 ·have a6:=lt_of_block hv;exact((hb.alloc Zo o).grown hg Zt (fun k hk=>by have:=i k hk;omega)).setCell (show B0<=bp by omega) _
theorem uj{row:Option Nat}(h:w.drew.grownBy w' row):w.grownBy w' row:=⟨h.os,h.tape,h.output,h.size,h.block⟩
theorem uG{B:Nat}(h:Below B w w'):Below B w w'.drew:=h.drew
theorem lq{n:Nat}{v:Value}(c:T w' n 0 v)(h:Below (n+1) W0 w')(hl:n<W0.heap.size)(o:Obj):T (w'.alloc o) n 0 v/\Below (n+1) W0 (w'.alloc o):=by
 have:=h.size;exact⟨by rw[Oo (w:=w') (Below.heap_alloc _ _ _ Zt)];exact c,h.alloc Zo o⟩
theorem oY{n:Nat}{v:Value}(c:T w' n 0 v)(h:Below (n+1) W0 w')(hl:n<W0.heap.size)(hb:O w' w1):T w1 n 0 v/\Below (n+1) W0 w1:=by
 have:=h.size;exact⟨(hb.cell (p:=⟨n,0,none⟩) (show n<_ by omega)).trans c,h.trans (hb.mono Zo)⟩
theorem ww{n:Nat}(c:n=w.heap.size)(d:Hid (w.alloc o=W0))(h:Below (n+1) W0 w'):Below n w w':=by
 have e:=d.out;subst e;subst c;exact((Below.refl _ _).alloc (Je _) _).trans (h.mono Zo)
theorem o7{B:Nat}(hB:B<=w.heap.size)(c:Hid (w.alloc o=W0))(h:Below (w.heap.size+1) W0 w'):B<=w'.heap.size:=by
 have:=(ww rfl c h).size;omega
theorem nP{B:Nat}{v:Value}(d:aaB zj w B v g)(hB:B<=w.heap.size)(c:Hid (w.alloc o=W0))(h:Below (w.heap.size+1) W0 w'):aaB zj w' B v g:=
 d.below ((ww rfl c h).mono hB)
theorem aJ{X wy:World}{F F':List Nat}{ao:Option Addr}{co bv n:Nat}(h:F.length=F'.length)(c:w1.ownsRow X.heap.size 3 1 (.slice ao F.length co) F.length (F.map zj))(lg:w.heap.size<W0.heap.size)
 (i:W0.heap.size<=X.heap.size) (hb:Below (w.heap.size+1) W0 wy) (hg:w1.grownBy wy none) (d:wy.heap.size=bv)
 (hm:wy.heap[bm]? =some (.map #[] 0)) (hp:L wy bp (madeCells #[.slice none 0 0] n) 22) (lt:w.heap.size<bm/\w.heap.size<bp):
 ∃bv' bm' bp' ov,Value.pointer (some ⟨bv,0,none⟩)=Q bv'/\Hid (ViewMem W0 (wy.alloc (G #[.slice ao F'.length co,.map (some bm),Y bp n n] 202)) (w.heap.size+1) (wy.alloc (G #[.slice ao F'.length co,.map (some bm),Y bp n n] 202)).heap.size bv' bm' bp' n ov F 0 (fun _=>0) (List.replicate n [])):=by
 rw[<-h];have h1:=hb.size;have h2:=hg.size;have ho:=(c.kept hg (by cases ao<;>simp[Value.ownBlock])).alloc (G #[.slice ao F.length co,.map (some bm),Y bp n n] 202);have h3:=lt_of_block hm;have j:=lt_of_block hp;refine⟨bv,bm,bp,.slice ao F.length co,rfl,zI d,vY ho Zo,fun g hg=>(ho.lt g hg).2,?_,OwnRows.made _ (by rw[zB hp,yA]),by simp,hb.alloc Zo _,?_⟩
 ·exact⟨_,⟨#[],0,zB hm,(let⟨es,clock,h1,h2,_⟩:=(World.ownsMap_made (H:=Unit) w Tryz.prog 3 (plainElem Tryz.prog 3));by
   rw[zI rfl] at h1;cases h1;exact h2),Je _,rfl⟩,fun _ _=>rfl⟩
 ·simp only[World.size_alloc];omega
theorem view_any (w:World)(sv:Value)(g:List (List Nat))(B:Nat)(hB:B<=w.heap.size)(h:aaB zj w B sv g)(hv:zw g)(hn:g.length<=2000000)(hr:∀row∈g,row.length<=2000000)
 (c:List Nat) (hF:tV g c):
 A 140 #[.agg #[sv]] w (RetView w c (atF c c.length) (un g c)):=by
 obtain⟨a,u,rfl,g6⟩:=h.form;obtain⟨ii,e8,c9,c8,c7⟩:=info_parts Tryz.info_int;have d2:O w (w.alloc (G #[.slice a g.length u] 105)):=(Below.refl _ _).alloc (Je _) _;have e3:=@run_makeMap Tryz.prog;have e4:=run_make_row' (P:=Tryz.prog) 103 22 (.slice none 0 0) 24 Tryz.underlying103 Tryz.info_ints rfl .i64 .i64 g.length Zo Zo;have HV:=Ja hv;have HR:=Ja hr;have HF:=Ja hF;have cg:T (w.alloc (G #[.slice a g.length u] 105)) w.heap.size 0 (.slice a g.length u):=cell_of_one (zI rfl);clear hv hr hF;go_enter Tryz.func140,Tryz.ntmps140;go_upto_region 1 with fail;generalize b9:w.alloc (G #[.slice a g.length u] 105)=W0 at cg ⊢;have x:=Ja b9;have g8:=Below.refl (w.heap.size+1) W0;have lg:w.heap.size<W0.heap.size:=Jw W0 _ cg;clear b9 d2
 go_cut [3] (fun s3 wx=>∃bv bm bp ov,s3=Q bv/\Hid (ViewMem W0 wx (w.heap.size+1) wx.heap.size bv bm bp g.length ov c 0 (fun _=>0) (List.replicate g.length [])))
 case first=>
  go_region_held3 (fun w'=>T w' w.heap.size 0 (.slice a g.length u)/\Below (w.heap.size+1) W0 w')
   (first
     |(go_split_ands;refine⟨?_,?_⟩<;>assumption)
     |(go_split_ands;refine⟨?_,uG ?_⟩<;>assumption)
     |(go_split_ands;exact lq ‹_› ‹_› Zz _)
     |(go_split_ands;exact oY ‹_› ‹_› Zz Zz))
   ((go_at_call 40;refine(tp _ _ g B (o7 hB x (by repeat' (first|assumption|(with_reducible refine Below.drew ?_)|(with_reducible refine Below.alloc ?_ ?_ _)|omega|(simp<;>omega)))) (nP h hB x (by repeat' (first|assumption|(with_reducible refine Below.drew ?_)|(with_reducible refine Below.alloc ?_ ?_ _)|omega|(simp<;>omega)))) HV.out hn HR.out c HF.out).mono ?_;rintro e w1 ⟨ov,rfl,b5,a5⟩;obtain⟨ao,co,rfl⟩:=zG b5))
  all_goals
   go_wp2_with fail;go_meet;have e0:=a5.size;simp at e0;refine aJ (w:=w) (w1:=w1) (F:=c) rfl b5 lg ?_ ?_ ?_ ?_ ?_ ?_ ?_
   ·simp<;>omega
   ·repeat' (first|assumption|(with_reducible refine Below.drew ?_)|(with_reducible refine Below.alloc ?_ ?_ _)|(refine Below.trans ?_ (Below.mono a5 ?_))|omega|(simp<;>omega))
   ·repeat' (first|(with_reducible exact oI _ _)|(with_reducible refine World.grownBy.trans ?_ (Uo _ _ _)))
   ·simp
   ·repeat' (first|(refine zI ?_;first|rfl|(simp;done))|(refine zB ?_)|(refine zH a5 ?_ ?_)|omega|(simp<;>omega))
   ·repeat' (first|(refine zI ?_;first|rfl|(simp;done))|(refine zB ?_)|(refine zH a5 ?_ ?_)|omega|(simp<;>omega))
   ·constructor<;>first|omega|(simp<;>omega)
 case rest=>
  obtain⟨bv,bm,bp,ov,rfl,a6⟩:=hcut;obtain⟨BB,c0⟩:∃BB,BB=wc.heap.size:=⟨_,rfl⟩
  rw[<-c0] at a6;clear c0 e3 e4;have ho:=a6.out.ho;obtain⟨ao,co,rfl⟩:=zG ho;have b8:=a6.out.hv;have f4:=K0 b8;clear ho b8;have e1:=(HF.out.nodes HV.out).1;go_wp2_with fail
  go_loopw [22] (fun i wr=>∃k:Nat,k<=c.length/\i=I k/\Hid (ViewMem W0 wr (w.heap.size+1) BB bv bm bp g.length (.slice ao c.length co) c k (atF c k) ((c.take k).foldl (yh g) (List.replicate g.length [])))) (fun i _=>c.length-(intOf i).toNat)
  case atStart=>exact⟨0,Jt _,rfl,by rw[show atF c 0=fun _=>0 from rfl];simpa using a6⟩
  case round=>
   obtain⟨k,hk,rfl,HK⟩:=hrel
   by_cases e5:k<c.length
   ·obtain⟨n,a4⟩:∃n,c[k]? =some n:=⟨_,Jd e5⟩
    have e2:n<g.length:=(HF.out.nodes HV.out).2 n (Ji a4);have g2:(n:Int)<g.length:=Zo;have g5:(k:Int)<c.length:=Zo;have d6:=rY HK.out.ho (Je _);obtain⟨ao',i0,f1,_,hx⟩:=d6;cases f1;obtain⟨bo,oo,rfl,_,c3⟩:=hx k n a4;simp only[zj] at c3;have f3:=K1 HK.out.hv;obtain⟨row,q⟩:∃row,g[n]? =some row:=⟨_,Jd e2⟩
    have c5:=Ja a4;clear hx a4 f4;obtain⟨b,o,a2,h5,rfl,hb,hc,f9,hx⟩:=h.row q;have HX:=Ja hx;have HC:=Ja hc;clear hx hc;go_wp2_with (at_mapUpdate;go_must (refine rW rfl (.tmp 30) (.tmp 31) (.tmp 32) rfl HK.out.hm Zo (n:Int) (k:Int) rfl rfl rfl Zo Zo ?_;intro w2 b6 b7;have m:=HK.out.store b7 b6;have d1:=(m.hb.cell (p:=⟨w.heap.size,0,none⟩) (show w.heap.size<w.heap.size+1 by omega)).trans cg;have hc:=((ww rfl x m.hb).cell (p:=⟨b,o+n,none⟩) (show b<w.heap.size by omega)).trans HC.out;have d3:=Ja m;clear m b6 b7))
    have hrl:=HR.out row (Ji q);have a9:=Ja q;clear HK c3 f3 q
    go_loopw [39] (fun i wx=>∃j:Nat,j<=row.length/\i=I j/\Hid (ViewMem W0 wx (w.heap.size+1) BB bv bm bp g.length (.slice (some ⟨bo,oo,none⟩) c.length co) c (k+1) (fun y=>if y=(n:Int) then(k:Int) else atF c k y) ((row.take j).foldl (xS n) ((c.take k).foldl (yh g) (List.replicate g.length []))))) (fun i _=>row.length-(intOf i).toNat)
    case atStart=>exact⟨0,Jt _,rfl,by simpa using d3⟩
    case round=>
     obtain⟨j,hj,rfl,d⟩:=hrel
     by_cases d0:j<row.length
     ·obtain⟨s,a0⟩:∃s,row[j]? =some s:=⟨_,Jd d0⟩
      have d7:s<g.length:=HV.out.2 row (Ji a9.out) s (Ji a0);obtain⟨b2,o2,rfl,h7,c1⟩:=HX.out j s a0;have cs:=((ww rfl x d.out.hb).cell (p:=⟨b2,o2+j,none⟩) (show b2<w.heap.size by omega)).trans c1;simp only[zj] at cs;have b4:=d.out.hl;obtain⟨pr,a1⟩:∃pr,((row.take j).foldl (xS n) ((c.take k).foldl (yh g) (List.replicate g.length [])))[s]? =some pr:=⟨_,Jd (by rw[b4];exact d7)⟩
      obtain⟨ap,a8,cp,a3,fp⟩:=d.out.hp.get a1;have c2:=K2 d.out.hv;have h6:=d.out.lt.2.2.2.2.2.2;have g1:pr.length<=4000004000000:=by have:=pred_len HR.out c row k j n _ (Jn hk e1) a1;omega
      have g0:(s:Int)<g.length:=Zo;have g4:(j:Int)<row.length:=Zo;have lb:=d.out.lt;have d5:=lt_of_block d.out.hv;have b3:=d.out.hp.bplt;have d4:=zC a3 d.out.hv (.inl Zo);obtain⟨cc,a7⟩:=d.out.hp.blk;have b1:=zC a3 a7 (.inr Zd);have c4:=Ja a1;have f7:=Ja a0;have i2:=Ja a7;have f8:=Ja a3;clear a1 a0 a7 a3 c1 b4 d1 hc;have f2:∀o,N (wr.alloc o) bp s:=fun o=>(Qm (w:=wr) (Below.heap_alloc _ _ _ b3)).trans fp
      have f5:∀o,T (wr.alloc o) bp s (.slice ap pr.length a8):=fun o=>(Oo (w:=wr) (Below.heap_alloc _ _ _ b3)).trans cp
      have f6:∀o,T (wr.alloc o) bv 2 (Y bp g.length g.length):=fun o=>(Oo (w:=wr) (Below.heap_alloc _ _ _ d5)).trans c2
      go_upto_block 3 with fail
      go_cut [7] (fun s7 wx=>Hid (ViewMem W0 wx (w.heap.size+1) BB bv bm bp g.length (.slice (some ⟨bo,oo,none⟩) c.length co) c (k+1) (fun y=>if y=(n:Int) then(k:Int) else atF c k y) (((row.take j).foldl (xS n) ((c.take k).foldl (yh g) (List.replicate g.length []))).set s (pr++ [n]))))
      case first=>
       go_upto_region 9 with fail
       go_region_law (first|(refine step_append_lies _ (by rfl) (.tmp 54) (.tmp 56) _ (by rfl) BB 3 ii (I 0) 1 8 Tryz.underlying22 e8 c9 c8 c7 rfl Zo (.slice ap pr.length a8) pr.length (pr.map zj) (by rfl) ((f8.out.alloc _).drew) ⟨wr.heap.size,0,none⟩ 1 1 [I n] (by rfl) (by rfl) (Oi (cs:=#[I n]) (t:=3) (fr:=(0,0)) (heap_alloc_new wr _)) (by simp[Value.oneCell']) Zo (by unfold maxLen;omega) Zo Zt (wr.heap.size+1) Zs ?_;intro gg h4 w3 b0 l f0 g3;have i1:=(l.cell_far ⟨bv,2,none⟩ Zt (Ne.symm d4)).trans (f6 _);have h9:=(l.cell_far ⟨bp,s,none⟩ Zt (Ne.symm b1)).trans (f5 _);have h8:=(l.frozen_far ⟨bp,s,none⟩ Zt (Ne.symm b1)).trans (f2 _)))
       all_goals (go_wp2_with fail;go_meet;exact Ja (d.out.push c4.out cp (uj l) b0 f0 Zo))
      case rest=>
       go_wp2_with fail;go_roundw
       case rel=>exact⟨j+1,by omega,by go_num,by rw[Nh,f7.out];simpa[xS,Jj,c4.out] using hcut⟩
       case measure=>simp[intOf];omega
     ·go_wp2_with fail;go_roundw
      case rel=>exact⟨k+1,by omega,by go_num,by
       have e7:j=row.length:=Zo;have h1:=d;rw[e7,Nl] at h1;rw[Nh,c5.out,List.foldl_append];have h2:succ g n=row:=by simp[succ,Jj,a9.out]
       have h3:atF c (k+1)=fun y=>if y=(n:Int) then(k:Int) else atF c k y:=by
        funext y;simp only[atF,Jj,c5.out,Ot]
       rw[h3]
       simpa[yh,h2] using h1⟩
      case measure=>simp[intOf];omega
   ·have e6:k=c.length:=Zo;subst e6;go_wp2_with fail;go_ret;refine⟨bv,rfl,?_,?_,ww rfl x HK.out.hb⟩
    ·have:=HK.out.lt;omega
    ·have:=HK.out.read
     rwa [Nl] at this
open Go.RowKit Go.Maps Go.ChangeMaps
theorem wA.entry{b n:Nat}{g:Int->Option Int}(h:wA w b n g)(hn:n<9000000000000000000){kx vv:Int}(k:I64 kx)(a7:I64 vv)(a8:g kx=none):
 ∃(st:Nat) (w1 w2:World),(Instr.mapEntry 171 (.map (some b)) (.int .i64 kx)).run Tryz.prog w=.ok (.tuple #[.int .i64 0,goInt st]) w1/\w.grownBy w1 (some b)/\
  (Instr.entryStore 171 (.map (some b)) (goInt st) (.int .i64 vv)).run Tryz.prog w1=.ok () w2/\wA w2 b (n+1) (lS g kx vv)/\w.grownBy w2 (some b):=by
 have q:=h.lookOk k;rw[a8] at q
 have a3:∃w',(Instr.mapUpdate 171 (.map (some b)) (.int .i64 kx) (.int .i64 vv)).run Tryz.prog w=.ok () w'/\wA w' b (n+1) (lS g kx vv)/\w.grownBy w' (some b):=by
  obtain⟨D,h,hf⟩:=h;obtain⟨w',a2,a4,t⟩:=h.update xH Tryz.underlying171 (by unfold maxLen;omega) (vB k) (plainElem_int Tryz.underlying3 (wf64' a7));refine⟨w',a2,⟨_,a4,fun y hy=>?_⟩,t⟩;have a0:WideAt.IsKeyLit (.int .i64 kx):=xH.key (vB k)
  by_cases e:y=kx
  ·subst e;simp only[lS,if_true];exact⟨Maps.atKey_put_same h.isMap a0 _ _,Maps.has_put_same h.isMap a0 _⟩
  ·simp only[lS,if_neg e];rw[Maps.atKey_put_other (by simpa using e),Maps.has_put_other (by simpa using e)];exact hf y hy
 obtain⟨w3,m,hP,t⟩:=a3;obtain⟨D,h,hf⟩:=h;obtain⟨es,d,hb,F,hs,rfl⟩:=h;obtain⟨s1,s2,_⟩:=F.stamped;rcases xH.find w (vB k) es.toList F.keys with⟨h1,h2⟩|⟨j,e0,h1,h2,h3⟩
 ·have a6:(es.push ⟨.int .i64 kx,.int .i64 0,d⟩).findIdx? (fun e=>((e.born:Nat):Int)==((d:Nat):Int))=some es.size:=by
   rw[WideElems.findIdx_arr];refine WideElems.findIdx_born (l:=(es.push ⟨.int .i64 kx,.int .i64 0,d⟩).toList) (j:=es.size) (e0:=⟨.int .i64 kx,.int .i64 0,d⟩) ?_ Zs;simp only[Array.toList_push,Js,Ql,List.map_nil];refine Qq.2 ⟨s2,by simp,fun a ha c hc e1=>?_⟩;simp only[Jo] at hc;obtain⟨x,hx,rfl⟩:=Nu.1 ha;have:=s1 x hx;omega
  have a5:(es.push ⟨.int .i64 kx,.int .i64 0,d⟩).modify es.size (fun e=> {e with val:=.int .i64 vv })=es.push ⟨.int .i64 kx,.int .i64 vv,d⟩:=by
   apply Array.ext';rw[Array.toList_modify,Array.toList_push,Array.toList_push,<-Array.length_toList,WideElems.modify_last]
  have u:=heap_setBlock_same hb (.map (es.push ⟨.int .i64 kx,.int .i64 0,d⟩) (d+1))
  have e3:w3=setBlock w b (.map (es.push ⟨.int .i64 kx,.int .i64 vv,d⟩) (d+1)):=by
   simp[Instr.mapUpdate,run_underlying Tryz.underlying171,MapKept.run_getObj_map hb,xH.check w false (vB k),h1,MapKept.run_setObj_map _ hb,Result.andThen] at m;exact m.symm
  have a1:∀o,w.grownBy (setBlock w b o) (some b):=fun o=>⟨rfl,rfl,rfl,by simp[setBlock],fun i _ hi=>heap_setBlock_other hb _ (fun e=>hi (by rw[e]))⟩
  refine⟨d,setBlock w b (.map (es.push ⟨.int .i64 kx,.int .i64 0,d⟩) (d+1)),setBlock (setBlock w b (.map (es.push ⟨.int .i64 kx,.int .i64 0,d⟩) (d+1))) b (.map (es.push ⟨.int .i64 kx,.int .i64 vv,d⟩) (d+1)),?_,a1 _,?_,?_,?_⟩
  ·simp[Instr.mapEntry,run_underlying Tryz.underlying171,MapKept.run_getObj_map hb,xH.check w false (vB k),h1,px,MapKept.run_setObj_map _ hb,Result.andThen,setBlock]
  ·generalize setBlock w b (.map (es.push ⟨.int .i64 kx,.int .i64 0,d⟩) (d+1))=W1 at u ⊢;simp[Instr.entryStore,MapKept.run_getObj_map u,asInt,asIntOf,goInt,a6,a5,MapKept.run_setObj_map _ u,Result.andThen,setBlock]
  ·refine hP.same ?_;rw[heap_setBlock_same u,e3,heap_setBlock_same hb]
  ·have e4:setBlock (setBlock w b (.map (es.push ⟨.int .i64 kx,.int .i64 0,d⟩) (d+1))) b (.map (es.push ⟨.int .i64 kx,.int .i64 vv,d⟩) (d+1))=setBlock w b (.map (es.push ⟨.int .i64 kx,.int .i64 vv,d⟩) (d+1)):=by simp[setBlock]
   rw[e4];exact a1 _
 ·exfalso;simp[Instr.lookup,run_underlying Tryz.underlying171,MapKept.run_getObj_map hb,xH.check w es.isEmpty (vB k),h1,Result.andThen] at q
def wG (w:World)(xs:List Int)(e:Ending)(w':World):Prop:=∃v,e=.returned v/\zY w' w'.heap.size v xs/\O w w'
theorem yP{B:Nat}{W:World}{v:Value}(h:Below B w W)(hg:W.grownBy w' v.ownBlock)(hB:B<=W.heap.size)(hv:∀k,v.ownBlock=some k->B<=k):Below B w w':=
 h.trans ⟨hg.os,hg.tape,hg.output,hg.size,fun k hk=>hg.block k Zo (fun e=>by have:=hv k e.symm;omega)⟩
theorem wF{e:TypeId}{size n:Nat}{v:Value}{xs:List Value}(h:w.ownsRow c e size v n xs):∀k,v.ownBlock=some k->c<=k:=fun k hk=>(h.lt k hk).1
theorem uses_00(o:IOp)(ho:I64 o.code/\I64 o.res/\I64 o.a/\I64 o.b/\o.n<65536){av:Value}{B:Nat}(hB:B<=w.heap.size)(g:zY w B av o.args)(q:o.args.length<=1000000000000)(a2:(zi o.code).a=false)(a1:(zi o.code).b=false):
 A 120 #[.agg #[I o.code,I o.res,I o.a,I o.b,U (o.n:Int),av]] w (wG w ([]++o.args)):=by
 obtain⟨aa,ac,rfl,b1,b0⟩:=g.form;obtain⟨ii,a8,a6,a5,a4⟩:=info_parts Tryz.info_int
 obtain⟨q1,q2,q3,hf⟩:∃q1 q2 q3,∀W,A 142 #[I o.code] W fun e w'=>e=.returned (.tuple #[.agg #[.bool q1,.bool false,.bool false,.bool q2],.bool q3])/\O W w':=
  ⟨(zi o.code).res,(zi o.code).n,(zi o.code).is,fun W=>by have:=yu o.code W;unfold yX nL at this;rw[a2,a1] at this;exact this⟩
 have HF:=Ja hf;have i:=Ja (show zY w B (.slice aa o.args.length ac) o.args/\B<=w.heap.size/\o.args.length<=1000000000000 from⟨g,hB,q⟩);have HO:=Ja ho
 have m:∀x∈ []++o.args,I64 x:=by
  intro x j;rcases Jl.1 j with j|j
  ·simp at j
  ·exact zY.all g x j
 have b3:=Ja m;have a0:=zI (W:=w) (o:=G (D o aa ac) 76) rfl;have a3:O w (w.alloc (G (D o aa ac) 76)):=(Below.refl _ _).alloc (Je _) _;have d:=Ja (Jb a0 a3);clear hf g hB q ho m a0 a3 b1 b0 a2 a1;go_enter Tryz.func120,Tryz.ntmps120;go_upto_region 2 with(first|(go_at_call 142;go_must (refine(HF.out _).mono ?_;rintro e w1 ⟨rfl,h⟩))|go_in)
 have hb:=(d.out.2.trans (h.mono d.out.2.size)).alloc (by have:=d.out.2.size;have:=h.size;omega) (G #[.bool q1,.bool false,.bool false,.bool q2] 197);have y:=zB (o:=G #[.bool q1,.bool false,.bool false,.bool q2] 197) (zH h d.out.1 (lt_of_block d.out.1));have u:=zI (W:=w1) (o:=G #[.bool q1,.bool false,.bool false,.bool q2] 197) rfl;generalize b2:w1.alloc (G #[.bool q1,.bool false,.bool false,.bool q2] 197)=W1 at *;generalize a9:w1.heap.size=c1 at *;have own0:W1.ownsRow w.heap.size 3 1 (F) 0 []:=Jv W1 _ _ _;have c:=Ja (show O w W1/\L W1 w.heap.size (D o aa ac) 76/\L W1 c1 #[.bool q1,.bool false,.bool false,.bool q2] 197/\W1.ownsRow w.heap.size 3 1 (F) 0 [] from⟨hb,y,u,own0⟩);clear b2 a9 h hb y u own0;have x2:=K2 c.out.2.1;have x3:=K3 c.out.2.1;have x5:=K5 c.out.2.1;have f1:=K1 c.out.2.2.1;have f2:=K2 c.out.2.2.1;go_upto_region 5 with fail;clear x2 x3 x5 f1 f2;have x2:=K2 c.out.2.1;have x3:=K3 c.out.2.1;have x5:=K5 c.out.2.1;have f1:=K1 c.out.2.2.1;have f2:=K2 c.out.2.2.1;go_upto_region 7 with fail;clear x2 x3 x5 f1 f2;have x2:=K2 c.out.2.1;have x3:=K3 c.out.2.1;have x5:=K5 c.out.2.1;have f1:=K1 c.out.2.2.1;have f2:=K2 c.out.2.2.1;have k:=zY.src (i.out.1.below zO (c.out.1.mono i.out.2.1));have a7:=Ja k;clear k;go_wp2_with (at_builtin;go_must (refine zK _ rfl (.tmp 26) (.tmp 28) 22 rfl w.heap.size 3 ii (I 0) 1 8 Tryz.underlying22 a8 a6 a5 a4 rfl Zd (F) 0 (([]:List Int).map zN) rfl c.out.2.2.2 _ o.args.length (o.args.map zN) rfl a7.out (by have:=i.out.2.2;unfold maxLen;omega) (by have:=i.out.2.2;omega) c.out.1.size ?_;intro v9 w9 l t b4))
 go_ret;refine⟨v9,rfl,?_,yP c.out.1 t c.out.1.size (wF c.out.2.2.2)⟩;rw[<-Js] at l;exact uA l (by simp<;>omega) b3.out
theorem uses_01(o:IOp)(ho:I64 o.code/\I64 o.res/\I64 o.a/\I64 o.b/\o.n<65536){av:Value}{B:Nat}(hB:B<=w.heap.size)(j:zY w B av o.args)(a1:o.args.length<=1000000000000)(a9:(zi o.code).a=false)(a8:(zi o.code).b=true):
 A 120 #[.agg #[I o.code,I o.res,I o.a,I o.b,U (o.n:Int),av]] w (wG w ([o.b]++o.args)):=by
 obtain⟨aa,ac,rfl,b6,b5⟩:=j.form;obtain⟨ii,a7,u,t,q⟩:=info_parts Tryz.info_int
 obtain⟨q1,q2,q3,hf⟩:∃q1 q2 q3,∀W,A 142 #[I o.code] W fun e w'=>e=.returned (.tuple #[.agg #[.bool q1,.bool false,.bool true,.bool q2],.bool q3])/\O W w':=
  ⟨(zi o.code).res,(zi o.code).n,(zi o.code).is,fun W=>by have:=yu o.code W;unfold yX nL at this;rw[a9,a8] at this;exact this⟩
 have HF:=Ja hf;have l:=Ja (show zY w B (.slice aa o.args.length ac) o.args/\B<=w.heap.size/\o.args.length<=1000000000000 from⟨j,hB,a1⟩);have HO:=Ja ho
 have a0:∀x∈ [o.b]++o.args,I64 x:=by
  intro x m;rcases Jl.1 m with m|m
  ·simp at m;rw[m];exact ho.2.2.2.1
  ·exact zY.all j x m
 have b8:=Ja a0;have a6:=zI (W:=w) (o:=G (D o aa ac) 76) rfl;have b1:O w (w.alloc (G (D o aa ac) 76)):=(Below.refl _ _).alloc (Je _) _;have i:=Ja (Jb a6 b1);clear hf j hB a1 ho a0 a6 b1 b6 b5 a9 a8;go_enter Tryz.func120,Tryz.ntmps120;go_upto_region 2 with(first|(go_at_call 142;go_must (refine(HF.out _).mono ?_;rintro e w1 ⟨rfl,k⟩))|go_in)
 have hb:=(i.out.2.trans (k.mono i.out.2.size)).alloc (by have:=i.out.2.size;have:=k.size;omega) (G #[.bool q1,.bool false,.bool true,.bool q2] 197);have a5:=zB (o:=G #[.bool q1,.bool false,.bool true,.bool q2] 197) (zH k i.out.1 (lt_of_block i.out.1));have a3:=zI (W:=w1) (o:=G #[.bool q1,.bool false,.bool true,.bool q2] 197) rfl;generalize b7:w1.alloc (G #[.bool q1,.bool false,.bool true,.bool q2] 197)=W1 at *;generalize b4:w1.heap.size=c1 at *;have own0:W1.ownsRow w.heap.size 3 1 (F) 0 []:=Jv W1 _ _ _;have c:=Ja (show O w W1/\L W1 w.heap.size (D o aa ac) 76/\L W1 c1 #[.bool q1,.bool false,.bool true,.bool q2] 197/\W1.ownsRow w.heap.size 3 1 (F) 0 [] from⟨hb,a5,a3,own0⟩);clear b7 b4 k hb a5 a3 own0;have x2:=K2 c.out.2.1;have x3:=K3 c.out.2.1;have x5:=K5 c.out.2.1;have f1:=K1 c.out.2.2.1;have f2:=K2 c.out.2.2.1;go_upto_region 5 with fail;clear x2 x3 x5 f1 f2;have x2:=K2 c.out.2.1;have x3:=K3 c.out.2.1;have x5:=K5 c.out.2.1;have f1:=K1 c.out.2.2.1;have f2:=K2 c.out.2.2.1;go_upto_region 7 with(at_builtin;go_must (refine zK _ rfl (.tmp 21) (.tmp 24) 22 rfl w.heap.size 3 ii (I 0) 1 8 Tryz.underlying22 a7 u t q rfl Zd (F) 0 (([]:List Int).map zN) rfl (c.out.2.2.2.alloc _) _ 1 [I o.b] rfl (yM.one (zI Zs) (by simp[Value.oneCell'])) Zd Zd (by have:=c.out.1.size;simp;omega) ?_;intro v2 W2 g d b2))
 have b0:O w W2:=yP (c.out.1.alloc c.out.1.size _) d (by have:=c.out.1.size;simp;omega) (wF c.out.2.2.2);have a4:=zL d (zB c.out.2.1) (zC c.out.2.2.2 c.out.2.1 (.inr Zd));have a2:=zL d (zB c.out.2.2.1) (zC c.out.2.2.2 c.out.2.2.1 (.inr Zd));have h:=Ja (show O w W2/\L W2 w.heap.size (D o aa ac) 76/\L W2 c1 #[.bool q1,.bool false,.bool true,.bool q2] 197/\W2.ownsRow w.heap.size 3 1 v2 1 (([o.b]:List Int).map zN) from⟨b0,a4,a2,g⟩);clear x2 x3 x5 f1 f2 b0 a4 a2 g d b2;have x2:=K2 h.out.2.1;have x3:=K3 h.out.2.1;have x5:=K5 h.out.2.1;have f1:=K1 h.out.2.2.1;have f2:=K2 h.out.2.2.1;have y:=zY.src (l.out.1.below zO (h.out.1.mono l.out.2.1));have b3:=Ja y;clear y;go_wp2_with (at_builtin;go_must (refine zK _ rfl (.tmp 26) (.tmp 28) 22 rfl w.heap.size 3 ii (I 0) 1 8 Tryz.underlying22 a7 u t q rfl Zd v2 1 (([o.b]:List Int).map zN) rfl h.out.2.2.2 _ o.args.length (o.args.map zN) rfl b3.out (by have:=l.out.2.2;unfold maxLen;omega) (by have:=l.out.2.2;omega) h.out.1.size ?_;intro v9 w9 g d b2))
 go_ret;refine⟨v9,rfl,?_,yP h.out.1 d h.out.1.size (wF h.out.2.2.2)⟩;rw[<-Js] at g;exact uA g (by simp<;>omega) b8.out
theorem uses_10(o:IOp)(ho:I64 o.code/\I64 o.res/\I64 o.a/\I64 o.b/\o.n<65536){av:Value}{B:Nat}(hB:B<=w.heap.size)(j:zY w B av o.args)(a1:o.args.length<=1000000000000)(a9:(zi o.code).a=true)(a8:(zi o.code).b=false):
 A 120 #[.agg #[I o.code,I o.res,I o.a,I o.b,U (o.n:Int),av]] w (wG w ([o.a]++o.args)):=by
 obtain⟨aa,ac,rfl,b6,b5⟩:=j.form;obtain⟨ii,a7,u,t,q⟩:=info_parts Tryz.info_int
 obtain⟨q1,q2,q3,hf⟩:∃q1 q2 q3,∀W,A 142 #[I o.code] W fun e w'=>e=.returned (.tuple #[.agg #[.bool q1,.bool true,.bool false,.bool q2],.bool q3])/\O W w':=
  ⟨(zi o.code).res,(zi o.code).n,(zi o.code).is,fun W=>by have:=yu o.code W;unfold yX nL at this;rw[a9,a8] at this;exact this⟩
 have HF:=Ja hf;have l:=Ja (show zY w B (.slice aa o.args.length ac) o.args/\B<=w.heap.size/\o.args.length<=1000000000000 from⟨j,hB,a1⟩);have HO:=Ja ho
 have a0:∀x∈ [o.a]++o.args,I64 x:=by
  intro x m;rcases Jl.1 m with m|m
  ·simp at m;rw[m];exact ho.2.2.1
  ·exact zY.all j x m
 have b8:=Ja a0;have a6:=zI (W:=w) (o:=G (D o aa ac) 76) rfl;have b1:O w (w.alloc (G (D o aa ac) 76)):=(Below.refl _ _).alloc (Je _) _;have i:=Ja (Jb a6 b1);clear hf j hB a1 ho a0 a6 b1 b6 b5 a9 a8;go_enter Tryz.func120,Tryz.ntmps120;go_upto_region 2 with(first|(go_at_call 142;go_must (refine(HF.out _).mono ?_;rintro e w1 ⟨rfl,k⟩))|go_in)
 have hb:=(i.out.2.trans (k.mono i.out.2.size)).alloc (by have:=i.out.2.size;have:=k.size;omega) (G #[.bool q1,.bool true,.bool false,.bool q2] 197);have a5:=zB (o:=G #[.bool q1,.bool true,.bool false,.bool q2] 197) (zH k i.out.1 (lt_of_block i.out.1));have a3:=zI (W:=w1) (o:=G #[.bool q1,.bool true,.bool false,.bool q2] 197) rfl;generalize b7:w1.alloc (G #[.bool q1,.bool true,.bool false,.bool q2] 197)=W1 at *;generalize b4:w1.heap.size=c1 at *;have own0:W1.ownsRow w.heap.size 3 1 (F) 0 []:=Jv W1 _ _ _;have c:=Ja (show O w W1/\L W1 w.heap.size (D o aa ac) 76/\L W1 c1 #[.bool q1,.bool true,.bool false,.bool q2] 197/\W1.ownsRow w.heap.size 3 1 (F) 0 [] from⟨hb,a5,a3,own0⟩);clear b7 b4 k hb a5 a3 own0;have x2:=K2 c.out.2.1;have x3:=K3 c.out.2.1;have x5:=K5 c.out.2.1;have f1:=K1 c.out.2.2.1;have f2:=K2 c.out.2.2.1;go_upto_region 5 with(at_builtin;go_must (refine zK _ rfl (.tmp 14) (.tmp 17) 22 rfl w.heap.size 3 ii (I 0) 1 8 Tryz.underlying22 a7 u t q rfl Zd (F) 0 (([]:List Int).map zN) rfl (c.out.2.2.2.alloc _) _ 1 [I o.a] rfl (yM.one (zI Zs) (by simp[Value.oneCell'])) Zd Zd (by have:=c.out.1.size;simp;omega) ?_;intro v2 W2 h d b2))
 have b0:O w W2:=yP (c.out.1.alloc c.out.1.size _) d (by have:=c.out.1.size;simp;omega) (wF c.out.2.2.2);have a4:=zL d (zB c.out.2.1) (zC c.out.2.2.2 c.out.2.1 (.inr Zd));have a2:=zL d (zB c.out.2.2.1) (zC c.out.2.2.2 c.out.2.2.1 (.inr Zd));have g:=Ja (show O w W2/\L W2 w.heap.size (D o aa ac) 76/\L W2 c1 #[.bool q1,.bool true,.bool false,.bool q2] 197/\W2.ownsRow w.heap.size 3 1 v2 1 (([o.a]:List Int).map zN) from⟨b0,a4,a2,h⟩);clear x2 x3 x5 f1 f2 b0 a4 a2 h d b2;have x2:=K2 g.out.2.1;have x3:=K3 g.out.2.1;have x5:=K5 g.out.2.1;have f1:=K1 g.out.2.2.1;have f2:=K2 g.out.2.2.1;go_upto_region 7 with fail;clear x2 x3 x5 f1 f2;have x2:=K2 g.out.2.1;have x3:=K3 g.out.2.1;have x5:=K5 g.out.2.1;have f1:=K1 g.out.2.2.1;have f2:=K2 g.out.2.2.1;have y:=zY.src (l.out.1.below zO (g.out.1.mono l.out.2.1));have b3:=Ja y;clear y;go_wp2_with (at_builtin;go_must (refine zK _ rfl (.tmp 26) (.tmp 28) 22 rfl w.heap.size 3 ii (I 0) 1 8 Tryz.underlying22 a7 u t q rfl Zd v2 1 (([o.a]:List Int).map zN) rfl g.out.2.2.2 _ o.args.length (o.args.map zN) rfl b3.out (by have:=l.out.2.2;unfold maxLen;omega) (by have:=l.out.2.2;omega) g.out.1.size ?_;intro v9 w9 h d b2))
 go_ret;refine⟨v9,rfl,?_,yP g.out.1 d g.out.1.size (wF g.out.2.2.2)⟩;rw[<-Js] at h;exact uA h (by simp<;>omega) b8.out
theorem uses_11(o:IOp)(ho:I64 o.code/\I64 o.res/\I64 o.a/\I64 o.b/\o.n<65536){av:Value}{B:Nat}(hB:B<=w.heap.size)(y:zY w B av o.args)(a5:o.args.length<=1000000000000)(b1:(zi o.code).a=true)(b0:(zi o.code).b=true):
 A 120 #[.agg #[I o.code,I o.res,I o.a,I o.b,U (o.n:Int),av]] w (wG w ([o.a,o.b]++o.args)):=by
 obtain⟨aa,ac,rfl,b6,b5⟩:=y.form;obtain⟨ii,a6,u,t,q⟩:=info_parts Tryz.info_int
 obtain⟨q1,q2,q3,hf⟩:∃q1 q2 q3,∀W,A 142 #[I o.code] W fun e w'=>e=.returned (.tuple #[.agg #[.bool q1,.bool true,.bool true,.bool q2],.bool q3])/\O W w':=
  ⟨(zi o.code).res,(zi o.code).n,(zi o.code).is,fun W=>by have:=yu o.code W;unfold yX nL at this;rw[b1,b0] at this;exact this⟩
 have HF:=Ja hf;have a2:=Ja (show zY w B (.slice aa o.args.length ac) o.args/\B<=w.heap.size/\o.args.length<=1000000000000 from⟨y,hB,a5⟩);have HO:=Ja ho
 have a4:∀x∈ [o.a,o.b]++o.args,I64 x:=by
  intro x hx;rcases Jl.1 hx with hx|hx
  ·simp at hx;rcases hx with rfl|rfl;exact ho.2.2.1;exact ho.2.2.2.1
  ·exact zY.all y x hx
 have b8:=Ja a4;have a9:=zI (W:=w) (o:=G (D o aa ac) 76) rfl;have b2:O w (w.alloc (G (D o aa ac) 76)):=(Below.refl _ _).alloc (Je _) _;have m:=Ja (Jb a9 b2);clear hf y hB a5 ho a4 a9 b2 b6 b5 b1 b0;go_enter Tryz.func120,Tryz.ntmps120;go_upto_region 2 with(first|(go_at_call 142;go_must (refine(HF.out _).mono ?_;rintro e w1 ⟨rfl,a0⟩))|go_in)
 have hb:=(m.out.2.trans (a0.mono m.out.2.size)).alloc (by have:=m.out.2.size;have:=a0.size;omega) (G #[.bool q1,.bool true,.bool true,.bool q2] 197);have a8:=zB (o:=G #[.bool q1,.bool true,.bool true,.bool q2] 197) (zH a0 m.out.1 (lt_of_block m.out.1));have a7:=zI (W:=w1) (o:=G #[.bool q1,.bool true,.bool true,.bool q2] 197) rfl;generalize b7:w1.alloc (G #[.bool q1,.bool true,.bool true,.bool q2] 197)=W1 at *;generalize b4:w1.heap.size=c1 at *;have own0:W1.ownsRow w.heap.size 3 1 (F) 0 []:=Jv W1 _ _ _;have h:=Ja (show O w W1/\L W1 w.heap.size (D o aa ac) 76/\L W1 c1 #[.bool q1,.bool true,.bool true,.bool q2] 197/\W1.ownsRow w.heap.size 3 1 (F) 0 [] from⟨hb,a8,a7,own0⟩);clear b7 b4 a0 hb a8 a7 own0;have x2:=K2 h.out.2.1;have x3:=K3 h.out.2.1;have x5:=K5 h.out.2.1;have f1:=K1 h.out.2.2.1;have f2:=K2 h.out.2.2.1;go_upto_region 5 with(at_builtin;go_must (refine zK _ rfl (.tmp 14) (.tmp 17) 22 rfl w.heap.size 3 ii (I 0) 1 8 Tryz.underlying22 a6 u t q rfl Zd (F) 0 (([]:List Int).map zN) rfl (h.out.2.2.2.alloc _) _ 1 [I o.a] rfl (yM.one (zI Zs) (by simp[Value.oneCell'])) Zd Zd (by have:=h.out.1.size;simp;omega) ?_;intro v2 W2 d c a1))
 have l:O w W2:=yP (h.out.1.alloc h.out.1.size _) c (by have:=h.out.1.size;simp;omega) (wF h.out.2.2.2);have k:=zL c (zB h.out.2.1) (zC h.out.2.2.2 h.out.2.1 (.inr Zd));have j:=zL c (zB h.out.2.2.1) (zC h.out.2.2.2 h.out.2.2.1 (.inr Zd));have g:=Ja (show O w W2/\L W2 w.heap.size (D o aa ac) 76/\L W2 c1 #[.bool q1,.bool true,.bool true,.bool q2] 197/\W2.ownsRow w.heap.size 3 1 v2 1 (([o.a]:List Int).map zN) from⟨l,k,j,d⟩);clear x2 x3 x5 f1 f2 l k j d c a1;have x2:=K2 g.out.2.1;have x3:=K3 g.out.2.1;have x5:=K5 g.out.2.1;have f1:=K1 g.out.2.2.1;have f2:=K2 g.out.2.2.1;go_upto_region 7 with(at_builtin;go_must (refine zK _ rfl (.tmp 21) (.tmp 24) 22 rfl w.heap.size 3 ii (I 0) 1 8 Tryz.underlying22 a6 u t q rfl Zd v2 1 (([o.a]:List Int).map zN) rfl (g.out.2.2.2.alloc _) _ 1 [I o.b] rfl (yM.one (zI Zs) (by simp[Value.oneCell'])) Zd Zd (by have:=g.out.1.size;simp;omega) ?_;intro v3 W3 d c a1))
 have l:O w W3:=yP (g.out.1.alloc g.out.1.size _) c (by have:=g.out.1.size;simp;omega) (wF g.out.2.2.2);have k:=zL c (zB g.out.2.1) (zC g.out.2.2.2 g.out.2.1 (.inr Zd));have j:=zL c (zB g.out.2.2.1) (zC g.out.2.2.2 g.out.2.2.1 (.inr Zd));have i:=Ja (show O w W3/\L W3 w.heap.size (D o aa ac) 76/\L W3 c1 #[.bool q1,.bool true,.bool true,.bool q2] 197/\W3.ownsRow w.heap.size 3 1 v3 2 (([o.a,o.b]:List Int).map zN) from⟨l,k,j,d⟩);clear x2 x3 x5 f1 f2 l k j d c a1;have x2:=K2 i.out.2.1;have x3:=K3 i.out.2.1;have x5:=K5 i.out.2.1;have f1:=K1 i.out.2.2.1;have f2:=K2 i.out.2.2.1;have a3:=zY.src (a2.out.1.below zO (i.out.1.mono a2.out.2.1));have b3:=Ja a3;clear a3;go_wp2_with (at_builtin;go_must (refine zK _ rfl (.tmp 26) (.tmp 28) 22 rfl w.heap.size 3 ii (I 0) 1 8 Tryz.underlying22 a6 u t q rfl Zd v3 2 (([o.a,o.b]:List Int).map zN) rfl i.out.2.2.2 _ o.args.length (o.args.map zN) rfl b3.out (by have:=a2.out.2.2;unfold maxLen;omega) (by have:=a2.out.2.2;omega) i.out.1.size ?_;intro v9 w9 d c a1))
 go_ret;refine⟨v9,rfl,?_,yP i.out.1 c i.out.1.size (wF i.out.2.2.2)⟩;rw[<-Js] at d;exact uA d (by simp<;>omega) b8.out
theorem uses_any(o:IOp)(ho:I64 o.code/\I64 o.res/\I64 o.a/\I64 o.b/\o.n<65536){av:Value}{B:Nat}(hB:B<=w.heap.size)(d:zY w B av o.args)(c:o.args.length<=1000000000000):
 A 120 #[.agg #[I o.code,I o.res,I o.a,I o.b,U (o.n:Int),av]] w (wG w (rR o)):=by
 unfold rR;cases h:(zi o.code).a<;>cases g:(zi o.code).b
 ·exact uses_00 o ho hB d c h g
 ·exact uses_01 o ho hB d c h g
 ·exact uses_10 o ho hB d c h g
 ·exact uses_11 o ho hB d c h g
theorem jV(hv:zw g)(hr:∀x,x<g.length->Reach (GE g) x)(j:c<g.length):
 (pP g c=-1/\∀d,d≠c->wE g d c=false)∨∃c':Nat,pP g c=(c':Int)/\c'<g.length/\(∀d,d≠c->wE g d c'=wE g d c)/\wh (vD g) c'<wh (vD g) c:=by
 rcases idomOf hv c with⟨h1,h2⟩|⟨c',h1,h2,h3,m⟩
 ·exact .inl ⟨h1,fun d hd=>by cases h:wE g d c with|false=>rfl|true=>exact(h2 d hd h).elim⟩
 ·have hb:=(yO hv c' c).1 h3;refine .inr ⟨c',h1,(cA hv h3).1,fun d hd=>?_,?_⟩
  ·rw[Bool.eq_iff_iff];constructor
   ·intro h;have k:=(yO hv d c').1 h;exact(yO hv d c).2 ⟨k.1,hr c j,oZ k.2.2 hb.2.2⟩
   ·intro h;exact(yO hv d c').2 ⟨((yO hv d c).1 h).1,hb.1,m d hd h⟩
  ·obtain⟨ns,i⟩:=adR hv;obtain⟨D,l⟩:=i.dom;rw[i.eq];have hm:=l.dom_mem ((i.mem c).2 (hr c j)) hb.2.2;rcases Nat.lt_or_eq_of_le hm.2 with h|h
   ·exact h
   ·exact absurd (ou i.nodup hm.1 ((i.mem c).2 (hr c j)) h) h2
theorem lC(hv:zw g)(hr:∀x,x<g.length->Reach (GE g) x)(d:c<g.length):wE g c c=true:=(yO hv c c).2 ⟨hr c d,hr c d,rF _ _⟩
def nS (g:List (List Nat))(db i:Nat)(x:Int):Prop:=(x=-1/\wE g db i=false)∨∃c:Nat,x=(c:Int)/\c<g.length/\wE g db c=wE g db i
def oQ (g:List (List Nat))(x:Int):Nat:=if x=-1 then 0 else wh (vD g) x.toNat+1
theorem lT(hv:zw g)(hr:∀x,x<g.length->Reach (GE g) x){db:Nat}(j:c<g.length)(h:wE g db c=wE g db i)(d:c≠db):
 ∃y,(wQ g)[c]? =some y/\nS g db i y/\oQ g y<oQ g c:=by
 refine⟨pP g c,by unfold wQ;rw[Jr,Oh j];rfl,?_⟩;rcases jV hv hr j with⟨h1,h2⟩|⟨c',h1,h2,h3,k⟩
 ·rw[h1];refine⟨.inl ⟨rfl,by rw[<-h];exact h2 db (Ne.symm d)⟩,?_⟩;unfold oQ;rw[if_pos rfl,if_neg Zo];omega
 ·rw[h1];refine⟨.inr ⟨c',rfl,h2,by rw[h3 db (Ne.symm d)];exact h⟩,?_⟩;unfold oQ;rw[if_neg Zo,if_neg Zo,Ni,Ni];omega
theorem j8 (g:List (List Nat)):(wQ g).length=g.length:=by simp[wQ]
theorem case_dfd:∀q1 q2:Bool,(q1=true/\q2=true)∨(q1=true/\q2=false)∨(q1=false)
 |true,true=> .inl ⟨rfl,rfl⟩
 |true,false=> .inr (.inl ⟨rfl,rfl⟩)
 |false,_=> .inr (.inr rfl)
theorem qI{m1 m2 n:Nat}{pv:List Value}{e2 b6:Value}{d:wO}(hc:ChkAt w C m1 m2 pv e2 b6 n d)(hv:zw g)(hr:∀x,x<g.length->Reach (GE g) x)(e6:g.length<=2000000)
 (a5:zY w w.heap.size b6 (wQ g)) (hd:∀v b,d.1 v=some b->0<=b/\b.toNat<g.length) {l:List Int} {lv:Value} (hl:zY w w.heap.size lv l) (i:Nat) (hi:i<g.length) (k:Int) (hk:I64 k):
 A 119 #[Q C,lv,I i,I k] w (ym w (l.all (yy d g i k))):=by
 obtain⟨la,lc,rfl,d3,d2⟩:=hl.form;obtain⟨da,dc,rfl,c3,d4⟩:=a5.form;rw[j8] at a5 c3 hc;have e5:l.length<=9223372036854775807:=Zo;obtain⟨hb,d0,c2,c1,d1,b1⟩:=hc
 obtain⟨p0,p1,p2,p3,p4,p5,rfl⟩:∃a b c d e f,pv=[a,b,c,d,e,f]:=by
  match pv,d0 with
  | [a,b,c,d,e,f],_=>exact⟨a,b,c,d,e,f,rfl⟩
 have e8:T w C 7 (.map (some m1)):=zA hb rfl;have e7:T w C 8 (.map (some m2)):=zA hb rfl;have f0:T w C 9 (.slice da g.length dc):=zA hb rfl;have u:=Ja (show wA w m1 n d.1/\wA w m2 n d.2/\(∀x,(d.1 x).isSome=(d.2 x).isSome)/\zw g/\(∀x,x<g.length->Reach (GE g) x)/\(∀v b,d.1 v=some b->0<=b/\b.toNat<g.length)/\i<g.length from⟨c2,c1,b1,hv,hr,hd,hi⟩);have HL:=Ja (show zY w w.heap.size (.slice la l.length lc) l/\zY w w.heap.size (.slice da g.length dc) (wQ g) from⟨hl,a5⟩);obtain⟨res,a1⟩:∃x,l.all (yy d g i k)=x:=⟨_,rfl⟩
 rw[a1];have t:=Ja a1;clear a1 hb c2 c1 d1 b1 hv hr hd hi hl a5 d3 d2 c3 d4;go_enter Tryz.func119,Tryz.ntmps119;generalize e1:w=W0 at *;clear e1;go_wp2
 go_loopw [16] (fun jv wx=>∃j:Nat,j<=l.length/\jv=I j/\wx=W0/\Hid ((l.take j).all (yy d g i k)=true)) (fun jv _=>l.length-(intOf jv).toNat)
 case atStart=>exact⟨0,Jt _,rfl,rfl,by rfl⟩
 case round=>
  obtain⟨j,hj,rfl,rfl,HJ⟩:=hrel;generalize e0:wr=W0 at *;clear e0
  by_cases a4:j<l.length
  ·have c5:(j:Int)<l.length:=Zo;have c4:=Ja a4;obtain⟨v,a3⟩:∃v,l[j]? =some v:=⟨_,Jd a4⟩
   obtain⟨b,o,rfl,hb,b5,a7⟩:=HL.out.1.get a3;rw[Nk] at b5;have a8:=u.out.1.lookOk a7;have a9:=u.out.2.1.look a7;have HT:=Ja (show(l.take (j+1)).all (yy d g i k)=((l.take j).all (yy d g i k) && yy d g i k v)/\(yy d g i k v=false->l.all (yy d g i k)=false) from⟨xX _ a3,fun h=>aaN _ a3 h⟩);clear a3 hb a4
   cases h1:d.1 v with
   |none=>
    rw[h1] at a8;have HN:=Ja (show yy d g i k v=false by unfold yy;rw[h1]);clear h1 a9;go_wp2;go_ret
    exact⟨uz (t.out.symm.trans (HT.out.2 HN.out)),Below.refl _ _⟩
   |some bz=>
    obtain⟨az,h2⟩:∃a,d.2 v=some a:=by
     have:=u.out.2.2.1 v;rw[h1] at this
     cases h:d.2 v with
     |none=>rw[h] at this;cases this
     |some a=>exact⟨a,rfl⟩
    obtain⟨d7,b4⟩:=u.out.2.2.2.2.2.1 v bz h1;obtain⟨db,rfl⟩:∃m:Nat,bz=(m:Int):=⟨bz.toNat,by omega⟩
    rw[Ni] at b4;rw[h1] at a8;rw[h2] at a9;simp only[Ot,Option.isSome_some] at a8 a9;have b0:yy d g i k v=(!(decide ((db:Int)=(i:Int)) && decide (k<=az)) && wE g db i):=by unfold yy;rw[h1,h2];rfl
    obtain⟨q1,a0⟩:∃q,decide ((db:Int)=(i:Int))=q:=⟨_,rfl⟩
    obtain⟨q2,c9⟩:∃q,decide (k<=az)=q:=⟨_,rfl⟩
    rw[a0,c9] at b0;have t1:(db==i)=q1:=by rw[<-a0];simp only[Bool.beq_eq_decide_eq,Int.natCast_inj]
    have c8:((db:Int)==(i:Int))=q1:=x9 a0;have c7:decide (db=i)=q1:=zZ a0 Zo;have HK:=Ja (show yy d g i k v=(!(q1 && q2) && wE g db i)/\db<g.length from⟨b0,b4⟩);clear h1 h2 b0 d7 b4 a0;rcases case_dfd q1 q2 with⟨rfl,rfl⟩|⟨rfl,rfl⟩|rfl
    ·have HN:=Ja (show yy d g i k v=false from HK.out.1);go_wp2;go_ret;exact⟨uz (t.out.symm.trans (HT.out.2 HN.out)),Below.refl _ _⟩
    all_goals (
     have HN:=Ja (show yy d g i k v=wE g db i from by rw[HK.out.1];rfl);have e3:=Ja (show nS g db i (i:Int) from .inr ⟨i,rfl,u.out.2.2.2.2.2.2,rfl⟩);go_wp2
     go_loopw [13] (fun xv wx=>∃x:Int,xv=I x/\W0=wx/\Hid (nS g db i x)) (fun xv _=>oQ g (intOf xv))
     case atStart=>exact⟨_,rfl,rfl,e3⟩
     case round=>
      obtain⟨x,rfl,rfl,HX⟩:=hrel;rcases HX.out with⟨rfl,c0⟩|⟨c,rfl,b2,a6⟩
      ·have u1:((-1:Int) !=(db:Int))=true:=by rw[bne_iff_ne];omega
       have HF:=Ja (HN.out.trans c0);clear c0;go_wp2;go_ret;exact⟨uz (t.out.symm.trans (HT.out.2 HF.out)),Below.refl _ _⟩
      ·by_cases b3:c=db
       ·subst b3;have HY:=Ja (show yy d g i k v=true by rw[HN.out,<-a6];exact lC u.out.2.2.2.1 u.out.2.2.2.2.1 b2);have u1:((c:Int) !=(c:Int))=false:=by rw[bne_eq_false_iff_eq]
        clear a6 b2 t1 c8 c7;go_wp2;go_roundw
        case rel=>exact⟨j+1,c4.out,by go_num,by trivial,Ja (by rw[HT.out.1,HJ.out,HY.out];rfl)⟩
        case measure=>have:=c4.out;simp[intOf];omega
       ·have u1:((c:Int) !=(db:Int))=true:=by rw[bne_iff_ne];omega
        have u2:((c:Int) !=-1)=true:=by rw[bne_iff_ne];omega
        obtain⟨y,hy,b8,b7⟩:=lT u.out.2.2.2.1 u.out.2.2.2.2.1 b2 a6 b3;obtain⟨b9,o9,rfl,d6,d5,_⟩:=HL.out.2.get hy;rw[Nk] at d5;have HY:=Ja (Jb b8 b7);have e4:(c:Int)<g.length:=Zo;clear a6 b3 hy b8 b7 d6;go_wp2;go_roundw
        case rel=>exact⟨y,rfl,by trivial,Ja HY.out.1⟩
        case measure=>have:=HY.out.2;simpa[intOf] using this)
  ·obtain rfl:j=l.length:=by omega
   have c5:¬(l.length:Int)<l.length:=Zo;have a2:=HJ.out;rw[Nl] at a2;have HA:=Ja a2;clear a4 a2;go_wp2;go_ret;exact⟨uz (t.out.symm.trans HA.out),Below.refl _ _⟩
theorem m6.trans {f g h:List IBlk}(a:m6 f g)(b:m6 g h):m6 f h:=fun i x hx=>by
 obtain⟨y,d,p1,o1,t1⟩:=a i x hx;obtain⟨z,c,p2,o2,t2⟩:=b i y d;refine⟨z,c,p2.trans p1,o1.trans o2,?_⟩;rcases t1 with t1|t1
 ·exact .inl t1
 ·rcases t2 with t2|t2
  ·left;rw[<-t1];exact t2
  ·exact .inr (t2.trans t1)
theorem acr{f:List IBlk}{g:IBlk->IBlk}(h:∀b,f[c]? =some b->(g b).params=b.params/\b.ops<+:(g b).ops/\(b.term.to=[]∨(g b).term=b.term)):m6 f (wD f c g):=by
 unfold wD
 split
 ·rename_i x d
  obtain⟨h1,h2,h3⟩:=h x d;exact g7 d h1 h2 h3
 ·exact m6.refl f
theorem aaD (M:MS)(o:IOp):m6 M.f (M.emit o).f:=acr fun b _=>⟨rfl,Qb _ _,.inr rfl⟩
theorem abB (M:MS)(n:Nat):m6 M.f (M.num n).f:=aaD M _
theorem aaW (E:ME)(M:MS):m6 M.f (zJ E M).2.f:=by
 unfold zJ
 split
 ·exact abB M.tick _
 split<;>exact m6.refl _
theorem fU (E:ME)(M:MS):m6 M.f (yJ E M).2.f:=by
 unfold yJ
 split
 ·exact aaW E M.tick
 ·exact aaD M.tick.tick.tick _
theorem fW (E:ME)(M:MS):∀n,m6 M.f (yI E n M).2.f
 |0=>m6.refl _
 |n+1=>(fW E M n).trans (aaW E _)
theorem call_ext (E:ME)(M:MS):m6 M.f (vN E M).f:=by
 unfold vN
 split
 ·exact m6.refl _
 ·simp only
  split
  ·exact m6.refl _
  ·exact(fW E M.tick _).trans (aaD _ _)
theorem eX (E:ME)(M:MS):m6 M.f (yR E M).f:=by
 have h:=(aaW E M).trans (aaW E (zJ E M).2);unfold yR;simp only
 split
 ·split
  ·exact h.trans (((abB _ _).trans (aaD _ _)).trans (aaD _ _))
  ·exact h.trans (aaD (M:=(zJ E (zJ E M).2).2.tick.tick) _)
 ·exact h.trans (aaD (M:=(zJ E (zJ E M).2).2.tick) _)
theorem op_ext (E:ME)(M:MS):m6 M.f (xK E M).f:=by
 unfold xK;simp only
 split
 ·exact abB M.tick.tick _
 split
 ·exact(aaW E M.tick.tick).trans (aaD _ _)
 split
 ·exact(fU E M.tick).trans (aaD (M:=(yJ E M.tick).2.tick) _)
 split
 ·exact((fU E M.tick).trans (aaW E _)).trans (aaD (M:=(zJ E (yJ E M.tick).2).2.tick) _)
 split
 ·exact aaD M.tick.tick _
 split
 ·exact(aaW E M.tick).trans (aaD (M:=(zJ E M.tick).2.tick) _)
 split
 ·exact(abB M.tick.tick _).trans (aaD (M:=(M.tick.tick.num (tkV E M.tick 4096)).tick) _)
 split
 ·exact call_ext E M.tick
 split
 ·split
  ·exact aaD M.tick.tick _
  ·exact m6.refl _
 ·exact eX E M.tick
theorem eN (E:ME):∀(n:Nat) (M:MS),m6 M.f (qY E n M).f
 |0,M=>m6.refl _
 |n+1,M=>(op_ext E M).trans (eN E n _)
theorem eO (E:ME)(M:MS):m6 M.f (tR E M).f:=eN E _ M.tick
theorem run_vals (E:ME)(c:∀x∈E.args,0<=x/\x<4)(M:MS):M.vals<+:(tR E M).vals:=(oL E c M).pre
structure PartOut (M:MS) (O P:Nat->Prop) (pl:List Nat) (p:IProg) (M':MS) (pl':List Nat):Prop where
 pre:pl<+:pl'
 inv:aaz p M' (fun i=>(O i/\i≠M.cur)∨i=M'.cur) P pl'
 abv:Abv pl' M.cur M'.cur
 new:M'.cur=M.cur∨M.f.length<=M'.cur
 np:¬P M'.cur
 vals:M.vals<+:M'.vals
 ext:m6 M.f M'.f
def so (p:IProg)(pt:MS->MS):Prop:=∀(M:MS) (O P:Nat->Prop) (pl:List Nat),aaz p M O P pl->O M.cur->¬P M.cur->(∀i,P i->O i)->∃pl',PartOut M O P pl p (pt M) pl'
theorem PartOut.trans{M1 M2:MS}{O:Nat->Prop}{pl c pl2:List Nat}{p:IProg}(h:PartOut M O P pl p M1 c)(k:PartOut M1 (fun i=>(O i/\i≠M.cur)∨i=M1.cur) P c p M2 pl2)(g:M.f.length<=M1.f.length)(d:∀i,O i->i<M.f.length):PartOut M O P pl p M2 pl2:=by
 refine⟨h.pre.trans k.pre,k.inv.weak (fun i=>?_) (fun i e=>e),(h.abv.ext k.pre).trans k.abv,?_,k.np,h.vals.trans k.vals,h.ext.trans k.ext⟩
 ·constructor
  ·rintro(⟨h1|h1,h2⟩|h1)
   ·exact .inl h1
   ·exact absurd h1 h2
   ·exact .inr h1
  ·rintro(h1|h1)
   ·refine .inl ⟨.inl h1,fun e=>?_⟩;rcases h.new with h2|h2
    ·exact h1.2 (by rw[e,h2])
    ·have:=d i h1.1;omega
   ·exact .inr h1
 ·rcases k.new with h1|h1
  ·rcases h.new with h2|h2
   ·left;rw[h1,h2]
   ·right;omega
  ·right;omega
theorem ja {f g:List IBlk}(h:m6 f g):f.length<=g.length:=by
 rcases Nat.lt_or_ge g.length f.length with c|d
 ·obtain⟨x,j⟩:∃x,f[g.length]? =some x:=⟨_,Jd c⟩
  obtain⟨b',i,_⟩:=h _ _ j;have:=(Jh.1 i).1;omega
 ·exact d
section
variable {p:IProg} {E:ME} (hp:EnvOk p E)
include hp
theorem fX:so p (tR E):=fun M O P pl h hO hn hPO=>by
 obtain⟨h1,h2⟩:=h.run E hp hO;refine⟨pl,Od,h1.weak (fun i=>?_) (fun i e=>e),by rw[h2];exact .refl _,.inl h2,by rw[h2];exact hn,run_vals E hp.alt M,eO E M⟩;rw[h2];constructor
 ·intro hi
  by_cases e:i=M.cur
  ·exact .inr e
  ·exact .inl ⟨hi,e⟩
 ·rintro(h3|rfl)
  ·exact h3.1
  ·exact hO
end
theorem eQ{Q:Prop}{a n:Nat}:((Q∨(a<=i/\i<a+n))∨i=a+n)↔(Q∨(a<=i/\i<a+(n+1))):=by
 constructor
 ·rintro((h|h)|h)
  ·exact .inl h
  ·exact .inr Zo
  ·exact .inr Zo
 ·rintro(h|h)
  ·exact .inl (.inl h)
  ·by_cases e:i=a+n
   ·exact .inr e
   ·exact .inl (.inr Zo)
theorem gV {p:IProg}:∀(n:Nat) (M:MS) (O P:Nat->Prop) (pl:List Nat),aaz p M O P pl->
 aaz p (xE n M) (fun i=>O i∨(M.f.length<=i/\i<M.f.length+n)) (fun i=>P i∨(M.f.length<=i/\i<M.f.length+n)) (pl++List.replicate n M.cur)/\(xE n M).cur=M.cur/\(xE n M).vals=M.vals/\m6 M.f (xE n M).f/\∀k,k<n->∃b,(xE n M).f[M.f.length+k]? =some b/\b.params.length=0
 |0,M,O,P,pl,h=>⟨by
  rw[List.replicate_zero,Ua]
  exact h.weak (fun i=>⟨.inl,fun e=>e.elim (fun e=>e) (fun e=>by omega)⟩) (fun i e=> .inl e),rfl,rfl,m6.refl _,fun k hk=>by omega⟩
 |n+1,M,O,P,pl,h=>by
  obtain⟨h1,h2,h3,h4,h5⟩:=gV n M O P pl h;have hl:=tB n M;have l:=h1.block (n:=0) (u:=M.cur) (by rw[hl];have:=h.curl;omega) Zd;rw[hl] at l;refine⟨?_,h2,h3,h4.trans (abj _ _),fun k hk=>?_⟩
  ·have e:pl++List.replicate (n+1) M.cur=(pl++List.replicate n M.cur)++ [M.cur]:=by rw[List.replicate_succ',Nv]
   rw[e];exact l.weak (fun i=>eQ) (fun i e=>eQ.1 e)
  ·by_cases d:k<n
   ·obtain⟨b,hb,g⟩:=h5 k d;obtain⟨b',j,c,_⟩:=abj (xE n M).f [wJ (xE n M).next 0] _ _ hb;exact⟨b',j,by rw[c];exact g⟩
   ·have e:k=n:=Zo;subst e;refine⟨wJ (xE k M).next 0,?_,by simp[wJ]⟩
    show((xE k M).f++ [_])[M.f.length+k]? =_
    rw[Nc Zo,hl,Qy];rfl
theorem xd{p:IProg}{O:Nat->Prop}{pl:List Nat}(h:aaz p M O P pl)(c:O M.cur)(t:ITerm):m6 M.f (M.endB t).f:=acr fun b hb=>⟨rfl,Od,.inl (h.opn _ b hb c)⟩
theorem MInv.endB{p:IProg}{O:Nat->Prop}{pl:List Nat}(h:aaz p M O P pl)(j:O M.cur){t:ITerm}(hk:gR t=true)(k:t.to.length<=4)(c:∀e∈t.to,gB M.f pl M.cur e)(hv:∀v∈mE t,∀b,M.f[M.cur]? =some b->Kn M.f pl v M.cur b.ops.length){P':Nat->Prop}(d:¬P M.cur)
 (g:∀i,P i->P' i∨∃e∈t.to,e.block=(i:Int)):aaz p (M.endB t) (fun i=>O i/\i≠M.cur) P' pl:=by
 obtain⟨b,hb⟩:=h.get
 show MInv p (wD M.f M.cur _) M.cur _ _ _ P' pl
 rw[xI hb];exact h.close hb j hk k c (fun v hv'=>hv v hv' b hb) d g
theorem fH{α:Type}{l m:List α}{x:α}(h:m[i]? =some x):(l++m)[l.length+i]? =some x:=by
 rw[Nc Zo,Nat.add_sub_cancel_left];exact h
theorem gH{n:Nat}{e:IEdge}(h:e∈xk tg n):∃k,k<n/\e=⟨((tg+k:Nat):Int),[]⟩:=by
 unfold xk at h;obtain⟨k,hk,rfl⟩:=Nu.1 h;exact⟨k,Ol.1 hk,rfl⟩
theorem gm (tg n:Nat):((xk tg n).map (·.args)).flatten=[]:=by
 rw[List.flatten_eq_nil_iff];intro l hl;obtain⟨e,c,rfl⟩:=Nu.1 hl;obtain⟨k,_,rfl⟩:=gH c;rfl
theorem fA{p:IProg}{E:ME}{d:MS->MS}(u:so p d){O:Nat->Prop}{n:Nat}{V:List Int}(a4:∀i,O i->i<tg)(a3:∀i,P i->O i)(a6:¬P c)(b9:c<tg):∀(m k:Nat) (M:MS) (pl:List Nat),k+m=n->
 aaz p M (fun i=>(O i/\i≠c)∨(tg+k<=i/\i<=tg+n)) (fun i=>P i∨(k=0/\i=tg+n)) pl->M.vals=V->(∀v∈V,∃q,Kn M.f pl v c q)->(∀i,tg<=i->i<=tg+n->pl[i]? =some c)->(∃b,M.f[tg+n]? =some b/\b.params.length=1)->
 ∃pl',pl<+:pl'/\aaz p (uV E d tg (tg+n) V.length m k M) (fun i=>(O i/\i≠c)∨(tg+n<=i/\i<=tg+n)) (fun i=>P i∨(n=0/\i=tg+n)) pl'/\m6 M.f (uV E d tg (tg+n) V.length m k M).f/\(uV E d tg (tg+n) V.length m k M).vals=V
 |0,k,M,pl,hk,h,hv,hV,hpl,hj=>by
  obtain rfl:k=n:=by omega
  exact⟨pl,Od,h,m6.refl _,hv⟩
 |m+1,k,M,pl,hk,h,hv,hV,hpl,hj=>by
  have c8:k<n:=Zo;have c9:tg+n<M.f.length:=by obtain⟨b,hb,_⟩:=hj;exact(Jh.1 hb).1
  have b6:pl[tg+k]? =some c:=hpl _ Zo Zo;have a5:Abv pl c (tg+k):=.up b6 Zo (.refl _)
  have h0:aaz p {M with cur:=tg+k } (fun i=>(O i/\i≠c)∨(tg+k<=i/\i<=tg+n)) (fun i=>P i∨(k=0/\i=tg+n)) pl:=h.goto (show tg+k<M.f.length by omega) (fun v hv' b hb=>by
   rw[hv] at hv';obtain⟨q,w⟩:=hV v hv'
   exact h.below w a5 (show c≠tg+k by omega))
  obtain⟨pl1,w⟩:=u _ _ _ pl h0 (.inr ⟨Je _,by show tg+k<=tg+n;omega⟩) (fun e=>by
   rcases e with e|⟨_,e⟩
   ·have e2:tg+k<tg:=a4 _ (a3 _ e);omega
   ·have e2:tg+k=tg+n:=e
    omega) (fun i e=>by
     rcases e with e|⟨_,e⟩
     ·exact .inl ⟨a3 i e,fun e2=>a6 (by rw[<-e2];exact e)⟩
     ·exact .inr Zo)
  have c7:({M with cur:=tg+k }:MS).cur=tg+k:=rfl;have c5:({M with cur:=tg+k }:MS).f=M.f:=rfl;obtain⟨q1,q2,q3,q4,q5,q6,q7⟩:=w;rw[c7] at q2 q3 q4;rw[c5] at q4 q7;have b0:V<+:(d {M with cur:=tg+k }).vals:=by have e:({M with cur:=tg+k }:MS).vals=V:=hv;rw[<-e];exact q6
  rw[rg];generalize hM:d {M with cur:=tg+k }=M1 at *;have r0:aaz p M1.tick _ _ pl1:=q2;obtain⟨r1,r2⟩:=r0.any E (.inr rfl);have g1:=yU E M1.tick;have gc:(zJ E M1.tick).2.cur=M1.cur:=g1.cur;have ge:=q7.trans (aaW E M1.tick);have gv:V<+:(zJ E M1.tick).2.vals:=b0.trans g1.pre;have d0:(zJ E M1.tick).2.f.length=M1.f.length:=g1.len;have d2:=ja q7
  have x:∀(t:ITerm),gR t=true->t.to.length<=4->(∀e∈t.to,gB (zJ E M1.tick).2.f pl1 M1.cur e)->mE t=[(zJ E M1.tick).1]->(∀i,(P i∨(k=0/\i=tg+n))->(P i∨(k+1=0/\i=tg+n))∨∃e∈t.to,e.block=(i:Int))->
   aaz p ((zJ E M1.tick).2.endB t) (fun i=>(O i/\i≠c)∨(tg+(k+1)<=i/\i<=tg+n)) (fun i=>P i∨(k+1=0/\i=tg+n)) pl1/\m6 M.f ((zJ E M1.tick).2.endB t).f:=fun t t1 t2 t3 t4 t5=>by
   have a7:(fun i=>(((O i/\i≠c)∨(tg+k<=i/\i<=tg+n))/\i≠tg+k)∨i=M1.cur) (zJ E M1.tick).2.cur:=.inr gc
   have:=r1.endB (P':=fun i=>P i∨(k+1=0/\i=tg+n)) a7 t1 t2 (by rw[gc];exact t3) (fun v hv'=>by
    rw[t4,Jo] at hv';subst hv'
    exact r1.at r2) (by rw[gc];exact q5) t5
   refine⟨this.weak (fun i=>?_) (fun i e=>e),ge.trans (xd r1 a7 t)⟩;rw[gc];constructor
   ·rintro⟨(⟨e1|e1,e2⟩|e1),e3⟩
    ·exact .inl e1
    ·exact .inr Zo
    ·exact absurd e1 e3
   ·rintro(e1|e1)
    ·have hi:=a4 i e1.1;refine⟨.inl ⟨.inl e1,by omega⟩,fun e=>?_⟩;rcases q4 with q4|q4<;>omega
    ·refine⟨.inl ⟨.inr Zo,by omega⟩,fun e=>?_⟩;rcases q4 with q4|q4<;>omega
  have a9:aaz p (wM E (tg+n) k M1) (fun i=>(O i/\i≠c)∨(tg+(k+1)<=i/\i<=tg+n)) (fun i=>P i∨(k+1=0/\i=tg+n)) pl1/\m6 M.f (wM E (tg+n) k M1).f/\V<+:(wM E (tg+n) k M1).vals:=by
   unfold wM
   split
   ·rename_i d1
    obtain⟨a1,a2⟩:=x ⟨4,(zJ E M1.tick).1,[]⟩ rfl (by show 0<=4;decide) (fun e he=>by cases he) (by
     have b8:(zJ E M1.tick).1≠-1:=fun e=>by
      have h1:=r1.at r2;obtain⟨b,hb⟩:=r1.get;obtain⟨i,a,⟨b2,c0,hd⟩,_⟩:=h1 b hb;rcases hd with⟨_,hd⟩|⟨j,o,_,_,_,h0⟩
      ·have:=(r1.rng _ (Qx.2 ⟨b2,Ji c0,Jz _ hd⟩)).1;omega
      ·omega
     unfold mE ut
     simp[b8]) (fun i e=>by
     rcases e with e|⟨e,_⟩
     ·exact .inl (.inl e)
     ·omega)
    exact⟨a1,a2,gv⟩
   ·obtain⟨bj,a0,y⟩:=hj;obtain⟨bj',l,g,_⟩:=ge _ _ a0;have b7:pl1[tg+n]? =some c:=aaS q1 (hpl _ Zo Zo)
    obtain⟨a1,a2⟩:=x ⟨1,0,[⟨((tg+n:Nat):Int),[(zJ E M1.tick).1]⟩]⟩ rfl (by show 1<=4;decide) (fun e he=>by
     rw[Jo] at he;subst he
     exact⟨tg+n,c,bj',rfl,by omega,l,by rw[g,y];rfl,b7,(a5.ext q1).trans q3⟩) rfl (fun i e=>by
     rcases e with e|⟨_,e⟩
     ·exact .inl (.inl e)
     ·exact .inr ⟨_,Jo.2 rfl,by subst e;rfl⟩)
    exact⟨a1,a2,gv⟩
  obtain⟨b1,b2,b3⟩:=a9;generalize wM E (tg+n) k M1=M3 at *;have b4:M3.vals.take V.length=V:=uF b3;have b5:aaz p {M3 with vals:=M3.vals.take V.length } (fun i=>(O i/\i≠c)∨(tg+(k+1)<=i/\i<=tg+n)) (fun i=>P i∨(k+1=0/\i=tg+n)) pl1:=b1.goto b1.curl (fun v hv' b hb=>b1.known v (List.mem_of_mem_take hv') b hb);obtain⟨bj,a0,y⟩:=hj;obtain⟨bj',l,g,_⟩:=b2 _ _ a0
  obtain⟨a8,c1,c2,c3,c4⟩:=fA u a4 a3 a6 b9 m (k+1) {M3 with vals:=M3.vals.take V.length } pl1 Zo b5 b4 (fun v hv'=>by
   obtain⟨q,w⟩:=hV v hv'
   exact⟨q,w.ext b2 q1 (Og _)⟩) (fun i h1 h2=>aaS q1 (hpl i h1 h2)) ⟨bj',l,by rw[g];exact y⟩
  exact⟨a8,q1.trans c1,c2,b2.trans c3,c4⟩
end Go.Proofs.YtoahcpkibpomcaaGreat
