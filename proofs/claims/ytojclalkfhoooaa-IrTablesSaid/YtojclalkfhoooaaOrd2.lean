/- Part of a proof. -/
import Derived.Test.YtojclalkfhoooaaGMap
import Derived.Deep.OwnRows
set_option linter.unusedSimpArgs false
set_option linter.unusedVariables false
set_option maxHeartbeats 1600000
namespace Go.Proofs.Ytojclalkfhoooaa
open Go.RowKit
def ng (w:World)(xs:List Nat)(e:Ending)(w':World):Prop:=∃v,e=.returned v/\w'.ownsRow w.heap.size 3 1 v xs.length (xs.map zj)/\Below w.heap.size w w'
theorem k8 {g:List (List Nat)}(hv:zw g):(decide (0<(g.map (List.map Int.ofNat)).length) && pB (g.map (List.map Int.ofNat)))=true:=by
 obtain⟨h0,h1⟩:=hv
 simp only[List.length_map,Bool.and_eq_true,decide_eq_true_eq,pB,List.all_eq_true,List.mem_map]
 refine⟨h0,?_⟩
 rintro _ ⟨l,hl,rfl⟩ s hs
 simp only[List.mem_map] at hs
 obtain⟨x,hx,rfl⟩:=hs
 have:=h1 l hl x hx
 simp
 omega
theorem rows_int {w:World}{B:Nat}{v:Value}{g:List (List Nat)}(h:y7 zj w B v g):y7 zN w B v (g.map (List.map Int.ofNat)):=(y7.map (enc:=zN) (enc':=zj) Int.ofNat (fun _=>rfl)).2 h
theorem tK (w:World)(sv:Value)(g:List (List Nat))(B:Nat)(hB:B<=w.heap.size)(h:y7 zj w B sv g)(hv:zw g)(hn:g.length<=2000000)(hr:∀row∈g,row.length<=2000000):
 Calls Try.prog 100 #[.agg #[sv]] w fun e w'=>e=.returned (.bool true)/\Below w.heap.size w w':=by
 have:=lR w sv (g.map (List.map Int.ofNat)) B hB (rows_int h) (by simpa using hn) (by intro row hm;simp only[List.mem_map] at hm;obtain⟨l,hl,rfl⟩:=hm;simpa using hr l hl)
 rw[k8 hv] at this
 exact this
theorem yA (z:Value)(n:Nat):madeCells #[z] n=(List.replicate n z).toArray:=by
 rw[<-toList_madeCells_one]
theorem iC (w1:World)(n:Nat):Dfs w1 (((w1.alloc (.cells (madeCells #[.bool false] n) 4)).alloc (.cells #[.slice (some ⟨w1.heap.size,0,none⟩) n n] 141)).alloc (.cells #[.slice none 0 0] 163)) w1.heap.size n (w1.heap.size+1) w1.heap.size (w1.heap.size+1+1) (List.replicate n false) [] (.slice none 0 0) []:=by
 refine⟨zB (zI (by simp)),?_,by simp,⟨_,zI (by simp),World.ownsRow_nil _ _ _ _⟩,by omega,World.ownsRow_nil _ _ _ _,?_⟩
 ·rw[zB (zB (zI rfl)),yA]
  simp[uo]
 ·exact(((Below.refl _ _).alloc (Nat.le_refl _) _).alloc (by simp) _).alloc (by simp;omega) _
structure DInv (g:List (List Nat)) (seen:List Bool) (stk:List (Nat×Nat)) (post:List Nat):Prop where
 len:seen.length=g.length
 cnt:seen.count true=stk.length+post.length
 node:∀p∈stk,p.1<g.length
 fin:∀u∈post,u<g.length
theorem tI (l:List Bool)(u:Nat)(h:l[u]? =some false):(l.set u true).count true=l.count true+1:=by
 induction l generalizing u with
 |nil=>simp at h
 |cons b r ih=>
  cases u with
  |zero=>simp at h;subst h;simp
  |succ u=>
   simp only[List.getElem?_cons_succ] at h
   simp only[List.set_cons_succ,List.count_cons,ih u h]
   omega
theorem DInv.start {g:List (List Nat)}(hv:zw g):DInv g ((List.replicate g.length false).set 0 true) ([]++ [(0,0)]) []:=by
 refine⟨by simp,?_,by simp;exact hv.1,by simp⟩
 rw[tI _ _ (by simp[List.getElem?_replicate,hv.1])]
 simp[List.count_replicate]
theorem DInv.le {g:List (List Nat)}{seen:List Bool}{stk:List (Nat×Nat)}{post:List Nat}(h:DInv g seen stk post):stk.length+post.length<=g.length:=by
 rw[<-h.cnt,<-h.len];exact List.count_le_length
theorem DInv.pop {g:List (List Nat)}{seen:List Bool}{st:List (Nat×Nat)}{u j:Nat}{post:List Nat}(h:DInv g seen (st++ [(u,j)]) post):DInv g seen st (post++ [u]):=
 ⟨h.len,by have:=h.cnt;simp at this ⊢;omega,fun p hp=>h.node p (by simp[hp]),fun x hx=>by
   rcases List.mem_append.1 hx with hx|hx
   ·exact h.fin x hx
   ·have:=h.node (u,j) (by simp);simp at hx;subst hx;exact this⟩
theorem DInv.skip {g:List (List Nat)}{seen:List Bool}{st:List (Nat×Nat)}{u j:Nat}{post:List Nat}(h:DInv g seen (st++ [(u,j)]) post):DInv g seen (st++ [(u,j+1)]) post:=
 ⟨h.len,by have:=h.cnt;simp at this ⊢;omega,fun p hp=>by
   rcases List.mem_append.1 hp with hp|hp
   ·exact h.node p (by simp[hp])
   ·have:=h.node (u,j) (by simp);simp at hp;subst hp;exact this,h.fin⟩
theorem DInv.enter {g:List (List Nat)}{seen:List Bool}{stk:List (Nat×Nat)}{post:List Nat}{s:Nat}(h:DInv g seen stk post)(hs:seen[s]? =some false):DInv g (seen.set s true) (stk++ [(s,0)]) post:=by
 have hlt:s<g.length:=by rw[<-h.len];exact(List.getElem?_eq_some_iff.1 hs).1
 refine⟨by simp[h.len],by rw[tI _ _ hs,h.cnt];simp;omega,fun p hp=>?_,h.fin⟩
 rcases List.mem_append.1 hp with hp|hp
 ·exact h.node p hp
 ·simp at hp;subst hp;exact hlt
theorem lJ (w:World)(sv:Value)(g:List (List Nat))(B:Nat)(hB:B<=w.heap.size)(h:y7 zj w B sv g)(hv:zw g)(hn:g.length<=2000000)(hr:∀row∈g,row.length<=2000000)
 (k0:Nat) (F:List Nat) (hF:kV g k0 ((List.replicate g.length false).set 0 true) [(0,0)] [] F):
 Calls Try.prog 68 #[.agg #[sv]] w (ng w F.reverse):=by
 obtain⟨a,cap,rfl,hcap⟩:=h.form
 obtain⟨ii,hii,hzi0,hzi1,hzi2⟩:=info_parts Try.info_int
 obtain⟨ib,hib,hzb0,hzb1,hzb2⟩:=info_parts Try.info_bool
 have hbel:Below w.heap.size w (w.alloc (.cells #[.slice a g.length cap] 93)):=(Below.refl _ _).alloc (Nat.le_refl _) _
 have HV:=Lib.hid hv
 have HR:=Lib.hid hr
 have HF:=Lib.hid hF
 clear hv hr hF
 have hmk:=run_make_row' (P:=Try.prog) 141 4 (.bool false) 1 Try.underlying141 Try.info_bool rfl .i64 .i64 g.length (by omega) (by omega)
 go_enter Try.func68,Try.ntmps68
 go_wp2_with (go_at_call 100;go_must (refine(tK _ _ g B (by simp;omega) (h.below (hbel.mono hB)) HV.out hn HR.out).mono ?_;rintro e w1 ⟨rfl,hb1⟩;obtain⟨hc1,hf1⟩:=bcell hb1))
 have hd0:Dfs w1 (((w1.alloc (.cells (madeCells #[.bool false] g.length) 4)).alloc (.cells #[.slice (some ⟨w1.heap.size,0,none⟩) g.length g.length] 141)).alloc (.cells #[.slice none 0 0] 163)) w1.heap.size g.length (w1.heap.size+1) w1.heap.size (w1.heap.size+1+1) (List.replicate g.length false) [] (.slice none 0 0) []:=iC w1 g.length
 refine(oF w1 _ w1.heap.size g.length (w1.heap.size+1) w1.heap.size (w1.heap.size+1+1) (List.replicate g.length false) [] (.slice none 0 0) [] 0 hd0 HV.out.1 (by decide)).mono ?_
 rintro e w2 ⟨rfl,hd⟩
 have HD:=Lib.hid hd
 clear hd hd0 hmk
 go_wp2_with fail
 go_loopg [4] k0 (fun k pv wr=>∃seen stk post,Hid (Dfs w1 wr w1.heap.size g.length (w1.heap.size+1) w1.heap.size (w1.heap.size+1+1) seen stk pv post/\kV g k seen stk post F/\DInv g seen stk post))
 case atStart=>exact⟨_,_,_,HD.out,HF.out,DInv.start HV.out⟩
 case round=>
  obtain⟨seen,stk,post,HI⟩:=hrel
  cases gk with
  |zero=>
   obtain⟨rfl,rfl⟩:=HI.out.2.1
   obtain⟨sv,hk,hown⟩:=HI.out.1.hk
   obtain⟨a0,c0,rfl⟩:=zG hown
   have ck:=cell_of_one hk
   simp only[List.length_nil] at ck
   have hbw:Below w.heap.size w w1:=hbel.trans (hb1.mono (by simp))
   have hsz:=hbw.size
   have HBW:=Lib.hid (hbw.trans (HI.out.1.hb.mono hbw.size))
   have hle:=HI.out.2.2.le
   clear hk hown hb1 hc1 hf1 hbel hbw h
   go_wp2_with (go_at_call 104;go_must (refine(mK wr _ _ post HI.out.1.hp (by omega)).mono ?_;rintro e w3 ⟨rfl,hrev,hg3⟩))
   go_ret
   refine⟨_,rfl,?_,?_⟩
   ·have:=vY hrev (base':=w.heap.size) (by omega)
    simpa using this
   ·refine HBW.out.grown hg3 (by have:=HBW.out.size;omega) (fun k hk=>?_)
    have:=HI.out.1.hp.lt k hk
    omega
  |succ k=>
   obtain⟨st,u,j,rfl,hcase⟩:=HI.out.2.1
   obtain⟨sv,hk,hown⟩:=HI.out.1.hk
   simp only[List.length_append,List.length_cons,List.length_nil,Nat.zero_add,vH] at hown
   obtain⟨gk,cp,rfl,hgk,hgl⟩:=hown.form (by omega)
   have hcp:=(zm hown).1
   have hcp2:=(zm hown).2
   have hcp1:(st.length:Int)<=cp:=by omega
   have hul:u<g.length:=HI.out.2.2.node (u,j) (by simp)
   obtain⟨row,hrow⟩:∃row,g[u]? =some row:=⟨_,List.getElem?_eq_getElem hul⟩
   have hbw:Below w.heap.size w w1:=hbel.trans (hb1.mono (by simp))
   have hsz:=hbw.size
   have hbr:=hbw.trans (HI.out.1.hb.mono hbw.size)
   obtain⟨b,o,a2,cap2,rfl,hb,hc,hcap2,hx⟩:=(h.below (hbr.mono hB)).row hrow
   have hrl:=HR.out row (List.mem_of_getElem? hrow)
   have hle:=HI.out.2.2.le
   simp only[List.length_append,List.length_cons,List.length_nil] at hle
   have ck:=cell_of_one hk
   have fk:=free_of_one hk
   have cu:wr.cell? ⟨gk,st.length*2,none⟩=some (.int .i64 (u:Int)):=(hown.cellAt _ (by omega)).trans (by rw[List.getElem?_append_right (by rw[yK];omega)];simp[yK,Nat.mul_comm,zj])
   have cj:wr.cell? ⟨gk,st.length*2+1,none⟩=some (.int .i64 (j:Int)):=(hown.cellAt _ (by omega)).trans (by rw[List.getElem?_append_right (by rw[yK];omega)];simp[yK,show st.length*2+1-2*st.length=1 by omega,zj])
   have fj:wr.frozen? ⟨gk,st.length*2+1,none⟩=false:=hown.frozenAt _
   have hcg:wr.cell? ⟨w.heap.size,0,none⟩=some (.slice (some ⟨b,o,none⟩) g.length cap):=by
    have h1:(w.alloc (.cells #[.slice (some ⟨b,o,none⟩) g.length cap] 93)).heap[w.heap.size]? =_:=zI rfl
    exact cell_of_one (zH HI.out.1.hb (zH hb1 h1 (by simp)) (by have:=hb1.size;simp at this;omega))
   have hul1:(u:Int)<g.length:=by omega
   have HROW:=Lib.hid hrow
   have HOWN:=Lib.hid hown
   have HK:=Lib.hid hk
   have HX:=Lib.hid hx
   have HBR:=Lib.hid hbr
   clear hrow hown hk hx hbr hbw hbel hb1 hc1 hf1 h
   rcases hcase with⟨hj,hrun⟩|⟨s,hs,hseen,hrun⟩|⟨s,hs,hseen,hrun⟩
   ·have hjj:row.length=j:=by rw[hj];simp[succ,List.getD_eq_getElem?_getD,HROW.out]
    have htest:((j:Int)==(row.length:Int))=true:=by simp[hjj]
    have HRUN:=Lib.hid hrun
    have hp:=HI.out.1.hp
    have hps:=lt_of_block HK.out
    clear hjj hj hrun
    go_wp2_with fail
    go_quiet (fail)
    have own43:∀n,(wr.drewN n).ownsRow (w1.heap.size+1+1+1) 3 1 _ post.length (post.map zj):=fun n=>ji hp
    go_wp2_with (at_builtin;go_must (refine wpList_append_lies _ rfl (.tmp 43) (.tmp 48) 22 rfl (w1.heap.size+1+1+1) 3 ii (.int .i64 0) 1 8 Try.underlying22 hii hzi0 hzi1 hzi2 rfl (by decide) _ post.length (post.map zj) rfl ((own43 _).alloc _) ⟨wr.heap.size,0,none⟩ 1 1 [.int .i64 u] rfl rfl (World.news_of_block (cs:=#[.int .i64 u]) (zI (by simp))) (by simp[Value.oneCell']) (by decide) (by unfold maxLen;omega) (by omega) (by simp;omega) (wr.heap.size+1) (by simp) ?_;intro g2 cap3 w2 hown2 hgrow hat hlt1;have hd2:=(HI.out.1.drewN (k:=nq)).push hgrow hown2;have hk2:=zL hgrow (zB (kg HK.out)) (zC hp HK.out (.inl (by omega)));have ck2:=cell_of_one hk2;have fk2:=free_of_one hk2;have HK2:=Lib.hid hk2;have HD2:=Lib.hid hd2;clear hk2 hd2 hown2 hgrow hp own43))
    go_roundg k
    case measure=>omega
    case rel=>exact⟨seen,st,post++ [u],HD2.out.popStk HK2.out,HRUN.out,HI.out.2.2.pop⟩
   ·have hjr:row[j]? =some s:=by rw[<-hs];simp[succ,List.getD_eq_getElem?_getD,HROW.out]
    have hjl:j<row.length:=(List.getElem?_eq_some_iff.1 hjr).1
    have htest:((j:Int)==(row.length:Int))=false:=by simp;omega
    have hjl1:(j:Int)<row.length:=by omega
    obtain⟨b2,o2,rfl,hb2,cs⟩:=HX.out j s hjr
    simp only[zj] at cs
    have hd2:∀n,Dfs w1 ((wr.drewN n).setCell ⟨gk,st.length*2+1,none⟩ (.int .i64 ((j:Int)+1))) _ _ _ _ _ _ _ _ _:=fun n=>(HI.out.1.drewN (k:=n)).bump HK.out
    have cv2:=fun n=>cell_of_one (hd2 n).hv
    have csn:∀n,((wr.drewN n).setCell ⟨gk,st.length*2+1,none⟩ (.int .i64 ((j:Int)+1))).cell? ⟨w1.heap.size,s,none⟩=some (.bool true):=fun n=>zA (hd2 n).hs (by simp[hseen,uo])
    have hsl:s<g.length:=by rw[<-HI.out.2.2.len];exact(List.getElem?_eq_some_iff.1 hseen).1
    have hsl1:(s:Int)<g.length:=by omega
    have HD2:=Lib.hid hd2
    have HRUN:=Lib.hid hrun
    clear hrun hs hseen hjr hd2
    go_wp2_with fail
    go_quiet (fail)
    go_wp2_with fail
    go_roundg k
    case measure=>omega
    case rel=>exact⟨seen,st++ [(u,j+1)],post,HD2.out _,HRUN.out,HI.out.2.2.skip⟩
   ·have hjr:row[j]? =some s:=by rw[<-hs];simp[succ,List.getD_eq_getElem?_getD,HROW.out]
    have hjl:j<row.length:=(List.getElem?_eq_some_iff.1 hjr).1
    have htest:((j:Int)==(row.length:Int))=false:=by simp;omega
    have hjl1:(j:Int)<row.length:=by omega
    obtain⟨b2,o2,rfl,hb2,cs⟩:=HX.out j s hjr
    simp only[zj] at cs
    have hd2:∀n,Dfs w1 ((wr.drewN n).setCell ⟨gk,st.length*2+1,none⟩ (.int .i64 ((j:Int)+1))) _ _ _ _ _ _ _ _ _:=fun n=>(HI.out.1.drewN (k:=n)).bump HK.out
    have cv2:=fun n=>cell_of_one (hd2 n).hv
    have csn:∀n,((wr.drewN n).setCell ⟨gk,st.length*2+1,none⟩ (.int .i64 ((j:Int)+1))).cell? ⟨w1.heap.size,s,none⟩=some (.bool false):=fun n=>zA (hd2 n).hs (by simp[hseen,uo])
    have hsl:s<g.length:=by rw[<-HI.out.2.2.len];exact(List.getElem?_eq_some_iff.1 hseen).1
    have hsl1:(s:Int)<g.length:=by omega
    have hinv:=HI.out.2.2.skip.enter hseen
    have HD2:=Lib.hid hd2
    have HRUN:=Lib.hid hrun
    have HINV:=Lib.hid hinv
    clear hrun hs hseen hjr hd2 hinv
    go_wp2_with fail
    go_quiet (fail)
    go_wp2_with (go_at_call 103;go_must (refine(oF w1 _ w1.heap.size g.length (w1.heap.size+1) w1.heap.size (w1.heap.size+1+1) seen (st++ [(u,j+1)]) _ post s (HD2.out _) hsl (by simp;omega)).mono ?_;rintro e w2 ⟨rfl,hd3⟩;have HD3:=Lib.hid hd3;clear hd3))
    go_roundg k
    case measure=>omega
    case rel=>exact⟨seen.set s true,st++ [(u,j+1)]++ [(s,0)],post,HD3.out,HRUN.out,HINV.out⟩
theorem rG {g:List (List Nat)}{F:List Nat}:∀(k:Nat) (seen:List Bool) (stk:List (Nat×Nat)) (post:List Nat),kV g k seen stk post F->DInv g seen stk post->F.length<=g.length/\∀u∈F,u<g.length
 |0,seen,stk,post,h,hi=>by
  obtain⟨rfl,rfl⟩:=h
  exact⟨by have:=hi.le;simpa using this,hi.fin⟩
 |k+1,seen,stk,post,h,hi=>by
  obtain⟨st,u,j,rfl,⟨_,h⟩|⟨s,_,_,h⟩|⟨s,_,hs,h⟩⟩:=h
  ·exact rG k _ _ _ h hi.pop
  ·exact rG k _ _ _ h hi.skip
  ·exact rG k _ _ _ h (hi.skip.enter hs)
theorem tV.nodes {g:List (List Nat)}{ord:List Nat}(h:tV g ord)(hv:zw g):ord.length<=g.length/\∀u∈ord,u<g.length:=by
 obtain⟨k,h⟩:=h
 have:=rG k _ _ _ h (DInv.start hv)
 simpa using this
theorem tp (w:World)(sv:Value)(g:List (List Nat))(B:Nat)(hB:B<=w.heap.size)(h:y7 zj w B sv g)(hv:zw g)(hn:g.length<=2000000)(hr:∀row∈g,row.length<=2000000)(ord:List Nat)(ho:tV g ord):
 Calls Try.prog 68 #[.agg #[sv]] w (ng w ord):=by
 obtain⟨k0,ho⟩:=ho
 have:=lJ w sv g B hB h hv hn hr k0 _ ho
 rwa [List.reverse_reverse] at this
end Go.Proofs.Ytojclalkfhoooaa
