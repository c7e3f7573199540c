/- Part of a proof. -/
import Derived.Test.YtojclalkfhoooaaGVmD
import Derived.Test.YtojclalkfhoooaaGIFun
import Derived.Test.YtojclalkfhoooaaGMkX
import Derived.Test.YtojclalkfhoooaaGSpo2
import Derived.Test.YtojclalkfhoooaaGSpo8
set_option linter.unusedSimpArgs false
set_option linter.unusedVariables false
set_option maxHeartbeats 2000000
set_option maxRecDepth 100000
namespace Go.Proofs.Ytojclalkfhoooaa
structure DOk (d:wO) (done:List Int) (Df:Int->Int->Int->Prop):Prop where
 dom:∀v,(d.1 v).isSome=true↔v∈done
 val:∀v i k,Df v i k->d.1 v=some i/\d.2 v=some k
abbrev Done (p:IProg)(f:List IBlk)(next:Nat)(pl:List Nat):Prop:=∃cur vals,MInv p f cur next vals (fun _=>False) (fun _=>False) pl
section
variable {p:IProg} {f:List IBlk} {next:Nat} {pl:List Nat} (h:Done p f next pl)
include h
end
section
variable {p:IProg} {f:List IBlk} {next:Nat} {pl:List Nat} (h:Done p f next pl)
include h
end
theorem jm {E:ME}(hE:∀x∈E.args,0<=x/\x<4)(pos:Nat):(xR E pos).sz<=pos+2869:=by
 have h1:=(rx hE pos).sz
 have h2:=sQ hE pos
 omega
theorem qJ (s:List Int):∀(n k:Nat),k<n->(zg s n).1[k]? =some (xR (xC s k) (zg s k).2).f
 |n+1,k,h=>by
  show((zg s n).1++ [_])[k]? =_
  by_cases hk:k<n
  ·rw[List.getElem?_append_left (by rw[yx];exact hk)]
   exact qJ s n k hk
  ·have e:k=n:=by omega
   subst e
   rw[List.getElem?_append_right (by rw[yx];exact Nat.le_refl _),yx,Nat.sub_self]
   rfl
theorem qA (s:List Int):(uR s).funcs.length=mdN s:=by
 unfold uR
 simp only
 split
 ·rw[List.length_set,yx]
 ·exact yx s _
theorem kz (s:List Int){k:Nat}(hk:k<mdN s):(uR s).funcs[k]? =some []/\qV s=true/\k=mdN s-1∨(uR s).funcs[k]? =some (xR (xC s k) (zg s k).2).f:=by
 have h:=qJ s (mdN s) k hk
 unfold uR
 simp only
 split
 ·rename_i he
  by_cases e:k=mdN s-1
  ·left
   subst e
   exact⟨List.getElem?_set_self (by rw[yx];exact hk),he,rfl⟩
  ·right
   rw[List.getElem?_set_ne (fun e2=>e e2.symm)]
   exact h
 ·exact .inr h
theorem lz (s:List Int)(k:Nat)(hk:k<mdN s):(xR (xC s k) (zg s k).2).sz<=15000:=by
 have h1:=tU s k
 have h2:=jm (E:=xC s k) (xy s _) (zg s k).2
 have:=sm s
 omega
open Go.RowKit
def uS (q2:Int):Nat:=(q2%65536).toNat
def yn (q0:Int):Nat:=(q0%20).toNat
def uk (p:IProg)(q1:Int):Nat:=if 0<p.funcs.length then(q1%65536).toNat%p.funcs.length else 0
def turnK (q1:Int)(n len:Nat):Nat:=((q1/65536%65536).toNat+n/64)%len
def lY (r:Nat):Nat:=if r=0 then 16392 else if r=1 then 24575 else if r=2 then 512 else 16896
def xV (m:Nat):ByteArray:=y9 (List.replicate m 0)
def hltB:IBlk:=⟨[],[],⟨5,0,[]⟩⟩
def lW (what:Nat)(q1:Int)(n:Nat)(g:List IBlk):List IBlk:=wD g (turnK q1 n g.length) (xh what n)
def rA (p:IProg)(what n f:Nat)(q1:Int):IProg:=
 if what=13 then {p with args:=p.args++ [(n:Int)%10-1]}
 else if what=14 then {p with entry:=(n:Int)%7-1 }
 else if what=15 then {p with handler:=(n:Int)%7-2 }
 else if what=16 then {p with data:=p.data++ [⟨(n:Int)%4-2,lY (n/4%4),n/16%4⟩]}
 else if what=17 then {p with banks:=p.banks++ [xV (4096-n%3/2)]}
 else if what=18 then {p with funcs:=wD p.funcs f fun g=>if g.length=0 then g else g++ [hltB]}
 else {p with funcs:=wD p.funcs f (lW what q1 n)}
def wR (p:IProg)(q0 q1 q2:Int):IProg:=rA p (yn q0) (uS q2) (uk p q1) q1
theorem yt (n:Int):bits .and .i64 n 65535=n%65536:=by
 have h:(BitVec.ofInt 64 65535).toNat=2^16-1:=by decide
 have key:(BitVec.ofInt 64 n &&& BitVec.ofInt 64 65535).toNat=(n%((2^64:Nat):Int)).toNat%2^16:=by
  rw[BitVec.toNat_and,BitVec.toNat_ofInt,h,Nat.and_two_pow_sub_one_eq_mod]
 show IntKind.i64.wrap ((BitVec.ofInt 64 n &&& BitVec.ofInt 64 65535).toNat:Nat)=n%65536
 rw[key,IntKind.wrap_i64]
 omega
theorem turnN_lt (q2:Int):uS q2<65536:=by unfold uS;omega
theorem turnW_lt (q0:Int):yn q0<20:=by unfold yn;omega
structure TuMid (w:World) (p1 o5:Nat) (q0 q1 q2:Int) (t:PT) (wx:World):Prop where
 hq:wx.heap[p1+1]? =some (.cells #[.int .i64 q0,.int .i64 q1,.int .i64 q2] 23 (0,0))
 hr:wx.heap[p1+1+1]? =some (.cells #[.slice none 0 0,.slice none 0 0,.int .i64 0,.int .i64 0,.slice none 0 0,.slice none 0 0] 29 (0,0))
 ho:wx.heap[o5]? =some (.cells (zW t).toArray 29 (0,0))
 bel:Below p1 w wx
 base:p1=w.heap.size
 rows:Rows wx (p1+1+1+1) t.rows
 ge:p1+1+1<o5
section
variable {w:World} {p1 o5:Nat} {q0 q1 q2:Int} {t:PT} {wx:World} (h:TuMid w p1 o5 q0 q1 q2 t wx)
include h
theorem TuMid.lt:p1+1+1<wx.heap.size:=lt_of_block h.hr
theorem TuMid.far {b:Nat}{cs:Array Value}(hb:wx.heap[b]? =some (.cells cs 29 (0,0))):b ∉ t.rows.filterMap Row.blk:=fun hk=>by
 obtain⟨x,hx,hxk⟩:=List.mem_filterMap.1 hk
 exact zC (h.rows.own x hx) hb (.inr (vr x hx)) hxk
theorem TuMid.farO:o5 ∉ t.rows.filterMap Row.blk:=h.far h.ho
theorem TuMid.below {w':World}(hb:Below wx.heap.size wx w'):TuMid w p1 o5 q0 q1 q2 t w':=
 ⟨zH hb h.hq (lt_of_block h.hq),zH hb h.hr (lt_of_block h.hr),zH hb h.ho (lt_of_block h.ho),h.bel.trans (hb.mono (by have:=h.lt;omega)),h.base,h.rows.below hb,h.ge⟩
theorem TuMid.set {i:Nat}{u:Value}{t':PT}(hc:(zW t).set i u=zW t')(hr:t'.rows=t.rows):TuMid w p1 o5 q0 q1 q2 t' (wx.setCell ⟨o5,i,none⟩ u):=by
 have hg:=h.ge
 refine⟨zR h.hq (by show p1+1≠o5;omega),zR h.hr (by show p1+1+1≠o5;omega),by rw[zD h.ho,<-hc];simp,h.bel.setCell (by show p1<=o5;omega) _,h.base,?_,h.ge⟩
 rw[hr]
 exact h.rows.keep fun k hk=>Below.heap_setCell _ _ _ _ (fun e=>h.farO (by have e':k=o5:=e;rw[<-e'];exact hk))
theorem TuMid.sub {w':World}{t':PT}{rs:List Row}(hch:Chg wx rs w')(hs:∀k,k∈rs.filterMap Row.blk->k∈t.rows.filterMap Row.blk)(hc:zW t'=zW t)(hr:Rows w' (p1+1+1+1) t'.rows):TuMid w p1 o5 q0 q1 q2 t' w':=by
 have hlt:∀k,k∈t.rows.filterMap Row.blk->p1+1+1+1<=k:=fun k hk=>(h.rows.lt hk).1
 have hge:=h.ge
 have keep:∀k,k<wx.heap.size->k<p1+1+1+1->w'.heap[k]? =wx.heap[k]?:=fun k hk hl=>hch.kept k hk (fun e=>by have:=hlt k (hs k e);omega)
 refine⟨(keep _ (lt_of_block h.hq) (by omega)).trans h.hq,(keep _ (lt_of_block h.hr) (by omega)).trans h.hr,?_,?_,h.base,hr,h.ge⟩
 ·rw[hc]
  exact(hch.kept _ (lt_of_block h.ho) (fun e=>h.farO (hs _ e))).trans h.ho
 ·have hl:=h.lt
  exact h.bel.trans ⟨hch.os,hch.tape,hch.output,hch.size,fun k hk=>keep k (by omega) (by omega)⟩
theorem TuMid.grow {w1 w9:World}{r r':Row}{rs:List Row}{t':PT}{i:Nat}{u:Value}(hp:t.rows.Perm (r::rs))(hb1:Below wx.heap.size wx w1)(hg:w1.grownBy w9 r.blk)
 (hown:w9.ownsRow (p1+1+1+1) r'.e r'.sz r'.v r'.n r'.cs) (hat:∀k,r'.blk=some k->r.blk=some k∨wx.heap.size<=k) (hq:(r'::rs).Perm t'.rows) (hc:(zW t).set i u=zW t'):TuMid w p1 o5 q0 q1 q2 t' (w9.setCell ⟨o5,i,none⟩ u):=by
 have hge:=h.ge
 have hr:=h.rows.perm hp
 have h2:=hr.grow hb1 hg hown hat
 have hne:∀k,r.blk=some k->k∈t.rows.filterMap Row.blk:=fun k e=>List.mem_filterMap.2 ⟨r,hp.mem_iff.2 (.head _),e⟩
 have keep:∀k,k<wx.heap.size->(k<p1+1+1+1∨k=o5)->w9.heap[k]? =wx.heap[k]?:=fun k hk hl=>(hg.block k (Nat.lt_of_lt_of_le hk hb1.size) (fun e=>by
  have h5:=hne k e.symm
  rcases hl with hl|rfl
  ·have:=(h.rows.lt h5).1;omega
  ·exact h.farO h5)).trans (hb1.block k hk)
 have ho9:w9.heap[o5]? =some (.cells (zW t).toArray 29 (0,0)):=(keep _ (lt_of_block h.ho) (.inr rfl)).trans h.ho
 refine⟨(zR ((keep _ (lt_of_block h.hq) (.inl (by omega))).trans h.hq) (by show p1+1≠o5;omega)),(zR ((keep _ (lt_of_block h.hr) (.inl (by omega))).trans h.hr) (by show p1+1+1≠o5;omega)),by rw[zD ho9,<-hc];simp,?_,h.base,?_,h.ge⟩
 ·have hl:=h.lt
  refine Below.setCell (h.bel.trans ⟨hg.os.trans hb1.os,hg.tape.trans hb1.tape,hg.output.trans hb1.output,Nat.le_trans hb1.size hg.size,fun k hk=>keep k (by omega) (.inl (by omega))⟩) (by show p1<=o5;omega) _
 ·have h3:=h2.perm hq
  refine h3.keep fun k hk=>Below.heap_setCell _ _ _ _ (fun e=>?_)
  have e':k=o5:=e
  subst e'
  obtain⟨x,hx,hxk⟩:=List.mem_filterMap.1 hk
  exact zC (h3.own x hx) ho9 (.inr (vr x hx)) hxk
end
theorem uf {α β:Type}(f:α->List β){l:List α}{k:Nat}{b:α}(hk:l[k]? =some b):(l.flatMap f).Perm (f b++(l.eraseIdx k).flatMap f):=by
 obtain⟨hlt,hb⟩:=List.getElem?_eq_some_iff.1 hk
 have e1:l=l.take k++b::l.drop (k+1):=by
  rw[<-hb,List.getElem_cons_drop,List.take_append_drop]
 rw[List.eraseIdx_eq_take_drop_succ]
 conv=>lhs;rw[e1]
 classical
 refine List.perm_iff_count.2 fun y=>?_
 simp only[List.flatMap_append,List.flatMap_cons,List.count_append]
 omega
theorem tn {α β:Type}(f:α->List β){l:List α}{k:Nat}(hk:k<l.length)(a:α):((l.set k a).flatMap f).Perm (f a++(l.eraseIdx k).flatMap f):=by
 have h:=uf f (l:=l.set k a) (k:=k) (b:=a) (by rw[List.getElem?_set_self hk])
 rw[List.eraseIdx_set_eq] at h
 exact h
def PT.but (t:PT)(f:Nat):List Row:=wY t.fv t.funcs::zP t.av t.args::vK t.dv t.data::v8 t.bv t.banks::(t.funcs.eraseIdx f).flatMap FT.rows
theorem PT.rows_at {t:PT}{f:Nat}{ft:FT}(hf:t.funcs[f]? =some ft):t.rows.Perm (ft.rows++t.but f):=by
 have h:=uf FT.rows hf
 classical
 have c:=List.perm_iff_count.1 h
 unfold PT.rows PT.but
 refine List.perm_iff_count.2 fun y=>?_
 have:=c y
 simp only[List.count_append,List.count_cons] at this ⊢
 omega
theorem PT.rows_set {t:PT}{f:Nat}(hf:f<t.funcs.length)(ft:FT):({t with funcs:=t.funcs.set f ft }:PT).rows.Perm (ft.rows++(wY t.fv (t.funcs.set f ft)::zP t.av t.args::vK t.dv t.data::v8 t.bv t.banks::(t.funcs.eraseIdx f).flatMap FT.rows)):=by
 have h:=tn FT.rows hf ft
 classical
 have c:=List.perm_iff_count.1 h
 unfold PT.rows
 refine List.perm_iff_count.2 fun y=>?_
 have:=c y
 simp only[List.count_append,List.count_cons] at this ⊢
 omega
theorem jY {t:PT}{f:Nat}{ft ft':FT}(hf:t.funcs[f]? =some ft)(hb:ft'.bv=ft.bv):wY t.fv (t.funcs.set f ft')=wY t.fv t.funcs:=by
 unfold wY
 rw[List.length_set,vQ hf hb]
theorem FT.rows_at {ft:FT}{i:Nat}{bt:BT}(hi:ft.blks[i]? =some bt):ft.rows.Perm (zd ft.bv ft.blks::(bt.rows++(ft.blks.eraseIdx i).flatMap BT.rows)):=(uf BT.rows hi).cons _
theorem FT.rows_set {ft:FT}{i:Nat}(hi:i<ft.blks.length)(bt:BT):({ft with blks:=ft.blks.set i bt }:FT).rows.Perm (zd ft.bv (ft.blks.set i bt)::(bt.rows++(ft.blks.eraseIdx i).flatMap BT.rows)):=(tn BT.rows hi bt).cons _
theorem TuMid.block {w:World}{p1 o5:Nat}{q0 q1 q2:Int}{t:PT}{wx:World}(h:TuMid w p1 o5 q0 q1 q2 t wx){f i g:Nat}{ft:FT}{bt:BT}(hf:t.funcs[f]? =some ft)(hi:ft.blks[i]? =some bt)(hg:ft.bv.ownBlock=some g):
 SpSt wx (p1+1+1+1) g i ft.bv bt ft.blks ((ft.blks.eraseIdx i).flatMap BT.rows++t.but f):=by
 refine⟨h.rows.perm ?_,hi,hg⟩
 refine(PT.rows_at hf).trans ?_
 have h1:=(FT.rows_at hi).append_right (t.but f)
 refine h1.trans ?_
 rw[List.cons_append,List.append_assoc]
theorem TuMid.unblock {w:World}{p1 o5:Nat}{q0 q1 q2:Int}{t:PT}{wx w':World}(h:TuMid w p1 o5 q0 q1 q2 t wx){f i g:Nat}{ft:FT}{bt bt':BT}(hf:t.funcs[f]? =some ft)(hi:ft.blks[i]? =some bt)
 (hs:SpSt w' (p1+1+1+1) g i ft.bv bt' (ft.blks.set i bt') ((ft.blks.eraseIdx i).flatMap BT.rows++t.but f)) (hch:Chg wx (zd ft.bv ft.blks::bt.rows) w'):
 TuMid w p1 o5 q0 q1 q2 {t with funcs:=t.funcs.set f {ft with blks:=ft.blks.set i bt' }} w':=by
 have hfl:=(List.getElem?_eq_some_iff.1 hf).1
 have hil:=(List.getElem?_eq_some_iff.1 hi).1
 have hp:=((PT.rows_at hf).trans ((FT.rows_at hi).append_right (t.but f)))
 refine h.sub (t':= {t with funcs:=t.funcs.set f {ft with blks:=ft.blks.set i bt' }}) hch (fun k hk=>?_) rfl (hs.rows.perm ?_)
 ·obtain⟨x,hx,e⟩:=List.mem_filterMap.1 hk
  refine List.mem_filterMap.2 ⟨x,hp.mem_iff.2 ?_,e⟩
  rw[List.cons_append,List.append_assoc]
  rcases List.mem_cons.1 hx with rfl|hx
  ·exact .head _
  ·exact .tail _ (List.mem_append_left _ hx)
 ·have h2:=PT.rows_set hfl ({ft with blks:=ft.blks.set i bt' }:FT)
  rw[jY hf (ft':= {ft with blks:=ft.blks.set i bt' }) rfl] at h2
  have h3:=(FT.rows_set hil bt').append_right (t.but f)
  rw[List.cons_append,List.append_assoc] at h3
  exact(h2.trans h3).symm
theorem pD {α:Type}{l:List α}{i:Nat}{g:α->α}(h:∀x,l[i]? =some x->g x=x):wD l i g=l:=by
 unfold wD
 split
 ·rename_i x hx
  rw[h x hx]
  apply List.ext_getElem?
  intro q
  rw[List.getElem?_set]
  split
  ·rename_i e
   subst e
   rw[hx,if_pos (List.getElem?_eq_some_iff.1 hx).1]
  ·rfl
 ·rfl
theorem uw {p:IProg}{what n f:Nat}{q1:Int}(hw:what=18∨what<=12∨what=19)(h:∀g,p.funcs[f]? =some g->g.length=0):rA p what n f q1=p:=by
 unfold rA
 rw[if_neg (by omega),if_neg (by omega),if_neg (by omega),if_neg (by omega),if_neg (by omega)]
 split
 ·rw[pD (fun g hg=>if_pos (h g hg))]
 ·rw[pD (fun g hg=>?_)]
  unfold lW
  rw[List.eq_nil_of_length_eq_zero (h g hg)]
  rfl
def btH:BT:=⟨[],.slice none 0 0,[],.slice none 0 0,5,0,[],.slice none 0 0⟩
theorem kZ {w:World}{B:Nat}{t:PT}(h:Rows w B t.rows):w.ownsRow B 43 1 t.fv t.funcs.length (t.funcs.flatMap fun f:FT=> [f.bv]):=by
 rw[<-List.map_eq_flatMap]
 exact h.own (wY t.fv t.funcs) (.head _)
theorem kj {w:World}{B:Nat}{t:PT}(h:Rows w B t.rows){fb f:Nat}{ft:FT}(hb:t.fv.ownBlock=some fb)(hf:t.funcs[f]? =some ft):w.cell? ⟨fb,f,none⟩=some ft.bv/\w.frozen? ⟨fb,f,none⟩=false/\fb<w.heap.size:=by
 have h1:=kZ h
 have h2:=z9 (f:=fun f:FT=> [f.bv]) (n:=1) (fun _=>rfl) h1 hb hf 0 _ rfl
 have h3:=zq (n:=1) (by decide) (f:=fun f:FT=> [f.bv]) (fun _=>rfl) h1 hb hf 0 (by decide)
 rw[Nat.mul_one] at h2 h3
 exact⟨h2,h3.2,(h1.lt fb hb).2⟩
theorem TuMid.addB {w:World}{p1 o5:Nat}{q0 q1 q2:Int}{t:PT}{wx w1 w9:World}(h:TuMid w p1 o5 q0 q1 q2 t wx){f fb:Nat}{ft:FT}{v':Value}(hf:t.funcs[f]? =some ft)(hfb:t.fv.ownBlock=some fb)(hb1:Below wx.heap.size wx w1)(hg:w1.grownBy w9 ft.bv.ownBlock)
 (hown:w9.ownsRow (p1+1+1+1) 49 5 v' (ft.blks.length+1) (ft.blks.flatMap zz++zz btH)) (hat:∀k,v'.ownBlock=some k->ft.bv.ownBlock=some k∨wx.heap.size<=k):
 TuMid w p1 o5 q0 q1 q2 {t with funcs:=t.funcs.set f ⟨ft.blks++ [btH],v'⟩} (w9.setCell ⟨fb,f,none⟩ v'):=by
 have hfl:=(List.getElem?_eq_some_iff.1 hf).1
 have p1':=PT.rows_at hf
 have h2:=(h.rows.perm p1').grow (r':=zd v' (ft.blks++ [btH])) hb1 hg (by
  show w9.ownsRow _ _ _ _ (ft.blks++ [btH]).length ((ft.blks++ [btH]).flatMap zz)
  rw[List.length_append,List.flatMap_append]
  exact hown) hat
 have hnil:∀(r:Row),r.blk=none->∀g,r.blk=some g->g ∉ (zd v' (ft.blks++ [btH])::(ft.blks.flatMap BT.rows++t.but f)).filterMap Row.blk:=fun r e g e2=>by rw[e] at e2;cases e2
 have h3:Rows w9 (p1+1+1+1) (zP (.slice none 0 0) []::yo (.slice none 0 0) []::xg (.slice none 0 0) []::(zd v' (ft.blks++ [btH])::(ft.blks.flatMap BT.rows++t.but f))):=by
  refine((h2.cons (World.ownsRow_nil _ _ _ _) ?_).cons (World.ownsRow_nil _ _ _ _) ?_).cons (World.ownsRow_nil _ _ _ _) ?_
  all_goals (intro g e;cases e)
 have h4:=h3.perm (rs':=wY t.fv t.funcs::(zd v' (ft.blks++ [btH])::((ft.blks++ [btH]).flatMap BT.rows++(zP t.av t.args::vK t.dv t.data::v8 t.bv t.banks::(t.funcs.eraseIdx f).flatMap FT.rows)))) (by
  classical
  unfold PT.but
  rw[List.flatMap_append]
  show List.Perm _ (_::_::((_++([zP (.slice none 0 0) [],yo (.slice none 0 0) [],xg (.slice none 0 0) []]++ []))++_))
  refine List.perm_iff_count.2 fun y=>?_
  simp only[List.count_append,List.count_cons,List.count_nil]
  omega)
 have h5:=h4.put (g:=fb) (r':=wY t.fv (t.funcs.set f ⟨ft.blks++ [btH],v'⟩)) (w':=w9.setCell ⟨fb,f,none⟩ v') hfb (fun k hk=>Below.heap_setCell _ _ _ _ hk) (by
  have h6:w9.ownsRow (p1+1+1+1) 43 1 t.fv t.funcs.length (t.funcs.flatMap fun f:FT=> [f.bv]):=by
   rw[<-List.map_eq_flatMap]
   exact h4.own (wY t.fv t.funcs) (.head _)
  have h7:=yp (f:=fun f:FT=> [f.bv]) (n:=1) (fun _=>rfl) h6 hfb hf (j:=0) (u:=v') (a:=⟨ft.blks++ [btH],v'⟩) (by decide) rfl
  rw[Nat.mul_one,Nat.add_zero,<-List.map_eq_flatMap] at h7
  show(w9.setCell ⟨fb,f,none⟩ v').ownsRow (p1+1+1+1) 43 1 t.fv (t.funcs.set f _).length _
  rw[List.length_set]
  exact h7) rfl
 have hbm:zd ft.bv ft.blks∈t.rows:=p1'.mem_iff.2 (.head _)
 have hfm:wY t.fv t.funcs∈t.rows:=.head _
 refine h.sub (rs:=t.rows) (((Chg.below hb1).trans ((uY (r:=zd ft.bv ft.blks) hg).one hbm)).trans ((xJ (a:=⟨fb,f,none⟩) (r:=wY t.fv t.funcs) hfb).one hfm)) (fun k hk=>hk) rfl (h5.perm ?_)
 have h8:=PT.rows_set hfl (⟨ft.blks++ [btH],v'⟩:FT)
 refine List.Perm.trans ?_ h8.symm
 classical
 refine List.perm_iff_count.2 fun y=>?_
 unfold FT.rows
 simp only[List.count_append,List.count_cons]
 omega
theorem TuMid.farF {w:World}{p1 o5:Nat}{q0 q1 q2:Int}{t:PT}{wx:World}(h:TuMid w p1 o5 q0 q1 q2 t wx){f k:Nat}{ft:FT}(hf:t.funcs[f]? =some ft)(hk:ft.bv.ownBlock=some k):t.fv.ownBlock≠some k:=fun e=>by
 have h1:=(h.rows.perm (PT.rows_at hf)).apart (g:=k) hk
 exact h1 (List.mem_filterMap.2 ⟨wY t.fv t.funcs,List.mem_append_right _ (.head _),e⟩)
theorem szB_of {ft:FT}{bt:BT}(h1:bt.blk.params.length<=2000000/\bt.blk.ops.length<=2000000/\bt.blk.term.to.length<=2000000)(h2:jx ft.fn)(hm:bt.blk∈ft.fn):SzB bt:=by
 have h3:=h2 _ hm
 refine⟨h1.1,by have:=h1.2.1;unfold BT.blk at this;simpa using this,by have:=h1.2.2;unfold BT.blk at this;simpa using this,fun o ho=>h3.1 o.1 (List.mem_map_of_mem ho),fun o ho=>h3.2 o.1 (List.mem_map_of_mem ho)⟩
open Go.RowKit
structure SmB (N:Nat) (b:IBlk):Prop where
 par:b.params.length<=N
 ops:b.ops.length<=N
 tos:b.term.to.length<=N
 oarg:∀o∈b.ops,o.args.length<=N
 earg:∀e∈b.term.to,e.args.length<=N
structure SmP (N:Nat) (p:IProg):Prop where
 fn:p.funcs.length<=N
 fs:∀f∈p.funcs,f.length<=N/\∀b∈f,SmB N b
 ar:p.args.length<=N
 da:p.data.length<=N
 ba:p.banks.length<=N
theorem SmB.mono {N M:Nat}(hN:N<=M){b:IBlk}(h:SmB N b):SmB M b:=⟨by have:=h.par;omega,by have:=h.ops;omega,by have:=h.tos;omega,fun o ho=>by have:=h.oarg o ho;omega,fun o ho=>by have:=h.earg o ho;omega⟩
theorem SmP.mono {N M:Nat}(hN:N<=M){p:IProg}(h:SmP N p):SmP M p:=
 ⟨by have:=h.fn;omega,fun f hf=>⟨by have:=(h.fs f hf).1;omega,fun b hb=>((h.fs f hf).2 b hb).mono hN⟩,by have:=h.ar;omega,by have:=h.da;omega,by have:=h.ba;omega⟩
theorem SmP.small {N:Nat}{p:IProg}(h:SmP N p)(hN:N<=2000000):SmallP p:=by
 have h:=h.mono hN
 exact⟨⟨h.fn,fun f hf=>⟨⟨(h.fs f hf).1,fun b hb=>⟨((h.fs f hf).2 b hb).par,((h.fs f hf).2 b hb).ops,((h.fs f hf).2 b hb).tos⟩⟩,fun b hb=>⟨((h.fs f hf).2 b hb).oarg,((h.fs f hf).2 b hb).earg⟩⟩⟩,h.ar,h.da,h.ba⟩
theorem SmP.sized {N:Nat}{p:IProg}(h:SmP N p)(hN:N<=65536):mW p:=fun f hf=>
 ⟨(((h.mono (show N<=2000000 by omega)).small (Nat.le_refl _)).fn.2 f hf).1,fun b hb=>by have:=((h.fs f hf).2 b hb).par;omega⟩
theorem mem_opsN {f:List IBlk}{b:IBlk}(h:b∈f):b.ops.length<=nN f:=by
 unfold nN
 induction f with
 |nil=>cases h
 |cons x f ih=>
  rw[List.map_cons,List.sum_cons]
  rcases List.mem_cons.1 h with rfl|h
  ·omega
  ·have:=ih h;omega
theorem vF {α:Type}{sz:Nat}{R:World->Nat->Nat->Nat->α->Prop}{w:World}{B:Nat}{v:Value}{xs:List α}(h:yN sz R w B v xs){x:α}(hx:x∈xs):∃b o,R w B b o x:=by
 obtain⟨k,hk⟩:=List.getElem?_of_mem hx
 obtain⟨a,cap,rfl,_,_,h3⟩:=h
 obtain⟨b,o,_,_,hr⟩:=h3 k x hk
 exact⟨b,_,hr⟩
theorem rI {w:World}{B:Nat}{v:Value}{xs:List Int}(h:zY w B v xs):∀x∈xs,I64 x:=fun x hx=>by
 obtain⟨b,o,hr⟩:=vF h hx
 exact hr.2
theorem ProgIn.p64 {w:World}{B:Nat}{V:PV}{p:IProg}(h:ProgIn w B V p):P64 p:=by
 refine⟨fun f hf b hb=>?_,rI h.args,fun o ho=>?_,fun s hs=>?_,h.ent,h.hnd⟩
 ·obtain⟨x,y,bv,_,hbl⟩:=vF h.funcs hf
  obtain⟨x,y,_,_,h3,pv,ov,tv,_,_,_,h7,h8,h9⟩:=vF hbl hb
  refine⟨rI h7,fun o ho=>?_,h3,fun e he=>?_⟩
  ·obtain⟨x,y,_,_,_,_,_,h6,av,_,ha⟩:=vF h8 ho
   exact⟨h6,rI ha⟩
  ·obtain⟨x,y,_,h2,av,_,ha⟩:=vF h9 he
   exact⟨h2,rI ha⟩
 ·obtain⟨x,y,_,_,_,h4⟩:=vF h.data ho
  exact h4
 ·obtain⟨x,y,h1,h2⟩:=vF h.banks hs
  exact h2
theorem yb {α:Type}{P:α->Prop}{l:List α}{i:Nat}{g:α->α}(h:∀x∈l,P x)(hg:∀x∈l,P (g x)):∀x∈wD l i g,P x:=by
 unfold wD
 split
 ·rename_i y hy
  intro x hx
  rcases List.mem_or_eq_of_mem_set hx with hx|rfl
  ·exact h x hx
  ·exact hg y (List.mem_of_getElem? hy)
 ·exact h
theorem tD (x:Int)(h1:-1000000<=x)(h2:x<=1000000):I64 x:=⟨by omega,by omega⟩
theorem spO_sm {N what n:Nat}{o:IOp}(h:o.args.length<=N):(spO what n o).args.length<=N+1:=by
 unfold spO
 split<;>first|(show o.args.length<=_;omega)|(show(o.args++ [_]).length<=_;rw[List.length_append];show _+1<=_;omega)
theorem spoil_sm {N what n:Nat}{b:IBlk}(h:SmB N b):SmB (N+1) (xh what n b):=by
 have hm:=h.mono (Nat.le_succ N)
 unfold xh
 split
 ·split
  ·exact hm
  split
  ·split
   ·rename_i x y hx hy
    refine⟨hm.par,by show((b.ops.set _ _).set _ _).length<=_;rw[List.length_set,List.length_set];exact hm.ops,hm.tos,fun o ho=>?_,hm.earg⟩
    rcases List.mem_or_eq_of_mem_set ho with ho|rfl
    ·rcases List.mem_or_eq_of_mem_set ho with ho|rfl
     ·exact hm.oarg o ho
     ·exact hm.oarg _ (List.mem_of_getElem? hy)
    ·exact hm.oarg _ (List.mem_of_getElem? hx)
   ·exact hm
  split
  ·exact⟨hm.par,by show(b.ops.take _).length<=_;rw[List.length_take];have:=hm.ops;omega,hm.tos,fun o ho=>hm.oarg o (List.mem_of_mem_take ho),hm.earg⟩
  ·exact⟨hm.par,by show(wD b.ops _ _).length<=_;rw[xZ];exact hm.ops,hm.tos,yb hm.oarg (fun o ho=>spO_sm (h.oarg o ho)),hm.earg⟩
 split
 ·exact⟨by show(b.params++ [_]).length<=_;rw[List.length_append];have:=h.par;show _+1<=_;omega,hm.ops,hm.tos,hm.oarg,hm.earg⟩
 split
 ·exact⟨hm.par,hm.ops,hm.tos,hm.oarg,hm.earg⟩
 split
 ·exact⟨hm.par,hm.ops,hm.tos,hm.oarg,hm.earg⟩
 split
 ·exact⟨hm.par,hm.ops,by show(wD b.term.to _ _).length<=_;rw[xZ];exact hm.tos,hm.oarg,yb (P:=fun e:IEdge=>e.args.length<=N+1) hm.earg (fun e he=>hm.earg e he)⟩
 split
 ·exact⟨hm.par,hm.ops,by show(wD b.term.to _ _).length<=_;rw[xZ];exact hm.tos,hm.oarg,yb (P:=fun e:IEdge=>e.args.length<=N+1) hm.earg (fun e he=>by
   show(e.args++ [_]).length<=_
   rw[List.length_append]
   have:=h.earg e he
   show _+1<=_
   omega)⟩
 ·exact hm
theorem turn_sm {N:Nat}{p:IProg}(h:SmP N p)(q0 q1 q2:Int):SmP (N+1) (wR p q0 q1 q2):=by
 have hm:=h.mono (Nat.le_succ N)
 unfold wR rA
 split
 ·exact⟨hm.fn,hm.fs,by show(p.args++ [_]).length<=_;rw[List.length_append];have:=h.ar;show _+1<=_;omega,hm.da,hm.ba⟩
 split
 ·exact⟨hm.fn,hm.fs,hm.ar,hm.da,hm.ba⟩
 split
 ·exact⟨hm.fn,hm.fs,hm.ar,hm.da,hm.ba⟩
 split
 ·exact⟨hm.fn,hm.fs,hm.ar,by show(p.data++ [_]).length<=_;rw[List.length_append];have:=h.da;show _+1<=_;omega,hm.ba⟩
 split
 ·exact⟨hm.fn,hm.fs,hm.ar,hm.da,by show(p.banks++ [_]).length<=_;rw[List.length_append];have:=h.ba;show _+1<=_;omega⟩
 split
 ·refine⟨by show(wD p.funcs _ _).length<=_;rw[xZ];exact hm.fn,yb hm.fs (fun f hf=>?_),hm.ar,hm.da,hm.ba⟩
  split
  ·exact hm.fs f hf
  ·refine⟨by rw[List.length_append];have:=(h.fs f hf).1;show _+1<=_;omega,fun b hb=>?_⟩
   rcases List.mem_append.1 hb with hb|hb
   ·exact(hm.fs f hf).2 b hb
   ·rw[List.mem_singleton] at hb
    subst hb
    exact⟨Nat.zero_le _,Nat.zero_le _,Nat.zero_le _,(fun o ho=>by cases ho),(fun e he=>by cases he)⟩
 ·refine⟨by show(wD p.funcs _ _).length<=_;rw[xZ];exact hm.fn,yb hm.fs (fun f hf=>?_),hm.ar,hm.da,hm.ba⟩
  unfold lW
  exact⟨by rw[xZ];exact(hm.fs f hf).1,yb (hm.fs f hf).2 (fun b hb=>spoil_sm ((h.fs f hf).2 b hb))⟩
theorem spO_64 {what n:Nat}(hn:n<65536){o:IOp}(h:qN o/\∀x∈o.args,I64 x):qN (spO what n o)/\∀x∈(spO what n o).args,I64 x:=by
 obtain⟨⟨h1,h2,h3,h4,h5⟩,h6⟩:=h
 unfold spO
 split
 ·exact⟨⟨(show I64 ((n:Int)/7%30) from tD _ (by omega) (by omega)),h2,h3,h4,h5⟩,h6⟩
 ·exact⟨⟨h1,(show I64 ((n:Int)/7%40-2) from tD _ (by omega) (by omega)),h3,h4,h5⟩,h6⟩
 ·exact⟨⟨h1,h2,(show I64 ((n:Int)/7%40-2) from tD _ (by omega) (by omega)),h4,h5⟩,h6⟩
 ·exact⟨⟨h1,h2,h3,(show I64 ((n:Int)/7%40) from tD _ (by omega) (by omega)),h5⟩,h6⟩
 ·exact⟨⟨h1,h2,h3,h4,by show n/7%300<65536;omega⟩,h6⟩
 ·refine⟨⟨h1,h2,h3,h4,h5⟩,fun x hx=>?_⟩
  rcases List.mem_append.1 hx with hx|hx
  ·exact h6 x hx
  ·rw[List.mem_singleton] at hx;subst hx;exact tD _ (by omega) (by omega)
 ·exact⟨⟨h1,h2,h3,h4,h5⟩,h6⟩
theorem spoil_64 {what n:Nat}(hn:n<65536){b:IBlk}(h:B64 b):B64 (xh what n b):=by
 unfold xh
 split
 ·split
  ·exact h
  split
  ·split
   ·rename_i x y hx hy
    refine⟨h.par,fun o ho=>?_,h.term,h.tos⟩
    rcases List.mem_or_eq_of_mem_set ho with ho|rfl
    ·rcases List.mem_or_eq_of_mem_set ho with ho|rfl
     ·exact h.ops o ho
     ·exact h.ops _ (List.mem_of_getElem? hy)
    ·exact h.ops _ (List.mem_of_getElem? hx)
   ·exact h
  split
  ·exact⟨h.par,fun o ho=>h.ops o (List.mem_of_mem_take ho),h.term,h.tos⟩
  ·exact⟨h.par,yb h.ops (fun o ho=>spO_64 hn (h.ops o ho)),h.term,h.tos⟩
 split
 ·refine⟨fun x hx=>?_,h.ops,h.term,h.tos⟩
  rcases List.mem_append.1 hx with hx|hx
  ·exact h.par x hx
  ·rw[List.mem_singleton] at hx;subst hx;exact tD _ (by omega) (by omega)
 split
 ·exact⟨h.par,h.ops,⟨tD _ (by show -1000000<=(n:Int)%7;omega) (by show(n:Int)%7<=1000000;omega),h.term.2⟩,h.tos⟩
 split
 ·exact⟨h.par,h.ops,⟨h.term.1,tD _ (by show -1000000<=(n:Int)%40-2;omega) (by show(n:Int)%40-2<=1000000;omega)⟩,h.tos⟩
 split
 ·exact⟨h.par,h.ops,h.term,yb (P:=fun e:IEdge=>I64 e.block/\∀x∈e.args,I64 x) h.tos (fun e he=>⟨tD _ (by show -1000000<=(n:Int)%9-1;omega) (by show(n:Int)%9-1<=1000000;omega),(h.tos e he).2⟩)⟩
 split
 ·exact⟨h.par,h.ops,h.term,yb (P:=fun e:IEdge=>I64 e.block/\∀x∈e.args,I64 x) h.tos (fun e he=>⟨(h.tos e he).1,fun x hx=>by
   rcases List.mem_append.1 hx with hx|hx
   ·exact(h.tos e he).2 x hx
   ·rw[List.mem_singleton] at hx;subst hx;exact tD _ (by omega) (by omega)⟩)⟩
 ·exact h
theorem turn_64 {p:IProg}(h:P64 p)(q0 q1 q2:Int):P64 (wR p q0 q1 q2):=by
 have hn:=turnN_lt q2
 unfold wR rA
 generalize uS q2=n at *
 split
 ·refine⟨h.funcs,fun x hx=>?_,h.data,h.banks,h.ent,h.hnd⟩
  rcases List.mem_append.1 hx with hx|hx
  ·exact h.args x hx
  ·rw[List.mem_singleton] at hx;subst hx;exact tD _ (by omega) (by omega)
 split
 ·exact⟨h.funcs,h.args,h.data,h.banks,tD _ (by show -1000000<=(n:Int)%7-1;omega) (by show(n:Int)%7-1<=1000000;omega),h.hnd⟩
 split
 ·exact⟨h.funcs,h.args,h.data,h.banks,h.ent,tD _ (by show -1000000<=(n:Int)%7-2;omega) (by show(n:Int)%7-2<=1000000;omega)⟩
 split
 ·refine⟨h.funcs,h.args,fun x hx=>?_,h.banks,h.ent,h.hnd⟩
  rcases List.mem_append.1 hx with hx|hx
  ·exact h.data x hx
  ·rw[List.mem_singleton] at hx
   subst hx
   refine⟨tD _ (by show -1000000<=(n:Int)%4-2;omega) (by show(n:Int)%4-2<=1000000;omega),?_,by show n/16%4<65536;omega⟩
   show lY _<65536
   unfold lY
   split<;>(try split)<;>(try split)<;>omega
 split
 ·refine⟨h.funcs,h.args,h.data,fun x hx=>?_,h.ent,h.hnd⟩
  rcases List.mem_append.1 hx with hx|hx
  ·exact h.banks x hx
  ·rw[List.mem_singleton] at hx
   subst hx
   have:(xV (4096-n%3/2)).size<=4096:=by
    unfold xV y9
    rw[strOfNums_size]
    simp<;>omega
   omega
 split
 ·refine⟨yb h.funcs (fun f hf=>?_),h.args,h.data,h.banks,h.ent,h.hnd⟩
  split
  ·exact h.funcs f hf
  ·intro b hb
   rcases List.mem_append.1 hb with hb|hb
   ·exact h.funcs f hf b hb
   ·rw[List.mem_singleton] at hb
    subst hb
    exact⟨(fun x hx=>by cases hx),(fun o ho=>by cases ho),⟨tD _ (by decide) (by decide),tD _ (by decide) (by decide)⟩,(fun e he=>by cases he)⟩
 ·refine⟨yb h.funcs (fun f hf=>?_),h.args,h.data,h.banks,h.ent,h.hnd⟩
  unfold lW
  exact yb (h.funcs f hf) (fun b hb=>spoil_64 hn (h.funcs f hf b hb))
open Go.RowKit
def pd (w:World)(p:IProg)(e:Ending)(w':World):Prop:=∃t:PT,e=.returned (yH t.V t.prog)/\t.prog=p/\Rows w' w.heap.size t.rows/\Below w.heap.size w w'
theorem uJ {w:World}{V:PV}{p:IProg}(hp:ProgIn w w.heap.size V p)(hs:SmallP p):
 Calls Try.prog 36 #[yH V p] w (fun e w'=>∃(t:PT) (fa:Option Addr) (fc:Nat) (aa:Option Addr) (ac:Nat) (da:Option Addr) (dc:Nat) (ba:Option Addr) (bc:Nat),e=.returned (.agg #[.slice fa p.funcs.length fc,.slice aa p.args.length ac,.int .i64 p.entry,.int .i64 p.handler,.slice da p.data.length dc,.slice ba p.banks.length bc])/\
  (t.fv=.slice fa p.funcs.length fc/\t.av=.slice aa p.args.length ac/\t.dv=.slice da p.data.length dc/\t.bv=.slice ba p.banks.length bc)/\t.prog=p/\Rows w' w.heap.size t.rows/\Below w.heap.size w w'):=by
 refine(own_any hp hs).mono ?_
 rintro e w' ⟨t,rfl,ht,hr,hb⟩
 have e1:t.funcs.length=p.funcs.length:=by rw[<-ht];unfold PT.prog;simp
 have e2:t.args.length=p.args.length:=by rw[<-ht];rfl
 have e3:t.data.length=p.data.length:=by rw[<-ht];rfl
 have e4:t.banks.length=p.banks.length:=by rw[<-ht];rfl
 obtain⟨fa,fc,h1⟩:=zG (hr.own (wY t.fv t.funcs) (.head _))
 obtain⟨aa,ac,h2⟩:=zG (hr.own (zP t.av t.args) (.tail _ (.head _)))
 obtain⟨da,dc,h3⟩:=zG (hr.own (vK t.dv t.data) (.tail _ (.tail _ (.head _))))
 obtain⟨ba,bc,h4⟩:=zG (hr.own (v8 t.bv t.banks) (.tail _ (.tail _ (.tail _ (.head _)))))
 have h1':t.fv=.slice fa p.funcs.length fc:=by rw[<-e1];exact h1
 have h2':t.av=.slice aa p.args.length ac:=by rw[<-e2];exact h2
 have h3':t.dv=.slice da p.data.length dc:=by rw[<-e3];exact h3
 have h4':t.bv=.slice ba p.banks.length bc:=by rw[<-e4];exact h4
 refine⟨t,fa,fc,aa,ac,da,dc,ba,bc,?_,⟨h1',h2',h3',h4'⟩,ht,hr,hb⟩
 unfold yH PT.V
 simp only
 rw[h1',h2',h3',h4']
theorem TuMid.ret {w:World}{p1 o5:Nat}{q0 q1 q2:Int}{t:PT}{wx:World}(h:TuMid w p1 o5 q0 q1 q2 t wx){v0 v1 v2 v3 v4 v5:Value}(hc:(zW t).toArray=#[v0,v1,v2,v3,v4,v5]){p:IProg}(hp:t.prog=p):
 pd w p (.returned (.agg #[v0,v1,v2,v3,v4,v5])) ((((((wx.setCell ⟨p1+1+1,0,none⟩ v0).setCell ⟨p1+1+1,1,none⟩ v1).setCell ⟨p1+1+1,2,none⟩ v2).setCell ⟨p1+1+1,3,none⟩ v3).setCell ⟨p1+1+1,4,none⟩ v4).setCell ⟨p1+1+1,5,none⟩ v5):=by
 have e:zW t=[v0,v1,v2,v3,v4,v5]:=congrArg Array.toList hc
 unfold zW at e
 simp only[List.cons.injEq,and_true] at e
 obtain⟨rfl,rfl,rfl,rfl,rfl,rfl⟩:=e
 refine⟨t,rfl,hp,?_,?_⟩
 ·have hb:=h.base
  refine(h.rows.base (show w.heap.size<=p1+1+1+1 by omega)).keep fun k hk=>?_
  have hne:k≠p1+1+1:=fun e=>by have:=(h.rows.lt hk).1;omega
  exact(Below.heap_setCell _ _ _ _ hne).trans ((Below.heap_setCell _ _ _ _ hne).trans ((Below.heap_setCell _ _ _ _ hne).trans ((Below.heap_setCell _ _ _ _ hne).trans ((Below.heap_setCell _ _ _ _ hne).trans (Below.heap_setCell _ _ _ _ hne)))))
 ·have hb:=h.bel
  rw[h.base] at hb ⊢
  exact(((((hb.setCell (by show w.heap.size<=w.heap.size+1+1;omega) _).setCell (by show w.heap.size<=w.heap.size+1+1;omega) _).setCell (by show w.heap.size<=w.heap.size+1+1;omega) _).setCell (by show w.heap.size<=w.heap.size+1+1;omega) _).setCell (by show w.heap.size<=w.heap.size+1+1;omega) _).setCell (by show w.heap.size<=w.heap.size+1+1;omega) _
theorem TuMid.start {w w2:World}{p1 o5:Nat}{q0 q1 q2:Int}{t:PT}{o:Obj}(hp1:w.heap.size=p1)(ho5:w2.heap.size=o5)
 (hr:Rows w2 (((w.alloc o).alloc (.cells #[.int .i64 q0,.int .i64 q1,.int .i64 q2] 23)).alloc (.cells #[.slice none 0 0,.slice none 0 0,.int .i64 0,.int .i64 0,.slice none 0 0,.slice none 0 0] 29)).heap.size t.rows)
 (hb:Below (((w.alloc o).alloc (.cells #[.int .i64 q0,.int .i64 q1,.int .i64 q2] 23)).alloc (.cells #[.slice none 0 0,.slice none 0 0,.int .i64 0,.int .i64 0,.slice none 0 0,.slice none 0 0] 29)).heap.size (((w.alloc o).alloc (.cells #[.int .i64 q0,.int .i64 q1,.int .i64 q2] 23)).alloc (.cells #[.slice none 0 0,.slice none 0 0,.int .i64 0,.int .i64 0,.slice none 0 0,.slice none 0 0] 29)) w2):
 TuMid w p1 o5 q0 q1 q2 t (w2.alloc (.cells (zW t).toArray 29)):=by
 subst hp1 ho5
 have hs:(((w.alloc o).alloc (.cells #[.int .i64 q0,.int .i64 q1,.int .i64 q2] 23)).alloc (.cells #[.slice none 0 0,.slice none 0 0,.int .i64 0,.int .i64 0,.slice none 0 0,.slice none 0 0] 29)).heap.size=w.heap.size+1+1+1:=by simp
 have h1:=zB (o:=.cells #[.slice none 0 0,.slice none 0 0,.int .i64 0,.int .i64 0,.slice none 0 0,.slice none 0 0] 29) (zI (W:=w.alloc o) (o:=.cells #[.int .i64 q0,.int .i64 q1,.int .i64 q2] 23) (B:=w.heap.size+1) (by simp))
 have h2:=zI (W:=(w.alloc o).alloc (.cells #[.int .i64 q0,.int .i64 q1,.int .i64 q2] 23)) (o:=.cells #[.slice none 0 0,.slice none 0 0,.int .i64 0,.int .i64 0,.slice none 0 0,.slice none 0 0] 29) (B:=w.heap.size+1+1) (by simp)
 have h3:Below w.heap.size w (((w.alloc o).alloc (.cells #[.int .i64 q0,.int .i64 q1,.int .i64 q2] 23)).alloc (.cells #[.slice none 0 0,.slice none 0 0,.int .i64 0,.int .i64 0,.slice none 0 0,.slice none 0 0] 29)):=(((Below.refl _ _).alloc (Nat.le_refl _) _).alloc (by simp) _).alloc (by simp;omega) _
 have hsz:=hb.size
 rw[hs] at hr hb hsz
 refine⟨zB (zH hb h1 (by omega)),zB (zH hb h2 (by omega)),zI rfl,?_,rfl,?_,by omega⟩
 ·exact(h3.trans (hb.mono (by omega))).alloc (by omega) _
 ·exact hr.below ((Below.refl _ _).alloc (Nat.le_refl _) _)
theorem turn_idx (r:Nat)(h:r<4)(w:World):(Instr.index 98 (.agg #[.int .i64 16392,.int .i64 24575,.int .i64 512,.int .i64 16896]) (.int .i64 (r:Int))).run Try.prog w=.ok (.int .i64 (lY r:Nat)) w:=by
 rcases(show r=0∨r=1∨r=2∨r=3 by omega) with rfl|rfl|rfl|rfl
 ·kernel_rfl
 ·kernel_rfl
 ·kernel_rfl
 ·kernel_rfl
def tq (t:PT):List Row:=wY t.fv t.funcs::vK t.dv t.data::v8 t.bv t.banks::t.funcs.flatMap FT.rows
def sC (t:PT):List Row:=wY t.fv t.funcs::zP t.av t.args::v8 t.bv t.banks::t.funcs.flatMap FT.rows
def uy (t:PT):List Row:=wY t.fv t.funcs::zP t.av t.args::vK t.dv t.data::t.funcs.flatMap FT.rows
theorem row_args (t:PT):zP t.av t.args∈t.rows/\True:=⟨.tail _ (.head _),trivial⟩
theorem row_data (t:PT):vK t.dv t.data∈t.rows/\True:=⟨.tail _ (.tail _ (.head _)),trivial⟩
theorem jI (t:PT):v8 t.bv t.banks∈t.rows/\True:=⟨.tail _ (.tail _ (.tail _ (.head _))),trivial⟩
theorem tx (t:PT):True/\t.rows.Perm (zP t.av t.args::tq t):=⟨trivial,by
 classical
 unfold PT.rows tq
 refine List.perm_iff_count.2 fun y=>?_
 simp only[List.count_append,List.count_cons]
 omega⟩
theorem tt (t:PT):True/\t.rows.Perm (vK t.dv t.data::sC t):=⟨trivial,by
 classical
 unfold PT.rows sC
 refine List.perm_iff_count.2 fun y=>?_
 simp only[List.count_append,List.count_cons]
 omega⟩
theorem tL (t:PT):True/\t.rows.Perm (v8 t.bv t.banks::uy t):=⟨trivial,by
 classical
 unfold PT.rows uy
 refine List.perm_iff_count.2 fun y=>?_
 simp only[List.count_append,List.count_cons]
 omega⟩
theorem qU (t:PT)(x:List Int)(v:Value):({t with args:=x,av:=v }:PT).rows.Perm (zP v x::tq t):=(tx {t with args:=x,av:=v }).2
theorem qS (t:PT)(x:List IObj)(v:Value):({t with data:=x,dv:=v }:PT).rows.Perm (vK v x::sC t):=(tt {t with data:=x,dv:=v }).2
theorem qE (t:PT)(x:List ByteArray)(v:Value):({t with banks:=x,bv:=v }:PT).rows.Perm (v8 v x::uy t):=(tL {t with banks:=x,bv:=v }).2
open Go.RowKit
theorem iE {w:World}{V:PV}{p:IProg}(hp:ProgIn w w.heap.size V p)(hs:SmallP p){q0 q1 q2:Int}(hq:I64 q0/\I64 q1/\I64 q2)(hw:yn q0=18):
 Calls Try.prog 19 #[yH V p,.agg #[.int .i64 q0,.int .i64 q1,.int .i64 q2]] w (pd w (wR p q0 q1 q2)):=by
 obtain⟨fa,fc,hfv,hfc,hfm⟩:=hp.funcs.form
 obtain⟨aa,ac,hav,hac,ham⟩:=hp.args.form
 obtain⟨da,dc,hdv,hdc,hdm⟩:=hp.data.form
 obtain⟨ba,bc,hbv,hbc,hbm⟩:=hp.banks.form
 obtain⟨p1,hp1⟩:∃p1,w.heap.size=p1:=⟨_,rfl⟩
 have hown:∀W,Below w.heap.size w W->Calls Try.prog 36 #[.agg #[.slice fa p.funcs.length fc,.slice aa p.args.length ac,.int .i64 p.entry,.int .i64 p.handler,.slice da p.data.length dc,.slice ba p.banks.length bc]] W _:=fun W hb=>by
  have h:=uJ ((hp.below hb).mono hb.size) hs
  unfold yH at h
  rw[hfv,hav,hdv,hbv] at h
  exact h
 unfold yH
 rw[hfv,hav,hdv,hbv]
 obtain⟨n,hn⟩:∃n,uS q2=n:=⟨_,rfl⟩
 have hnI:q2%65536=(n:Int):=by rw[<-hn];unfold uS;omega
 have hn6:n<65536:=by omega
 obtain⟨what,hwh⟩:∃k,yn q0=k:=⟨_,rfl⟩
 have hqt:-20<q0.tmod 20/\q0.tmod 20<20:=⟨by have:=Int.lt_tmod_of_pos q0 (show(0:Int)<20 by decide);omega,Int.tmod_lt_of_pos q0 (by decide)⟩
 have hwI:(q0.tmod 20+20)%20=(what:Int):=by
  rw[<-hwh]
  unfold yn
  have h1:=Int.emod_nonneg q0 (show(20:Int)≠0 by decide)
  rw[Int.toNat_of_nonneg h1]
  have h2:=Int.mul_tdiv_add_tmod q0 20
  omega
 have a65:=yt q2
 rw[hnI] at a65
 have a65b:=yt q1
 have hfl:=hs.fn.1
 have hb1:Below w.heap.size w (((w.alloc (.cells #[.slice fa p.funcs.length fc,.slice aa p.args.length ac,.int .i64 p.entry,.int .i64 p.handler,.slice da p.data.length dc,.slice ba p.banks.length bc] 29)).alloc (.cells #[.int .i64 q0,.int .i64 q1,.int .i64 q2] 23)).alloc (.cells #[.slice none 0 0,.slice none 0 0,.int .i64 0,.int .i64 0,.slice none 0 0,.slice none 0 0] 29)):=(((Below.refl _ _).alloc (Nat.le_refl _) _).alloc (by simp) _).alloc (by simp;omega) _
 have HOWN:=Lib.hid hown
 have HB1:=Lib.hid hb1
 have HP:=Lib.hid (And.intro hs (And.intro hn hwh))
 clear hown hb1 hp hs hfv hav hdv hbv hfc hfm hac ham hdc hdm hbc hbm hn hq
 have hw':=HP.out.2.2.symm.trans hw
 subst hw'
 have hwI':(q0.tmod 20+20)%20=18:=hwI
 clear hwI
 go_enter Try.func19,Try.ntmps19
 go_upto_region 2 with(go_at_call 36;go_must (refine(HOWN.out _ HB1.out).mono ?_;rintro e w2 ⟨t,fa2,fc2,aa2,ac2,da2,dc2,ba2,bc2,rfl,hV,ht,hr,hb⟩;have HT:=Lib.hid (And.intro hV (And.intro ht (And.intro hr hb)));clear hV ht hr hb))
 have hent:t.entry=p.entry/\t.handler=p.handler:=by rw[<-HT.out.2.1];exact⟨rfl,rfl⟩
 have hptc:(zW t).toArray=#[.slice fa2 p.funcs.length fc2,.slice aa2 p.args.length ac2,.int .i64 p.entry,.int .i64 p.handler,.slice da2 p.data.length dc2,.slice ba2 p.banks.length bc2]:=by
  unfold zW
  rw[HT.out.1.1,HT.out.1.2.1,HT.out.1.2.2.1,HT.out.1.2.2.2,hent.1,hent.2]
 obtain⟨o5,ho5⟩:∃o5,w2.heap.size=o5:=⟨_,rfl⟩
 have hm:TuMid w p1 o5 q0 q1 q2 t (w2.alloc (.cells (zW t).toArray 29)):=TuMid.start hp1 ho5 HT.out.2.2.1 HT.out.2.2.2
 rw[hptc] at hm
 generalize hW3:w2.alloc (.cells #[.slice fa2 p.funcs.length fc2,.slice aa2 p.args.length ac2,.int .i64 p.entry,.int .i64 p.handler,.slice da2 p.data.length dc2,.slice ba2 p.banks.length bc2] 29)=W3 at *
 clear hW3
 rw[ho5]
 clear ho5
 have ho:=hm.ho
 rw[hptc] at ho
 have cq0:=zA (i:=0) hm.hq rfl
 have cq1:=zA (i:=1) hm.hq rfl
 have cq2:=zA (i:=2) hm.hq rfl
 have co0:=zA (i:=0) ho rfl
 have co1:=zA (i:=1) ho rfl
 have co4:=zA (i:=4) ho rfl
 have co5:=zA (i:=5) ho rfl
 have of:∀i,W3.frozen? ⟨o5,i,none⟩=false:=fun i=>zE ho
 have co2:=zA (i:=2) ho rfl
 have co3:=zA (i:=3) ho rfl
 have ol:=lt_of_block ho
 have HM:=Lib.hid (And.intro hm (And.intro ho (And.intro hptc hent)))
 have HV:=Lib.hid HT.out.1
 have HPR:=Lib.hid HT.out.2.1
 clear hm ho hptc hent HT HOWN HB1
 obtain⟨f,hf⟩:∃f,uk p q1=f:=⟨_,rfl⟩
 have HF:=Lib.hid hf
 clear hf
 go_upto_if 23 with fail
 go_cut [7,8] (fun s7 s8 wx=>s7=.int .i64 18/\s8=.int .i64 (f:Int)/\W3=wx)
 case first=>
  have hf:=HF.out
  unfold uk at hf
  by_cases hlt:0<p.funcs.length
  ·rw[if_pos hlt] at hf
   have hltI:(0:Int)<(p.funcs.length:Int):=by omega
   have hfI:(q1%65536)%(p.funcs.length:Int)=(f:Int):=by
    rw[<-hf,Int.natCast_emod,Int.toNat_of_nonneg (Int.emod_nonneg _ (by decide))]
   have h0:0<=q1%65536:=Int.emod_nonneg _ (by decide)
   clear hf hlt
   go_wp2
   go_meet
   exact⟨by first|rfl|rw[hwI'],by first|rfl|rw[hfI],rfl⟩
  ·rw[if_neg hlt] at hf
   have hltI:¬(0:Int)<(p.funcs.length:Int):=by omega
   subst hf
   clear hlt
   go_wp2
   go_meet
   exact⟨by first|rfl|rw[hwI'],rfl,rfl⟩
 case rest=>
 obtain⟨rfl,rfl,rfl⟩:=hcut
 have hlenF:t.funcs.length=p.funcs.length:=by rw[<-HPR.out];unfold PT.prog;simp
 by_cases hfn:0<p.funcs.length
 ·have hfl2:f<p.funcs.length:=by
   have h:=HF.out
   unfold uk at h
   rw[if_pos hfn] at h
   rw[<-h]
   exact Nat.mod_lt _ hfn
  obtain⟨ft,hft⟩:∃ft,t.funcs[f]? =some ft:=⟨_,List.getElem?_eq_getElem (by omega)⟩
  have hpf:p.funcs[f]? =some ft.fn:=by
   rw[<-HPR.out]
   show(t.funcs.map FT.fn)[f]? =_
   rw[List.getElem?_map,hft]
   rfl
  have hfo:=kZ HM.out.1.rows
  rw[HV.out.1,hlenF] at hfo
  obtain⟨fb,fc3,hfa,hfbB,hfbl⟩:=hfo.form hfn
  cases hfa
  have hfb:t.fv.ownBlock=some fb:=by rw[HV.out.1];rfl
  obtain⟨cf,ff,fbl⟩:=kj HM.out.1.rows hfb hft
  have hgo:W3.ownsRow (p1+1+1+1) 49 5 ft.bv ft.blks.length (ft.blks.flatMap zz):=HM.out.1.rows.own (zd ft.bv ft.blks) ((PT.rows_at hft).mem_iff.2 (.head _))
  obtain⟨ga,gc,hgv⟩:=zG hgo
  rw[hgv] at cf
  have hfI:(f:Int)<(p.funcs.length:Int):=by omega
  have hfnI:(0:Int)<(p.funcs.length:Int):=by omega
  have hbsz:=(HP.out.1.fn.2 ft.fn (List.mem_of_getElem? hpf))
  have hblen:ft.fn.length=ft.blks.length:=by unfold FT.fn;simp
  have hbl2:ft.blks.length<=2000000:=by have:=hbsz.1.1;omega
  have HFT:=Lib.hid (And.intro hft (And.intro hpf (And.intro hfb (And.intro hgv (And.intro hgo (And.intro hbsz hblen))))))
  clear hft hpf hfb hgv hgo hfo hbsz hblen hlenF
  by_cases hbl:0<ft.blks.length
  ·have hblI:(0:Int)<(ft.blks.length:Int):=by omega
   obtain⟨ii,hii,hzi0,hzi1,hzi2⟩:=info_parts Try.info_irblock
   have hne:ft.bv.ownBlock≠some o5:=zC HFT.out.2.2.2.2.1 HM.out.2.1 (.inr (by decide))
   have hne2:ft.bv.ownBlock≠some fb:=fun e=>HM.out.1.farF HFT.out.1 e HFT.out.2.2.1
   have hge:=HM.out.1.ge
   have hRW:=Lib.hid (show((W3.alloc (.cells #[.slice none 0 0,.slice none 0 0,.int .i64 5,.int .i64 0,.slice none 0 0] 49)).drew).ownsRow (p1+1+1+1) 49 5 (.slice ga ft.blks.length gc) ft.blks.length (ft.blks.flatMap zz)/\yM ((W3.alloc (.cells #[.slice none 0 0,.slice none 0 0,.int .i64 5,.int .i64 0,.slice none 0 0] 49)).drew) 5 (.slice (some ⟨W3.heap.size,0,none⟩) 1 1) 1 [.slice none 0 0,.slice none 0 0,.int .i64 5,.int .i64 0,.slice none 0 0]/\((W3.alloc (.cells #[.slice none 0 0,.slice none 0 0,.int .i64 5,.int .i64 0,.slice none 0 0] 49)).drew).heap[o5]? =some (.cells #[.slice (some ⟨fb,0,none⟩) p.funcs.length fc2,.slice aa2 p.args.length ac2,.int .i64 p.entry,.int .i64 p.handler,.slice da2 p.data.length dc2,.slice ba2 p.banks.length bc2] 29 (0,0))/\((W3.alloc (.cells #[.slice none 0 0,.slice none 0 0,.int .i64 5,.int .i64 0,.slice none 0 0] 49)).drew).cell? ⟨fb,f,none⟩=some (.slice ga ft.blks.length gc)/\((W3.alloc (.cells #[.slice none 0 0,.slice none 0 0,.int .i64 5,.int .i64 0,.slice none 0 0] 49)).drew).frozen? ⟨fb,f,none⟩=false/\some fb≠(Value.slice ga ft.blks.length gc).ownBlock/\(Value.slice ga ft.blks.length gc).ownBlock≠some o5 from by
    have h1:=HFT.out.2.2.2.2.1
    rw[HFT.out.2.2.2.1] at h1 hne hne2
    exact⟨h1.alloc _,yM.cells (w:=(W3.alloc (.cells #[.slice none 0 0,.slice none 0 0,.int .i64 5,.int .i64 0,.slice none 0 0] 49)).drew) (zI (W:=W3) rfl) rfl (by simp[Value.oneCell']),zB HM.out.2.1,(World.cell?_alloc_lt W3 _ _ fbl).trans cf,(Below.frozen ((Below.refl W3.heap.size W3).alloc (Nat.le_refl _) _) (p:=⟨fb,f,none⟩) fbl).trans ff,fun e=>hne2 e.symm,hne⟩)
   clear hne hne2 hbl
   go_upto_region 23 with fail
   refine wp_region_noPanic ?_
   refine yQ (S:=(fun w'=>w'.cell? ⟨o5,0,none⟩=some (.slice (some ⟨fb,0,none⟩) p.funcs.length fc2)/\w'.cell? ⟨fb,f,none⟩=some (.slice ga ft.blks.length gc))) 15 (by kernel_rfl) ⟨co0,cf⟩ (fun hHeld=>?_)
   refine zF (i:=0) (oi:=_) (v:=?_) rfl (by kernel_rfl) (by kernel_rfl) (by kernel_rfl) (by kernel_rfl) (fun _ _ _ h=>h) (Or.inl ⟨by rfl,?_⟩) (by assumption) ?_
   rotate_left
   ·(intro w hSw;(try dsimp only at hSw);go_simp;try with_reducible rfl)
   (try simp only[Act.put,List.setIfInBounds_toArray,List.set_cons_zero,List.set_cons_succ])
   refine zF (i:=1) (oi:=_) (v:=?_) rfl (by kernel_rfl) (by kernel_rfl) (by kernel_rfl) (by kernel_rfl) (fun _ _ _ h=>h) (Or.inl ⟨by rfl,?_⟩) (by assumption) ?_
   rotate_left
   ·(intro w hSw;(try dsimp only at hSw);go_simp;try with_reducible rfl)
   (try simp only[Act.put,List.setIfInBounds_toArray,List.set_cons_zero,List.set_cons_succ])
   refine zF (i:=2) (oi:=_) (v:=?_) rfl (by kernel_rfl) (by kernel_rfl) (by kernel_rfl) (by kernel_rfl) (fun _ _ _ h=>h) (Or.inl ⟨by rfl,?_⟩) (by assumption) ?_
   rotate_left
   ·(intro w hSw;(try dsimp only at hSw);go_simp;try with_reducible rfl)
   (try simp only[Act.put,List.setIfInBounds_toArray,List.set_cons_zero,List.set_cons_succ])
   refine zF (i:=3) (oi:=_) (v:=?_) rfl (by kernel_rfl) (by kernel_rfl) (by kernel_rfl) (by kernel_rfl) (fun _ _ _ h=>h) (Or.inl ⟨by rfl,?_⟩) (by assumption) ?_
   rotate_left
   ·(intro w hSw;(try dsimp only at hSw);go_simp;try with_reducible rfl)
   (try simp only[Act.put,List.setIfInBounds_toArray,List.set_cons_zero,List.set_cons_succ])
   refine zF (i:=4) (oi:=_) (v:=?_) rfl (by kernel_rfl) (by kernel_rfl) (by kernel_rfl) (by kernel_rfl) (fun _ _ _ h=>h) (Or.inl ⟨by rfl,?_⟩) (by assumption) ?_
   rotate_left
   ·(intro w hSw;(try dsimp only at hSw);go_simp;try with_reducible rfl)
   (try simp only[Act.put,List.setIfInBounds_toArray,List.set_cons_zero,List.set_cons_succ])
   refine zF (i:=5) (oi:=_) (v:=?_) rfl (by kernel_rfl) (by kernel_rfl) (by kernel_rfl) (by kernel_rfl) (fun _ _ _ h=>h) (Or.inl ⟨by rfl,?_⟩) (by assumption) ?_
   rotate_left
   ·(intro w hSw;(try dsimp only at hSw);go_simp;try with_reducible rfl)
   (try simp only[Act.put,List.setIfInBounds_toArray,List.set_cons_zero,List.set_cons_succ])
   refine zF (i:=6) (oi:=_) (v:=?_) rfl (by kernel_rfl) (by kernel_rfl) (by kernel_rfl) (by kernel_rfl) (fun _ _ _ h=>h) (Or.inl ⟨by rfl,?_⟩) (by assumption) ?_
   rotate_left
   ·(intro w hSw;(try dsimp only at hSw);go_simp;try with_reducible rfl)
   (try simp only[Act.put,List.setIfInBounds_toArray,List.set_cons_zero,List.set_cons_succ])
   refine zF (i:=7) (oi:=_) (v:=?_) rfl (by kernel_rfl) (by kernel_rfl) (by kernel_rfl) (by kernel_rfl) (fun _ _ _ h=>h) (Or.inl ⟨by rfl,?_⟩) (by assumption) ?_
   rotate_left
   ·(intro w hSw;(try dsimp only at hSw);go_simp;try with_reducible rfl)
   (try simp only[Act.put,List.setIfInBounds_toArray,List.set_cons_zero,List.set_cons_succ])
   refine zF (i:=8) (oi:=_) (v:=?_) rfl (by kernel_rfl) (by kernel_rfl) (by kernel_rfl) (by kernel_rfl) (fun _ _ _ h=>h) (Or.inl ⟨by rfl,?_⟩) (by assumption) ?_
   rotate_left
   ·(intro w hSw;(try dsimp only at hSw);go_simp;try with_reducible rfl)
   (try simp only[Act.put,List.setIfInBounds_toArray,List.set_cons_zero,List.set_cons_succ])
   refine zF (i:=9) (oi:=_) (v:=?_) rfl (by kernel_rfl) (by kernel_rfl) (by kernel_rfl) (by kernel_rfl) (fun _ _ _ h=>h) (Or.inl ⟨by rfl,?_⟩) (by assumption) ?_
   rotate_left
   ·(intro w hSw;(try dsimp only at hSw);go_simp;try with_reducible rfl)
   (try simp only[Act.put,List.setIfInBounds_toArray,List.set_cons_zero,List.set_cons_succ])
   refine zF (i:=10) (oi:=_) (v:=?_) rfl (by kernel_rfl) (by kernel_rfl) (by kernel_rfl) (by kernel_rfl) (fun _ _ _ h=>h) (Or.inl ⟨by rfl,?_⟩) (by assumption) ?_
   rotate_left
   ·(intro w hSw;(try dsimp only at hSw);go_simp;try with_reducible rfl)
   (try simp only[Act.put,List.setIfInBounds_toArray,List.set_cons_zero,List.set_cons_succ])
   refine z8 (rs:=[11]) (by kernel_rfl) (by simp) ?_
   refine zS.cons (o:=_) rfl (fun K hK=>?_) ?_
   ·skip
    go_simp
    refine hK.out _ _ ⟨zA (i:=0) hRW.out.2.2.1 rfl,hRW.out.2.2.2.1⟩ (fun hHeld=>?_)
    clear hK K
    (try simp only[Act.put,List.setIfInBounds_toArray,List.set_cons_zero,List.set_cons_succ])
    refine z8 (rs:=[12]) (by kernel_rfl) (by simp) ?_
    refine zS.cons (o:=_) rfl (fun K hK=>?_) ?_
    ·skip
     (refine yG (by rfl) (.tmp 148) (.tmp 151) _ (by rfl) (p1+1+1+1) 49 ii (.agg #[.slice none 0 0,.slice none 0 0,.int .i64 0,.int .i64 0,.slice none 0 0]) 5 88 Try.underlying35 hii hzi0 hzi1 hzi2 rfl (by omega) (.slice ga ft.blks.length gc) (ft.blks.length) (ft.blks.flatMap zz) (by rfl) hRW.out.1 (.slice (some ⟨W3.heap.size,0,none⟩) 1 1) 1 [.slice none 0 0,.slice none 0 0,.int .i64 5,.int .i64 0,.slice none 0 0] (by rfl) hRW.out.2.1 (by unfold maxLen;omega) (by omega) (by simp;omega) ?_;intro ra rc w9 hown9 hgrow9 hat9;have ho9:=zL hgrow9 hRW.out.2.2.1 hRW.out.2.2.2.2.2.2;have d1:=zA (i:=0) ho9 rfl;have d2:=(hgrow9.cell_far ⟨fb,f,none⟩ (by simp;omega) hRW.out.2.2.2.2.2.1).trans hRW.out.2.2.2.1;have df:=(hgrow9.frozen_far ⟨fb,f,none⟩ (by simp;omega) hRW.out.2.2.2.2.2.1).trans hRW.out.2.2.2.2.1;have dl:=lt_of_block ho9;have HG:=Lib.hid (And.intro hown9 (And.intro hgrow9 hat9));clear hown9 hgrow9 hat9;(try dsimp only))
     refine hK.out _ _ ⟨d1,d2⟩ (fun hHeld=>?_)
     clear hK K
     (try simp only[Act.put,List.setIfInBounds_toArray,List.set_cons_zero,List.set_cons_succ])
     refine z8 (rs:=[13]) (by kernel_rfl) (by simp) ?_
     refine zS.cons (o:=_) rfl (fun K hK=>?_) ?_
     ·skip
      go_simp
      refine hK.out _ _ (by assumption) (fun hHeld=>?_)
      clear hK K
      (try simp only[Act.put,List.setIfInBounds_toArray,List.set_cons_zero,List.set_cons_succ])
      refine zF (i:=14) (oi:=_) (v:=?_) rfl (by kernel_rfl) (by kernel_rfl) (by kernel_rfl) (by kernel_rfl) (fun _ _ _ h=>h) (Or.inl ⟨by rfl,?_⟩) (by assumption) ?_
      rotate_left
      ·(intro w hSw;(try dsimp only at hSw);go_simp;try with_reducible rfl)
      (try simp only[Act.put,List.setIfInBounds_toArray,List.set_cons_zero,List.set_cons_succ])
      refine z8 (rs:=[15]) (by kernel_rfl) (by simp) ?_
      refine zS.last (o:=_) rfl (fun K hK=>?_)
      go_simp
      refine hK.out _ _ ?_
      clear hK K
      (try simp only[Act.put,List.setIfInBounds_toArray,List.set_cons_zero,List.set_cons_succ])
      refine xj (by kernel_rfl) (NoPanic.normal ?_) _
      go_upto_region 24 with fail
      have hm2:=(by
       have hgr:=HG.out.2.1
       have e9:=HFT.out.2.2.2.1
       rw[<-e9] at hgr
       refine HM.out.1.addB (v':=.slice ra (ft.blks.length+1) rc) HFT.out.1 HFT.out.2.2.1 (((Below.refl W3.heap.size W3).alloc (Nat.le_refl _) (.cells #[.slice none 0 0,.slice none 0 0,.int .i64 5,.int .i64 0,.slice none 0 0] 49)).drew) hgr HG.out.1 (fun x e=>?_)
       rcases HG.out.2.2 with e2|e2
       ·left
        have e3:=e2.symm.trans e
        rw[e9]
        exact e3
       ·right
        have e3:=e2.symm.trans e
        simp at e3
        omega)
      generalize hWF:w9.setCell ⟨fb,f,none⟩ (.slice ra (ft.blks.length+1) rc)=WF at *
      have ho2:=hm2.ho
      have e0:(zW ({t with funcs:=t.funcs.set f ⟨ft.blks++ [btH],.slice ra (ft.blks.length+1) rc⟩}:PT)).toArray=#[.slice (some ⟨fb,0,none⟩) p.funcs.length fc2,.slice aa2 p.args.length ac2,.int .i64 p.entry,.int .i64 p.handler,.slice da2 p.data.length dc2,.slice ba2 p.banks.length bc2]:=by
       unfold zW
       first|(simp only;done)|(simp only[HV.out.1,HV.out.2.1,HV.out.2.2.1,HV.out.2.2.2,HM.out.2.2.2.1,HM.out.2.2.2.2])
      rw[e0] at ho2
      clear hWF cq0 cq1 cq2 co0 co1 co2 co3 co4 co5 of ol
      have x0:=zA (i:=0) ho2 rfl
      have x1:=zA (i:=1) ho2 rfl
      have x2:=zA (i:=2) ho2 rfl
      have x3:=zA (i:=3) ho2 rfl
      have x4:=zA (i:=4) ho2 rfl
      have x5:=zA (i:=5) ho2 rfl
      have xl:=lt_of_block ho2
      have y0:=zA (i:=0) hm2.hr rfl
      have y1:=zA (i:=1) hm2.hr rfl
      have y2:=zA (i:=2) hm2.hr rfl
      have y3:=zA (i:=3) hm2.hr rfl
      have y4:=zA (i:=4) hm2.hr rfl
      have y5:=zA (i:=5) hm2.hr rfl
      have yf:∀i,WF.frozen? ⟨p1+1+1,i,none⟩=false:=fun i=>zE hm2.hr
      have yl:=lt_of_block hm2.hr
      have HM2:=Lib.hid (And.intro hm2 e0)
      clear hm2 ho2 e0
      go_wp2
      refine bodyPost_ret (v:=.agg #[.slice (some ⟨fb,0,none⟩) p.funcs.length fc2,.slice aa2 p.args.length ac2,.int .i64 p.entry,.int .i64 p.handler,.slice da2 p.data.length dc2,.slice ba2 p.banks.length bc2]) ?_ rfl (HM2.out.1.ret HM2.out.2 ?_)
      ·rw[zM rfl]
       go_simp
      ·have hw2:=HP.out.2.2
       have hn2:=HP.out.2.1
       have hf2:=HF.out
       have hpr:=HPR.out
       have hbn:=HFT.out.2.2.2.2.2.2
       unfold wR rA
       rw[hn2,hf2,show yn q0=18 from hw2]
       have e1:wD p.funcs f (fun g=>if g.length=0 then g else g++ [hltB])=p.funcs.set f (ft.fn++ [hltB]):=by
        rw[xI HFT.out.2.1,if_neg (by omega)]
       rw[e1,<-hpr]
       unfold PT.prog
       simp only[List.map_set]
       unfold FT.fn
       rw[List.map_append]
       rfl
     exact zS.nil
    exact zS.nil
   exact zS.nil
  ·have hblI:¬(0:Int)<(ft.blks.length:Int):=by omega
   have HN:=Lib.hid (show ∀g,p.funcs[f]? =some g->g.length=0 from fun g hg=>by
    rw[HFT.out.2.1] at hg
    cases hg
    have:=HFT.out.2.2.2.2.2.2
    omega)
   clear hbl
   go_upto_region 24 with fail
   have hm2:=HM.out.1
   generalize hWF:W3=WF at *
   have ho2:=hm2.ho
   have e0:(zW t).toArray=#[.slice (some ⟨fb,0,none⟩) p.funcs.length fc2,.slice aa2 p.args.length ac2,.int .i64 p.entry,.int .i64 p.handler,.slice da2 p.data.length dc2,.slice ba2 p.banks.length bc2]:=by
    unfold zW
    first|(simp only;done)|(simp only[HV.out.1,HV.out.2.1,HV.out.2.2.1,HV.out.2.2.2,HM.out.2.2.2.1,HM.out.2.2.2.2])
   rw[e0] at ho2
   clear hWF cq0 cq1 cq2 co0 co1 co2 co3 co4 co5 of ol
   have x0:=zA (i:=0) ho2 rfl
   have x1:=zA (i:=1) ho2 rfl
   have x2:=zA (i:=2) ho2 rfl
   have x3:=zA (i:=3) ho2 rfl
   have x4:=zA (i:=4) ho2 rfl
   have x5:=zA (i:=5) ho2 rfl
   have xl:=lt_of_block ho2
   have y0:=zA (i:=0) hm2.hr rfl
   have y1:=zA (i:=1) hm2.hr rfl
   have y2:=zA (i:=2) hm2.hr rfl
   have y3:=zA (i:=3) hm2.hr rfl
   have y4:=zA (i:=4) hm2.hr rfl
   have y5:=zA (i:=5) hm2.hr rfl
   have yf:∀i,WF.frozen? ⟨p1+1+1,i,none⟩=false:=fun i=>zE hm2.hr
   have yl:=lt_of_block hm2.hr
   have HM2:=Lib.hid (And.intro hm2 e0)
   clear hm2 ho2 e0
   go_wp2
   refine bodyPost_ret (v:=.agg #[.slice (some ⟨fb,0,none⟩) p.funcs.length fc2,.slice aa2 p.args.length ac2,.int .i64 p.entry,.int .i64 p.handler,.slice da2 p.data.length dc2,.slice ba2 p.banks.length bc2]) ?_ rfl (HM2.out.1.ret HM2.out.2 ?_)
   ·rw[zM rfl]
    go_simp
   ·have hw2:=HP.out.2.2
    have hn2:=HP.out.2.1
    have hf2:=HF.out
    have hpr:=HPR.out
    unfold wR
    rw[hn2,hf2,show yn q0=18 from hw2,uw (.inl rfl) HN.out]
    exact hpr
 ·have hfnI:¬(0:Int)<(p.funcs.length:Int):=by omega
  have HN:=Lib.hid (show ∀g,p.funcs[f]? =some g->g.length=0 from fun g hg=>by
   have:=(List.getElem?_eq_some_iff.1 hg).1
   omega)
  clear hfn hlenF
  go_upto_region 24 with fail
  have hm2:=HM.out.1
  generalize hWF:W3=WF at *
  have ho2:=hm2.ho
  have e0:(zW t).toArray=#[.slice fa2 p.funcs.length fc2,.slice aa2 p.args.length ac2,.int .i64 p.entry,.int .i64 p.handler,.slice da2 p.data.length dc2,.slice ba2 p.banks.length bc2]:=by
   unfold zW
   first|(simp only;done)|(simp only[HV.out.1,HV.out.2.1,HV.out.2.2.1,HV.out.2.2.2,HM.out.2.2.2.1,HM.out.2.2.2.2])
  rw[e0] at ho2
  clear hWF cq0 cq1 cq2 co0 co1 co2 co3 co4 co5 of ol
  have x0:=zA (i:=0) ho2 rfl
  have x1:=zA (i:=1) ho2 rfl
  have x2:=zA (i:=2) ho2 rfl
  have x3:=zA (i:=3) ho2 rfl
  have x4:=zA (i:=4) ho2 rfl
  have x5:=zA (i:=5) ho2 rfl
  have xl:=lt_of_block ho2
  have y0:=zA (i:=0) hm2.hr rfl
  have y1:=zA (i:=1) hm2.hr rfl
  have y2:=zA (i:=2) hm2.hr rfl
  have y3:=zA (i:=3) hm2.hr rfl
  have y4:=zA (i:=4) hm2.hr rfl
  have y5:=zA (i:=5) hm2.hr rfl
  have yf:∀i,WF.frozen? ⟨p1+1+1,i,none⟩=false:=fun i=>zE hm2.hr
  have yl:=lt_of_block hm2.hr
  have HM2:=Lib.hid (And.intro hm2 e0)
  clear hm2 ho2 e0
  go_wp2
  refine bodyPost_ret (v:=.agg #[.slice fa2 p.funcs.length fc2,.slice aa2 p.args.length ac2,.int .i64 p.entry,.int .i64 p.handler,.slice da2 p.data.length dc2,.slice ba2 p.banks.length bc2]) ?_ rfl (HM2.out.1.ret HM2.out.2 ?_)
  ·rw[zM rfl]
   go_simp
  ·have hw2:=HP.out.2.2
   have hn2:=HP.out.2.1
   have hf2:=HF.out
   have hpr:=HPR.out
   unfold wR
   rw[hn2,hf2,show yn q0=18 from hw2,uw (.inl rfl) HN.out]
   exact hpr
end Go.Proofs.Ytojclalkfhoooaa
