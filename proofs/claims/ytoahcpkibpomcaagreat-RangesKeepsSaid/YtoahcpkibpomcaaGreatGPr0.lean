/- Part of a proof. -/
import Derived.Test.YtoahcpkibpomcaaGreatGZo1
set_option linter.all false
set_option maxHeartbeats 1000000
set_option maxRecDepth 100000
namespace Go.Proofs.YtoahcpkibpomcaaGreat
open Go.RowKit
structure Chg (w:World) (rs:List Row) (w':World):Prop where
 os:w'.os=w.os
 tape:w'.tape=w.tape
 output:w'.output=w.output
 size:w.heap.size<=w'.heap.size
 kept:∀k,k<w.heap.size->k ∉ rs.filterMap Row.blk->w'.heap[k]? =w.heap[k]?
structure SpSt (w:World) (B g i:Nat) (v:Value) (bt:BT) (l:List BT) (rs:List Row):Prop where
 rows:Rows w B (zd v l::(bt.rows++rs))
 at':l[i]? =some bt
 gb:v.ownBlock=some g
theorem Chg.of {w w':World}{rs rs':List Row}(h:Chg w rs w')(hs:∀k,k∈rs.filterMap Row.blk->k∈rs'.filterMap Row.blk):Chg w rs' w':=⟨h.os,h.tape,h.output,h.size,fun k hk hn=>h.kept k hk (fun e=>hn (hs k e))⟩
theorem xJ {w:World}{a:Addr}{u:Value}{r:Row}(h:r.blk=some a.block):Chg w [r] (w.setCell a u):=
 ⟨rfl,rfl,rfl,by simp,fun k hk hn=>Below.heap_setCell _ _ _ _ (fun e=>hn (by rw[Nj];exact⟨r,.head _,by rw[h,e]⟩))⟩
theorem vQ {α β:Type}{f:α->β}{l:List α}{k:Nat}{b a:α}(hk:l[k]? =some b)(h:f a=f b):(l.set k a).map f=l.map f:=by
 rw[Ox,h];apply Oq;intro j;rw[Ov]
 split
 ·rename_i e
  subst e;rw[Jr,hk];have:=(Jh.1 hk).1;simp[this]
 ·rfl
theorem pY {α:Type}{f:α->List Value}{l:List α}{k:Nat}{b a:α}(hk:l[k]? =some b)(h:f a=f b):(l.set k a).flatMap f=l.flatMap f:=by
 rw[List.flatMap_def,List.flatMap_def,vQ hk h]
section
variable {w:World} {B g i:Nat} {v:Value} {bt:BT} {l:List BT} {rs:List Row} (h:SpSt w B g i v bt l rs)
include h
theorem SpSt.il:i<l.length:=(Jh.1 h.at').1
theorem SpSt.set_at (bt':BT):(l.set i bt')[i]? =some bt':=by rw[Nn h.il]
theorem SpSt.setB {j:Nat}{u:Value}{bt':BT}(c:j<5)(d:(zz bt).set j u=zz bt')(hr:bt'.rows=bt.rows):SpSt (w.setCell ⟨g,i*5+j,none⟩ u) B g i v bt' (l.set i bt') rs:=by
 refine⟨?_,h.set_at bt',h.gb⟩;rw[hr];refine h.rows.put (r':=zd v (l.set i bt')) h.gb (fun k hk=>Below.heap_setCell _ _ _ _ hk) ?_ rfl
 show(w.setCell ⟨g,i*5+j,none⟩ u).ownsRow B 84 5 v (l.set i bt').length ((l.set i bt').flatMap zz)
 rw[Nd];exact yp zX (h.rows.own _ (.head _)) h.gb h.at' c d
theorem SpSt.sub {w':World}{bt':BT}(c:zz bt'=zz bt)(hr:Rows w' B (zd v l::(bt'.rows++rs))):SpSt w' B g i v bt' (l.set i bt') rs:=by
 refine⟨?_,h.set_at bt',h.gb⟩
 have e:zd v (l.set i bt')=zd v l:=by
  unfold zd;rw[Nd,pY h.at' c]
 rw[e];exact hr
theorem SpSt.setO {ob k j:Nat}{u av:Value}{o o':IOp}(hg:bt.ov.ownBlock=some ob)(hk:bt.ops[k]? =some (o,av))(c:j<6)(d:(zU (o,av)).set j u=zU (o',av))(m:o'.args=o.args):
 SpSt (w.setCell ⟨ob,k*6+j,none⟩ u) B g i v {bt with ops:=bt.ops.set k (o',av)} (l.set i {bt with ops:=bt.ops.set k (o',av)}) rs:=by
 have e1:wI (bt.ops.set k (o',av))=wI bt.ops:=vQ hk (by simp only;rw[m]);refine h.sub rfl ?_
 have hp:(zd v l::(bt.rows++rs)).Perm (ma bt.ov bt.ops::(zd v l::zP bt.pv bt.params::xg bt.tv bt.tos::(wI bt.ops++ve bt.tos)++rs)):=by
  classical
  unfold BT.rows;refine Jp.2 fun r=>?_
  simp only[Nb,Nf];omega
 have hq:(ma bt.ov (bt.ops.set k (o',av))::(zd v l::zP bt.pv bt.params::xg bt.tv bt.tos::(wI bt.ops++ve bt.tos)++rs)).Perm (zd v l::(({bt with ops:=bt.ops.set k (o',av)}:BT).rows++rs)):=by
  classical
  unfold BT.rows;simp only;rw[e1];refine Jp.2 fun r=>?_
  simp only[Nb,Nf];omega
 refine((h.rows.perm hp).put (r':=ma bt.ov (bt.ops.set k (o',av))) hg (fun k hk=>Below.heap_setCell _ _ _ _ hk) ?_ rfl).perm hq
 show(w.setCell ⟨ob,k*6+j,none⟩ u).ownsRow B 76 6 bt.ov (bt.ops.set k (o',av)).length _
 rw[Nd];exact yp vp ((h.rows.perm hp).own _ (.head _)) hg hk c d
theorem SpSt.setE {ob k j:Nat}{u av:Value}{o o':IEdge}(hg:bt.tv.ownBlock=some ob)(hk:bt.tos[k]? =some (o,av))(c:j<2)(d:(za (o,av)).set j u=za (o',av))(m:o'.args=o.args):
 SpSt (w.setCell ⟨ob,k*2+j,none⟩ u) B g i v {bt with tos:=bt.tos.set k (o',av)} (l.set i {bt with tos:=bt.tos.set k (o',av)}) rs:=by
 have e1:ve (bt.tos.set k (o',av))=ve bt.tos:=vQ hk (by simp only;rw[m]);refine h.sub rfl ?_
 have hp:(zd v l::(bt.rows++rs)).Perm (xg bt.tv bt.tos::(zd v l::zP bt.pv bt.params::ma bt.ov bt.ops::(wI bt.ops++ve bt.tos)++rs)):=by
  classical
  unfold BT.rows;refine Jp.2 fun r=>?_
  simp only[Nb,Nf];omega
 have hq:(xg bt.tv (bt.tos.set k (o',av))::(zd v l::zP bt.pv bt.params::ma bt.ov bt.ops::(wI bt.ops++ve bt.tos)++rs)).Perm (zd v l::(({bt with tos:=bt.tos.set k (o',av)}:BT).rows++rs)):=by
  classical
  unfold BT.rows;simp only;rw[e1];refine Jp.2 fun r=>?_
  simp only[Nb,Nf];omega
 refine((h.rows.perm hp).put (r':=xg bt.tv (bt.tos.set k (o',av))) hg (fun k hk=>Below.heap_setCell _ _ _ _ hk) ?_ rfl).perm hq
 show(w.setCell ⟨ob,k*2+j,none⟩ u).ownsRow B 79 2 bt.tv (bt.tos.set k (o',av)).length _
 rw[Nd];exact yp yd ((h.rows.perm hp).own _ (.head _)) hg hk c d
end
theorem tT {α β:Type}(f:α->β){l:List α}{k:Nat}{b:α}(hk:l[k]? =some b):(l.map f).Perm (f b::(l.eraseIdx k).map f):=by
 obtain⟨c,hb⟩:=Jh.1 hk
 have e1:l=l.take k++b::l.drop (k+1):=by
  rw[<-hb,Ue,Qi]
 rw[List.eraseIdx_eq_take_drop_succ]
 conv=>lhs;rw[e1]
 rw[Js,Js,Ql];exact List.perm_middle
theorem rM {α β:Type}(f:α->β){l:List α}{k:Nat}(hk:k<l.length)(a:α):((l.set k a).map f).Perm (f a::(l.eraseIdx k).map f):=by
 have h:=tT f (l:=l.set k a) (k:=k) (b:=a) (by rw[Nn hk]);rw[List.eraseIdx_set_eq] at h;exact h
section
variable {w:World} {B g i:Nat} {v:Value} {bt:BT} {l:List BT} {rs:List Row} (h:SpSt w B g i v bt l rs)
include h
theorem SpSt.growB {w1 w9:World}{r r':Row}{q:List Row}{j:Nat}{u:Value}{bt':BT}(hp:bt.rows.Perm (r::q))(d:Y w w1)(hg:w1.grownBy w9 r.blk)(c:w9.ownsRow B r'.e r'.sz r'.v r'.n r'.cs)
 (m:∀k,r'.blk=some k->r.blk=some k∨w.heap.size<=k) (hq:(r'::q).Perm bt'.rows) (o:j<5) (t:(zz bt).set j u=zz bt'):SpSt (w9.setCell ⟨g,i*5+j,none⟩ u) B g i v bt' (l.set i bt') rs:=by
 have h1:(zd v l::(bt.rows++rs)).Perm (r::(zd v l::(q++rs))):=((hp.append_right rs).cons _).trans (List.Perm.swap _ _ _);have h2:=(h.rows.perm h1).grow d hg c m;have h3:Rows w9 B (zd v l::(bt'.rows++rs)):=h2.perm ((List.Perm.swap _ _ _).trans ((hq.append_right rs).cons _));refine⟨?_,h.set_at bt',h.gb⟩;refine h3.put (r':=zd v (l.set i bt')) h.gb (fun k hk=>Below.heap_setCell _ _ _ _ hk) ?_ rfl
 show(w9.setCell ⟨g,i*5+j,none⟩ u).ownsRow B 84 5 v (l.set i bt').length ((l.set i bt').flatMap zz)
 rw[Nd];exact yp zX (h3.own _ (.head _)) h.gb h.at' o t
theorem SpSt.growO {w1 w9:World}{ob k:Nat}{av av':Value}{o:IOp}{x:Int}(c:bt.ov.ownBlock=some ob)(hk:bt.ops[k]? =some (o,av))(m:Y w w1)(hg:w1.grownBy w9 av.ownBlock)(d:w9.ownsRow B 3 1 av' (o.args.length+1) (o.args.map zN++ [zN x]))
 (t:∀k,av'.ownBlock=some k->av.ownBlock=some k∨w.heap.size<=k):
 SpSt (w9.setCell ⟨ob,k*6+5,none⟩ av') B g i v {bt with ops:=bt.ops.set k ({o with args:=o.args++ [x]},av')} (l.set i {bt with ops:=bt.ops.set k ({o with args:=o.args++ [x]},av')}) rs:=by
 have j:=(Jh.1 hk).1;have p1:(wI bt.ops).Perm (zP av o.args::(bt.ops.eraseIdx k).map fun o=>zP o.2 o.1.args):=tT (fun o:IOp×Value=>zP o.2 o.1.args) hk;have p2:(wI (bt.ops.set k ({o with args:=o.args++ [x]},av'))).Perm (zP av' (o.args++ [x])::(bt.ops.eraseIdx k).map fun o=>zP o.2 o.1.args):=rM (fun o:IOp×Value=>zP o.2 o.1.args) j ({o with args:=o.args++ [x]},av');refine h.sub rfl ?_;generalize (bt.ops.eraseIdx k).map (fun o=>zP o.2 o.1.args)=E at p1 p2
 classical
 have c1:=Jp.1 p1;have c2:=Jp.1 p2
 have hp:(zd v l::(bt.rows++rs)).Perm (zP av o.args::(ma bt.ov bt.ops::(zd v l::zP bt.pv bt.params::xg bt.tv bt.tos::(E++ve bt.tos)++rs))):=by
  unfold BT.rows;refine Jp.2 fun r=>?_
  have:=c1 r;simp only[Nb,Nf] at this ⊢;omega
 have h2:=(h.rows.perm hp).grow (r':=zP av' (o.args++ [x])) m hg (by
  show w9.ownsRow B 3 1 av' (o.args++ [x]).length ((o.args++ [x]).map zN)
  rw[Jk,Ju,Js]
  exact d) t
 have h3:=h2.perm (List.Perm.swap _ _ _)
 have u:=h3.put (g:=ob) (r':=ma bt.ov (bt.ops.set k ({o with args:=o.args++ [x]},av'))) (w':=w9.setCell ⟨ob,k*6+5,none⟩ av') c (fun k hk=>Below.heap_setCell _ _ _ _ hk) (by
  show(w9.setCell ⟨ob,k*6+5,none⟩ av').ownsRow B 76 6 bt.ov (bt.ops.set k ({o with args:=o.args++ [x]},av')).length _
  rw[Nd]
  exact yp vp (h3.own _ (.head _)) c hk Zd rfl) rfl
 refine u.perm ?_;unfold BT.rows;refine Jp.2 fun r=>?_
 have:=c2 r;simp only[Nb,Nf] at this ⊢;omega
theorem SpSt.growE {w1 w9:World}{ob k:Nat}{av av':Value}{o:IEdge}{x:Int}(c:bt.tv.ownBlock=some ob)(hk:bt.tos[k]? =some (o,av))(m:Y w w1)(hg:w1.grownBy w9 av.ownBlock)(d:w9.ownsRow B 3 1 av' (o.args.length+1) (o.args.map zN++ [zN x]))
 (t:∀k,av'.ownBlock=some k->av.ownBlock=some k∨w.heap.size<=k):
 SpSt (w9.setCell ⟨ob,k*2+1,none⟩ av') B g i v {bt with tos:=bt.tos.set k ({o with args:=o.args++ [x]},av')} (l.set i {bt with tos:=bt.tos.set k ({o with args:=o.args++ [x]},av')}) rs:=by
 have j:=(Jh.1 hk).1;have p1:(ve bt.tos).Perm (zP av o.args::(bt.tos.eraseIdx k).map fun o=>zP o.2 o.1.args):=tT (fun o:IEdge×Value=>zP o.2 o.1.args) hk;have p2:(ve (bt.tos.set k ({o with args:=o.args++ [x]},av'))).Perm (zP av' (o.args++ [x])::(bt.tos.eraseIdx k).map fun o=>zP o.2 o.1.args):=rM (fun o:IEdge×Value=>zP o.2 o.1.args) j ({o with args:=o.args++ [x]},av');refine h.sub rfl ?_;generalize (bt.tos.eraseIdx k).map (fun o=>zP o.2 o.1.args)=E at p1 p2
 classical
 have c1:=Jp.1 p1;have c2:=Jp.1 p2
 have hp:(zd v l::(bt.rows++rs)).Perm (zP av o.args::(xg bt.tv bt.tos::(zd v l::zP bt.pv bt.params::ma bt.ov bt.ops::(wI bt.ops++E)++rs))):=by
  unfold BT.rows;refine Jp.2 fun r=>?_
  have:=c1 r;simp only[Nb,Nf] at this ⊢;omega
 have h2:=(h.rows.perm hp).grow (r':=zP av' (o.args++ [x])) m hg (by
  show w9.ownsRow B 3 1 av' (o.args++ [x]).length ((o.args++ [x]).map zN)
  rw[Jk,Ju,Js]
  exact d) t
 have h3:=h2.perm (List.Perm.swap _ _ _)
 have u:=h3.put (g:=ob) (r':=xg bt.tv (bt.tos.set k ({o with args:=o.args++ [x]},av'))) (w':=w9.setCell ⟨ob,k*2+1,none⟩ av') c (fun k hk=>Below.heap_setCell _ _ _ _ hk) (by
  show(w9.setCell ⟨ob,k*2+1,none⟩ av').ownsRow B 79 2 bt.tv (bt.tos.set k ({o with args:=o.args++ [x]},av')).length _
  rw[Nd]
  exact yp yd (h3.own _ (.head _)) c hk Zd rfl) rfl
 refine u.perm ?_;unfold BT.rows;refine Jp.2 fun r=>?_
 have:=c2 r;simp only[Nb,Nf] at this ⊢;omega
theorem SpSt.cutO {k:Nat}{oa:Option Addr}{n c:Nat}(hv:bt.ov=.slice oa n c)(o:n=bt.ops.length)(hk:k<=bt.ops.length):
 SpSt (w.setCell ⟨g,i*5+1,none⟩ (.slice oa k c)) B g i v {bt with ops:=bt.ops.take k,ov:=.slice oa k c } (l.set i {bt with ops:=bt.ops.take k,ov:=.slice oa k c }) rs:=by
 classical
 subst o
 have e1:wI bt.ops=wI (bt.ops.take k)++wI (bt.ops.drop k):=by
  unfold wI;rw[<-Js,Qi]
 have hp:(zd v l::(bt.rows++rs)).Perm (wI (bt.ops.drop k)++(ma bt.ov bt.ops::(zd v l::zP bt.pv bt.params::xg bt.tv bt.tos::(wI (bt.ops.take k)++ve bt.tos)++rs))):=by
  unfold BT.rows;rw[e1];refine Jp.2 fun r=>?_
  simp only[Nb,Nf];omega
 have h2:=(h.rows.perm hp).right;have ho:=h2.own _ (.head _)
 have h3:Rows w B (ma (.slice oa k c) (bt.ops.take k)::(zd v l::zP bt.pv bt.params::xg bt.tv bt.tos::(wI (bt.ops.take k)++ve bt.tos)++rs)):=by
  refine h2.tail.cons ?_ (fun x e=>?_)
  ·have d:w.ownsRow B 76 6 (.slice oa bt.ops.length c) bt.ops.length (bt.ops.flatMap zU):=by rw[<-hv];exact ho
   have hl:(bt.ops.take k).length=k:=by rw[Oc];omega
   show w.ownsRow B 76 6 (.slice oa k c) (bt.ops.take k).length ((bt.ops.take k).flatMap zU)
   rw[hl];obtain⟨q1,q2⟩:=d;refine⟨by rw[aeS zU 6 (fun _=>rfl),hl],?_⟩;rcases q2 with⟨q3,q4⟩|⟨gg,t,cur,q3,q4,q5,q6,q7,q8,q9⟩
   ·left
    injection q3 with z1 z2 z3
    have j:k=0:=Zo;subst z1 z3 j;exact⟨rfl,by simp⟩
   ·injection q3 with z1 z2 z3
    subst z1 z3;refine .inr ⟨gg,c,cur,rfl,q4,q5,by omega,q7,q8,?_⟩
    have e3:(bt.ops.take k).flatMap zU=(bt.ops.flatMap zU).take (k*6):=by
     have e4:((bt.ops.take k).flatMap zU).length=k*6:=by rw[aeS zU 6 (fun _=>rfl),hl]
     have e5:=List.take_left (l₁:=(bt.ops.take k).flatMap zU) (l₂:=(bt.ops.drop k).flatMap zU);rw[e4,<-Nx,Qi] at e5;exact e5.symm
    rw[e3,<-q9,List.take_take]
    congr 1
    omega
  ·refine h2.apart (g:=x) ?_;have e2:(Value.slice oa k c).ownBlock=some x:=e
   show bt.ov.ownBlock=some x
   rw[hv]
   cases oa with
   |none=>cases e2
   |some ad=>exact e2
 have m:Rows w B (zd v l::(({bt with ops:=bt.ops.take k,ov:=.slice oa k c }:BT).rows++rs)):=h3.perm (by
  unfold BT.rows;simp only;refine Jp.2 fun r=>?_
  simp only[Nb,Nf]
  omega)
 refine⟨?_,h.set_at _,h.gb⟩;refine m.put (r':=zd v (l.set i {bt with ops:=bt.ops.take k,ov:=.slice oa k c })) h.gb (fun k hk=>Below.heap_setCell _ _ _ _ hk) ?_ rfl
 show(w.setCell ⟨g,i*5+1,none⟩ _).ownsRow B 84 5 v (l.set i _).length ((l.set i _).flatMap zz)
 rw[Nd];exact yp zX (m.own _ (.head _)) h.gb h.at' Zd rfl
end
theorem putO {bt:BT}{rs:List Row}{w:World}{B:Nat}{ob k:Nat}{c:List (IOp×Value)}{x:IOp×Value}{r0:IOp×Value}(d:bt.ov.ownBlock=some ob){ol:List (IOp×Value)}(hr:Rows w B (ma bt.ov ol::rs))(hk:ol[k]? =some r0)(h:c=ol.set k x):
 Rows (w.setCells ob (k*6) (zU x)) B (ma bt.ov c::rs):=by
 subst h;refine hr.put (g:=ob) (r':=ma bt.ov (ol.set k x)) d (fun q hq=>ye ob q hq _ _ _) ?_ rfl
 show(w.setCells ob (k*6) (zU x)).ownsRow B 76 6 bt.ov (ol.set k x).length ((ol.set k x).flatMap zU)
 rw[Nd];exact uZ vp (hr.own _ (.head _)) d hk x
def spO (what n:Nat)(o:IOp):IOp:=
 match what with
 |0=> {o with code:=(n:Int)/7%30 }
 |1=> {o with res:=(n:Int)/7%40-2 }
 |2=> {o with a:=(n:Int)/7%40-2 }
 |3=> {o with b:=(n:Int)/7%40 }
 |4=> {o with n:=n/7%300 }
 |5=> {o with args:=o.args++ [(n:Int)/7%20]}
 |_=>o
def xh (what n:Nat)(b:IBlk):IBlk:=
 if what<=7 then
  (if b.ops.length=0 then b
   else if what=6 then
    (match b.ops[n%b.ops.length]?,b.ops[n/7%b.ops.length]? with
     |some x,some y=> {b with ops:=(b.ops.set (n%b.ops.length) y).set (n/7%b.ops.length) x }
     |_,_=>b)
   else if what=7 then {b with ops:=b.ops.take (n%b.ops.length)}
   else {b with ops:=wD b.ops (n%b.ops.length) (spO what n)})
 else if what=8 then {b with params:=b.params++ [(n:Int)%40]}
 else if what=9 then {b with term:= {b.term with kind:=(n:Int)%7 }}
 else if what=10 then {b with term:= {b.term with a:=(n:Int)%40-2 }}
 else if what=11 then {b with term:=⟨b.term.kind,b.term.a,wD b.term.to 0 fun e=> {e with block:=(n:Int)%9-1 }⟩}
 else if what=12 then {b with term:=⟨b.term.kind,b.term.a,wD b.term.to (b.term.to.length-1) fun e=> {e with args:=e.args++ [(n:Int)%40]}⟩}
 else b
theorem Chg.refl (w:World)(rs:List Row):Chg w rs w:=⟨rfl,rfl,rfl,Je _,fun _ _ _=>rfl⟩
theorem Chg.trans {w w1 w2:World}{rs:List Row}(h:Chg w rs w1)(k:Chg w1 rs w2):Chg w rs w2:=
 ⟨k.os.trans h.os,k.tape.trans h.tape,k.output.trans h.output,Jn h.size k.size,fun x hx hn=>(k.kept x (Jy hx h.size) hn).trans (h.kept x hx hn)⟩
theorem Chg.below {w w1:World}{rs:List Row}(hb:Y w w1):Chg w rs w1:=⟨hb.os,hb.tape,hb.output,hb.size,fun k hk _=>hb.block k hk⟩
theorem uY {w w1:World}{r:Row}(hg:w.grownBy w1 r.blk):Chg w [r] w1:=
 ⟨hg.os,hg.tape,hg.output,hg.size,fun k hk hn=>hg.block k hk (fun e=>hn (Nj.2 ⟨r,.head _,e.symm⟩))⟩
theorem Chg.one {w w1:World}{r:Row}{rs:List Row}(h:Chg w [r] w1)(hr:r∈rs):Chg w rs w1:=h.of fun k hk=>by
 obtain⟨x,c,e⟩:=Nj.1 hk;rw[Jo] at c;subst c;exact Nj.2 ⟨_,hr,e⟩
def uE (w:World)(B g i:Nat)(v:Value)(bt:BT)(l:List BT)(rs:List Row)(what n:Nat)(e:Ending)(w':World):Prop:=
 e=.returned (.tuple #[])/\∃bt',SpSt w' B g i v bt' (l.set i bt') rs/\bt'.blk=xh what n bt.blk/\Chg w (zd v l::bt.rows) w'
structure SzB (bt:BT):Prop where
 par:bt.params.length<=2000000
 ops:bt.ops.length<=2000000
 tos:bt.tos.length<=2000000
 oarg:∀o∈bt.ops,o.1.args.length<=2000000
 earg:∀o∈bt.tos,o.1.args.length<=2000000
theorem ws {bt:BT}{what n k:Nat}{o:IOp}{av:Value}(g:what<=5)(hk:bt.ops[k]? =some (o,av))(c:n%bt.ops.length=k):({bt with ops:=bt.ops.set k (spO what n o,av)}:BT).blk=xh what n bt.blk:=by
 have d:=(Jh.1 hk).1;unfold xh BT.blk;simp only[Nr];rw[if_pos Zo,if_neg Zo,if_neg Zo,if_neg Zo,c,xI (x:=o) (by rw[Jr,hk];rfl),Ox]
theorem wZ (v:Value)(l:List BT)(bt:BT):ma bt.ov bt.ops∈zd v l::bt.rows:=.tail _ (.tail _ (.head _))
theorem rS (v:Value)(l:List BT)(bt:BT):xg bt.tv bt.tos∈zd v l::bt.rows:=.tail _ (.tail _ (.tail _ (.head _)))
theorem set_same {l:List BT}{i:Nat}{bt:BT}(c:l[i]? =some bt):l.set i bt=l:=by
 apply Oq;intro q;rw[Ov]
 split
 ·rename_i e
  subst e;rw[c,if_pos (Jh.1 c).1]
 ·rfl
theorem wP {w:World}{B g i:Nat}{v:Value}{bt:BT}{l:List BT}{rs:List Row}{what n:Nat}(h:SpSt w B g i v bt l rs)(hs:xh what n bt.blk=bt.blk):uE w B g i v bt l rs what n (.returned (.tuple #[])) w:=
 ⟨rfl,bt,by rw[set_same h.at'];exact h,hs.symm,Chg.refl _ _⟩
section
variable {w:World} {B g i:Nat} {v:Value} {bt:BT} {l:List BT} {rs:List Row} (h:SpSt w B g i v bt l rs)
include h
theorem SpSt.farP {x:Nat}(c:bt.pv.ownBlock=some x):x≠g:=by
 have hp:(zd v l::(bt.rows++rs)).Perm (zP bt.pv bt.params::(zd v l::(ma bt.ov bt.ops::xg bt.tv bt.tos::(wI bt.ops++ve bt.tos)++rs))):=List.Perm.swap _ _ _;have h1:=(h.rows.perm hp).apart (g:=x) c;rintro rfl;exact h1 (Nj.2 ⟨zd v l,.head _,h.gb⟩)
theorem SpSt.farO {k:Nat}{o:IOp}{av:Value}(hk:bt.ops[k]? =some (o,av)){x:Nat}(c:av.ownBlock=some x):x≠g/\bt.ov.ownBlock≠some x:=by
 have p1:(wI bt.ops).Perm (zP av o.args::(bt.ops.eraseIdx k).map fun o=>zP o.2 o.1.args):=tT (fun o:IOp×Value=>zP o.2 o.1.args) hk;generalize (bt.ops.eraseIdx k).map (fun o=>zP o.2 o.1.args)=E at p1
 classical
 have c1:=Jp.1 p1
 have hp:(zd v l::(bt.rows++rs)).Perm (zP av o.args::(ma bt.ov bt.ops::(zd v l::zP bt.pv bt.params::xg bt.tv bt.tos::(E++ve bt.tos)++rs))):=by
  unfold BT.rows;refine Jp.2 fun r=>?_
  have:=c1 r;simp only[Nb,Nf] at this ⊢;omega
 have h1:=(h.rows.perm hp).apart (g:=x) c;refine⟨?_,fun e=>h1 (Nj.2 ⟨ma bt.ov bt.ops,.head _,e⟩)⟩;rintro rfl;exact h1 (Nj.2 ⟨zd v l,.tail _ (.head _),h.gb⟩)
theorem SpSt.farE {k:Nat}{o:IEdge}{av:Value}(hk:bt.tos[k]? =some (o,av)){x:Nat}(c:av.ownBlock=some x):x≠g/\bt.tv.ownBlock≠some x:=by
 have p1:(ve bt.tos).Perm (zP av o.args::(bt.tos.eraseIdx k).map fun o=>zP o.2 o.1.args):=tT (fun o:IEdge×Value=>zP o.2 o.1.args) hk;generalize (bt.tos.eraseIdx k).map (fun o=>zP o.2 o.1.args)=E at p1
 classical
 have c1:=Jp.1 p1
 have hp:(zd v l::(bt.rows++rs)).Perm (zP av o.args::(xg bt.tv bt.tos::(zd v l::zP bt.pv bt.params::ma bt.ov bt.ops::(wI bt.ops++E)++rs))):=by
  unfold BT.rows;refine Jp.2 fun r=>?_
  have:=c1 r;simp only[Nb,Nf] at this ⊢;omega
 have h1:=(h.rows.perm hp).apart (g:=x) c;refine⟨?_,fun e=>h1 (Nj.2 ⟨xg bt.tv bt.tos,.head _,e⟩)⟩;rintro rfl;exact h1 (Nj.2 ⟨zd v l,.tail _ (.head _),h.gb⟩)
end
theorem spoil_0 {w:World}{B g i:Nat}{v:Value}{bt:BT}{l:List BT}{rs:List Row}(h:SpSt w B g i v bt l rs){n:Nat}(hn:n<65536)(hz:SzB bt)(a1:0<bt.ops.length):
 I 32 #[.pointer (some ⟨g,i*5,none⟩),U 0,U n] w (uE w B g i v bt l rs 0 n):=by
 have d:w.ownsRow B 76 6 bt.ov bt.ops.length (bt.ops.flatMap zU):=h.rows.own _ (.tail _ (Jz _ (.tail _ (.head _))));obtain⟨xa,oc,m⟩:=zG d;have c:=d;rw[m] at c;have a4:=(zm c).1;obtain⟨ob,oc2,a3,a6,a5⟩:=c.form a1;cases a3;have y:bt.ov.ownBlock=some ob:=by rw[m];rfl
 obtain⟨k,u⟩:∃k,n%bt.ops.length=k:=⟨_,rfl⟩
 have hk:k<bt.ops.length:=by rw[<-u];exact Qj _ a1
 have b0:(n:Int)%(bt.ops.length:Int)=(k:Int):=by rw[<-u];exact(Ou _ _).symm
 obtain⟨⟨o,av⟩,t⟩:∃x,bt.ops[k]? =some x:=⟨_,Jd hk⟩
 have a2:=wb zX (h.rows.own _ (.head _)) h.gb h.at';have c1:A w g (i*5+1) (T ob bt.ops.length oc):=by rw[<-m];exact a2 1 _ rfl
 have gl:=((h.rows.own _ (.head _)).lt g h.gb).2;have a0:=wb vp d y t;have a7:=hz.ops;have oc':A w ob (k*6) _:=a0 0 _ rfl;have of:N w ob (k*6):=(zq Zd vp d y t 0 Zd).2;have HH:=Ja (Jb h (Jb y (Jb t u)));clear h d c m y t u a2 a0 hz a4;go_enter Tryz.func32,Tryz.ntmps32;go_wp2
 first|go_end0|refine bodyPost_ret (results_none rfl _ _ _) rfl ?_
 refine⟨rfl,_,HH.out.1.setO HH.out.2.1 HH.out.2.2.1 (j:=0) (o':=spO 0 n o) Zd ?_ rfl,ws Zd HH.out.2.2.1 HH.out.2.2.2,(xJ (a:=⟨ob,k*6,none⟩) (r:=ma bt.ov bt.ops) HH.out.2.1).one (wZ v l bt)⟩;rfl
theorem spoil_1 {w:World}{B g i:Nat}{v:Value}{bt:BT}{l:List BT}{rs:List Row}(h:SpSt w B g i v bt l rs){n:Nat}(hn:n<65536)(hz:SzB bt)(a1:0<bt.ops.length):
 I 32 #[.pointer (some ⟨g,i*5,none⟩),U 1,U n] w (uE w B g i v bt l rs 1 n):=by
 have d:w.ownsRow B 76 6 bt.ov bt.ops.length (bt.ops.flatMap zU):=h.rows.own _ (.tail _ (Jz _ (.tail _ (.head _))));obtain⟨xa,oc,m⟩:=zG d;have c:=d;rw[m] at c;have a4:=(zm c).1;obtain⟨ob,oc2,a3,a6,a5⟩:=c.form a1;cases a3;have y:bt.ov.ownBlock=some ob:=by rw[m];rfl
 obtain⟨k,u⟩:∃k,n%bt.ops.length=k:=⟨_,rfl⟩
 have hk:k<bt.ops.length:=by rw[<-u];exact Qj _ a1
 have b0:(n:Int)%(bt.ops.length:Int)=(k:Int):=by rw[<-u];exact(Ou _ _).symm
 obtain⟨⟨o,av⟩,t⟩:∃x,bt.ops[k]? =some x:=⟨_,Jd hk⟩
 have a2:=wb zX (h.rows.own _ (.head _)) h.gb h.at';have c1:A w g (i*5+1) (T ob bt.ops.length oc):=by rw[<-m];exact a2 1 _ rfl
 have gl:=((h.rows.own _ (.head _)).lt g h.gb).2;have a0:=wb vp d y t;have a7:=hz.ops;have oc':A w ob (k*6+1) _:=a0 1 _ rfl;have of:N w ob (k*6+1):=(zq Zd vp d y t 1 Zd).2;have HH:=Ja (Jb h (Jb y (Jb t u)));clear h d c m y t u a2 a0 hz a4;go_enter Tryz.func32,Tryz.ntmps32;go_wp2
 first|go_end0|refine bodyPost_ret (results_none rfl _ _ _) rfl ?_
 refine⟨rfl,_,HH.out.1.setO HH.out.2.1 HH.out.2.2.1 (j:=1) (o':=spO 1 n o) Zd ?_ rfl,ws Zd HH.out.2.2.1 HH.out.2.2.2,(xJ (a:=⟨ob,k*6+1,none⟩) (r:=ma bt.ov bt.ops) HH.out.2.1).one (wZ v l bt)⟩;rfl
theorem spoil_2 {w:World}{B g i:Nat}{v:Value}{bt:BT}{l:List BT}{rs:List Row}(h:SpSt w B g i v bt l rs){n:Nat}(hn:n<65536)(hz:SzB bt)(a1:0<bt.ops.length):
 I 32 #[.pointer (some ⟨g,i*5,none⟩),U 2,U n] w (uE w B g i v bt l rs 2 n):=by
 have d:w.ownsRow B 76 6 bt.ov bt.ops.length (bt.ops.flatMap zU):=h.rows.own _ (.tail _ (Jz _ (.tail _ (.head _))));obtain⟨xa,oc,m⟩:=zG d;have c:=d;rw[m] at c;have a4:=(zm c).1;obtain⟨ob,oc2,a3,a6,a5⟩:=c.form a1;cases a3;have y:bt.ov.ownBlock=some ob:=by rw[m];rfl
 obtain⟨k,u⟩:∃k,n%bt.ops.length=k:=⟨_,rfl⟩
 have hk:k<bt.ops.length:=by rw[<-u];exact Qj _ a1
 have b0:(n:Int)%(bt.ops.length:Int)=(k:Int):=by rw[<-u];exact(Ou _ _).symm
 obtain⟨⟨o,av⟩,t⟩:∃x,bt.ops[k]? =some x:=⟨_,Jd hk⟩
 have a2:=wb zX (h.rows.own _ (.head _)) h.gb h.at';have c1:A w g (i*5+1) (T ob bt.ops.length oc):=by rw[<-m];exact a2 1 _ rfl
 have gl:=((h.rows.own _ (.head _)).lt g h.gb).2;have a0:=wb vp d y t;have a7:=hz.ops;have oc':A w ob (k*6+2) _:=a0 2 _ rfl;have of:N w ob (k*6+2):=(zq Zd vp d y t 2 Zd).2;have HH:=Ja (Jb h (Jb y (Jb t u)));clear h d c m y t u a2 a0 hz a4;go_enter Tryz.func32,Tryz.ntmps32;go_wp2
 first|go_end0|refine bodyPost_ret (results_none rfl _ _ _) rfl ?_
 refine⟨rfl,_,HH.out.1.setO HH.out.2.1 HH.out.2.2.1 (j:=2) (o':=spO 2 n o) Zd ?_ rfl,ws Zd HH.out.2.2.1 HH.out.2.2.2,(xJ (a:=⟨ob,k*6+2,none⟩) (r:=ma bt.ov bt.ops) HH.out.2.1).one (wZ v l bt)⟩;rfl
theorem spoil_3 {w:World}{B g i:Nat}{v:Value}{bt:BT}{l:List BT}{rs:List Row}(h:SpSt w B g i v bt l rs){n:Nat}(hn:n<65536)(hz:SzB bt)(a1:0<bt.ops.length):
 I 32 #[.pointer (some ⟨g,i*5,none⟩),U 3,U n] w (uE w B g i v bt l rs 3 n):=by
 have d:w.ownsRow B 76 6 bt.ov bt.ops.length (bt.ops.flatMap zU):=h.rows.own _ (.tail _ (Jz _ (.tail _ (.head _))));obtain⟨xa,oc,m⟩:=zG d;have c:=d;rw[m] at c;have a4:=(zm c).1;obtain⟨ob,oc2,a3,a6,a5⟩:=c.form a1;cases a3;have y:bt.ov.ownBlock=some ob:=by rw[m];rfl
 obtain⟨k,u⟩:∃k,n%bt.ops.length=k:=⟨_,rfl⟩
 have hk:k<bt.ops.length:=by rw[<-u];exact Qj _ a1
 have b0:(n:Int)%(bt.ops.length:Int)=(k:Int):=by rw[<-u];exact(Ou _ _).symm
 obtain⟨⟨o,av⟩,t⟩:∃x,bt.ops[k]? =some x:=⟨_,Jd hk⟩
 have a2:=wb zX (h.rows.own _ (.head _)) h.gb h.at';have c1:A w g (i*5+1) (T ob bt.ops.length oc):=by rw[<-m];exact a2 1 _ rfl
 have gl:=((h.rows.own _ (.head _)).lt g h.gb).2;have a0:=wb vp d y t;have a7:=hz.ops;have oc':A w ob (k*6+3) _:=a0 3 _ rfl;have of:N w ob (k*6+3):=(zq Zd vp d y t 3 Zd).2;have HH:=Ja (Jb h (Jb y (Jb t u)));clear h d c m y t u a2 a0 hz a4;go_enter Tryz.func32,Tryz.ntmps32;go_wp2
 first|go_end0|refine bodyPost_ret (results_none rfl _ _ _) rfl ?_
 refine⟨rfl,_,HH.out.1.setO HH.out.2.1 HH.out.2.2.1 (j:=3) (o':=spO 3 n o) Zd ?_ rfl,ws Zd HH.out.2.2.1 HH.out.2.2.2,(xJ (a:=⟨ob,k*6+3,none⟩) (r:=ma bt.ov bt.ops) HH.out.2.1).one (wZ v l bt)⟩;rfl
theorem spoil_4 {w:World}{B g i:Nat}{v:Value}{bt:BT}{l:List BT}{rs:List Row}(h:SpSt w B g i v bt l rs){n:Nat}(hn:n<65536)(hz:SzB bt)(a1:0<bt.ops.length):
 I 32 #[.pointer (some ⟨g,i*5,none⟩),U 4,U n] w (uE w B g i v bt l rs 4 n):=by
 have d:w.ownsRow B 76 6 bt.ov bt.ops.length (bt.ops.flatMap zU):=h.rows.own _ (.tail _ (Jz _ (.tail _ (.head _))));obtain⟨xa,oc,m⟩:=zG d;have c:=d;rw[m] at c;have a4:=(zm c).1;obtain⟨ob,oc2,a3,a6,a5⟩:=c.form a1;cases a3;have y:bt.ov.ownBlock=some ob:=by rw[m];rfl
 obtain⟨k,u⟩:∃k,n%bt.ops.length=k:=⟨_,rfl⟩
 have hk:k<bt.ops.length:=by rw[<-u];exact Qj _ a1
 have b0:(n:Int)%(bt.ops.length:Int)=(k:Int):=by rw[<-u];exact(Ou _ _).symm
 obtain⟨⟨o,av⟩,t⟩:∃x,bt.ops[k]? =some x:=⟨_,Jd hk⟩
 have a2:=wb zX (h.rows.own _ (.head _)) h.gb h.at';have c1:A w g (i*5+1) (T ob bt.ops.length oc):=by rw[<-m];exact a2 1 _ rfl
 have gl:=((h.rows.own _ (.head _)).lt g h.gb).2;have a0:=wb vp d y t;have a7:=hz.ops;have oc':A w ob (k*6+4) _:=a0 4 _ rfl;have of:N w ob (k*6+4):=(zq Zd vp d y t 4 Zd).2;have HH:=Ja (Jb h (Jb y (Jb t u)));clear h d c m y t u a2 a0 hz a4;go_enter Tryz.func32,Tryz.ntmps32;go_wp2
 first|go_end0|refine bodyPost_ret (results_none rfl _ _ _) rfl ?_
 refine⟨rfl,_,HH.out.1.setO HH.out.2.1 HH.out.2.2.1 (j:=4) (o':=spO 4 n o) Zd ?_ rfl,ws Zd HH.out.2.2.1 HH.out.2.2.2,(xJ (a:=⟨ob,k*6+4,none⟩) (r:=ma bt.ov bt.ops) HH.out.2.1).one (wZ v l bt)⟩;rfl
def uS (q2:Int):Nat:=(q2%65536).toNat
def gn (q0:Int):Nat:=(q0%20).toNat
def uk (p:IProg)(q1:Int):Nat:=if 0<p.funcs.length then(q1%65536).toNat%p.funcs.length else 0
def turnK (q1:Int)(n len:Nat):Nat:=((q1/65536%65536).toNat+n/64)%len
def lY (r:Nat):Nat:=if r=0 then 16392 else if r=1 then 24575 else if r=2 then 512 else 16896
def xV (m:Nat):ByteArray:=y9 (List.replicate m 0)
def hltB:IBlk:=⟨[],[],⟨5,0,[]⟩⟩
def lW (what:Nat)(q1:Int)(n:Nat)(g:List IBlk):List IBlk:=wD g (turnK q1 n g.length) (xh what n)
def rA (p:IProg)(what n f:Nat)(q1:Int):IProg:=
 if what=13 then {p with args:=p.args++ [(n:Int)%10-1]}
 else if what=14 then {p with entry:=(n:Int)%7-1 }
 else if what=15 then {p with handler:=(n:Int)%7-2 }
 else if what=16 then {p with data:=p.data++ [⟨(n:Int)%4-2,lY (n/4%4),n/16%4⟩]}
 else if what=17 then {p with banks:=p.banks++ [xV (4096-n%3/2)]}
 else if what=18 then {p with funcs:=wD p.funcs f fun g=>if g.length=0 then g else g++ [hltB]}
 else {p with funcs:=wD p.funcs f (lW what q1 n)}
def wR (p:IProg)(q0 q1 q2:Int):IProg:=rA p (gn q0) (uS q2) (uk p q1) q1
theorem yt (n:Int):bits .and .i64 n 65535=n%65536:=by
 have h:(BitVec.ofInt 64 65535).toNat=2^16-1:=by decide
 have c:(BitVec.ofInt 64 n &&& BitVec.ofInt 64 65535).toNat=(n%((2^64:Nat):Int)).toNat%2^16:=by
  rw[BitVec.toNat_and,BitVec.toNat_ofInt,h,Nat.and_two_pow_sub_one_eq_mod]
 show IntKind.i64.wrap ((BitVec.ofInt 64 n &&& BitVec.ofInt 64 65535).toNat:Nat)=n%65536
 rw[c,IntKind.wrap_i64];omega
theorem turnN_lt (q2:Int):uS q2<65536:=by unfold uS;omega
theorem turnW_lt (q0:Int):gn q0<20:=by unfold gn;omega
structure TuMid (w:World) (p1 o5:Nat) (q0 q1 q2:Int) (t:PT) (wx:World):Prop where
 hq:wx.heap[p1+1]? =some (.cells #[.int .i64 q0,.int .i64 q1,.int .i64 q2] 23 (0,0))
 hr:wx.heap[p1+1+1]? =some (.cells #[.slice none 0 0,.slice none 0 0,.int .i64 0,.int .i64 0,.slice none 0 0,.slice none 0 0] 29 (0,0))
 ho:wx.heap[o5]? =some (.cells (zW t).toArray 29 (0,0))
 bel:Below p1 w wx
 base:p1=w.heap.size
 rows:Rows wx (p1+1+1+1) t.rows
 ge:p1+1+1<o5
section
variable {w:World} {p1 o5:Nat} {q0 q1 q2:Int} {t:PT} {wx:World} (h:TuMid w p1 o5 q0 q1 q2 t wx)
include h
theorem TuMid.lt:p1+1+1<wx.heap.size:=lt_of_block h.hr
theorem TuMid.far {b:Nat}{cs:Array Value}(hb:Q wx b cs 29):b ∉ t.rows.filterMap Row.blk:=fun hk=>by
 obtain⟨x,d,c⟩:=Nj.1 hk;exact zC (h.rows.own x d) hb (.inr (vr x d)) c
theorem TuMid.farO:o5 ∉ t.rows.filterMap Row.blk:=h.far h.ho
theorem TuMid.below {w':World}(hb:Y wx w'):TuMid w p1 o5 q0 q1 q2 t w':=
 ⟨zH hb h.hq (lt_of_block h.hq),zH hb h.hr (lt_of_block h.hr),zH hb h.ho (lt_of_block h.ho),h.bel.trans (hb.mono (by have:=h.lt;omega)),h.base,h.rows.below hb,h.ge⟩
theorem TuMid.set {i:Nat}{u:Value}{t':PT}(c:(zW t).set i u=zW t')(hr:t'.rows=t.rows):TuMid w p1 o5 q0 q1 q2 t' (wx.setCell ⟨o5,i,none⟩ u):=by
 have hg:=h.ge;refine⟨zR h.hq (by show p1+1≠o5;omega),zR h.hr (by show p1+1+1≠o5;omega),by rw[zD h.ho,<-c];simp,h.bel.setCell (by show p1<=o5;omega) _,h.base,?_,h.ge⟩;rw[hr];exact h.rows.keep fun k hk=>Below.heap_setCell _ _ _ _ (fun e=>h.farO (by have e':k=o5:=e;rw[<-e'];exact hk))
theorem TuMid.sub {w':World}{t':PT}{rs:List Row}(c:Chg wx rs w')(hs:∀k,k∈rs.filterMap Row.blk->k∈t.rows.filterMap Row.blk)(g:zW t'=zW t)(hr:Rows w' (p1+1+1+1) t'.rows):TuMid w p1 o5 q0 q1 q2 t' w':=by
 have d:∀k,k∈t.rows.filterMap Row.blk->p1+1+1+1<=k:=fun k hk=>(h.rows.lt hk).1
 have i:=h.ge;have keep:∀k,k<wx.heap.size->k<p1+1+1+1->w'.heap[k]? =wx.heap[k]?:=fun k hk hl=>c.kept k hk (fun e=>by have:=d k (hs k e);omega)
 refine⟨(keep _ (lt_of_block h.hq) Zo).trans h.hq,(keep _ (lt_of_block h.hr) Zo).trans h.hr,?_,?_,h.base,hr,h.ge⟩
 ·rw[g];exact(c.kept _ (lt_of_block h.ho) (fun e=>h.farO (hs _ e))).trans h.ho
 ·have hl:=h.lt;exact h.bel.trans ⟨c.os,c.tape,c.output,c.size,fun k hk=>keep k Zo Zo⟩
theorem TuMid.grow {w1 w9:World}{r r':Row}{rs:List Row}{t':PT}{i:Nat}{u:Value}(hp:t.rows.Perm (r::rs))(c:Y wx w1)(hg:w1.grownBy w9 r.blk)
 (g:w9.ownsRow (p1+1+1+1) r'.e r'.sz r'.v r'.n r'.cs) (o:∀k,r'.blk=some k->r.blk=some k∨wx.heap.size<=k) (hq:(r'::rs).Perm t'.rows) (hc:(zW t).set i u=zW t'):TuMid w p1 o5 q0 q1 q2 t' (w9.setCell ⟨o5,i,none⟩ u):=by
 have a0:=h.ge;have hr:=h.rows.perm hp;have h2:=hr.grow c hg g o;have m:∀k,r.blk=some k->k∈t.rows.filterMap Row.blk:=fun k e=>Nj.2 ⟨r,hp.mem_iff.2 (.head _),e⟩
 have keep:∀k,k<wx.heap.size->(k<p1+1+1+1∨k=o5)->w9.heap[k]? =wx.heap[k]?:=fun k hk hl=>(hg.block k (Jy hk c.size) (fun e=>by
  have y:=m k e.symm;rcases hl with hl|rfl
  ·have:=(h.rows.lt y).1;omega
  ·exact h.farO y)).trans (c.block k hk)
 have d:Q w9 o5 (zW t).toArray 29:=(keep _ (lt_of_block h.ho) (.inr rfl)).trans h.ho;refine⟨(zR ((keep _ (lt_of_block h.hq) (.inl Zo)).trans h.hq) (by show p1+1≠o5;omega)),(zR ((keep _ (lt_of_block h.hr) (.inl Zo)).trans h.hr) (by show p1+1+1≠o5;omega)),by rw[zD d,<-hc];simp,?_,h.base,?_,h.ge⟩
 ·have hl:=h.lt;refine Below.setCell (h.bel.trans ⟨hg.os.trans c.os,hg.tape.trans c.tape,hg.output.trans c.output,Jn c.size hg.size,fun k hk=>keep k Zo (.inl Zo)⟩) (by show p1<=o5;omega) _
 ·have h3:=h2.perm hq;refine h3.keep fun k hk=>Below.heap_setCell _ _ _ _ (fun e=>?_)
  have e':k=o5:=e;subst e';obtain⟨x,l,j⟩:=Nj.1 hk;exact zC (h3.own x l) d (.inr (vr x l)) j
end
theorem uf {α β:Type}(f:α->List β){l:List α}{k:Nat}{b:α}(hk:l[k]? =some b):(l.flatMap f).Perm (f b++(l.eraseIdx k).flatMap f):=by
 obtain⟨c,hb⟩:=Jh.1 hk
 have e1:l=l.take k++b::l.drop (k+1):=by
  rw[<-hb,Ue,Qi]
 rw[List.eraseIdx_eq_take_drop_succ]
 conv=>lhs;rw[e1]
 classical
 refine Jp.2 fun y=>?_
 simp only[Nx,Qa,Nb];omega
theorem abO {α β:Type}(f:α->List β){l:List α}{k:Nat}(hk:k<l.length)(a:α):((l.set k a).flatMap f).Perm (f a++(l.eraseIdx k).flatMap f):=by
 have h:=uf f (l:=l.set k a) (k:=k) (b:=a) (by rw[Nn hk]);rw[List.eraseIdx_set_eq] at h;exact h
def PT.but (t:PT)(f:Nat):List Row:=wY t.fv t.funcs::zP t.av t.args::vK t.dv t.data::v8 t.bv t.banks::(t.funcs.eraseIdx f).flatMap FT.rows
theorem PT.rows_at {t:PT}{f:Nat}{ft:FT}(hf:t.funcs[f]? =some ft):t.rows.Perm (ft.rows++t.but f):=by
 have h:=uf FT.rows hf
 classical
 have c:=Jp.1 h;unfold PT.rows PT.but;refine Jp.2 fun y=>?_
 have:=c y;simp only[Nb,Nf] at this ⊢;omega
theorem PT.rows_set {t:PT}{f:Nat}(hf:f<t.funcs.length)(ft:FT):({t with funcs:=t.funcs.set f ft }:PT).rows.Perm (ft.rows++(wY t.fv (t.funcs.set f ft)::zP t.av t.args::vK t.dv t.data::v8 t.bv t.banks::(t.funcs.eraseIdx f).flatMap FT.rows)):=by
 have h:=abO FT.rows hf ft
 classical
 have c:=Jp.1 h;unfold PT.rows;refine Jp.2 fun y=>?_
 have:=c y;simp only[Nb,Nf] at this ⊢;omega
theorem jY {t:PT}{f:Nat}{ft ft':FT}(hf:t.funcs[f]? =some ft)(hb:ft'.bv=ft.bv):wY t.fv (t.funcs.set f ft')=wY t.fv t.funcs:=by
 unfold wY;rw[Nd,vQ hf hb]
theorem FT.rows_at {ft:FT}{i:Nat}{bt:BT}(hi:ft.blks[i]? =some bt):ft.rows.Perm (zd ft.bv ft.blks::(bt.rows++(ft.blks.eraseIdx i).flatMap BT.rows)):=(uf BT.rows hi).cons _
theorem FT.rows_set {ft:FT}{i:Nat}(hi:i<ft.blks.length)(bt:BT):({ft with blks:=ft.blks.set i bt }:FT).rows.Perm (zd ft.bv (ft.blks.set i bt)::(bt.rows++(ft.blks.eraseIdx i).flatMap BT.rows)):=(abO BT.rows hi bt).cons _
theorem TuMid.block {w:World}{p1 o5:Nat}{q0 q1 q2:Int}{t:PT}{wx:World}(h:TuMid w p1 o5 q0 q1 q2 t wx){f i g:Nat}{ft:FT}{bt:BT}(hf:t.funcs[f]? =some ft)(hi:ft.blks[i]? =some bt)(hg:ft.bv.ownBlock=some g):
 SpSt wx (p1+1+1+1) g i ft.bv bt ft.blks ((ft.blks.eraseIdx i).flatMap BT.rows++t.but f):=by
 refine⟨h.rows.perm ?_,hi,hg⟩;refine(PT.rows_at hf).trans ?_;have h1:=(FT.rows_at hi).append_right (t.but f);refine h1.trans ?_;rw[List.cons_append,Nv]
theorem TuMid.unblock {w:World}{p1 o5:Nat}{q0 q1 q2:Int}{t:PT}{wx w':World}(h:TuMid w p1 o5 q0 q1 q2 t wx){f i g:Nat}{ft:FT}{bt bt':BT}(hf:t.funcs[f]? =some ft)(hi:ft.blks[i]? =some bt)
 (hs:SpSt w' (p1+1+1+1) g i ft.bv bt' (ft.blks.set i bt') ((ft.blks.eraseIdx i).flatMap BT.rows++t.but f)) (l:Chg wx (zd ft.bv ft.blks::bt.rows) w'):
 TuMid w p1 o5 q0 q1 q2 {t with funcs:=t.funcs.set f {ft with blks:=ft.blks.set i bt' }} w':=by
 have j:=(Jh.1 hf).1;have d:=(Jh.1 hi).1;have hp:=((PT.rows_at hf).trans ((FT.rows_at hi).append_right (t.but f)))
 refine h.sub (t':= {t with funcs:=t.funcs.set f {ft with blks:=ft.blks.set i bt' }}) l (fun k hk=>?_) rfl (hs.rows.perm ?_)
 ·obtain⟨x,c,e⟩:=Nj.1 hk;refine Nj.2 ⟨x,hp.mem_iff.2 ?_,e⟩;rw[List.cons_append,Nv];rcases Jq.1 c with rfl|c
  ·exact .head _
  ·exact .tail _ (Jz _ c)
 ·have h2:=PT.rows_set j ({ft with blks:=ft.blks.set i bt' }:FT);rw[jY hf (ft':= {ft with blks:=ft.blks.set i bt' }) rfl] at h2;have h3:=(FT.rows_set d bt').append_right (t.but f);rw[List.cons_append,Nv] at h3;exact(h2.trans h3).symm
theorem pD {α:Type}{l:List α}{i:Nat}{g:α->α}(h:∀x,l[i]? =some x->g x=x):wD l i g=l:=by
 unfold wD
 split
 ·rename_i x c
  rw[h x c];apply Oq;intro q;rw[Ov]
  split
  ·rename_i e
   subst e;rw[c,if_pos (Jh.1 c).1]
  ·rfl
 ·rfl
theorem uw {p:IProg}{what n f:Nat}{q1:Int}(c:what=18∨what<=12∨what=19)(h:∀g,p.funcs[f]? =some g->g.length=0):rA p what n f q1=p:=by
 unfold rA;rw[if_neg Zo,if_neg Zo,if_neg Zo,if_neg Zo,if_neg Zo]
 split
 ·rw[pD (fun g hg=>if_pos (h g hg))]
 ·rw[pD (fun g hg=>?_)];unfold lW;rw[Nz (h g hg)];rfl
def btH:BT:=⟨[],L,[],L,5,0,[],L⟩
theorem kZ {w:World}{B:Nat}{t:PT}(h:Rows w B t.rows):w.ownsRow B 39 1 t.fv t.funcs.length (t.funcs.flatMap fun f:FT=> [f.bv]):=by
 rw[<-Qh];exact h.own (wY t.fv t.funcs) (.head _)
theorem kj {w:World}{B:Nat}{t:PT}(h:Rows w B t.rows){fb f:Nat}{ft:FT}(hb:t.fv.ownBlock=some fb)(hf:t.funcs[f]? =some ft):A w fb f ft.bv/\N w fb f/\fb<w.heap.size:=by
 have h1:=kZ h;have h2:=wb (f:=fun f:FT=> [f.bv]) (n:=1) (fun _=>rfl) h1 hb hf 0 _ rfl;have h3:=zq (n:=1) Zd (f:=fun f:FT=> [f.bv]) (fun _=>rfl) h1 hb hf 0 Zd;rw[Nk] at h2 h3;exact⟨h2,h3.2,(h1.lt fb hb).2⟩
theorem TuMid.addB {w:World}{p1 o5:Nat}{q0 q1 q2:Int}{t:PT}{wx w1 w9:World}(h:TuMid w p1 o5 q0 q1 q2 t wx){f fb:Nat}{ft:FT}{v':Value}(hf:t.funcs[f]? =some ft)(c:t.fv.ownBlock=some fb)(i:Y wx w1)(hg:w1.grownBy w9 ft.bv.ownBlock)
 (l:w9.ownsRow (p1+1+1+1) 84 5 v' (ft.blks.length+1) (ft.blks.flatMap zz++zz btH)) (a0:∀k,v'.ownBlock=some k->ft.bv.ownBlock=some k∨wx.heap.size<=k):
 TuMid w p1 o5 q0 q1 q2 {t with funcs:=t.funcs.set f ⟨ft.blks++ [btH],v'⟩} (w9.setCell ⟨fb,f,none⟩ v'):=by
 have o:=(Jh.1 hf).1;have d:=PT.rows_at hf
 have h2:=(h.rows.perm d).grow (r':=zd v' (ft.blks++ [btH])) i hg (by
  show w9.ownsRow _ _ _ _ (ft.blks++ [btH]).length ((ft.blks++ [btH]).flatMap zz)
  rw[Jk,Nx]
  exact l) a0
 have a1:∀(r:Row),r.blk=none->∀g,r.blk=some g->g ∉ (zd v' (ft.blks++ [btH])::(ft.blks.flatMap BT.rows++t.but f)).filterMap Row.blk:=fun r e g e2=>by rw[e] at e2;cases e2
 have h3:Rows w9 (p1+1+1+1) (zP (L) []::ma (L) []::xg (L) []::(zd v' (ft.blks++ [btH])::(ft.blks.flatMap BT.rows++t.but f))):=by
  refine((h2.cons (Jv _ _ _ _) ?_).cons (Jv _ _ _ _) ?_).cons (Jv _ _ _ _) ?_
  all_goals (intro g e;cases e)
 have h4:=h3.perm (rs':=wY t.fv t.funcs::(zd v' (ft.blks++ [btH])::((ft.blks++ [btH]).flatMap BT.rows++(zP t.av t.args::vK t.dv t.data::v8 t.bv t.banks::(t.funcs.eraseIdx f).flatMap FT.rows)))) (by
  classical
  unfold PT.but;rw[Nx]
  show List.Perm _ (_::_::((_++([zP (.slice none 0 0) [],ma (.slice none 0 0) [],xg (.slice none 0 0) []]++ []))++_))
  refine Jp.2 fun y=>?_
  simp only[Nb,Nf,List.count_nil]
  omega)
 have h5:=h4.put (g:=fb) (r':=wY t.fv (t.funcs.set f ⟨ft.blks++ [btH],v'⟩)) (w':=w9.setCell ⟨fb,f,none⟩ v') c (fun k hk=>Below.heap_setCell _ _ _ _ hk) (by
  have h6:w9.ownsRow (p1+1+1+1) 39 1 t.fv t.funcs.length (t.funcs.flatMap fun f:FT=> [f.bv]):=by
   rw[<-Qh];exact h4.own (wY t.fv t.funcs) (.head _)
  have h7:=yp (f:=fun f:FT=> [f.bv]) (n:=1) (fun _=>rfl) h6 c hf (j:=0) (u:=v') (a:=⟨ft.blks++ [btH],v'⟩) Zd rfl;rw[Nk,Uk,<-Qh] at h7
  show(w9.setCell ⟨fb,f,none⟩ v').ownsRow (p1+1+1+1) 39 1 t.fv (t.funcs.set f _).length _
  rw[Nd]
  exact h7) rfl
 have x:zd ft.bv ft.blks∈t.rows:=d.mem_iff.2 (.head _);have m:wY t.fv t.funcs∈t.rows:=.head _;refine h.sub (rs:=t.rows) (((Chg.below i).trans ((uY (r:=zd ft.bv ft.blks) hg).one x)).trans ((xJ (a:=⟨fb,f,none⟩) (r:=wY t.fv t.funcs) c).one m)) (fun k hk=>hk) rfl (h5.perm ?_);have h8:=PT.rows_set o (⟨ft.blks++ [btH],v'⟩:FT);refine List.Perm.trans ?_ h8.symm
 classical
 refine Jp.2 fun y=>?_
 unfold FT.rows;simp only[Nb,Nf];omega
theorem TuMid.farF {w:World}{p1 o5:Nat}{q0 q1 q2:Int}{t:PT}{wx:World}(h:TuMid w p1 o5 q0 q1 q2 t wx){f k:Nat}{ft:FT}(hf:t.funcs[f]? =some ft)(hk:ft.bv.ownBlock=some k):t.fv.ownBlock≠some k:=fun e=>by
 have h1:=(h.rows.perm (PT.rows_at hf)).apart (g:=k) hk;exact h1 (Nj.2 ⟨wY t.fv t.funcs,Qf _ (.head _),e⟩)
theorem szB_of {ft:FT}{bt:BT}(h1:bt.blk.params.length<=2000000/\bt.blk.ops.length<=2000000/\bt.blk.term.to.length<=2000000)(h2:jx ft.fn)(hm:bt.blk∈ft.fn):SzB bt:=by
 have h3:=h2 _ hm;refine⟨h1.1,by have:=h1.2.1;unfold BT.blk at this;simpa using this,by have:=h1.2.2;unfold BT.blk at this;simpa using this,fun o ho=>h3.1 o.1 (Oj ho),fun o ho=>h3.2 o.1 (Oj ho)⟩
def akQ (d:Nat):ByteArray:=strOfNums [48+(d:Int)]
def ahM (n:Nat)(s:ByteArray):ByteArray:=if n<10 then s else ahM (n/10) (akQ (n/10%10)++s)
termination_by n
decreasing_by omega
def ahE (n:Nat):ByteArray:=ahM n (akQ (n%10))
theorem afr (d:Nat):(akQ d).size=1:=rfl
theorem aiS {W:World}{d:Nat}(c:d<10):
 (convert 49 9 (T W.heap.size 1 1)).run Tryz.prog (W.alloc (G #[.int .u8 (48+(d:Int))] 5))=.ok (.string (akQ d)) (W.alloc (G #[.int .u8 (48+(d:Int))] 5)):=by
 refine run_convert_bytes_arg _ 49 5 Tryz.underlying49 Tryz.underlying5 W.heap.size 0 1 1 [48+(d:Int)] rfl (fun i hi=>?_) 9 Tryz.underlying9;obtain rfl:i=0:=by omega
 exact zA (zI rfl) rfl
theorem ai4 (w:World)(n:Nat)(hn:n<18446744073709551616):
 I 124 #[.int .u64 (n:Int)] w (fun e w'=>e=.returned (.string (ahE n))/\Y w w'):=by
 obtain⟨d,hd⟩:∃d,n%10=d:=⟨_,rfl⟩
 have a0:d<10:=Zo;have u:(n:Int).tmod 10=(d:Int):=by rw[Qc Zo];omega
 have o:IntKind.u64.wrap (48+(d:Int))=48+(d:Int):=IntWalk.u64_in _ ⟨by omega,by omega⟩;have l:IntKind.u8.wrap (48+(d:Int))=48+(d:Int):=IntWalk.u8_in _ ⟨by omega,by omega⟩;have x:=aiS (W:=w) a0;go_enter Tryz.func124,Tryz.ntmps124;go_wp2
 go_loopw [0,3] (fun mv xv wx=>∃(m k:Nat) (s:ByteArray),mv=.int .u64 (m:Int)/\xv=.string s/\n/10^k=m/\s.size=k+1/\ahM m s=ahE n/\Y w wx) (fun mv _ _=>(intOf mv).toNat)
 case atStart=>exact⟨n,0,akQ d,rfl,rfl,by simp,rfl,by rw[<-hd];rfl,(Below.refl _ _).alloc (Je _) _⟩
 case round=>
  obtain⟨m,k,s,rfl,rfl,i,g,j,hb⟩:=hrel;clear x u o l
  by_cases t:m<10
  ·have a3:¬(10:Int)<=(m:Int):=Zo;have a2:(m:Int)<10:=Zo;have a1:=Ja (Jb j hb);have hs:s=ahE n:=by rw[<-j,ahM,if_pos t]
   clear j hb;go_wp2;go_ret;exact⟨rfl,a1.out.2⟩
  ·have b1:(10:Int)<=(m:Int):=Zo;have b0:m<=n:=by rw[<-i];exact Nat.div_le_self _ _
   have a4:k<=19:=by
    rcases Nat.lt_or_ge k 20 with h|h
    ·omega
    ·have h1:n/10^k<=n/10^20:=Nat.div_le_div_left (Nat.pow_le_pow_right Zd h) Zd;have h2:n/10^20=0:=Nat.div_eq_of_lt Zo;omega
   obtain⟨q,hq⟩:∃q,m/10=q:=⟨_,rfl⟩
   obtain⟨e,he⟩:∃e,q%10=e:=⟨_,rfl⟩
   have y:e<10:=Zo;have a7:(m:Int).tdiv 10=(q:Int):=by rw[<-hq];rfl
   have a5:IntKind.u64.wrap (q:Int)=(q:Int):=IntWalk.u64_in _ ⟨by omega,by omega⟩;have u:(q:Int).tmod 10=(e:Int):=by rw[Qc Zo];omega
   have o:IntKind.u64.wrap (48+(e:Int))=48+(e:Int):=IntWalk.u64_in _ ⟨by omega,by omega⟩;have l:IntKind.u8.wrap (48+(e:Int))=48+(e:Int):=IntWalk.u8_in _ ⟨by omega,by omega⟩;have x:=aiS (W:=wr) y;have a6:¬IntKind.i64.max<(((akQ e).size+s.size:Nat):Int):=by rw[afr,g];show ¬(9223372036854775807:Int)<_;omega
   have c:=Ja (Jb j (Jb hb (Jb i g)));clear j hb i g;go_wp2
   ·exfalso;have h1:=afr e;have h2:=c.out.2.2.2;omega
   refine⟨⟨q,k+1,akQ e++s,rfl,rfl,?_,?_,?_,?_⟩,?_⟩
   ·rw[Nat.pow_succ,<-Nat.div_div_eq_div_mul,c.out.2.2.1,hq]
   ·rw[ByteArray.size_append,afr,c.out.2.2.2];omega
   ·have h:=c.out.1;rw[ahM,if_neg t,hq,he] at h;exact h
   ·exact c.out.2.1.alloc c.out.2.1.size _
   ·show(Int.toNat (q:Int))<(Int.toNat (m:Int))
    omega
end Go.Proofs.YtoahcpkibpomcaaGreat
