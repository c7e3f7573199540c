/- Part of a proof. -/
import Derived.Test.YtojclalkfhoooaaGOwn5
import Derived.Test.YtojclalkfhoooaaGRFun1
set_option linter.all false
set_option maxHeartbeats 1000000
set_option maxRecDepth 100000
namespace Go.Proofs.Ytojclalkfhoooaa
open Go.RowKit
theorem Rows.put {w w':World}{B:Nat}{r r':Row}{rs:List Row}(h:Rows w B (r::rs)){g:Nat}(hg:r.blk=some g)(hk:∀k,k≠g->w'.heap[k]? =w.heap[k]?)(c:w'.ownsRow B r'.e r'.sz r'.v r'.n r'.cs)(hv:r'.v=r.v):Rows w' B (r'::rs):=by
 have d:Rows w' B rs:=h.tail.keep fun k hk2=>hk k (fun e=>h.apart hg (by rw[<-e];exact hk2))
 refine d.cons c fun g2 e hg2=>?_
 refine h.apart (g:=g2) ?_ hg2;unfold Row.blk at e ⊢;rw[<-hv];exact e
structure B64 (b:IBlk):Prop where
 par:∀x∈b.params,I64 x
 ops:∀o∈b.ops,qN o/\∀x∈o.args,I64 x
 term:I64 b.term.kind/\I64 b.term.a
 tos:∀e∈b.term.to,I64 e.block/\∀x∈e.args,I64 x
structure P64 (p:IProg):Prop where
 funcs:∀f∈p.funcs,∀b∈f,B64 b
 args:∀x∈p.args,I64 x
 data:∀o∈p.data,I64 o.bank/\o.addr<65536/\o.size<65536
 banks:∀s∈p.banks,s.size<=9223372036854775807
 ent:I64 p.entry
 hnd:I64 p.handler
theorem pT {w:World}{B:Nat}{v:Value}{xs:List Int}(h:w.ownsRow B 3 1 v xs.length (xs.map zN))(h64:∀x∈xs,I64 x):zY w w.heap.size v xs:=by
 have h2:w.ownsRow B 3 1 v xs.length (xs.flatMap fun x=> [zN x]):=by rw[<-Qh];exact h
 have:=wC (sz:=1) (f:=fun x:Int=> [zN x]) (R:=IntR) (g:=fun x:Int=>x) Zd (fun _=>rfl) h2 (fun q hq b o hc=>⟨hc 0 _ rfl,h64 q hq⟩);rw[List.map_id'] at this;exact this
theorem z7 (q:IOp×Value):(zU q).length=6:=rfl
theorem yd (q:IEdge×Value):(za q).length=2:=rfl
theorem zX (q:BT):(zz q).length=5:=rfl
theorem BT.in {w:World}{B:Nat}{b:BT}(h:∀r∈b.rows,w.ownsRow B r.e r.sz r.v r.n r.cs)(h64:B64 b.blk):zY w w.heap.size b.pv b.params/\mN w w.heap.size b.ov (b.ops.map (·.1))/\wH w w.heap.size b.tv (b.tos.map (·.1)):=by
 unfold BT.rows at h;refine⟨pT (h _ (.head _)) h64.par,?_,?_⟩
 ·refine wC Zd z7 (h _ (.tail _ (.head _))) fun q hq b2 o hc=>?_
  have h1:=h64.ops q.1 (Oj hq);exact⟨hc 0 _ rfl,hc 1 _ rfl,hc 2 _ rfl,hc 3 _ rfl,hc 4 _ rfl,h1.1,q.2,hc 5 _ rfl,pT (h (zP q.2 q.1.args) (.tail _ (.tail _ (.tail _ (Jz _ (Oj hq)))))) h1.2⟩
 ·refine wC Zd yd (h _ (.tail _ (.tail _ (.head _)))) fun q hq b2 o hc=>?_
  have h1:=h64.tos q.1 (Oj hq);exact⟨hc 0 _ rfl,h1.1,q.2,hc 1 _ rfl,pT (h (zP q.2 q.1.args) (.tail _ (.tail _ (.tail _ (Qf _ (Oj hq)))))) h1.2⟩
theorem FT.in {w:World}{B:Nat}{f:FT}(h:∀r∈f.rows,w.ownsRow B r.e r.sz r.v r.n r.cs)(h64:∀b∈f.fn,B64 b):wX w w.heap.size f.bv f.fn:=by
 unfold FT.rows at h;refine wC Zd zX (h _ (.head _)) fun q hq b2 o hc=>?_
 have hb:=h64 q.blk (Oj hq);have h1:=BT.in (w:=w) (B:=B) (b:=q) (fun r hr=>h r (.tail _ (Qx.2 ⟨q,hq,hr⟩))) hb;exact⟨hc 2 _ rfl,hc 3 _ rfl,hb.term,q.pv,q.ov,q.tv,hc 0 _ rfl,hc 1 _ rfl,hc 4 _ rfl,h1.1,h1.2.1,h1.2.2⟩
theorem PT.in {w:World}{B:Nat}{t:PT}(h:Rows w B t.rows)(h64:P64 t.prog):ProgIn w w.heap.size t.V t.prog:=by
 have h:=h.own;unfold PT.rows at h;refine⟨?_,pT (h _ (.tail _ (.head _))) h64.args,?_,?_,h64.ent,h64.hnd⟩
 ·have h1:w.ownsRow B 43 1 t.fv t.funcs.length (t.funcs.flatMap fun f=> [f.bv]):=by rw[<-Qh];exact h _ (.head _)
  refine wC (sz:=1) (f:=fun f:FT=> [f.bv]) (g:=FT.fn) Zd (fun _=>rfl) h1 fun q hq b2 o hc=>?_
  exact⟨q.bv,hc 0 _ rfl,FT.in (B:=B) (fun r hr=>h r (.tail _ (.tail _ (.tail _ (.tail _ (Qx.2 ⟨q,hq,hr⟩)))))) (h64.funcs q.fn (Oj hq))⟩
 ·have:=wC (sz:=3) (f:=xP) (R:=ObjR) (g:=fun x:IObj=>x) Zd sk (h (vK t.dv t.data) (.tail _ (.tail _ (.head _)))) (fun q hq b o hc=>?_)
  ·rw[List.map_id'] at this;exact this
  ·have h1:=h64.data q hq;exact⟨hc 0 _ rfl,hc 1 _ rfl,hc 2 _ rfl,h1.1,h1.2.1,h1.2.2⟩
 ·have h1:w.ownsRow B 9 1 t.bv t.banks.length (t.banks.flatMap fun s=> [.string s]):=by rw[<-Qh];exact h _ (.tail _ (.tail _ (.tail _ (.head _))))
  have:=wC (sz:=1) (f:=fun s:ByteArray=> [.string s]) (R:=StrR) (g:=fun x:ByteArray=>x) Zd (fun _=>rfl) h1 (fun q hq b o hc=>⟨hc 0 _ rfl,h64.banks q hq⟩);rw[List.map_id'] at this;exact this
theorem iI {α:Type}{f:α->List Value}{n:Nat}(hf:∀a,(f a).length=n){l:List α}{k:Nat}{b a:α}(hk:l[k]? =some b){j:Nat}{u:Value}(d:j<n)(g:(f b).set j u=f a):(l.flatMap f).set (k*n+j) u=(l.set k a).flatMap f:=by
 have c:=(Jh.1 hk).1;have hb:l[k]=b:=(Jh.1 hk).2
 have e1:l=l.take k++b::l.drop (k+1):=by
  rw[<-hb,Ue,Qi]
 have hl:(l.take k).length=k:=by simp;omega
 have e2:l.set k a=l.take k++a::l.drop (k+1):=by
  rw[List.set_eq_take_append_cons_drop,if_pos c]
 have e3:l.flatMap f=(l.take k).flatMap f++(f b++(l.drop (k+1)).flatMap f):=by
  conv=>lhs;rw[e1]
  rw[Nx,Qa]
 have h:((l.take k).flatMap f).length=k*n:=by rw[wq f n hf,hl]
 rw[e2,e3,Nx,Qa,Uj _ _ Zo,h,Nat.add_sub_cancel_left,List.set_append_left _ _ (by rw[hf];exact d),g]
theorem yp {α:Type}{f:α->List Value}{n:Nat}{w:World}{base g:Nat}{e:TypeId}{v:Value}{l:List α}{k:Nat}{b a:α}(hf:∀a,(f a).length=n)(h:w.ownsRow base e n v l.length (l.flatMap f))(hg:v.ownBlock=some g)(hk:l[k]? =some b){j:Nat}{u:Value}(c:j<n)(d:(f b).set j u=f a):
 (w.setCell ⟨g,k*n+j,none⟩ u).ownsRow base e n v l.length ((l.set k a).flatMap f):=by
 refine⟨by rw[wq f n hf,Nd],?_⟩;rcases h.2 with⟨rfl,_⟩|⟨g',cap,cur,rfl,h1,h2,h3,o,m,i⟩
 ·simp[Value.ownBlock] at hg
 ·simp[Value.ownBlock] at hg;subst hg;refine .inr ⟨g',cap,_,rfl,h1,zD h2 u,h3,o,by simpa using m,?_⟩;rw[Array.toList_setIfInBounds,List.take_set,i];exact iI hf hk c d
structure Chg (w:World) (rs:List Row) (w':World):Prop where
 os:w'.os=w.os
 tape:w'.tape=w.tape
 output:w'.output=w.output
 size:w.heap.size<=w'.heap.size
 kept:∀k,k<w.heap.size->k ∉ rs.filterMap Row.blk->w'.heap[k]? =w.heap[k]?
structure SpSt (w:World) (B g i:Nat) (v:Value) (bt:BT) (l:List BT) (rs:List Row):Prop where
 rows:Rows w B (zd v l::(bt.rows++rs))
 at':l[i]? =some bt
 gb:v.ownBlock=some g
theorem Chg.of {w w':World}{rs rs':List Row}(h:Chg w rs w')(hs:∀k,k∈rs.filterMap Row.blk->k∈rs'.filterMap Row.blk):Chg w rs' w':=⟨h.os,h.tape,h.output,h.size,fun k hk hn=>h.kept k hk (fun e=>hn (hs k e))⟩
theorem xJ {w:World}{a:Addr}{u:Value}{r:Row}(h:r.blk=some a.block):Chg w [r] (w.setCell a u):=
 ⟨rfl,rfl,rfl,by simp,fun k hk hn=>Below.heap_setCell _ _ _ _ (fun e=>hn (by rw[Nj];exact⟨r,.head _,by rw[h,e]⟩))⟩
theorem vQ {α β:Type}{f:α->β}{l:List α}{k:Nat}{b a:α}(hk:l[k]? =some b)(h:f a=f b):(l.set k a).map f=l.map f:=by
 rw[Ox,h];apply Oq;intro j;rw[Ov]
 split
 ·rename_i e
  subst e;rw[Jr,hk];have:=(Jh.1 hk).1;simp[this]
 ·rfl
theorem pY {α:Type}{f:α->List Value}{l:List α}{k:Nat}{b a:α}(hk:l[k]? =some b)(h:f a=f b):(l.set k a).flatMap f=l.flatMap f:=by
 rw[List.flatMap_def,List.flatMap_def,vQ hk h]
section
variable {w:World} {B g i:Nat} {v:Value} {bt:BT} {l:List BT} {rs:List Row} (h:SpSt w B g i v bt l rs)
include h
theorem SpSt.il:i<l.length:=(Jh.1 h.at').1
theorem SpSt.set_at (bt':BT):(l.set i bt')[i]? =some bt':=by rw[Nn h.il]
theorem SpSt.setB {j:Nat}{u:Value}{bt':BT}(c:j<5)(d:(zz bt).set j u=zz bt')(hr:bt'.rows=bt.rows):SpSt (w.setCell ⟨g,i*5+j,none⟩ u) B g i v bt' (l.set i bt') rs:=by
 refine⟨?_,h.set_at bt',h.gb⟩;rw[hr];refine h.rows.put (r':=zd v (l.set i bt')) h.gb (fun k hk=>Below.heap_setCell _ _ _ _ hk) ?_ rfl
 show(w.setCell ⟨g,i*5+j,none⟩ u).ownsRow B 49 5 v (l.set i bt').length ((l.set i bt').flatMap zz)
 rw[Nd];exact yp zX (h.rows.own _ (.head _)) h.gb h.at' c d
theorem SpSt.sub {w':World}{bt':BT}(c:zz bt'=zz bt)(hr:Rows w' B (zd v l::(bt'.rows++rs))):SpSt w' B g i v bt' (l.set i bt') rs:=by
 refine⟨?_,h.set_at bt',h.gb⟩
 have e:zd v (l.set i bt')=zd v l:=by
  unfold zd;rw[Nd,pY h.at' c]
 rw[e];exact hr
theorem SpSt.setO {ob k j:Nat}{u av:Value}{o o':IOp}(hg:bt.ov.ownBlock=some ob)(hk:bt.ops[k]? =some (o,av))(c:j<6)(d:(zU (o,av)).set j u=zU (o',av))(m:o'.args=o.args):
 SpSt (w.setCell ⟨ob,k*6+j,none⟩ u) B g i v {bt with ops:=bt.ops.set k (o',av)} (l.set i {bt with ops:=bt.ops.set k (o',av)}) rs:=by
 have e1:wI (bt.ops.set k (o',av))=wI bt.ops:=vQ hk (by simp only;rw[m]);refine h.sub rfl ?_
 have hp:(zd v l::(bt.rows++rs)).Perm (yo bt.ov bt.ops::(zd v l::zP bt.pv bt.params::xg bt.tv bt.tos::(wI bt.ops++ve bt.tos)++rs)):=by
  classical
  unfold BT.rows;refine Jp.2 fun r=>?_
  simp only[Nb,Nf];omega
 have hq:(yo bt.ov (bt.ops.set k (o',av))::(zd v l::zP bt.pv bt.params::xg bt.tv bt.tos::(wI bt.ops++ve bt.tos)++rs)).Perm (zd v l::(({bt with ops:=bt.ops.set k (o',av)}:BT).rows++rs)):=by
  classical
  unfold BT.rows;simp only;rw[e1];refine Jp.2 fun r=>?_
  simp only[Nb,Nf];omega
 refine((h.rows.perm hp).put (r':=yo bt.ov (bt.ops.set k (o',av))) hg (fun k hk=>Below.heap_setCell _ _ _ _ hk) ?_ rfl).perm hq
 show(w.setCell ⟨ob,k*6+j,none⟩ u).ownsRow B 77 6 bt.ov (bt.ops.set k (o',av)).length _
 rw[Nd];exact yp z7 ((h.rows.perm hp).own _ (.head _)) hg hk c d
theorem SpSt.setE {ob k j:Nat}{u av:Value}{o o':IEdge}(hg:bt.tv.ownBlock=some ob)(hk:bt.tos[k]? =some (o,av))(c:j<2)(d:(za (o,av)).set j u=za (o',av))(m:o'.args=o.args):
 SpSt (w.setCell ⟨ob,k*2+j,none⟩ u) B g i v {bt with tos:=bt.tos.set k (o',av)} (l.set i {bt with tos:=bt.tos.set k (o',av)}) rs:=by
 have e1:ve (bt.tos.set k (o',av))=ve bt.tos:=vQ hk (by simp only;rw[m]);refine h.sub rfl ?_
 have hp:(zd v l::(bt.rows++rs)).Perm (xg bt.tv bt.tos::(zd v l::zP bt.pv bt.params::yo bt.ov bt.ops::(wI bt.ops++ve bt.tos)++rs)):=by
  classical
  unfold BT.rows;refine Jp.2 fun r=>?_
  simp only[Nb,Nf];omega
 have hq:(xg bt.tv (bt.tos.set k (o',av))::(zd v l::zP bt.pv bt.params::yo bt.ov bt.ops::(wI bt.ops++ve bt.tos)++rs)).Perm (zd v l::(({bt with tos:=bt.tos.set k (o',av)}:BT).rows++rs)):=by
  classical
  unfold BT.rows;simp only;rw[e1];refine Jp.2 fun r=>?_
  simp only[Nb,Nf];omega
 refine((h.rows.perm hp).put (r':=xg bt.tv (bt.tos.set k (o',av))) hg (fun k hk=>Below.heap_setCell _ _ _ _ hk) ?_ rfl).perm hq
 show(w.setCell ⟨ob,k*2+j,none⟩ u).ownsRow B 75 2 bt.tv (bt.tos.set k (o',av)).length _
 rw[Nd];exact yp yd ((h.rows.perm hp).own _ (.head _)) hg hk c d
end
theorem tT {α β:Type}(f:α->β){l:List α}{k:Nat}{b:α}(hk:l[k]? =some b):(l.map f).Perm (f b::(l.eraseIdx k).map f):=by
 obtain⟨c,hb⟩:=Jh.1 hk
 have e1:l=l.take k++b::l.drop (k+1):=by
  rw[<-hb,Ue,Qi]
 rw[List.eraseIdx_eq_take_drop_succ]
 conv=>lhs;rw[e1]
 rw[Js,Js,Ql];exact List.perm_middle
theorem rM {α β:Type}(f:α->β){l:List α}{k:Nat}(hk:k<l.length)(a:α):((l.set k a).map f).Perm (f a::(l.eraseIdx k).map f):=by
 have h:=tT f (l:=l.set k a) (k:=k) (b:=a) (by rw[Nn hk]);rw[List.eraseIdx_set_eq] at h;exact h
section
variable {w:World} {B g i:Nat} {v:Value} {bt:BT} {l:List BT} {rs:List Row} (h:SpSt w B g i v bt l rs)
include h
theorem SpSt.growB {w1 w9:World}{r r':Row}{q:List Row}{j:Nat}{u:Value}{bt':BT}(hp:bt.rows.Perm (r::q))(d:F w w1)(hg:w1.grownBy w9 r.blk)(c:w9.ownsRow B r'.e r'.sz r'.v r'.n r'.cs)
 (m:∀k,r'.blk=some k->r.blk=some k∨w.heap.size<=k) (hq:(r'::q).Perm bt'.rows) (o:j<5) (t:(zz bt).set j u=zz bt'):SpSt (w9.setCell ⟨g,i*5+j,none⟩ u) B g i v bt' (l.set i bt') rs:=by
 have h1:(zd v l::(bt.rows++rs)).Perm (r::(zd v l::(q++rs))):=((hp.append_right rs).cons _).trans (List.Perm.swap _ _ _);have h2:=(h.rows.perm h1).grow d hg c m;have h3:Rows w9 B (zd v l::(bt'.rows++rs)):=h2.perm ((List.Perm.swap _ _ _).trans ((hq.append_right rs).cons _));refine⟨?_,h.set_at bt',h.gb⟩;refine h3.put (r':=zd v (l.set i bt')) h.gb (fun k hk=>Below.heap_setCell _ _ _ _ hk) ?_ rfl
 show(w9.setCell ⟨g,i*5+j,none⟩ u).ownsRow B 49 5 v (l.set i bt').length ((l.set i bt').flatMap zz)
 rw[Nd];exact yp zX (h3.own _ (.head _)) h.gb h.at' o t
theorem SpSt.growO {w1 w9:World}{ob k:Nat}{av av':Value}{o:IOp}{x:Int}(c:bt.ov.ownBlock=some ob)(hk:bt.ops[k]? =some (o,av))(m:F w w1)(hg:w1.grownBy w9 av.ownBlock)(d:w9.ownsRow B 3 1 av' (o.args.length+1) (o.args.map zN++ [zN x]))
 (t:∀k,av'.ownBlock=some k->av.ownBlock=some k∨w.heap.size<=k):
 SpSt (w9.setCell ⟨ob,k*6+5,none⟩ av') B g i v {bt with ops:=bt.ops.set k ({o with args:=o.args++ [x]},av')} (l.set i {bt with ops:=bt.ops.set k ({o with args:=o.args++ [x]},av')}) rs:=by
 have j:=(Jh.1 hk).1;have p1:(wI bt.ops).Perm (zP av o.args::(bt.ops.eraseIdx k).map fun o=>zP o.2 o.1.args):=tT (fun o:IOp×Value=>zP o.2 o.1.args) hk;have p2:(wI (bt.ops.set k ({o with args:=o.args++ [x]},av'))).Perm (zP av' (o.args++ [x])::(bt.ops.eraseIdx k).map fun o=>zP o.2 o.1.args):=rM (fun o:IOp×Value=>zP o.2 o.1.args) j ({o with args:=o.args++ [x]},av');refine h.sub rfl ?_;generalize (bt.ops.eraseIdx k).map (fun o=>zP o.2 o.1.args)=E at p1 p2
 classical
 have c1:=Jp.1 p1;have c2:=Jp.1 p2
 have hp:(zd v l::(bt.rows++rs)).Perm (zP av o.args::(yo bt.ov bt.ops::(zd v l::zP bt.pv bt.params::xg bt.tv bt.tos::(E++ve bt.tos)++rs))):=by
  unfold BT.rows;refine Jp.2 fun r=>?_
  have:=c1 r;simp only[Nb,Nf] at this ⊢;omega
 have h2:=(h.rows.perm hp).grow (r':=zP av' (o.args++ [x])) m hg (by
  show w9.ownsRow B 3 1 av' (o.args++ [x]).length ((o.args++ [x]).map zN)
  rw[Jk,Ju,Js]
  exact d) t
 have h3:=h2.perm (List.Perm.swap _ _ _)
 have u:=h3.put (g:=ob) (r':=yo bt.ov (bt.ops.set k ({o with args:=o.args++ [x]},av'))) (w':=w9.setCell ⟨ob,k*6+5,none⟩ av') c (fun k hk=>Below.heap_setCell _ _ _ _ hk) (by
  show(w9.setCell ⟨ob,k*6+5,none⟩ av').ownsRow B 77 6 bt.ov (bt.ops.set k ({o with args:=o.args++ [x]},av')).length _
  rw[Nd]
  exact yp z7 (h3.own _ (.head _)) c hk Zd rfl) rfl
 refine u.perm ?_;unfold BT.rows;refine Jp.2 fun r=>?_
 have:=c2 r;simp only[Nb,Nf] at this ⊢;omega
theorem SpSt.growE {w1 w9:World}{ob k:Nat}{av av':Value}{o:IEdge}{x:Int}(c:bt.tv.ownBlock=some ob)(hk:bt.tos[k]? =some (o,av))(m:F w w1)(hg:w1.grownBy w9 av.ownBlock)(d:w9.ownsRow B 3 1 av' (o.args.length+1) (o.args.map zN++ [zN x]))
 (t:∀k,av'.ownBlock=some k->av.ownBlock=some k∨w.heap.size<=k):
 SpSt (w9.setCell ⟨ob,k*2+1,none⟩ av') B g i v {bt with tos:=bt.tos.set k ({o with args:=o.args++ [x]},av')} (l.set i {bt with tos:=bt.tos.set k ({o with args:=o.args++ [x]},av')}) rs:=by
 have j:=(Jh.1 hk).1;have p1:(ve bt.tos).Perm (zP av o.args::(bt.tos.eraseIdx k).map fun o=>zP o.2 o.1.args):=tT (fun o:IEdge×Value=>zP o.2 o.1.args) hk;have p2:(ve (bt.tos.set k ({o with args:=o.args++ [x]},av'))).Perm (zP av' (o.args++ [x])::(bt.tos.eraseIdx k).map fun o=>zP o.2 o.1.args):=rM (fun o:IEdge×Value=>zP o.2 o.1.args) j ({o with args:=o.args++ [x]},av');refine h.sub rfl ?_;generalize (bt.tos.eraseIdx k).map (fun o=>zP o.2 o.1.args)=E at p1 p2
 classical
 have c1:=Jp.1 p1;have c2:=Jp.1 p2
 have hp:(zd v l::(bt.rows++rs)).Perm (zP av o.args::(xg bt.tv bt.tos::(zd v l::zP bt.pv bt.params::yo bt.ov bt.ops::(wI bt.ops++E)++rs))):=by
  unfold BT.rows;refine Jp.2 fun r=>?_
  have:=c1 r;simp only[Nb,Nf] at this ⊢;omega
 have h2:=(h.rows.perm hp).grow (r':=zP av' (o.args++ [x])) m hg (by
  show w9.ownsRow B 3 1 av' (o.args++ [x]).length ((o.args++ [x]).map zN)
  rw[Jk,Ju,Js]
  exact d) t
 have h3:=h2.perm (List.Perm.swap _ _ _)
 have u:=h3.put (g:=ob) (r':=xg bt.tv (bt.tos.set k ({o with args:=o.args++ [x]},av'))) (w':=w9.setCell ⟨ob,k*2+1,none⟩ av') c (fun k hk=>Below.heap_setCell _ _ _ _ hk) (by
  show(w9.setCell ⟨ob,k*2+1,none⟩ av').ownsRow B 75 2 bt.tv (bt.tos.set k ({o with args:=o.args++ [x]},av')).length _
  rw[Nd]
  exact yp yd (h3.own _ (.head _)) c hk Zd rfl) rfl
 refine u.perm ?_;unfold BT.rows;refine Jp.2 fun r=>?_
 have:=c2 r;simp only[Nb,Nf] at this ⊢;omega
theorem SpSt.cutO {k:Nat}{oa:Option Addr}{n c:Nat}(hv:bt.ov=.slice oa n c)(o:n=bt.ops.length)(hk:k<=bt.ops.length):
 SpSt (w.setCell ⟨g,i*5+1,none⟩ (.slice oa k c)) B g i v {bt with ops:=bt.ops.take k,ov:=.slice oa k c } (l.set i {bt with ops:=bt.ops.take k,ov:=.slice oa k c }) rs:=by
 classical
 subst o
 have e1:wI bt.ops=wI (bt.ops.take k)++wI (bt.ops.drop k):=by
  unfold wI;rw[<-Js,Qi]
 have hp:(zd v l::(bt.rows++rs)).Perm (wI (bt.ops.drop k)++(yo bt.ov bt.ops::(zd v l::zP bt.pv bt.params::xg bt.tv bt.tos::(wI (bt.ops.take k)++ve bt.tos)++rs))):=by
  unfold BT.rows;rw[e1];refine Jp.2 fun r=>?_
  simp only[Nb,Nf];omega
 have h2:=(h.rows.perm hp).right;have ho:=h2.own _ (.head _)
 have h3:Rows w B (yo (.slice oa k c) (bt.ops.take k)::(zd v l::zP bt.pv bt.params::xg bt.tv bt.tos::(wI (bt.ops.take k)++ve bt.tos)++rs)):=by
  refine h2.tail.cons ?_ (fun x e=>?_)
  ·have d:w.ownsRow B 77 6 (.slice oa bt.ops.length c) bt.ops.length (bt.ops.flatMap zU):=by rw[<-hv];exact ho
   have hl:(bt.ops.take k).length=k:=by rw[Oc];omega
   show w.ownsRow B 77 6 (.slice oa k c) (bt.ops.take k).length ((bt.ops.take k).flatMap zU)
   rw[hl];obtain⟨q1,q2⟩:=d;refine⟨by rw[wq zU 6 (fun _=>rfl),hl],?_⟩;rcases q2 with⟨q3,q4⟩|⟨gg,cap,cur,q3,q4,q5,q6,q7,q8,q9⟩
   ·left
    injection q3 with z1 z2 z3
    have j:k=0:=Zo;subst z1 z3 j;exact⟨rfl,by simp⟩
   ·injection q3 with z1 z2 z3
    subst z1 z3;refine .inr ⟨gg,c,cur,rfl,q4,q5,by omega,q7,q8,?_⟩
    have e3:(bt.ops.take k).flatMap zU=(bt.ops.flatMap zU).take (k*6):=by
     have e4:((bt.ops.take k).flatMap zU).length=k*6:=by rw[wq zU 6 (fun _=>rfl),hl]
     have e5:=List.take_left (l₁:=(bt.ops.take k).flatMap zU) (l₂:=(bt.ops.drop k).flatMap zU);rw[e4,<-Nx,Qi] at e5;exact e5.symm
    rw[e3,<-q9,List.take_take]
    congr 1
    omega
  ·refine h2.apart (g:=x) ?_;have e2:(Value.slice oa k c).ownBlock=some x:=e
   show bt.ov.ownBlock=some x
   rw[hv]
   cases oa with
   |none=>cases e2
   |some ad=>exact e2
 have m:Rows w B (zd v l::(({bt with ops:=bt.ops.take k,ov:=.slice oa k c }:BT).rows++rs)):=h3.perm (by
  unfold BT.rows;simp only;refine Jp.2 fun r=>?_
  simp only[Nb,Nf]
  omega)
 refine⟨?_,h.set_at _,h.gb⟩;refine m.put (r':=zd v (l.set i {bt with ops:=bt.ops.take k,ov:=.slice oa k c })) h.gb (fun k hk=>Below.heap_setCell _ _ _ _ hk) ?_ rfl
 show(w.setCell ⟨g,i*5+1,none⟩ _).ownsRow B 49 5 v (l.set i _).length ((l.set i _).flatMap zz)
 rw[Nd];exact yp zX (m.own _ (.head _)) h.gb h.at' Zd rfl
end
theorem putO {bt:BT}{rs:List Row}{w:World}{B:Nat}{ob k:Nat}{c:List (IOp×Value)}{x:IOp×Value}{r0:IOp×Value}(d:bt.ov.ownBlock=some ob){ol:List (IOp×Value)}(hr:Rows w B (yo bt.ov ol::rs))(hk:ol[k]? =some r0)(h:c=ol.set k x):
 Rows (w.setCells ob (k*6) (zU x)) B (yo bt.ov c::rs):=by
 subst h;refine hr.put (g:=ob) (r':=yo bt.ov (ol.set k x)) d (fun q hq=>ye ob q hq _ _ _) ?_ rfl
 show(w.setCells ob (k*6) (zU x)).ownsRow B 77 6 bt.ov (ol.set k x).length ((ol.set k x).flatMap zU)
 rw[Nd];exact uZ z7 (hr.own _ (.head _)) d hk x
def spO (what n:Nat)(o:IOp):IOp:=
 match what with
 |0=> {o with code:=(n:Int)/7%30 }
 |1=> {o with res:=(n:Int)/7%40-2 }
 |2=> {o with a:=(n:Int)/7%40-2 }
 |3=> {o with b:=(n:Int)/7%40 }
 |4=> {o with n:=n/7%300 }
 |5=> {o with args:=o.args++ [(n:Int)/7%20]}
 |_=>o
def xh (what n:Nat)(b:IBlk):IBlk:=
 if what<=7 then
  (if b.ops.length=0 then b
   else if what=6 then
    (match b.ops[n%b.ops.length]?,b.ops[n/7%b.ops.length]? with
     |some x,some y=> {b with ops:=(b.ops.set (n%b.ops.length) y).set (n/7%b.ops.length) x }
     |_,_=>b)
   else if what=7 then {b with ops:=b.ops.take (n%b.ops.length)}
   else {b with ops:=wD b.ops (n%b.ops.length) (spO what n)})
 else if what=8 then {b with params:=b.params++ [(n:Int)%40]}
 else if what=9 then {b with term:= {b.term with kind:=(n:Int)%7 }}
 else if what=10 then {b with term:= {b.term with a:=(n:Int)%40-2 }}
 else if what=11 then {b with term:=⟨b.term.kind,b.term.a,wD b.term.to 0 fun e=> {e with block:=(n:Int)%9-1 }⟩}
 else if what=12 then {b with term:=⟨b.term.kind,b.term.a,wD b.term.to (b.term.to.length-1) fun e=> {e with args:=e.args++ [(n:Int)%40]}⟩}
 else b
theorem Chg.refl (w:World)(rs:List Row):Chg w rs w:=⟨rfl,rfl,rfl,Je _,fun _ _ _=>rfl⟩
theorem Chg.trans {w w1 w2:World}{rs:List Row}(h:Chg w rs w1)(k:Chg w1 rs w2):Chg w rs w2:=
 ⟨k.os.trans h.os,k.tape.trans h.tape,k.output.trans h.output,Jn h.size k.size,fun x hx hn=>(k.kept x (Jy hx h.size) hn).trans (h.kept x hx hn)⟩
theorem Chg.below {w w1:World}{rs:List Row}(hb:F w w1):Chg w rs w1:=⟨hb.os,hb.tape,hb.output,hb.size,fun k hk _=>hb.block k hk⟩
theorem uY {w w1:World}{r:Row}(hg:w.grownBy w1 r.blk):Chg w [r] w1:=
 ⟨hg.os,hg.tape,hg.output,hg.size,fun k hk hn=>hg.block k hk (fun e=>hn (Nj.2 ⟨r,.head _,e.symm⟩))⟩
theorem Chg.one {w w1:World}{r:Row}{rs:List Row}(h:Chg w [r] w1)(hr:r∈rs):Chg w rs w1:=h.of fun k hk=>by
 obtain⟨x,c,e⟩:=Nj.1 hk;rw[Jo] at c;subst c;exact Nj.2 ⟨_,hr,e⟩
def uE (w:World)(B g i:Nat)(v:Value)(bt:BT)(l:List BT)(rs:List Row)(what n:Nat)(e:Ending)(w':World):Prop:=
 e=.returned (.tuple #[])/\∃bt',SpSt w' B g i v bt' (l.set i bt') rs/\bt'.blk=xh what n bt.blk/\Chg w (zd v l::bt.rows) w'
structure SzB (bt:BT):Prop where
 par:bt.params.length<=2000000
 ops:bt.ops.length<=2000000
 tos:bt.tos.length<=2000000
 oarg:∀o∈bt.ops,o.1.args.length<=2000000
 earg:∀o∈bt.tos,o.1.args.length<=2000000
theorem ws {bt:BT}{what n k:Nat}{o:IOp}{av:Value}(g:what<=5)(hk:bt.ops[k]? =some (o,av))(c:n%bt.ops.length=k):({bt with ops:=bt.ops.set k (spO what n o,av)}:BT).blk=xh what n bt.blk:=by
 have d:=(Jh.1 hk).1;unfold xh BT.blk;simp only[Nr];rw[if_pos Zo,if_neg Zo,if_neg Zo,if_neg Zo,c,xI (x:=o) (by rw[Jr,hk];rfl),Ox]
theorem wZ (v:Value)(l:List BT)(bt:BT):yo bt.ov bt.ops∈zd v l::bt.rows:=.tail _ (.tail _ (.head _))
theorem rS (v:Value)(l:List BT)(bt:BT):xg bt.tv bt.tos∈zd v l::bt.rows:=.tail _ (.tail _ (.tail _ (.head _)))
theorem set_same {l:List BT}{i:Nat}{bt:BT}(c:l[i]? =some bt):l.set i bt=l:=by
 apply Oq;intro q;rw[Ov]
 split
 ·rename_i e
  subst e;rw[c,if_pos (Jh.1 c).1]
 ·rfl
theorem wP {w:World}{B g i:Nat}{v:Value}{bt:BT}{l:List BT}{rs:List Row}{what n:Nat}(h:SpSt w B g i v bt l rs)(hs:xh what n bt.blk=bt.blk):uE w B g i v bt l rs what n (.returned (.tuple #[])) w:=
 ⟨rfl,bt,by rw[set_same h.at'];exact h,hs.symm,Chg.refl _ _⟩
section
variable {w:World} {B g i:Nat} {v:Value} {bt:BT} {l:List BT} {rs:List Row} (h:SpSt w B g i v bt l rs)
include h
theorem SpSt.farP {x:Nat}(c:bt.pv.ownBlock=some x):x≠g:=by
 have hp:(zd v l::(bt.rows++rs)).Perm (zP bt.pv bt.params::(zd v l::(yo bt.ov bt.ops::xg bt.tv bt.tos::(wI bt.ops++ve bt.tos)++rs))):=List.Perm.swap _ _ _;have h1:=(h.rows.perm hp).apart (g:=x) c;rintro rfl;exact h1 (Nj.2 ⟨zd v l,.head _,h.gb⟩)
theorem SpSt.farO {k:Nat}{o:IOp}{av:Value}(hk:bt.ops[k]? =some (o,av)){x:Nat}(c:av.ownBlock=some x):x≠g/\bt.ov.ownBlock≠some x:=by
 have p1:(wI bt.ops).Perm (zP av o.args::(bt.ops.eraseIdx k).map fun o=>zP o.2 o.1.args):=tT (fun o:IOp×Value=>zP o.2 o.1.args) hk;generalize (bt.ops.eraseIdx k).map (fun o=>zP o.2 o.1.args)=E at p1
 classical
 have c1:=Jp.1 p1
 have hp:(zd v l::(bt.rows++rs)).Perm (zP av o.args::(yo bt.ov bt.ops::(zd v l::zP bt.pv bt.params::xg bt.tv bt.tos::(E++ve bt.tos)++rs))):=by
  unfold BT.rows;refine Jp.2 fun r=>?_
  have:=c1 r;simp only[Nb,Nf] at this ⊢;omega
 have h1:=(h.rows.perm hp).apart (g:=x) c;refine⟨?_,fun e=>h1 (Nj.2 ⟨yo bt.ov bt.ops,.head _,e⟩)⟩;rintro rfl;exact h1 (Nj.2 ⟨zd v l,.tail _ (.head _),h.gb⟩)
theorem SpSt.farE {k:Nat}{o:IEdge}{av:Value}(hk:bt.tos[k]? =some (o,av)){x:Nat}(c:av.ownBlock=some x):x≠g/\bt.tv.ownBlock≠some x:=by
 have p1:(ve bt.tos).Perm (zP av o.args::(bt.tos.eraseIdx k).map fun o=>zP o.2 o.1.args):=tT (fun o:IEdge×Value=>zP o.2 o.1.args) hk;generalize (bt.tos.eraseIdx k).map (fun o=>zP o.2 o.1.args)=E at p1
 classical
 have c1:=Jp.1 p1
 have hp:(zd v l::(bt.rows++rs)).Perm (zP av o.args::(xg bt.tv bt.tos::(zd v l::zP bt.pv bt.params::yo bt.ov bt.ops::(wI bt.ops++E)++rs))):=by
  unfold BT.rows;refine Jp.2 fun r=>?_
  have:=c1 r;simp only[Nb,Nf] at this ⊢;omega
 have h1:=(h.rows.perm hp).apart (g:=x) c;refine⟨?_,fun e=>h1 (Nj.2 ⟨xg bt.tv bt.tos,.head _,e⟩)⟩;rintro rfl;exact h1 (Nj.2 ⟨zd v l,.tail _ (.head _),h.gb⟩)
end
theorem spoil_0 {w:World}{B g i:Nat}{v:Value}{bt:BT}{l:List BT}{rs:List Row}(h:SpSt w B g i v bt l rs){n:Nat}(hn:n<65536)(hz:SzB bt)(a1:0<bt.ops.length):
 Y 45 #[.pointer (some ⟨g,i*5,none⟩),A 0,A n] w (uE w B g i v bt l rs 0 n):=by
 have d:w.ownsRow B 77 6 bt.ov bt.ops.length (bt.ops.flatMap zU):=h.rows.own _ (.tail _ (Jz _ (.tail _ (.head _))));obtain⟨xa,oc,m⟩:=zG d;have c:=d;rw[m] at c;have a4:=(zm c).1;obtain⟨ob,oc2,a3,a6,a5⟩:=c.form a1;cases a3;have y:bt.ov.ownBlock=some ob:=by rw[m];rfl
 obtain⟨k,u⟩:∃k,n%bt.ops.length=k:=⟨_,rfl⟩
 have hk:k<bt.ops.length:=by rw[<-u];exact Qj _ a1
 have b0:(n:Int)%(bt.ops.length:Int)=(k:Int):=by rw[<-u];exact(Ou _ _).symm
 obtain⟨⟨o,av⟩,t⟩:∃x,bt.ops[k]? =some x:=⟨_,Jd hk⟩
 have a2:=z9 zX (h.rows.own _ (.head _)) h.gb h.at';have c1:G w g (i*5+1) (N ob bt.ops.length oc):=by rw[<-m];exact a2 1 _ rfl
 have gl:=((h.rows.own _ (.head _)).lt g h.gb).2;have a0:=z9 z7 d y t;have a7:=hz.ops;have oc':G w ob (k*6) _:=a0 0 _ rfl;have of:T w ob (k*6):=(zq Zd z7 d y t 0 Zd).2;have HH:=Ja (Jb h (Jb y (Jb t u)));clear h d c m y t u a2 a0 hz a4;go_enter Try.func45,Try.ntmps45;go_wp2
 first|go_end0|refine bodyPost_ret (results_none rfl _ _ _) rfl ?_
 refine⟨rfl,_,HH.out.1.setO HH.out.2.1 HH.out.2.2.1 (j:=0) (o':=spO 0 n o) Zd ?_ rfl,ws Zd HH.out.2.2.1 HH.out.2.2.2,(xJ (a:=⟨ob,k*6,none⟩) (r:=yo bt.ov bt.ops) HH.out.2.1).one (wZ v l bt)⟩;rfl
theorem spoil_1 {w:World}{B g i:Nat}{v:Value}{bt:BT}{l:List BT}{rs:List Row}(h:SpSt w B g i v bt l rs){n:Nat}(hn:n<65536)(hz:SzB bt)(a1:0<bt.ops.length):
 Y 45 #[.pointer (some ⟨g,i*5,none⟩),A 1,A n] w (uE w B g i v bt l rs 1 n):=by
 have d:w.ownsRow B 77 6 bt.ov bt.ops.length (bt.ops.flatMap zU):=h.rows.own _ (.tail _ (Jz _ (.tail _ (.head _))));obtain⟨xa,oc,m⟩:=zG d;have c:=d;rw[m] at c;have a4:=(zm c).1;obtain⟨ob,oc2,a3,a6,a5⟩:=c.form a1;cases a3;have y:bt.ov.ownBlock=some ob:=by rw[m];rfl
 obtain⟨k,u⟩:∃k,n%bt.ops.length=k:=⟨_,rfl⟩
 have hk:k<bt.ops.length:=by rw[<-u];exact Qj _ a1
 have b0:(n:Int)%(bt.ops.length:Int)=(k:Int):=by rw[<-u];exact(Ou _ _).symm
 obtain⟨⟨o,av⟩,t⟩:∃x,bt.ops[k]? =some x:=⟨_,Jd hk⟩
 have a2:=z9 zX (h.rows.own _ (.head _)) h.gb h.at';have c1:G w g (i*5+1) (N ob bt.ops.length oc):=by rw[<-m];exact a2 1 _ rfl
 have gl:=((h.rows.own _ (.head _)).lt g h.gb).2;have a0:=z9 z7 d y t;have a7:=hz.ops;have oc':G w ob (k*6+1) _:=a0 1 _ rfl;have of:T w ob (k*6+1):=(zq Zd z7 d y t 1 Zd).2;have HH:=Ja (Jb h (Jb y (Jb t u)));clear h d c m y t u a2 a0 hz a4;go_enter Try.func45,Try.ntmps45;go_wp2
 first|go_end0|refine bodyPost_ret (results_none rfl _ _ _) rfl ?_
 refine⟨rfl,_,HH.out.1.setO HH.out.2.1 HH.out.2.2.1 (j:=1) (o':=spO 1 n o) Zd ?_ rfl,ws Zd HH.out.2.2.1 HH.out.2.2.2,(xJ (a:=⟨ob,k*6+1,none⟩) (r:=yo bt.ov bt.ops) HH.out.2.1).one (wZ v l bt)⟩;rfl
theorem spoil_2 {w:World}{B g i:Nat}{v:Value}{bt:BT}{l:List BT}{rs:List Row}(h:SpSt w B g i v bt l rs){n:Nat}(hn:n<65536)(hz:SzB bt)(a1:0<bt.ops.length):
 Y 45 #[.pointer (some ⟨g,i*5,none⟩),A 2,A n] w (uE w B g i v bt l rs 2 n):=by
 have d:w.ownsRow B 77 6 bt.ov bt.ops.length (bt.ops.flatMap zU):=h.rows.own _ (.tail _ (Jz _ (.tail _ (.head _))));obtain⟨xa,oc,m⟩:=zG d;have c:=d;rw[m] at c;have a4:=(zm c).1;obtain⟨ob,oc2,a3,a6,a5⟩:=c.form a1;cases a3;have y:bt.ov.ownBlock=some ob:=by rw[m];rfl
 obtain⟨k,u⟩:∃k,n%bt.ops.length=k:=⟨_,rfl⟩
 have hk:k<bt.ops.length:=by rw[<-u];exact Qj _ a1
 have b0:(n:Int)%(bt.ops.length:Int)=(k:Int):=by rw[<-u];exact(Ou _ _).symm
 obtain⟨⟨o,av⟩,t⟩:∃x,bt.ops[k]? =some x:=⟨_,Jd hk⟩
 have a2:=z9 zX (h.rows.own _ (.head _)) h.gb h.at';have c1:G w g (i*5+1) (N ob bt.ops.length oc):=by rw[<-m];exact a2 1 _ rfl
 have gl:=((h.rows.own _ (.head _)).lt g h.gb).2;have a0:=z9 z7 d y t;have a7:=hz.ops;have oc':G w ob (k*6+2) _:=a0 2 _ rfl;have of:T w ob (k*6+2):=(zq Zd z7 d y t 2 Zd).2;have HH:=Ja (Jb h (Jb y (Jb t u)));clear h d c m y t u a2 a0 hz a4;go_enter Try.func45,Try.ntmps45;go_wp2
 first|go_end0|refine bodyPost_ret (results_none rfl _ _ _) rfl ?_
 refine⟨rfl,_,HH.out.1.setO HH.out.2.1 HH.out.2.2.1 (j:=2) (o':=spO 2 n o) Zd ?_ rfl,ws Zd HH.out.2.2.1 HH.out.2.2.2,(xJ (a:=⟨ob,k*6+2,none⟩) (r:=yo bt.ov bt.ops) HH.out.2.1).one (wZ v l bt)⟩;rfl
theorem spoil_3 {w:World}{B g i:Nat}{v:Value}{bt:BT}{l:List BT}{rs:List Row}(h:SpSt w B g i v bt l rs){n:Nat}(hn:n<65536)(hz:SzB bt)(a1:0<bt.ops.length):
 Y 45 #[.pointer (some ⟨g,i*5,none⟩),A 3,A n] w (uE w B g i v bt l rs 3 n):=by
 have d:w.ownsRow B 77 6 bt.ov bt.ops.length (bt.ops.flatMap zU):=h.rows.own _ (.tail _ (Jz _ (.tail _ (.head _))));obtain⟨xa,oc,m⟩:=zG d;have c:=d;rw[m] at c;have a4:=(zm c).1;obtain⟨ob,oc2,a3,a6,a5⟩:=c.form a1;cases a3;have y:bt.ov.ownBlock=some ob:=by rw[m];rfl
 obtain⟨k,u⟩:∃k,n%bt.ops.length=k:=⟨_,rfl⟩
 have hk:k<bt.ops.length:=by rw[<-u];exact Qj _ a1
 have b0:(n:Int)%(bt.ops.length:Int)=(k:Int):=by rw[<-u];exact(Ou _ _).symm
 obtain⟨⟨o,av⟩,t⟩:∃x,bt.ops[k]? =some x:=⟨_,Jd hk⟩
 have a2:=z9 zX (h.rows.own _ (.head _)) h.gb h.at';have c1:G w g (i*5+1) (N ob bt.ops.length oc):=by rw[<-m];exact a2 1 _ rfl
 have gl:=((h.rows.own _ (.head _)).lt g h.gb).2;have a0:=z9 z7 d y t;have a7:=hz.ops;have oc':G w ob (k*6+3) _:=a0 3 _ rfl;have of:T w ob (k*6+3):=(zq Zd z7 d y t 3 Zd).2;have HH:=Ja (Jb h (Jb y (Jb t u)));clear h d c m y t u a2 a0 hz a4;go_enter Try.func45,Try.ntmps45;go_wp2
 first|go_end0|refine bodyPost_ret (results_none rfl _ _ _) rfl ?_
 refine⟨rfl,_,HH.out.1.setO HH.out.2.1 HH.out.2.2.1 (j:=3) (o':=spO 3 n o) Zd ?_ rfl,ws Zd HH.out.2.2.1 HH.out.2.2.2,(xJ (a:=⟨ob,k*6+3,none⟩) (r:=yo bt.ov bt.ops) HH.out.2.1).one (wZ v l bt)⟩;rfl
theorem spoil_4 {w:World}{B g i:Nat}{v:Value}{bt:BT}{l:List BT}{rs:List Row}(h:SpSt w B g i v bt l rs){n:Nat}(hn:n<65536)(hz:SzB bt)(a1:0<bt.ops.length):
 Y 45 #[.pointer (some ⟨g,i*5,none⟩),A 4,A n] w (uE w B g i v bt l rs 4 n):=by
 have d:w.ownsRow B 77 6 bt.ov bt.ops.length (bt.ops.flatMap zU):=h.rows.own _ (.tail _ (Jz _ (.tail _ (.head _))));obtain⟨xa,oc,m⟩:=zG d;have c:=d;rw[m] at c;have a4:=(zm c).1;obtain⟨ob,oc2,a3,a6,a5⟩:=c.form a1;cases a3;have y:bt.ov.ownBlock=some ob:=by rw[m];rfl
 obtain⟨k,u⟩:∃k,n%bt.ops.length=k:=⟨_,rfl⟩
 have hk:k<bt.ops.length:=by rw[<-u];exact Qj _ a1
 have b0:(n:Int)%(bt.ops.length:Int)=(k:Int):=by rw[<-u];exact(Ou _ _).symm
 obtain⟨⟨o,av⟩,t⟩:∃x,bt.ops[k]? =some x:=⟨_,Jd hk⟩
 have a2:=z9 zX (h.rows.own _ (.head _)) h.gb h.at';have c1:G w g (i*5+1) (N ob bt.ops.length oc):=by rw[<-m];exact a2 1 _ rfl
 have gl:=((h.rows.own _ (.head _)).lt g h.gb).2;have a0:=z9 z7 d y t;have a7:=hz.ops;have oc':G w ob (k*6+4) _:=a0 4 _ rfl;have of:T w ob (k*6+4):=(zq Zd z7 d y t 4 Zd).2;have HH:=Ja (Jb h (Jb y (Jb t u)));clear h d c m y t u a2 a0 hz a4;go_enter Try.func45,Try.ntmps45;go_wp2
 first|go_end0|refine bodyPost_ret (results_none rfl _ _ _) rfl ?_
 refine⟨rfl,_,HH.out.1.setO HH.out.2.1 HH.out.2.2.1 (j:=4) (o':=spO 4 n o) Zd ?_ rfl,ws Zd HH.out.2.2.1 HH.out.2.2.2,(xJ (a:=⟨ob,k*6+4,none⟩) (r:=yo bt.ov bt.ops) HH.out.2.1).one (wZ v l bt)⟩;rfl
section
variable {P:Program} {ops:Array Oper} {Q:Exit->Act->World->Prop} {md:Region.Mode} {S:World->Prop} {L:Nat}
def uO (P:Program)(md:Region.Mode)(ops:Array Oper)(Q:Exit->Act->World->Prop)(S:World->Prop)(L:Nat):Nat->Array Bool->Act->World->Prop
 |0,listed,a,w=>Region.ready md ops listed=[]/\Q .normal a w
 |fuel+1,listed,a,w=>
  (Region.ready md ops listed=[]->Q .normal a w)/\
  ∀i∈Region.ready md ops listed,wpOp P ops Q i (fun a' w'=>(i≠L->S w')/\uO P md ops Q S L fuel (listed.setIfInBounds i true) a' w') a w
theorem pL:∀(fuel:Nat) (listed:Array Bool) (a:Act) (w:World),uO P md ops Q S L fuel listed a w->wpAny P md ops Q fuel listed a w
 |0,_,_,_,h=>h
 |fuel+1,_,_,_,h=>⟨h.1,fun i hi=>wpOp_mono (fun a' w' h'=>pL fuel _ a' w' h'.2) (h.2 i hi)⟩
def mw (md:Region.Mode)(ops:Array Oper)(L i:Nat):Bool:=((ops[L]?).map fun o=>o.after.any fun e=>Region.binds md e && e.on==i).getD false
theorem waits_ne {i j:Nat}{c:Array Bool}(d:mw md ops L i=true)(hi:c.getD i true=false)(l:j∈Region.ready md ops c):j≠L:=by
 rintro rfl;obtain⟨_,oj,k,g⟩:=mem_ready.1 l;unfold mw at d;rw[k] at d;obtain⟨e,m,hb⟩:=Array.any_eq_true'.1 d;simp only[Jm,beq_iff_eq] at hb;have h1:=g e m hb.1;rw[hb.2] at h1;rcases Nat.lt_or_ge i c.size with h|h
 ·simp[h] at hi h1;rw[hi] at h1;cases h1
 ·simp[Array.getElem?_eq_none h] at h1
theorem nD {i:Nat}{oi:Oper}{v:Value}(hi:ops[i]? =some oi)(a2:mw md ops L i=true)(l:∀(j:Nat) (o:Oper) cs b,ops[j]? =some o->o.op≠ .select cs b)
 (hQ:∀c a w,Q (.panic c) (a.put oi.dst v) w->Q (.panic c) a w):
 ∀(fuel:Nat) (listed:Array Bool) (a:Act) (w:World),
  (∀j oj,ops[j]? =some oj->j≠i->listed.getD j true=false->(∀e∈oj.after,Region.binds md e=true->e.on≠i)->oi.apart ops oj=true)->
  i∈Region.ready md ops listed->YieldsIf P ops S oi v a->S w->
  uO P md ops Q S L fuel (listed.setIfInBounds i true) (a.put oi.dst v) w->uO P md ops Q S L (fuel+1) listed a w:=by
 intro fuel
 induction fuel with
 |zero=>
  intro listed a w _ hr x u H;refine⟨fun h=>(by rw[h] at hr;cases hr),fun j hj=>?_⟩
  by_cases d:j=i
  ·subst d;exact x.wpOp hi u ⟨fun _=>u,H⟩
  ·have:=ready_mono hj d;rw[H.1] at this
   cases this
 |succ fuel ih=>
  intro listed a w g hr x u H;refine⟨fun h=>(by rw[h] at hr;cases hr),fun j hj=>?_⟩
  by_cases d:j=i
  ·subst d;exact x.wpOp hi u ⟨fun _=>u,H⟩
  ·have h1:=H.2 j (ready_mono hj d);have a3:j≠L:=waits_ne a2 (mem_ready.1 hr).1 hj;obtain⟨r,oj,m,a1⟩:=mem_ready.1 hj
   have a0:∀e∈oj.after,Region.binds md e=true->e.on≠i:=fun e he hb heq=>by
    have h1:=a1 e he hb;have h0:=(mem_ready.1 hr).1;rw[heq] at h1;rcases Nat.lt_or_ge i listed.size with h'|h'
    ·simp[h'] at h0 h1;rw[h0] at h1;cases h1
    ·simp[Array.getElem?_eq_none h'] at h1
   have h2:=wpOp_putIf m (g j oj m d r a0) (fun cs b=>l i oi cs b hi) (fun cs b=>l j oj cs b m) hQ x h1
   have t:∀k ok,ops[k]? =some ok->k≠i->(listed.setIfInBounds j true).getD k true=false->
    (∀e∈ok.after,Region.binds md e=true->e.on≠i)->oi.apart ops ok=true:=fun k ok hk hki hun hno=>by
    refine g k ok hk hki ?_ hno
    by_cases y:j=k
    ·subst y;exact r
    ·rw[getD_set_ne true y] at hun;exact hun
   refine wpOp_mono (fun a' w' h3=>⟨h3.2.1,ih (listed.setIfInBounds j true) a' w' t (ready_mono hr (Ne.symm d)) h3.1 (h3.2.1 a3) ?_⟩) h2;rw[Array.setIfInBounds_comm _ _ d];exact h3.2.2
theorem zF {i:Nat}{oi:Oper}{v:Value}{fuel:Nat}{d:Array Bool}{a:Act}{w:World}(hi:ops[i]? =some oi)(g:mw md ops L i=true)
 (hs:Region.noSelect ops=true) (hf:Region.free md ops d i=true) (hr:(Region.ready md ops d).contains i=true)
 (l:∀c a w,Q (.panic c) (a.put oi.dst v) w->Q (.panic c) a w) (j:YieldsIf P ops S oi v a) (k:S w)
 (h:uO P md ops Q S L fuel (d.setIfInBounds i true) (a.put oi.dst v) w):uO P md ops Q S L (fuel+1) d a w:=
 nD hi g (Region.noSelect_spec hs) l fuel d a w (Region.free_spec hi hf) (by simpa using hr) j k h
theorem Tl (i:Nat){oi:Oper}{v:Value}{fuel:Nat}{d:Array Bool}{a:Act}{w:World}(h:uO P md ops Q S L fuel (d.setIfInBounds i true) (a.put oi.dst v) w)(hi:ops[i]? =some oi:=by rfl)(g:mw md ops L i=true:=by kernel_rfl)
 (hs:Region.noSelect ops=true:=by kernel_rfl) (hf:Region.free md ops d i=true:=by kernel_rfl) (hr:(Region.ready md ops d).contains i=true:=by kernel_rfl)
 (l:∀c a w,Q (.panic c) (a.put oi.dst v) w->Q (.panic c) a w:=by exact fun _ _ _ h=>h) (j:YieldsIf P ops S oi v a:=by exact Or.inl ⟨by rfl,by intro w hSw;(try dsimp only at hSw);go_simp;try with_reducible rfl⟩) (k:S w:=by assumption):uO P md ops Q S L (fuel+1) d a w:=
 zF hi g hs hf hr l j k h
def zS (P:Program)(md:Region.Mode)(ops:Array Oper)(Q:Exit->Act->World->Prop)(S:World->Prop)(L:Nat)(fuel:Nat)(listed:Array Bool)(a:Act)(w:World)(rs:List Nat):Prop:=
 ∀i∈rs,wpOp P ops Q i (fun a' w'=>(i≠L->S w')/\uO P md ops Q S L fuel (listed.setIfInBounds i true) a' w') a w
theorem zS.nil {fuel:Nat}{c:Array Bool}{a:Act}{w:World}:zS P md ops Q S L fuel c a w []:=fun _ h=>by cases h
theorem zS.cons {fuel:Nat}{c:Array Bool}{a:Act}{w:World}{i:Nat}{o:Oper}{rs:List Nat}(ho:ops[i]? =some o)
 (h:∀K':Act->World->Prop,Shut (∀a w,S w->(S w->uO P md ops Q S L fuel (c.setIfInBounds i true) a w)->K' a w)->if Region.wanted o (yielded ops a.tmps)=true then Oper.wp P o a w K' Q else K' (a.put o.dst undef) w)
 (hs:zS P md ops Q S L fuel c a w rs):zS P md ops Q S L fuel c a w (i::rs):=fun j d=>by
 rcases Jq.1 d with rfl|d
 ·exact wpOp_step ho (fun K' hK=>h K' (fun a w hS hW=>hK a w ⟨fun _=>hS,hW hS⟩))
 ·exact hs j d
theorem zS.last {fuel:Nat}{c:Array Bool}{a:Act}{w:World}{o:Oper}(ho:ops[L]? =some o)
 (h:∀K':Act->World->Prop,Shut (∀a w,uO P md ops Q S L fuel (c.setIfInBounds L true) a w->K' a w)->if Region.wanted o (yielded ops a.tmps)=true then Oper.wp P o a w K' Q else K' (a.put o.dst undef) w):
 zS P md ops Q S L fuel c a w [L]:=fun j d=>by
 rcases Jq.1 d with rfl|d
 ·exact wpOp_step ho (fun K' hK=>h K' (fun a w hW=>hK a w ⟨fun e=>absurd rfl e,hW⟩))
 ·cases d
theorem z8 {rs:List Nat}{fuel:Nat}{c:Array Bool}{a:Act}{w:World}(hr:Region.ready md ops c=rs)(d:rs≠ [])
 (h:zS P md ops Q S L fuel c a w rs):uO P md ops Q S L (fuel+1) c a w:=⟨fun h0=>absurd (hr ▸ h0) d,hr ▸ h⟩
theorem xj {listed:Array Bool}{a:Act}{w:World}(hr:Region.ready md ops listed=[])(h:Q .normal a w):∀fuel,uO P md ops Q S L fuel listed a w
 |0=>⟨hr,h⟩
 |_+1=>⟨fun _=>h,by rw[hr];simp⟩
theorem yQ {id:Nat}{a:Act}{w:World}(L:Nat)(hm:P.follows .mixedOrders=true)(c:S w.drew)
 (h:S w.drew->uO P .any ops Q S L ops.size (Array.replicate ops.size false) a w.drew):(Code.region id ops true).wp P Q a w:=
 wp_region_any hm (pL _ _ _ _ (h c))
end
structure SwMid (w:World) (B g i:Nat) (v:Value) (bt:BT) (l:List BT) (rs:List Row) (ob k j:Nat) (o:IOp) (av:Value) (o2:IOp) (av2:Value) (oc:Nat) (wx:World):Prop where
 rows:Rows wx B (yo bt.ov (bt.ops.set k (o2,av2))::(zd v l::zP bt.pv bt.params::xg bt.tv bt.tos::(wI bt.ops++ve bt.tos)++rs))
 blk:wx.heap[w.heap.size]? =some (.cells (zU (o,av)).toArray 77 (0,0))
 chg:Chg w (zd v l::bt.rows) wx
 c1:wx.cell? ⟨g,i*5+1,none⟩=some (.slice (some ⟨ob,0,none⟩) bt.ops.length oc)
 cell:∀ {q:Nat},q<6->∃u,wx.cell? ⟨ob,j*6+q,none⟩=some u
 free:∀ {q:Nat},q<6->wx.frozen? ⟨ob,j*6+q,none⟩=false
 lt:w.heap.size<wx.heap.size/\g<wx.heap.size/\ob<wx.heap.size
theorem SwMid.box {w:World}{B g i:Nat}{v:Value}{bt:BT}{l:List BT}{rs:List Row}{ob k j:Nat}{o:IOp}{av:Value}{o2:IOp}{c:Value}{oc:Nat}{wx:World}(m:SwMid w B g i v bt l rs ob k j o av o2 c oc wx){q:Nat}{u:Value}(h:(zU (o,av))[q]? =some u):G wx w.heap.size q u:=
 zA m.blk (by rw[List.getElem?_toArray];exact h)
theorem mR {w:World}{b o:Nat}{vs:List Value}{r:Row}(h:r.blk=some b):Chg w [r] (w.setCells b o vs):=
 ⟨(ze b vs o w).1,(ze b vs o w).2.1,(ze b vs o w).2.2,Ul (y8 b vs o w).symm,fun k hk hn=>ye b k (fun e=>hn (by rw[Nj];exact⟨r,.head _,by rw[h,e]⟩)) vs o w⟩
theorem iP {α β:Type}(f:α->β){l:List α}{k j:Nat}{x y:α}(hk:l[k]? =some x)(h:l[j]? =some y):(((l.set k y).set j x).map f).Perm (l.map f):=by
 have c:=(Jh.1 hk).1;have d:=(Jh.1 h).1
 have g:(l.set k y)[j]? =some y:=by
  by_cases e:k=j
  ·subst e;rw[Nn c]
  ·rw[Ns e];exact h
 have h1:=rM f (l:=l.set k y) (k:=j) (by rw[Nd];exact d) x;have h2:=tT f g;have h3:=rM f c y;have m:=tT f hk;have i:((l.set k y).eraseIdx j).map f|>.Perm ((l.eraseIdx k).map f):=(List.perm_cons (f y)).1 (h2.symm.trans h3)
 exact(h1.trans (i.cons _)).trans m.symm
section
variable {w:World} {B g i:Nat} {v:Value} {bt:BT} {l:List BT} {rs:List Row} (h:SpSt w B g i v bt l rs)
include h
theorem swMid_of {ob k j oc:Nat}{o o2:IOp}{av c:Value}(d:bt.ov.ownBlock=some ob)(hk:bt.ops[k]? =some (o,av))(hj:bt.ops[j]? =some (o2,c))(a0:bt.ov=N ob bt.ops.length oc)(a2:g≠ob):
 SwMid w B g i v bt l rs ob k j o av o2 c oc (((w.setCells ob (k*6) (zU (o2,c))).alloc (U (zU (o,av)).toArray 77)).drew):=by
 have hp:(zd v l::(bt.rows++rs)).Perm (yo bt.ov bt.ops::(zd v l::zP bt.pv bt.params::xg bt.tv bt.tos::(wI bt.ops++ve bt.tos)++rs)):=by
  classical
  unfold BT.rows;refine Jp.2 fun r=>?_
  simp only[Nb,Nf];omega
 have h1:=putO (x:=(o2,c)) d (h.rows.perm hp) hk rfl;have hb:F (w.setCells ob (k*6) (zU (o2,c))) (((w.setCells ob (k*6) (zU (o2,c))).alloc (U (zU (o,av)).toArray 77)).drew):=((Below.refl _ _).alloc (Je _) _).drew;have h2:=h1.below hb;have t:=y8 ob (zU (o2,c)) (k*6) w;have u:∃y,(bt.ops.set k (o2,c))[j]? =some y:=⟨_,Jd (by rw[Nd];exact(Jh.1 hj).1)⟩
 obtain⟨y,hy⟩:=u;have m:=zq (n:=6) Zd z7 (h2.own _ (.head _)) d hy;have hl:=h.rows.own _ (.head _);have a1:=(hl.lt g h.gb).2;have a3:=hb.size;refine⟨h2,zI (W:=w.setCells ob (k*6) (zU (o2,c))) t,?_,?_,fun {q} hq=>?_,fun {q} hq=>(m q hq).2,?_⟩
 ·exact((mR (r:=yo bt.ov bt.ops) d).one (wZ v l bt)).trans (Chg.below hb)
 ·have:=z9 zX (h2.own (zd v l) (.tail _ (.head _))) h.gb h.at' 1 _ rfl;rw[this,a0]
 ·exact Option.isSome_iff_exists.1 (m q hq).1
 ·have h6:=((h.rows.perm hp).own _ (.head _)).lt ob d;have h7:=lt_of_block (zI (W:=w.setCells ob (k*6) (zU (o2,c))) (o:=U (zU (o,av)).toArray 77) t);exact⟨h7,Nat.lt_trans a1 h7,Nat.lt_trans h6.2 h7⟩
theorem SwMid.close {ob k j oc n:Nat}{o o2:IOp}{av c:Value}{wx:World}(m:SwMid w B g i v bt l rs ob k j o av o2 c oc wx)(d:bt.ov.ownBlock=some ob)(hk:bt.ops[k]? =some (o,av))(t:bt.ops[j]? =some (o2,c))(a0:n%bt.ops.length=k)(a1:n/7%bt.ops.length=j):
 uE w B g i v bt l rs 6 n (.returned (.tuple #[])) ((wx.setCells ob (j*6) (zU (o,av))).drew):=by
 have u:∃y,(bt.ops.set k (o2,c))[j]? =some y:=⟨_,Jd (by rw[Nd];exact(Jh.1 t).1)⟩
 obtain⟨y,hy⟩:=u;have h1:=(putO (x:=(o,av)) d m.rows hy rfl).below ((Below.refl _ _).drew);have hs:(wI ((bt.ops.set k (o2,c)).set j (o,av))).Perm (wI bt.ops):=iP (fun o:IOp×Value=>zP o.2 o.1.args) hk t;refine⟨rfl,{bt with ops:=(bt.ops.set k (o2,c)).set j (o,av)},h.sub rfl (h1.perm ?_),?_,?_⟩
 ·classical
  have c1:=Jp.1 hs;unfold BT.rows;refine Jp.2 fun r=>?_
  have:=c1 r;simp only[Nb,Nf] at this ⊢;omega
 ·have a2:=(Jh.1 hk).1;unfold xh BT.blk;simp only[Nr];rw[if_pos Zo,if_neg Zo,if_pos (by trivial),a0,a1,Jr,hk,Jr,t];simp only[Option.map_some,Ox]
 ·exact m.chg.trans (((mR (r:=yo bt.ov bt.ops) d).one (wZ v l bt)).trans (Chg.below ((Below.refl _ _).drew)))
end
theorem spoil_6 {w:World}{B g i:Nat}{v:Value}{bt:BT}{l:List BT}{rs:List Row}(h:SpSt w B g i v bt l rs){n:Nat}(hn:n<65536)(hz:SzB bt)(b0:0<bt.ops.length):
 Y 45 #[.pointer (some ⟨g,i*5,none⟩),A 6,A n] w (uE w B g i v bt l rs 6 n):=by
 have c:w.ownsRow B 77 6 bt.ov bt.ops.length (bt.ops.flatMap zU):=h.rows.own _ (.tail _ (Jz _ (.tail _ (.head _))));obtain⟨xa,oc,a3⟩:=zG c;have y:=c;rw[a3] at y;have b8:=(zm y).1;obtain⟨ob,oc2,b7,c9,b5⟩:=y.form b0;cases b7;have a2:bt.ov.ownBlock=some ob:=by rw[a3];rfl
 obtain⟨k,a6⟩:∃k,n%bt.ops.length=k:=⟨_,rfl⟩
 have hk:k<bt.ops.length:=by rw[<-a6];exact Qj _ b0
 have d2:(n:Int)%(bt.ops.length:Int)=(k:Int):=by rw[<-a6];exact(Ou _ _).symm
 obtain⟨⟨o,av⟩,a4⟩:∃x,bt.ops[k]? =some x:=⟨_,Jd hk⟩
 have b2:=z9 zX (h.rows.own _ (.head _)) h.gb h.at';have c1:G w g (i*5+1) (N ob bt.ops.length oc):=by rw[<-a3];exact b2 1 _ rfl
 have gl:=((h.rows.own _ (.head _)).lt g h.gb).2;have a1:=z9 z7 c a2 a4;have d0:=hz.ops;obtain⟨j,a7⟩:∃j,n/7%bt.ops.length=j:=⟨_,rfl⟩
 have hj:j<bt.ops.length:=by rw[<-a7];exact Qj _ b0
 have b9:(n:Int)/7%(bt.ops.length:Int)=(j:Int):=by rw[<-a7];simp
 have d1:((n:Int)/7).tmod (bt.ops.length:Int)=(j:Int):=by rw[Qc Zo];exact b9
 obtain⟨⟨o2,av2⟩,a5⟩:∃x,bt.ops[j]? =some x:=⟨_,Jd hj⟩
 have b3:w.ownsRow B 3 1 av o.args.length (o.args.map zN):=h.rows.own (zP av o.args) (.tail _ (Jz _ (.tail _ (.tail _ (.tail _ (Jz _ (Oj (Ji a4))))))));have b1:w.ownsRow B 3 1 av2 o2.args.length (o2.args.map zN):=h.rows.own (zP av2 o2.args) (.tail _ (Jz _ (.tail _ (.tail _ (.tail _ (Jz _ (Oj (Ji a5))))))));obtain⟨aa,ac,rfl⟩:=zG b3;obtain⟨aa2,ac2,rfl⟩:=zG b1;have d:=z9 z7 c a2 a5;have a0:=zq Zd z7 c a2 a4;have b4:=zq Zd z7 c a2 a5;have m:ob<w.heap.size:=b5;have k0:G w ob (k*6) (A o.code):=a1 0 _ rfl;have k1:G w ob (k*6+1) (A o.res):=a1 1 _ rfl;have k2:G w ob (k*6+2) (A o.a):=a1 2 _ rfl;have k3:G w ob (k*6+3) (A o.b):=a1 3 _ rfl;have k4:G w ob (k*6+4) (I (o.n:Int)):=a1 4 _ rfl;have k5:G w ob (k*6+5) (.slice aa o.args.length ac):=a1 5 _ rfl;have j0:G w ob (j*6) (A o2.code):=d 0 _ rfl;have j1:G w ob (j*6+1) (A o2.res):=d 1 _ rfl;have j2:G w ob (j*6+2) (A o2.a):=d 2 _ rfl;have j3:G w ob (j*6+3) (A o2.b):=d 3 _ rfl;have j4:G w ob (j*6+4) (I (o2.n:Int)):=d 4 _ rfl;have j5:G w ob (j*6+5) (.slice aa2 o2.args.length ac2):=d 5 _ rfl;have c7:T w ob (k*6):=(a0 0 Zd).2;have c5:T w ob (k*6+1):=(a0 1 Zd).2;have c4:T w ob (k*6+2):=(a0 2 Zd).2;have c3:T w ob (k*6+3):=(a0 3 Zd).2;have c2:T w ob (k*6+4):=(a0 4 Zd).2;have c0:T w ob (k*6+5):=(a0 5 Zd).2;have hB:B<=w.heap.size:=by have:=(h.rows.own _ (.head _)).lt g h.gb;omega
 have b6:g≠ob:=fun e=>by
  have hp:(zd v l::(bt.rows++rs)).Perm (yo bt.ov bt.ops::(zd v l::zP bt.pv bt.params::xg bt.tv bt.tos::(wI bt.ops++ve bt.tos)++rs)):=by
   classical
   unfold BT.rows;refine Jp.2 fun r=>?_
   simp only[Nb,Nf];omega
  exact(h.rows.perm hp).apart (g:=ob) a2 (Nj.2 ⟨zd v l,.head _,by rw[<-e];exact h.gb⟩)
 have t:=Ja (Jb h (Jb a2 (Jb a4 (Jb a5 (Jb a6 (Jb a7 (Jb a3 b6)))))));clear h c y a3 a2 a4 a6 b2 a1 hz b8 a5 a7 d a0 b4 b3 b1;go_enter Try.func45,Try.ntmps45;go_upto_region 18 with fail
 go_cut [6] (fun s6 wx=>s6=A k/\Hid (SwMid w B g i v bt l rs ob k j o (.slice aa o.args.length ac) o2 (.slice aa2 o2.args.length ac2) oc wx))
 case first=>
  skip
  refine wp_region_noPanic ?_;refine yQ (S:=(fun w'=>G w' g (i*5+1) (N ob bt.ops.length oc)/\G w' ob (j*6) (A o2.code)/\G w' ob (j*6+1) (A o2.res)/\G w' ob (j*6+2) (A o2.a)/\G w' ob (j*6+3) (A o2.b)/\G w' ob (j*6+4) (I (o2.n:Int))/\G w' ob (j*6+5) (.slice aa2 o2.args.length ac2))) 13 Zk ⟨(Ok w _ _ gl).trans c1,(Ok w _ _ m).trans j0,(Ok w _ _ m).trans j1,(Ok w _ _ m).trans j2,(Ok w _ _ m).trans j3,(Ok w _ _ m).trans j4,(Ok w _ _ m).trans j5⟩ (fun hHeld=>?_);refine Tl 0 ?_
  try simp only[Yp]
  refine Tl 1 ?_
  try simp only[Yp]
  refine Tl 2 ?_
  try simp only[Yp]
  refine Tl 3 ?_
  try simp only[Yp]
  refine Tl 4 ?_
  try simp only[Yp]
  refine Tl 5 ?_
  try simp only[Yp]
  refine Tl 6 ?_
  try simp only[Yp]
  refine Tl 7 ?_
  try simp only[Yp]
  refine Tl 8 ?_
  try simp only[Yp]
  refine Tl 9 ?_
  try simp only[Yp]
  refine Tl 10 ?_
  try simp only[Yp]
  refine Tl 11 ?_
  try simp only[Yp]
  refine Tl 12 ?_
  try simp only[Yp]
  refine z8 (rs:=[13]) Zk Zs ?_;refine zS.last (o:=_) rfl (fun K hK=>?_);go_simp;refine hK.out _ _ ?_;clear hK K
  try simp only[Yp]
  refine xj Zk (NoPanic.normal ?_) _;go_wp2;go_meet;refine⟨rfl,?_⟩;exact Ja (swMid_of t.out.1 t.out.2.1 t.out.2.2.1 t.out.2.2.2.1 t.out.2.2.2.2.2.2.1 t.out.2.2.2.2.2.2.2)
 case rest=>
  obtain⟨rfl,hcut⟩:=hcut;have m1:G wc g (i*5+1) (N ob bt.ops.length oc):=hcut.out.c1;have m2:G wc w.heap.size 0 (A o.code):=hcut.out.box (q:=0) rfl;have m3:G wc w.heap.size 1 (A o.res):=hcut.out.box (q:=1) rfl;have m4:G wc w.heap.size 2 (A o.a):=hcut.out.box (q:=2) rfl;have m5:G wc w.heap.size 3 (A o.b):=hcut.out.box (q:=3) rfl;have m6:G wc w.heap.size 4 (I (o.n:Int)):=hcut.out.box (q:=4) rfl;have m7:G wc w.heap.size 5 (.slice aa o.args.length ac):=hcut.out.box (q:=5) rfl;obtain⟨u0,n0⟩:∃u,G wc ob (j*6) u:=hcut.out.cell (q:=0) Zd;have g0:T wc ob (j*6):=hcut.out.free (q:=0) Zd;obtain⟨u1,n1⟩:∃u,G wc ob (j*6+1) u:=hcut.out.cell (q:=1) Zd;have g1:T wc ob (j*6+1):=hcut.out.free (q:=1) Zd;obtain⟨u2,n2⟩:∃u,G wc ob (j*6+2) u:=hcut.out.cell (q:=2) Zd;have g2:T wc ob (j*6+2):=hcut.out.free (q:=2) Zd;obtain⟨u3,n3⟩:∃u,G wc ob (j*6+3) u:=hcut.out.cell (q:=3) Zd;have g3:T wc ob (j*6+3):=hcut.out.free (q:=3) Zd;obtain⟨u4,n4⟩:∃u,G wc ob (j*6+4) u:=hcut.out.cell (q:=4) Zd;have g4:T wc ob (j*6+4):=hcut.out.free (q:=4) Zd;obtain⟨u5,n5⟩:∃u,G wc ob (j*6+5) u:=hcut.out.cell (q:=5) Zd;have g5:T wc ob (j*6+5):=hcut.out.free (q:=5) Zd;obtain⟨ml1,ml2,ml3⟩:=hcut.out.lt;have c8:=hcut;clear hcut;clear c1 k0 k1 k2 k3 k4 k5 j0 j1 j2 j3 j4 j5 c7 c5 c4 c3 c2 c0;go_wp2;refine wp_region_noPanic ?_;refine yQ (S:=(fun w'=>G w' g (i*5+1) (N ob bt.ops.length oc)/\G w' w.heap.size 0 (A o.code)/\G w' w.heap.size 1 (A o.res)/\G w' w.heap.size 2 (A o.a)/\G w' w.heap.size 3 (A o.b)/\G w' w.heap.size 4 (I (o.n:Int))/\G w' w.heap.size 5 (.slice aa o.args.length ac))) 7 Zk ⟨m1,m2,m3,m4,m5,m6,m7⟩ (fun hHeld=>?_);refine Tl 0 ?_
  try simp only[Yp]
  refine Tl 1 ?_
  try simp only[Yp]
  refine Tl 2 ?_
  try simp only[Yp]
  refine Tl 3 ?_
  try simp only[Yp]
  refine Tl 4 ?_
  try simp only[Yp]
  refine Tl 5 ?_
  try simp only[Yp]
  refine Tl 6 ?_
  try simp only[Yp]
  refine z8 (rs:=[7]) Zk Zs ?_;refine zS.last (o:=_) rfl (fun K hK=>?_);go_simp;refine hK.out _ _ ?_;clear hK K
  try simp only[Yp]
  refine xj Zk (NoPanic.normal ?_) _;go_wp2
  first|go_end0|refine bodyPost_ret (results_none rfl _ _ _) rfl ?_
  exact SwMid.close t.out.1 c8.out t.out.2.1 t.out.2.2.1 t.out.2.2.2.1 t.out.2.2.2.2.1 t.out.2.2.2.2.2.1
def uS (q2:Int):Nat:=(q2%65536).toNat
def yn (q0:Int):Nat:=(q0%20).toNat
def uk (p:IProg)(q1:Int):Nat:=if 0<p.funcs.length then(q1%65536).toNat%p.funcs.length else 0
def turnK (q1:Int)(n len:Nat):Nat:=((q1/65536%65536).toNat+n/64)%len
def lY (r:Nat):Nat:=if r=0 then 16392 else if r=1 then 24575 else if r=2 then 512 else 16896
def xV (m:Nat):ByteArray:=y9 (List.replicate m 0)
def hltB:IBlk:=⟨[],[],⟨5,0,[]⟩⟩
def lW (what:Nat)(q1:Int)(n:Nat)(g:List IBlk):List IBlk:=wD g (turnK q1 n g.length) (xh what n)
def rA (p:IProg)(what n f:Nat)(q1:Int):IProg:=
 if what=13 then {p with args:=p.args++ [(n:Int)%10-1]}
 else if what=14 then {p with entry:=(n:Int)%7-1 }
 else if what=15 then {p with handler:=(n:Int)%7-2 }
 else if what=16 then {p with data:=p.data++ [⟨(n:Int)%4-2,lY (n/4%4),n/16%4⟩]}
 else if what=17 then {p with banks:=p.banks++ [xV (4096-n%3/2)]}
 else if what=18 then {p with funcs:=wD p.funcs f fun g=>if g.length=0 then g else g++ [hltB]}
 else {p with funcs:=wD p.funcs f (lW what q1 n)}
def wR (p:IProg)(q0 q1 q2:Int):IProg:=rA p (yn q0) (uS q2) (uk p q1) q1
theorem yt (n:Int):bits .and .i64 n 65535=n%65536:=by
 have h:(BitVec.ofInt 64 65535).toNat=2^16-1:=by decide
 have c:(BitVec.ofInt 64 n &&& BitVec.ofInt 64 65535).toNat=(n%((2^64:Nat):Int)).toNat%2^16:=by
  rw[BitVec.toNat_and,BitVec.toNat_ofInt,h,Nat.and_two_pow_sub_one_eq_mod]
 show IntKind.i64.wrap ((BitVec.ofInt 64 n &&& BitVec.ofInt 64 65535).toNat:Nat)=n%65536
 rw[c,IntKind.wrap_i64];omega
theorem turnN_lt (q2:Int):uS q2<65536:=by unfold uS;omega
theorem turnW_lt (q0:Int):yn q0<20:=by unfold yn;omega
structure TuMid (w:World) (p1 o5:Nat) (q0 q1 q2:Int) (t:PT) (wx:World):Prop where
 hq:wx.heap[p1+1]? =some (.cells #[.int .i64 q0,.int .i64 q1,.int .i64 q2] 23 (0,0))
 hr:wx.heap[p1+1+1]? =some (.cells #[.slice none 0 0,.slice none 0 0,.int .i64 0,.int .i64 0,.slice none 0 0,.slice none 0 0] 29 (0,0))
 ho:wx.heap[o5]? =some (.cells (zW t).toArray 29 (0,0))
 bel:Below p1 w wx
 base:p1=w.heap.size
 rows:Rows wx (p1+1+1+1) t.rows
 ge:p1+1+1<o5
section
variable {w:World} {p1 o5:Nat} {q0 q1 q2:Int} {t:PT} {wx:World} (h:TuMid w p1 o5 q0 q1 q2 t wx)
include h
theorem TuMid.lt:p1+1+1<wx.heap.size:=lt_of_block h.hr
theorem TuMid.far {b:Nat}{cs:Array Value}(hb:L wx b cs 29):b ∉ t.rows.filterMap Row.blk:=fun hk=>by
 obtain⟨x,d,c⟩:=Nj.1 hk;exact zC (h.rows.own x d) hb (.inr (vr x d)) c
theorem TuMid.farO:o5 ∉ t.rows.filterMap Row.blk:=h.far h.ho
theorem TuMid.below {w':World}(hb:F wx w'):TuMid w p1 o5 q0 q1 q2 t w':=
 ⟨zH hb h.hq (lt_of_block h.hq),zH hb h.hr (lt_of_block h.hr),zH hb h.ho (lt_of_block h.ho),h.bel.trans (hb.mono (by have:=h.lt;omega)),h.base,h.rows.below hb,h.ge⟩
theorem TuMid.set {i:Nat}{u:Value}{t':PT}(c:(zW t).set i u=zW t')(hr:t'.rows=t.rows):TuMid w p1 o5 q0 q1 q2 t' (wx.setCell ⟨o5,i,none⟩ u):=by
 have hg:=h.ge;refine⟨zR h.hq (by show p1+1≠o5;omega),zR h.hr (by show p1+1+1≠o5;omega),by rw[zD h.ho,<-c];simp,h.bel.setCell (by show p1<=o5;omega) _,h.base,?_,h.ge⟩;rw[hr];exact h.rows.keep fun k hk=>Below.heap_setCell _ _ _ _ (fun e=>h.farO (by have e':k=o5:=e;rw[<-e'];exact hk))
theorem TuMid.sub {w':World}{t':PT}{rs:List Row}(c:Chg wx rs w')(hs:∀k,k∈rs.filterMap Row.blk->k∈t.rows.filterMap Row.blk)(g:zW t'=zW t)(hr:Rows w' (p1+1+1+1) t'.rows):TuMid w p1 o5 q0 q1 q2 t' w':=by
 have d:∀k,k∈t.rows.filterMap Row.blk->p1+1+1+1<=k:=fun k hk=>(h.rows.lt hk).1
 have i:=h.ge;have keep:∀k,k<wx.heap.size->k<p1+1+1+1->w'.heap[k]? =wx.heap[k]?:=fun k hk hl=>c.kept k hk (fun e=>by have:=d k (hs k e);omega)
 refine⟨(keep _ (lt_of_block h.hq) Zo).trans h.hq,(keep _ (lt_of_block h.hr) Zo).trans h.hr,?_,?_,h.base,hr,h.ge⟩
 ·rw[g];exact(c.kept _ (lt_of_block h.ho) (fun e=>h.farO (hs _ e))).trans h.ho
 ·have hl:=h.lt;exact h.bel.trans ⟨c.os,c.tape,c.output,c.size,fun k hk=>keep k Zo Zo⟩
theorem TuMid.grow {w1 w9:World}{r r':Row}{rs:List Row}{t':PT}{i:Nat}{u:Value}(hp:t.rows.Perm (r::rs))(c:F wx w1)(hg:w1.grownBy w9 r.blk)
 (g:w9.ownsRow (p1+1+1+1) r'.e r'.sz r'.v r'.n r'.cs) (o:∀k,r'.blk=some k->r.blk=some k∨wx.heap.size<=k) (hq:(r'::rs).Perm t'.rows) (hc:(zW t).set i u=zW t'):TuMid w p1 o5 q0 q1 q2 t' (w9.setCell ⟨o5,i,none⟩ u):=by
 have a0:=h.ge;have hr:=h.rows.perm hp;have h2:=hr.grow c hg g o;have m:∀k,r.blk=some k->k∈t.rows.filterMap Row.blk:=fun k e=>Nj.2 ⟨r,hp.mem_iff.2 (.head _),e⟩
 have keep:∀k,k<wx.heap.size->(k<p1+1+1+1∨k=o5)->w9.heap[k]? =wx.heap[k]?:=fun k hk hl=>(hg.block k (Jy hk c.size) (fun e=>by
  have y:=m k e.symm;rcases hl with hl|rfl
  ·have:=(h.rows.lt y).1;omega
  ·exact h.farO y)).trans (c.block k hk)
 have d:L w9 o5 (zW t).toArray 29:=(keep _ (lt_of_block h.ho) (.inr rfl)).trans h.ho;refine⟨(zR ((keep _ (lt_of_block h.hq) (.inl Zo)).trans h.hq) (by show p1+1≠o5;omega)),(zR ((keep _ (lt_of_block h.hr) (.inl Zo)).trans h.hr) (by show p1+1+1≠o5;omega)),by rw[zD d,<-hc];simp,?_,h.base,?_,h.ge⟩
 ·have hl:=h.lt;refine Below.setCell (h.bel.trans ⟨hg.os.trans c.os,hg.tape.trans c.tape,hg.output.trans c.output,Jn c.size hg.size,fun k hk=>keep k Zo (.inl Zo)⟩) (by show p1<=o5;omega) _
 ·have h3:=h2.perm hq;refine h3.keep fun k hk=>Below.heap_setCell _ _ _ _ (fun e=>?_)
  have e':k=o5:=e;subst e';obtain⟨x,l,j⟩:=Nj.1 hk;exact zC (h3.own x l) d (.inr (vr x l)) j
end
theorem uf {α β:Type}(f:α->List β){l:List α}{k:Nat}{b:α}(hk:l[k]? =some b):(l.flatMap f).Perm (f b++(l.eraseIdx k).flatMap f):=by
 obtain⟨c,hb⟩:=Jh.1 hk
 have e1:l=l.take k++b::l.drop (k+1):=by
  rw[<-hb,Ue,Qi]
 rw[List.eraseIdx_eq_take_drop_succ]
 conv=>lhs;rw[e1]
 classical
 refine Jp.2 fun y=>?_
 simp only[Nx,Qa,Nb];omega
theorem abO {α β:Type}(f:α->List β){l:List α}{k:Nat}(hk:k<l.length)(a:α):((l.set k a).flatMap f).Perm (f a++(l.eraseIdx k).flatMap f):=by
 have h:=uf f (l:=l.set k a) (k:=k) (b:=a) (by rw[Nn hk]);rw[List.eraseIdx_set_eq] at h;exact h
def PT.but (t:PT)(f:Nat):List Row:=wY t.fv t.funcs::zP t.av t.args::vK t.dv t.data::v8 t.bv t.banks::(t.funcs.eraseIdx f).flatMap FT.rows
theorem PT.rows_at {t:PT}{f:Nat}{ft:FT}(hf:t.funcs[f]? =some ft):t.rows.Perm (ft.rows++t.but f):=by
 have h:=uf FT.rows hf
 classical
 have c:=Jp.1 h;unfold PT.rows PT.but;refine Jp.2 fun y=>?_
 have:=c y;simp only[Nb,Nf] at this ⊢;omega
theorem PT.rows_set {t:PT}{f:Nat}(hf:f<t.funcs.length)(ft:FT):({t with funcs:=t.funcs.set f ft }:PT).rows.Perm (ft.rows++(wY t.fv (t.funcs.set f ft)::zP t.av t.args::vK t.dv t.data::v8 t.bv t.banks::(t.funcs.eraseIdx f).flatMap FT.rows)):=by
 have h:=abO FT.rows hf ft
 classical
 have c:=Jp.1 h;unfold PT.rows;refine Jp.2 fun y=>?_
 have:=c y;simp only[Nb,Nf] at this ⊢;omega
theorem jY {t:PT}{f:Nat}{ft ft':FT}(hf:t.funcs[f]? =some ft)(hb:ft'.bv=ft.bv):wY t.fv (t.funcs.set f ft')=wY t.fv t.funcs:=by
 unfold wY;rw[Nd,vQ hf hb]
theorem FT.rows_at {ft:FT}{i:Nat}{bt:BT}(hi:ft.blks[i]? =some bt):ft.rows.Perm (zd ft.bv ft.blks::(bt.rows++(ft.blks.eraseIdx i).flatMap BT.rows)):=(uf BT.rows hi).cons _
theorem FT.rows_set {ft:FT}{i:Nat}(hi:i<ft.blks.length)(bt:BT):({ft with blks:=ft.blks.set i bt }:FT).rows.Perm (zd ft.bv (ft.blks.set i bt)::(bt.rows++(ft.blks.eraseIdx i).flatMap BT.rows)):=(abO BT.rows hi bt).cons _
theorem TuMid.block {w:World}{p1 o5:Nat}{q0 q1 q2:Int}{t:PT}{wx:World}(h:TuMid w p1 o5 q0 q1 q2 t wx){f i g:Nat}{ft:FT}{bt:BT}(hf:t.funcs[f]? =some ft)(hi:ft.blks[i]? =some bt)(hg:ft.bv.ownBlock=some g):
 SpSt wx (p1+1+1+1) g i ft.bv bt ft.blks ((ft.blks.eraseIdx i).flatMap BT.rows++t.but f):=by
 refine⟨h.rows.perm ?_,hi,hg⟩;refine(PT.rows_at hf).trans ?_;have h1:=(FT.rows_at hi).append_right (t.but f);refine h1.trans ?_;rw[List.cons_append,Nv]
theorem TuMid.unblock {w:World}{p1 o5:Nat}{q0 q1 q2:Int}{t:PT}{wx w':World}(h:TuMid w p1 o5 q0 q1 q2 t wx){f i g:Nat}{ft:FT}{bt bt':BT}(hf:t.funcs[f]? =some ft)(hi:ft.blks[i]? =some bt)
 (hs:SpSt w' (p1+1+1+1) g i ft.bv bt' (ft.blks.set i bt') ((ft.blks.eraseIdx i).flatMap BT.rows++t.but f)) (l:Chg wx (zd ft.bv ft.blks::bt.rows) w'):
 TuMid w p1 o5 q0 q1 q2 {t with funcs:=t.funcs.set f {ft with blks:=ft.blks.set i bt' }} w':=by
 have j:=(Jh.1 hf).1;have d:=(Jh.1 hi).1;have hp:=((PT.rows_at hf).trans ((FT.rows_at hi).append_right (t.but f)))
 refine h.sub (t':= {t with funcs:=t.funcs.set f {ft with blks:=ft.blks.set i bt' }}) l (fun k hk=>?_) rfl (hs.rows.perm ?_)
 ·obtain⟨x,c,e⟩:=Nj.1 hk;refine Nj.2 ⟨x,hp.mem_iff.2 ?_,e⟩;rw[List.cons_append,Nv];rcases Jq.1 c with rfl|c
  ·exact .head _
  ·exact .tail _ (Jz _ c)
 ·have h2:=PT.rows_set j ({ft with blks:=ft.blks.set i bt' }:FT);rw[jY hf (ft':= {ft with blks:=ft.blks.set i bt' }) rfl] at h2;have h3:=(FT.rows_set d bt').append_right (t.but f);rw[List.cons_append,Nv] at h3;exact(h2.trans h3).symm
theorem pD {α:Type}{l:List α}{i:Nat}{g:α->α}(h:∀x,l[i]? =some x->g x=x):wD l i g=l:=by
 unfold wD
 split
 ·rename_i x c
  rw[h x c];apply Oq;intro q;rw[Ov]
  split
  ·rename_i e
   subst e;rw[c,if_pos (Jh.1 c).1]
  ·rfl
 ·rfl
theorem uw {p:IProg}{what n f:Nat}{q1:Int}(c:what=18∨what<=12∨what=19)(h:∀g,p.funcs[f]? =some g->g.length=0):rA p what n f q1=p:=by
 unfold rA;rw[if_neg Zo,if_neg Zo,if_neg Zo,if_neg Zo,if_neg Zo]
 split
 ·rw[pD (fun g hg=>if_pos (h g hg))]
 ·rw[pD (fun g hg=>?_)];unfold lW;rw[Nz (h g hg)];rfl
def btH:BT:=⟨[],O,[],O,5,0,[],O⟩
theorem kZ {w:World}{B:Nat}{t:PT}(h:Rows w B t.rows):w.ownsRow B 43 1 t.fv t.funcs.length (t.funcs.flatMap fun f:FT=> [f.bv]):=by
 rw[<-Qh];exact h.own (wY t.fv t.funcs) (.head _)
theorem kj {w:World}{B:Nat}{t:PT}(h:Rows w B t.rows){fb f:Nat}{ft:FT}(hb:t.fv.ownBlock=some fb)(hf:t.funcs[f]? =some ft):G w fb f ft.bv/\T w fb f/\fb<w.heap.size:=by
 have h1:=kZ h;have h2:=z9 (f:=fun f:FT=> [f.bv]) (n:=1) (fun _=>rfl) h1 hb hf 0 _ rfl;have h3:=zq (n:=1) Zd (f:=fun f:FT=> [f.bv]) (fun _=>rfl) h1 hb hf 0 Zd;rw[Nk] at h2 h3;exact⟨h2,h3.2,(h1.lt fb hb).2⟩
theorem TuMid.addB {w:World}{p1 o5:Nat}{q0 q1 q2:Int}{t:PT}{wx w1 w9:World}(h:TuMid w p1 o5 q0 q1 q2 t wx){f fb:Nat}{ft:FT}{v':Value}(hf:t.funcs[f]? =some ft)(c:t.fv.ownBlock=some fb)(i:F wx w1)(hg:w1.grownBy w9 ft.bv.ownBlock)
 (l:w9.ownsRow (p1+1+1+1) 49 5 v' (ft.blks.length+1) (ft.blks.flatMap zz++zz btH)) (a0:∀k,v'.ownBlock=some k->ft.bv.ownBlock=some k∨wx.heap.size<=k):
 TuMid w p1 o5 q0 q1 q2 {t with funcs:=t.funcs.set f ⟨ft.blks++ [btH],v'⟩} (w9.setCell ⟨fb,f,none⟩ v'):=by
 have o:=(Jh.1 hf).1;have d:=PT.rows_at hf
 have h2:=(h.rows.perm d).grow (r':=zd v' (ft.blks++ [btH])) i hg (by
  show w9.ownsRow _ _ _ _ (ft.blks++ [btH]).length ((ft.blks++ [btH]).flatMap zz)
  rw[Jk,Nx]
  exact l) a0
 have a1:∀(r:Row),r.blk=none->∀g,r.blk=some g->g ∉ (zd v' (ft.blks++ [btH])::(ft.blks.flatMap BT.rows++t.but f)).filterMap Row.blk:=fun r e g e2=>by rw[e] at e2;cases e2
 have h3:Rows w9 (p1+1+1+1) (zP (O) []::yo (O) []::xg (O) []::(zd v' (ft.blks++ [btH])::(ft.blks.flatMap BT.rows++t.but f))):=by
  refine((h2.cons (Jv _ _ _ _) ?_).cons (Jv _ _ _ _) ?_).cons (Jv _ _ _ _) ?_
  all_goals (intro g e;cases e)
 have h4:=h3.perm (rs':=wY t.fv t.funcs::(zd v' (ft.blks++ [btH])::((ft.blks++ [btH]).flatMap BT.rows++(zP t.av t.args::vK t.dv t.data::v8 t.bv t.banks::(t.funcs.eraseIdx f).flatMap FT.rows)))) (by
  classical
  unfold PT.but;rw[Nx]
  show List.Perm _ (_::_::((_++([zP (.slice none 0 0) [],yo (.slice none 0 0) [],xg (.slice none 0 0) []]++ []))++_))
  refine Jp.2 fun y=>?_
  simp only[Nb,Nf,List.count_nil]
  omega)
 have h5:=h4.put (g:=fb) (r':=wY t.fv (t.funcs.set f ⟨ft.blks++ [btH],v'⟩)) (w':=w9.setCell ⟨fb,f,none⟩ v') c (fun k hk=>Below.heap_setCell _ _ _ _ hk) (by
  have h6:w9.ownsRow (p1+1+1+1) 43 1 t.fv t.funcs.length (t.funcs.flatMap fun f:FT=> [f.bv]):=by
   rw[<-Qh];exact h4.own (wY t.fv t.funcs) (.head _)
  have h7:=yp (f:=fun f:FT=> [f.bv]) (n:=1) (fun _=>rfl) h6 c hf (j:=0) (u:=v') (a:=⟨ft.blks++ [btH],v'⟩) Zd rfl;rw[Nk,Uk,<-Qh] at h7
  show(w9.setCell ⟨fb,f,none⟩ v').ownsRow (p1+1+1+1) 43 1 t.fv (t.funcs.set f _).length _
  rw[Nd]
  exact h7) rfl
 have x:zd ft.bv ft.blks∈t.rows:=d.mem_iff.2 (.head _);have m:wY t.fv t.funcs∈t.rows:=.head _;refine h.sub (rs:=t.rows) (((Chg.below i).trans ((uY (r:=zd ft.bv ft.blks) hg).one x)).trans ((xJ (a:=⟨fb,f,none⟩) (r:=wY t.fv t.funcs) c).one m)) (fun k hk=>hk) rfl (h5.perm ?_);have h8:=PT.rows_set o (⟨ft.blks++ [btH],v'⟩:FT);refine List.Perm.trans ?_ h8.symm
 classical
 refine Jp.2 fun y=>?_
 unfold FT.rows;simp only[Nb,Nf];omega
theorem TuMid.farF {w:World}{p1 o5:Nat}{q0 q1 q2:Int}{t:PT}{wx:World}(h:TuMid w p1 o5 q0 q1 q2 t wx){f k:Nat}{ft:FT}(hf:t.funcs[f]? =some ft)(hk:ft.bv.ownBlock=some k):t.fv.ownBlock≠some k:=fun e=>by
 have h1:=(h.rows.perm (PT.rows_at hf)).apart (g:=k) hk;exact h1 (Nj.2 ⟨wY t.fv t.funcs,Qf _ (.head _),e⟩)
theorem szB_of {ft:FT}{bt:BT}(h1:bt.blk.params.length<=2000000/\bt.blk.ops.length<=2000000/\bt.blk.term.to.length<=2000000)(h2:jx ft.fn)(hm:bt.blk∈ft.fn):SzB bt:=by
 have h3:=h2 _ hm;refine⟨h1.1,by have:=h1.2.1;unfold BT.blk at this;simpa using this,by have:=h1.2.2;unfold BT.blk at this;simpa using this,fun o ho=>h3.1 o.1 (Oj ho),fun o ho=>h3.2 o.1 (Oj ho)⟩
end Go.Proofs.Ytojclalkfhoooaa
