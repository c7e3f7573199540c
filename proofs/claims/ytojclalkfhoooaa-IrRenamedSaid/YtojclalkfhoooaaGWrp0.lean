/- Part of a proof. -/
import Derived.Test.YtojclalkfhoooaaGOwn5
set_option linter.all false
namespace Go.Proofs.Ytojclalkfhoooaa
open Go.RowKit
variable {w:World}{g j k:Nat}{xs:List Int}{u:Value}
theorem Rows.putD{w':World}{B:Nat}{r r':Row}{rs:List Row}(h:Rows w B (r::rs))(hg:r.blk=some g)(hk:∀k,k≠g->w'.heap[k]? =w.heap[k]?)(c:w'.ownsRow B r'.e r'.sz r'.v r'.n r'.cs)(hv:r'.v=r.v):Rows w' B (r'::rs):=by
 have d:Rows w' B rs:=h.tail.keep fun k hk2=>hk k (fun e=>h.apart hg (by rw[<-e];exact hk2))
 refine d.cons c fun g2 e hg2=>?_
 refine h.apart (g:=g2) ?_ hg2;unfold Row.blk at e ⊢;rw[<-hv];exact e
structure B64D (b:IBlk):Prop where
 par:∀x∈b.params,I64 x
 ops:∀o∈b.ops,qN o/\∀x∈o.args,I64 x
 term:I64 b.term.kind/\I64 b.term.a
 tos:∀e∈b.term.to,I64 e.block/\∀x∈e.args,I64 x
structure P64D (p:IProg):Prop where
 funcs:∀f∈p.funcs,∀b∈f,B64D b
 args:∀x∈p.args,I64 x
 data:∀o∈p.data,I64 o.bank/\o.addr<65536/\o.size<65536
 banks:∀s∈p.banks,s.size<=9223372036854775807
 ent:I64 p.entry
 hnd:I64 p.handler
theorem adW{α β:Type}{sz:Nat}{f:β->List Value}{g:β->α}{R:World->Nat->Nat->Nat->α->Prop}(r:0<sz)(hf:∀a,(f a).length=sz){S:Nat}{e:TypeId}{v:Value}{l:List β}(h:w.ownsRow S e sz v l.length (l.flatMap f))
 (m:∀q∈l,∀b o,(∀j u,(f q)[j]? =some u->G w b (o+j) u)->R w w.heap.size b o (g q)):yN sz R w w.heap.size v (l.map g):=by
 obtain⟨a,c,rfl⟩:=zG h;have hl:=zm h;refine⟨a,c,by rw[Nr],by rw[Nr];exact hl.1,by omega,fun k o hk=>?_⟩;rw[Jr,Oz] at hk;obtain⟨q,hq,rfl⟩:=hk;have d:=(Jh.1 hq).1;obtain⟨gg,cap,e,hg,hb⟩:=h.form Zo;cases e;refine⟨gg,0,rfl,hb,m q (Ji hq) _ _ fun j u hj=>?_⟩;have i:j<sz:=by rw[<-hf q];exact(Jh.1 hj).1
 rw[Ng]
 exact(h.cellAt (k*sz+j) (by
  have:(k+1)*sz<=l.length*sz:=Qw sz d;rw[Nat.add_mul] at this
  omega)).trans ((uB f sz hf l k q hq j i).trans hj)
theorem ad9{B:Nat}{v:Value}(h:w.ownsRow B 3 1 v xs.length (xs.map zN))(h64:∀x∈xs,I64 x):zY w w.heap.size v xs:=by
 have h2:w.ownsRow B 3 1 v xs.length (xs.flatMap fun x=> [zN x]):=by rw[<-Qh];exact h
 have:=adW (sz:=1) (f:=fun x:Int=> [zN x]) (R:=IntR) (g:=fun x:Int=>x) Zd (fun _=>rfl) h2 (fun q hq b o hc=>⟨hc 0 _ rfl,h64 q hq⟩);rw[List.map_id'] at this;exact this
theorem adY (q:IOp×Value):(zU q).length=6:=rfl
theorem vO (q:IEdge×Value):(za q).length=2:=rfl
theorem aei (q:BT):(zz q).length=5:=rfl
theorem BT.inD{B:Nat}{b:BT}(h:∀r∈b.rows,w.ownsRow B r.e r.sz r.v r.n r.cs)(h64:B64D b.blk):zY w w.heap.size b.pv b.params/\mN w w.heap.size b.ov (b.ops.map (·.1))/\wH w w.heap.size b.tv (b.tos.map (·.1)):=by
 unfold BT.rows at h;refine⟨ad9 (h _ (.head _)) h64.par,?_,?_⟩
 ·refine adW Zd adY (h _ (.tail _ (.head _))) fun q hq b2 o hc=>?_
  have h1:=h64.ops q.1 (Oj hq);exact⟨hc 0 _ rfl,hc 1 _ rfl,hc 2 _ rfl,hc 3 _ rfl,hc 4 _ rfl,h1.1,q.2,hc 5 _ rfl,ad9 (h (zP q.2 q.1.args) (.tail _ (.tail _ (.tail _ (Jz _ (Oj hq)))))) h1.2⟩
 ·refine adW Zd vO (h _ (.tail _ (.tail _ (.head _)))) fun q hq b2 o hc=>?_
  have h1:=h64.tos q.1 (Oj hq);exact⟨hc 0 _ rfl,h1.1,q.2,hc 1 _ rfl,ad9 (h (zP q.2 q.1.args) (.tail _ (.tail _ (.tail _ (Qf _ (Oj hq)))))) h1.2⟩
theorem FT.inD{B:Nat}{f:FT}(h:∀r∈f.rows,w.ownsRow B r.e r.sz r.v r.n r.cs)(h64:∀b∈f.fn,B64D b):wX w w.heap.size f.bv f.fn:=by
 unfold FT.rows at h;refine adW Zd aei (h _ (.head _)) fun q hq b2 o hc=>?_
 have hb:=h64 q.blk (Oj hq);have h1:=BT.inD (w:=w) (B:=B) (b:=q) (fun r hr=>h r (.tail _ (Qx.2 ⟨q,hq,hr⟩))) hb;exact⟨hc 2 _ rfl,hc 3 _ rfl,hb.term,q.pv,q.ov,q.tv,hc 0 _ rfl,hc 1 _ rfl,hc 4 _ rfl,h1.1,h1.2.1,h1.2.2⟩
theorem PT.inD{B:Nat}{t:PT}(h:Rows w B t.rows)(h64:P64D t.prog):ProgIn w w.heap.size t.V t.prog:=by
 have h:=h.own;unfold PT.rows at h;refine⟨?_,ad9 (h _ (.tail _ (.head _))) h64.args,?_,?_,h64.ent,h64.hnd⟩
 ·have h1:w.ownsRow B 43 1 t.fv t.funcs.length (t.funcs.flatMap fun f=> [f.bv]):=by rw[<-Qh];exact h _ (.head _)
  refine adW (sz:=1) (f:=fun f:FT=> [f.bv]) (g:=FT.fn) Zd (fun _=>rfl) h1 fun q hq b2 o hc=>?_
  exact⟨q.bv,hc 0 _ rfl,FT.inD (B:=B) (fun r hr=>h r (.tail _ (.tail _ (.tail _ (.tail _ (Qx.2 ⟨q,hq,hr⟩)))))) (h64.funcs q.fn (Oj hq))⟩
 ·have:=adW (sz:=3) (f:=xP) (R:=ObjR) (g:=fun x:IObj=>x) Zd sk (h (vK t.dv t.data) (.tail _ (.tail _ (.head _)))) (fun q hq b o hc=>?_)
  ·rw[List.map_id'] at this;exact this
  ·have h1:=h64.data q hq;exact⟨hc 0 _ rfl,hc 1 _ rfl,hc 2 _ rfl,h1.1,h1.2.1,h1.2.2⟩
 ·have h1:w.ownsRow B 9 1 t.bv t.banks.length (t.banks.flatMap fun s=> [.string s]):=by rw[<-Qh];exact h _ (.tail _ (.tail _ (.tail _ (.head _))))
  have:=adW (sz:=1) (f:=fun s:ByteArray=> [.string s]) (R:=StrR) (g:=fun x:ByteArray=>x) Zd (fun _=>rfl) h1 (fun q hq b o hc=>⟨hc 0 _ rfl,h64.banks q hq⟩);rw[List.map_id'] at this;exact this
def RetIntD (w:World)(x:Int)(e:Ending)(w':World):Prop:=e=.returned (A x)/\F w w'
theorem aer{α:Type}{f:α->List Value}{n:Nat}(hf:∀a,(f a).length=n){l:List α}{b a:α}(hk:l[k]? =some b)(d:j<n)(g:(f b).set j u=f a):(l.flatMap f).set (k*n+j) u=(l.set k a).flatMap f:=by
 have c:=(Jh.1 hk).1;have hb:l[k]=b:=(Jh.1 hk).2
 have e1:l=l.take k++b::l.drop (k+1):=by
  rw[<-hb,Ue,Qi]
 have hl:(l.take k).length=k:=by simp;omega
 have e2:l.set k a=l.take k++a::l.drop (k+1):=by
  rw[List.set_eq_take_append_cons_drop,if_pos c]
 have e3:l.flatMap f=(l.take k).flatMap f++(f b++(l.drop (k+1)).flatMap f):=by
  conv=>lhs;rw[e1]
  rw[Nx,Qa]
 have h:((l.take k).flatMap f).length=k*n:=by rw[wq f n hf,hl]
 rw[e2,e3,Nx,Qa,Uj _ _ Zo,h,Nat.add_sub_cancel_left,List.set_append_left _ _ (by rw[hf];exact d),g]
theorem ad6{α:Type}{f:α->List Value}{n:Nat}{base:Nat}{e:TypeId}{v:Value}{l:List α}{b a:α}(hf:∀a,(f a).length=n)(h:w.ownsRow base e n v l.length (l.flatMap f))(hg:v.ownBlock=some g)(hk:l[k]? =some b)(c:j<n)(d:(f b).set j u=f a):
 (w.setCell ⟨g,k*n+j,none⟩ u).ownsRow base e n v l.length ((l.set k a).flatMap f):=by
 refine⟨by rw[wq f n hf,Nd],?_⟩;rcases h.2 with⟨rfl,_⟩|⟨g',cap,cur,rfl,h1,h2,h3,o,m,i⟩
 ·simp[Value.ownBlock] at hg
 ·simp[Value.ownBlock] at hg;subst hg;refine .inr ⟨g',cap,_,rfl,h1,zD h2 u,h3,o,by simpa using m,?_⟩;rw[Array.toList_setIfInBounds,List.take_set,i];exact aer hf hk c d
theorem ad4{α β:Type}(f:α->List β){l:List α}{b:α}(hk:l[k]? =some b):(l.flatMap f).Perm (f b++(l.eraseIdx k).flatMap f):=by
 obtain⟨c,hb⟩:=Jh.1 hk
 have e1:l=l.take k++b::l.drop (k+1):=by
  rw[<-hb,Ue,Qi]
 rw[List.eraseIdx_eq_take_drop_succ]
 conv=>lhs;rw[e1]
 classical
 refine Jp.2 fun y=>?_
 simp only[Nx,Qa,Nb];omega
theorem aeb{α β:Type}(f:α->List β){l:List α}(hk:k<l.length)(a:α):((l.set k a).flatMap f).Perm (f a++(l.eraseIdx k).flatMap f):=by
 have h:=ad4 f (l:=l.set k a) (k:=k) (b:=a) (by rw[Nn hk]);rw[List.eraseIdx_set_eq] at h;exact h
theorem vP{α:Type}{sz:Nat}{R:World->Nat->Nat->Nat->α->Prop}{B:Nat}{v:Value}{xs:List α}(h:yN sz R w B v xs){x:α}(c:x∈xs):∃b o,R w B b o x:=by
 obtain⟨k,hk⟩:=Ny c;obtain⟨a,cap,rfl,_,_,h3⟩:=h;obtain⟨b,o,_,_,hr⟩:=h3 k x hk;exact⟨b,_,hr⟩
theorem ad3{B:Nat}{v:Value}(h:zY w B v xs):∀x∈xs,I64 x:=fun x hx=>by
 obtain⟨b,o,hr⟩:=vP h hx;exact hr.2
theorem ProgIn.p64D{B:Nat}{V:PV}{p:IProg}(h:ProgIn w B V p):P64D p:=by
 refine⟨fun f hf b hb=>?_,ad3 h.args,fun o ho=>?_,fun s hs=>?_,h.ent,h.hnd⟩
 ·obtain⟨x,y,bv,_,d⟩:=vP h.funcs hf;obtain⟨x,y,_,_,h3,pv,ov,tv,_,_,_,j,i,g⟩:=vP d hb;refine⟨ad3 j,fun o ho=>?_,h3,fun e he=>?_⟩
  ·obtain⟨x,y,_,_,_,_,_,k,av,_,c⟩:=vP i ho;exact⟨k,ad3 c⟩
  ·obtain⟨x,y,_,h2,av,_,c⟩:=vP g he;exact⟨h2,ad3 c⟩
 ·obtain⟨x,y,_,_,_,l⟩:=vP h.data ho;exact l
 ·obtain⟨x,y,h1,h2⟩:=vP h.banks hs;exact h2
theorem i64_nD (x:Int)(h1:-1000000<=x)(h2:x<=1000000):I64 x:=⟨by omega,by omega⟩
abbrev progCD (p:IProg)(fa:Option Addr)(fc:Nat)(aa:Option Addr)(ac:Nat)(da:Option Addr)(dc:Nat)(ba:Option Addr)(bc:Nat):Array Value:=R p fa fc aa ac da dc ba bc
structure PBxD (W:World) (b:Nat) (p:IProg) (fa:Option Addr) (fc:Nat) (aa:Option Addr) (ac:Nat) (da:Option Addr) (dc:Nat) (ba:Option Addr) (bc:Nat):Prop where
 blk:W.heap[b]? =some (.cells (progCD p fa fc aa ac da dc ba bc) 29 (0,0))
 prog:ProgIn W W.heap.size ⟨.slice fa p.funcs.length fc,.slice aa p.args.length ac,.slice da p.data.length dc,.slice ba p.banks.length bc⟩ p
section
variable {W W':World} {b:Nat} {p:IProg} {fa aa da ba:Option Addr} {fc ac dc bc:Nat}
theorem PBxD.below (h:PBxD W b p fa fc aa ac da dc ba bc)(hb:F W W'):PBxD W' b p fa fc aa ac da dc ba bc:=
 ⟨zH hb h.blk (lt_of_block h.blk),(h.prog.below hb).mono hb.size⟩
theorem PBxD.new (h:ProgIn W W.heap.size ⟨.slice fa p.funcs.length fc,.slice aa p.args.length ac,.slice da p.data.length dc,.slice ba p.banks.length bc⟩ p):PBxD (W.alloc (U (progCD p fa fc aa ac da dc ba bc) 29)) W.heap.size p fa fc aa ac da dc ba bc:=
 ⟨zI rfl,(h.below ((Below.refl _ _).alloc (Je _) _)).mono Zs⟩
theorem PBxD.c0 (h:PBxD W b p fa fc aa ac da dc ba bc):G W b 0 (.slice fa p.funcs.length fc):=zA h.blk Zs
theorem PBxD.c1 (h:PBxD W b p fa fc aa ac da dc ba bc):G W b 1 (.slice aa p.args.length ac):=zA h.blk Zs
theorem PBxD.c2 (h:PBxD W b p fa fc aa ac da dc ba bc):G W b 2 (A p.entry):=zA h.blk Zs
theorem PBxD.c3 (h:PBxD W b p fa fc aa ac da dc ba bc):G W b 3 (A p.handler):=zA h.blk Zs
theorem PBxD.c4 (h:PBxD W b p fa fc aa ac da dc ba bc):G W b 4 (.slice da p.data.length dc):=zA h.blk Zs
theorem PBxD.c5 (h:PBxD W b p fa fc aa ac da dc ba bc):G W b 5 (.slice ba p.banks.length bc):=zA h.blk Zs
end
theorem ev_lenD{B:Nat}{o:Option Addr}{c:Nat}{l:List (Nat×Nat)}(h:vM w B (.slice o l.length c) l):l.length<=9223372036854775807:=by
 obtain⟨_,_,_,h1,h2⟩:=h.form;omega
def aex (w:World)(p:IProg)(e:Ending)(w':World):Prop:=∃t:PT,e=.returned (yH t.V t.prog)/\t.prog=p/\Rows w' w.heap.size t.rows/\F w w'
end Go.Proofs.Ytojclalkfhoooaa
