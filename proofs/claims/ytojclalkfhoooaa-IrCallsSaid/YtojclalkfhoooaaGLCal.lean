/- Part of a proof. -/
import Derived.Test.YtojclalkfhoooaaGLift7
import Derived.Test.YtojclalkfhoooaaGLift9
import Derived.Test.YtojclalkfhoooaaGLw3v2
import Derived.Test.YtojclalkfhoooaaGWrp1
set_option linter.all false
set_option maxHeartbeats 16000000
set_option maxRecDepth 100000
namespace Go.Proofs.Ytojclalkfhoooaa
open Go.RowKit
variable {w:World}{xs:List Int}
structure B64D (b:IBlk):Prop where
 par:∀x∈b.params,I64 x
 ops:∀o∈b.ops,qN o/\∀x∈o.args,I64 x
 term:I64 b.term.kind/\I64 b.term.a
 tos:∀e∈b.term.to,I64 e.block/\∀x∈e.args,I64 x
structure P64D (p:IProg):Prop where
 funcs:∀f∈p.funcs,∀b∈f,B64D b
 args:∀x∈p.args,I64 x
 data:∀o∈p.data,I64 o.bank/\o.addr<65536/\o.size<65536
 banks:∀s∈p.banks,s.size<=9223372036854775807
 ent:I64 p.entry
 hnd:I64 p.handler
theorem vP{α β:Type}{sz:Nat}{f:β->List Value}{g:β->α}{R:World->Nat->Nat->Nat->α->Prop}(r:0<sz)(hf:∀a,(f a).length=sz){S:Nat}{e:TypeId}{v:Value}{l:List β}(h:w.ownsRow S e sz v l.length (l.flatMap f))
 (m:∀q∈l,∀b o,(∀j u,(f q)[j]? =some u->G w b (o+j) u)->R w w.heap.size b o (g q)):yN sz R w w.heap.size v (l.map g):=by
 obtain⟨a,c,rfl⟩:=zG h;have hl:=zm h;refine⟨a,c,by rw[Nr],by rw[Nr];exact hl.1,by omega,fun k o hk=>?_⟩;rw[Jr,Oz] at hk;obtain⟨q,hq,rfl⟩:=hk;have d:=(Jh.1 hq).1;obtain⟨gg,cap,e,hg,hb⟩:=h.form Zo;cases e;refine⟨gg,0,rfl,hb,m q (Ji hq) _ _ fun j u hj=>?_⟩;have i:j<sz:=by rw[<-hf q];exact(Jh.1 hj).1
 rw[Ng]
 exact(h.cellAt (k*sz+j) (by
  have:(k+1)*sz<=l.length*sz:=Qw sz d;rw[Nat.add_mul] at this
  omega)).trans ((uB f sz hf l k q hq j i).trans hj)
theorem adY{B:Nat}{v:Value}(h:w.ownsRow B 3 1 v xs.length (xs.map zN))(h64:∀x∈xs,I64 x):zY w w.heap.size v xs:=by
 have h2:w.ownsRow B 3 1 v xs.length (xs.flatMap fun x=> [zN x]):=by rw[<-Qh];exact h
 have:=vP (sz:=1) (f:=fun x:Int=> [zN x]) (R:=IntR) (g:=fun x:Int=>x) Zd (fun _=>rfl) h2 (fun q hq b o hc=>⟨hc 0 _ rfl,h64 q hq⟩);rw[List.map_id'] at this;exact this
theorem ad3 (q:IOp×Value):(zU q).length=6:=rfl
theorem ad0 (q:IEdge×Value):(za q).length=2:=rfl
theorem ad4 (q:BT):(zz q).length=5:=rfl
theorem BT.inD{B:Nat}{b:BT}(h:∀r∈b.rows,w.ownsRow B r.e r.sz r.v r.n r.cs)(h64:B64D b.blk):zY w w.heap.size b.pv b.params/\mN w w.heap.size b.ov (b.ops.map (·.1))/\wH w w.heap.size b.tv (b.tos.map (·.1)):=by
 unfold BT.rows at h;refine⟨adY (h _ (.head _)) h64.par,?_,?_⟩
 ·refine vP Zd ad3 (h _ (.tail _ (.head _))) fun q hq b2 o hc=>?_
  have h1:=h64.ops q.1 (Oj hq);exact⟨hc 0 _ rfl,hc 1 _ rfl,hc 2 _ rfl,hc 3 _ rfl,hc 4 _ rfl,h1.1,q.2,hc 5 _ rfl,adY (h (zP q.2 q.1.args) (.tail _ (.tail _ (.tail _ (Jz _ (Oj hq)))))) h1.2⟩
 ·refine vP Zd ad0 (h _ (.tail _ (.tail _ (.head _)))) fun q hq b2 o hc=>?_
  have h1:=h64.tos q.1 (Oj hq);exact⟨hc 0 _ rfl,h1.1,q.2,hc 1 _ rfl,adY (h (zP q.2 q.1.args) (.tail _ (.tail _ (.tail _ (Qf _ (Oj hq)))))) h1.2⟩
theorem FT.inD{B:Nat}{f:FT}(h:∀r∈f.rows,w.ownsRow B r.e r.sz r.v r.n r.cs)(h64:∀b∈f.fn,B64D b):wX w w.heap.size f.bv f.fn:=by
 unfold FT.rows at h;refine vP Zd ad4 (h _ (.head _)) fun q hq b2 o hc=>?_
 have hb:=h64 q.blk (Oj hq);have h1:=BT.inD (w:=w) (B:=B) (b:=q) (fun r hr=>h r (.tail _ (Qx.2 ⟨q,hq,hr⟩))) hb;exact⟨hc 2 _ rfl,hc 3 _ rfl,hb.term,q.pv,q.ov,q.tv,hc 0 _ rfl,hc 1 _ rfl,hc 4 _ rfl,h1.1,h1.2.1,h1.2.2⟩
theorem PT.inD{B:Nat}{t:PT}(h:Rows w B t.rows)(h64:P64D t.prog):ProgIn w w.heap.size t.V t.prog:=by
 have h:=h.own;unfold PT.rows at h;refine⟨?_,adY (h _ (.tail _ (.head _))) h64.args,?_,?_,h64.ent,h64.hnd⟩
 ·have h1:w.ownsRow B 43 1 t.fv t.funcs.length (t.funcs.flatMap fun f=> [f.bv]):=by rw[<-Qh];exact h _ (.head _)
  refine vP (sz:=1) (f:=fun f:FT=> [f.bv]) (g:=FT.fn) Zd (fun _=>rfl) h1 fun q hq b2 o hc=>?_
  exact⟨q.bv,hc 0 _ rfl,FT.inD (B:=B) (fun r hr=>h r (.tail _ (.tail _ (.tail _ (.tail _ (Qx.2 ⟨q,hq,hr⟩)))))) (h64.funcs q.fn (Oj hq))⟩
 ·have:=vP (sz:=3) (f:=xP) (R:=ObjR) (g:=fun x:IObj=>x) Zd sk (h (vK t.dv t.data) (.tail _ (.tail _ (.head _)))) (fun q hq b o hc=>?_)
  ·rw[List.map_id'] at this;exact this
  ·have h1:=h64.data q hq;exact⟨hc 0 _ rfl,hc 1 _ rfl,hc 2 _ rfl,h1.1,h1.2.1,h1.2.2⟩
 ·have h1:w.ownsRow B 9 1 t.bv t.banks.length (t.banks.flatMap fun s=> [.string s]):=by rw[<-Qh];exact h _ (.tail _ (.tail _ (.tail _ (.head _))))
  have:=vP (sz:=1) (f:=fun s:ByteArray=> [.string s]) (R:=StrR) (g:=fun x:ByteArray=>x) Zd (fun _=>rfl) h1 (fun q hq b o hc=>⟨hc 0 _ rfl,h64.banks q hq⟩);rw[List.map_id'] at this;exact this
theorem vO{α:Type}{sz:Nat}{R:World->Nat->Nat->Nat->α->Prop}{B:Nat}{v:Value}{xs:List α}(h:yN sz R w B v xs){x:α}(c:x∈xs):∃b o,R w B b o x:=by
 obtain⟨k,hk⟩:=Ny c;obtain⟨a,cap,rfl,_,_,h3⟩:=h;obtain⟨b,o,_,_,hr⟩:=h3 k x hk;exact⟨b,_,hr⟩
theorem adX{B:Nat}{v:Value}(h:zY w B v xs):∀x∈xs,I64 x:=fun x hx=>by
 obtain⟨b,o,hr⟩:=vO h hx;exact hr.2
theorem ProgIn.p64D{B:Nat}{V:PV}{p:IProg}(h:ProgIn w B V p):P64D p:=by
 refine⟨fun f hf b hb=>?_,adX h.args,fun o ho=>?_,fun s hs=>?_,h.ent,h.hnd⟩
 ·obtain⟨x,y,bv,_,d⟩:=vO h.funcs hf;obtain⟨x,y,_,_,h3,pv,ov,tv,_,_,_,j,i,g⟩:=vO d hb;refine⟨adX j,fun o ho=>?_,h3,fun e he=>?_⟩
  ·obtain⟨x,y,_,_,_,_,_,k,av,_,c⟩:=vO i ho;exact⟨k,adX c⟩
  ·obtain⟨x,y,_,h2,av,_,c⟩:=vO g he;exact⟨h2,adX c⟩
 ·obtain⟨x,y,_,_,_,l⟩:=vO h.data ho;exact l
 ·obtain⟨x,y,h1,h2⟩:=vO h.banks hs;exact h2
theorem i64_nD (x:Int)(h1:-1000000<=x)(h2:x<=1000000):I64 x:=⟨by omega,by omega⟩
end Go.Proofs.Ytojclalkfhoooaa
set_option maxRecDepth 100000
namespace Go.Proofs.Ytojclalkfhoooaa
open Go.ChangeShapes Go.WideShapes Go.ChangeAt Go.RowKit
variable {w:World}{xs:List Int}
section
variable {H:Type} {enc:TypeId×Value->H} {W:World} {v:Value} {d:DataW H} {p:List MemPlace} {r:Go.Reach} {base:Nat}
theorem ad6 (hv:Value.okWide Try.prog W r base 65 v)(j:DataW.Trod enc Try.prog W 0 (fun _=>true) true 65 v d p):∃l:List Nat,v=.agg (l.map vL).toArray/\(l.length=9/\∀x∈l,x<65536):=by
 have c2:Try.prog.cellsOf 65=9:=by kernel_rfl
 have c1:Try.prog.cellsOf 39=1:=by kernel_rfl
 simp only[Value.okWide,Try.underlying65] at hv;obtain⟨cs,rfl,g,_⟩:=hv;rw[c2] at g;obtain⟨fuel,hf⟩:=j;simp only[Value.cells] at hf;obtain⟨zs,e,hl,h⟩:=acP Try.underlying65 Try.underlying39 c1 (by simpa using g) hf;refine⟨zs.map Int.toNat,?_,by simpa using hl,fun x hx=>?_⟩
 ·rw[<-Array.toArray_toList (xs:=cs),e]
  congr 2
  rw[List.map_map];refine Up fun z c=>?_
  obtain⟨y,rfl,_⟩:=a8 (h z c);rfl
 ·obtain⟨z,c,rfl⟩:=Nu.1 hx;obtain⟨y,rfl,i⟩:=a8 (h z c)
  simpa using i
end
open Go.RowKit
abbrev ad5 (p:IProg)(fa:Option Addr)(fc:Nat)(aa:Option Addr)(ac:Nat)(da:Option Addr)(dc:Nat)(ba:Option Addr)(bc:Nat):Array Value:=R p fa fc aa ac da dc ba bc
structure PBxD (W:World) (b:Nat) (p:IProg) (fa:Option Addr) (fc:Nat) (aa:Option Addr) (ac:Nat) (da:Option Addr) (dc:Nat) (ba:Option Addr) (bc:Nat):Prop where
 blk:W.heap[b]? =some (.cells (ad5 p fa fc aa ac da dc ba bc) 29 (0,0))
 prog:ProgIn W W.heap.size ⟨.slice fa p.funcs.length fc,.slice aa p.args.length ac,.slice da p.data.length dc,.slice ba p.banks.length bc⟩ p
section
variable {W W':World} {b:Nat} {p:IProg} {fa aa da ba:Option Addr} {fc ac dc bc:Nat}
theorem PBxD.below (h:PBxD W b p fa fc aa ac da dc ba bc)(hb:F W W'):PBxD W' b p fa fc aa ac da dc ba bc:=
 ⟨zH hb h.blk (lt_of_block h.blk),(h.prog.below hb).mono hb.size⟩
theorem PBxD.new (h:ProgIn W W.heap.size ⟨.slice fa p.funcs.length fc,.slice aa p.args.length ac,.slice da p.data.length dc,.slice ba p.banks.length bc⟩ p):PBxD (W.alloc (U (ad5 p fa fc aa ac da dc ba bc) 29)) W.heap.size p fa fc aa ac da dc ba bc:=
 ⟨zI rfl,(h.below ((Below.refl _ _).alloc (Je _) _)).mono Zs⟩
theorem PBxD.c0 (h:PBxD W b p fa fc aa ac da dc ba bc):G W b 0 (.slice fa p.funcs.length fc):=zA h.blk Zs
theorem PBxD.c1 (h:PBxD W b p fa fc aa ac da dc ba bc):G W b 1 (.slice aa p.args.length ac):=zA h.blk Zs
theorem PBxD.c2 (h:PBxD W b p fa fc aa ac da dc ba bc):G W b 2 (A p.entry):=zA h.blk Zs
theorem PBxD.c3 (h:PBxD W b p fa fc aa ac da dc ba bc):G W b 3 (A p.handler):=zA h.blk Zs
theorem PBxD.c4 (h:PBxD W b p fa fc aa ac da dc ba bc):G W b 4 (.slice da p.data.length dc):=zA h.blk Zs
theorem PBxD.c5 (h:PBxD W b p fa fc aa ac da dc ba bc):G W b 5 (.slice ba p.banks.length bc):=zA h.blk Zs
end
theorem aea (s:List Int):∃n,(uR s).funcs.length=n/\(uR s).args.length=n/\(1<=n/\n<=4)/\∀f,f<n->∃k:Nat,(uR s).args[f]? =some (k:Int)/\k<4:=by
 refine⟨mdN s,?_,yY s _,sm s,fun f hf=>?_⟩
 ·exact qA s
 ·obtain⟨x,c⟩:∃x,(yS s (mdN s))[f]? =some x:=⟨_,Jd (by rw[yY];exact hf)⟩
  have h:=xy s _ x (Ji c);refine⟨x.toNat,?_,by omega⟩
  show(yS s (mdN s))[f]? =_
  rw[c]
  congr 1
  omega
abbrev adZ (l0 l1 l2 l3 l4 l5 l6 l7:Nat):Array Value:=#[I l0,I l1,I l2,I l3,I l4,I l5,I l6,I l7]
def ad9 (w:World)(n:Nat)(l:List Nat)(e:Ending)(w':World):Prop:=∃b,e=.returned (N b n 8)/\wV w' w'.heap.size (N b n 8) (l.take n)/\F w w'
theorem aee{p:IProg}{fa aa da ba:Option Addr}{fc ac dc bc:Nat}(hp:ProgIn w w.heap.size ⟨.slice fa p.funcs.length fc,.slice aa p.args.length ac,.slice da p.data.length dc,.slice ba p.banks.length bc⟩ p){f n:Nat}(hf:p.args[f]? =some (n:Int))(hn:n<4){l0 l1 l2 l3 l4 l5 l6 l7:Nat}(hl:∀x∈ [l0,l1,l2,l3,l4,l5,l6,l7],x<65536):
 Y 28 #[.agg (ad5 p fa fc aa ac da dc ba bc),A f,.agg (adZ l0 l1 l2 l3 l4 l5 l6 l7)] w (ad9 w n [l0,l1,l2,l3,l4,l5,l6,l7]):=by
 have r:=(Jh.1 hf).1;have a1:(f:Int)<p.args.length:=Zo;have a2:p.args.length<=9223372036854775807:=by obtain⟨_,_,_,h1,h2⟩:=hp.args.form;omega
 obtain⟨ab,ao,rfl,g,h,_⟩:=hp.args.get hf;rw[Nk] at h;have y:(n:Int)<=8:=Zo;have u:n<=8:=Zo;have c:=((Below.refl w.heap.size w).alloc (Je _) (U (ad5 p fa fc (some ⟨ab,ao,none⟩) ac da dc ba bc) 29)).alloc Zs (U (adZ l0 l1 l2 l3 l4 l5 l6 l7) 67);have c0:=zV c g h;have d:=zB (o:=U (adZ l0 l1 l2 l3 l4 l5 l6 l7) 67) (zI (W:=w) (o:=U (ad5 p fa fc (some ⟨ab,ao,none⟩) ac da dc ba bc) 29) rfl);have c1:=zA (i:=1) d (by rfl);have j:=Ja (Jb c (Jb hl hn));clear hp hf r g h c d hl hn;go_enter Try.func28,Try.ntmps28;go_wp2;go_ret;refine⟨w.heap.size+1,rfl,?_,j.out.1⟩;obtain⟨l,hl⟩:∃l,[l0,l1,l2,l3,l4,l5,l6,l7]=l:=⟨_,rfl⟩
 have t:adZ l0 l1 l2 l3 l4 l5 l6 l7=(l.map vL).toArray:=by rw[<-hl];rfl
 have a0:l.length=8:=by rw[<-hl];rfl
 have h64:=j.out.2.1;rw[hl] at h64 ⊢;rw[t];have hn:=j.out.2.2;refine⟨_,8,by rw[Oc,show min n l.length=n by omega],by rw[Oc];omega,by omega,fun k x hk=>⟨_,0,rfl,by simp,?_,?_⟩⟩
 ·have m:l[k]? =some x:=by
   rw[Ug] at hk
   split at hk
   ·exact hk
   ·cases hk
  rw[Ng,Nk];exact zA (zI Zs) (by simp[m,vL])
 ·exact h64 x (List.mem_of_mem_take (Ji hk))
def PtRet2 (w:World)(p:IProg)(e:Ending)(w':World):Prop:=∃(fa:Option Addr) (fc:Nat) (aa:Option Addr) (ac:Nat) (da:Option Addr) (dc:Nat) (ba:Option Addr) (bc:Nat),e=.returned (.agg (R p fa fc aa ac da dc ba bc))/\
 ProgIn w' w'.heap.size ⟨.slice fa p.funcs.length fc,.slice aa p.args.length ac,.slice da p.data.length dc,.slice ba p.banks.length bc⟩ p/\F w w'
theorem pt_open{p:IProg}(h64:P64D p){e:Ending}{w':World}(h:PtRet w p e w'):PtRet2 w p e w':=by
 obtain⟨t,rfl,d,hr,hb⟩:=h;subst d;obtain⟨fa,fc,h1,_,_⟩:=(PT.inD hr h64).funcs.form;obtain⟨aa,ac,h2,_,_⟩:=(PT.inD hr h64).args.form;obtain⟨da,dc,h3,_,_⟩:=(PT.inD hr h64).data.form;obtain⟨ba,bc,c,_,_⟩:=(PT.inD hr h64).banks.form;refine⟨fa,fc,aa,ac,da,dc,ba,bc,?_,?_,hb⟩
 ·unfold yH;rw[h1,h2,h3,c]
 ·rw[<-h1,<-h2,<-h3,<-c];exact PT.inD hr h64
theorem wrap_64 {p:IProg}(h:P64D p){f:Int}(hf:I64 f){a:List Nat}(l:∀x∈a,x<65536)(hl:a.length<=1000):P64D (aaH p f a):=by
 have d:∀k:Nat,k<=1000->I64 (k:Int):=fun k hk=>i64_nD _ Zo Zo
 have z:I64 0:=pZ;refine⟨fun g hg b hb=>?_,fun x c=>?_,h.data,h.banks,h.ent,h.hnd⟩
 ·rcases Jl.1 (show g∈p.funcs++ [[aaR f a]] from hg) with hg|hg
  ·exact h.funcs g hg b hb
  ·rw[Jo] at hg;subst hg;rw[Jo] at hb;subst hb;refine⟨fun x c=>(by cases c),fun o ho=>?_,⟨d 4 Zd,d _ hl⟩,fun e he=>(by cases he)⟩;rcases Jl.1 (show o∈abs a a.length++ [_] from ho) with ho|ho
   ·unfold abs at ho;obtain⟨j,i,rfl⟩:=Nu.1 ho;rw[Ol] at i
    have c:a.getD j 0<65536:=by
     rw[Jj,Jd i];exact l _ (Uf i)
    exact⟨⟨d 1 Zd,d j Zo,z,z,c⟩,fun x c=>(by cases c)⟩
   ·rw[Jo] at ho;subst ho;refine⟨⟨d 26 Zd,d _ hl,hf,z,(show(0:Nat)<65536 by decide)⟩,fun x c=>?_⟩;unfold abA at c;obtain⟨j,i,rfl⟩:=Nu.1 (show x∈(List.range a.length).map _ from c);rw[Ol] at i;exact d j Zo
 ·rcases Jl.1 (show x∈p.args++ [0] from c) with c|c
  ·exact h.args x c
  ·rw[Jo] at c;subst c;exact z
theorem aec {p:IProg}(h:mW p)(f:Int){a:List Nat}(hl:a.length<=1000):mW (aaH p f a):=fun g hg=>by
 rcases Jl.1 (show g∈p.funcs++ [[aaR f a]] from hg) with hg|hg
 ·exact h g hg
 ·rw[Jo] at hg;subst hg;refine⟨⟨by simp,fun b hb=>?_⟩,fun b hb=>?_⟩
  ·rw[Jo] at hb;subst hb;refine⟨Jt _,?_,Jt _⟩
   show(abs a a.length++ [_]).length<=_
   rw[Jk,aa6,Ju];omega
  ·rw[Jo] at hb;subst hb;exact Jt _
theorem ad7{V:PV}{p:IProg}(hp:ProgIn w w.heap.size V p)(hs:SmallP p){f:Int}(hf:I64 f){av:Value}{a:List Nat}(d:wV w w.heap.size av a)(c:a.length<=1000):
 Y 31 #[yH V p,A f,av] w (PtRet2 w (aaH p f a)):=
 (wrapped_any hp hs hf d c).mono fun e w' h=>pt_open (wrap_64 hp.p64D hf (fun x hx=>by obtain⟨_,_,hr⟩:=vO d hx;exact hr.2) c) h
theorem aed (p:IProg)(f:Int)(a:List Nat):(aaH p f a).funcs.length=p.funcs.length+1/\(aaH p f a).args.length=p.args.length+1:=⟨by show(p.funcs++ [_]).length=_;rw[Jk];rfl,by show(p.args++ [_]).length=_;rw[Jk];rfl⟩
theorem aeb (s:List Int){f n:Nat}(hf:(uR s).args[f]? =some (n:Int))(j:n<4){a:List Nat}(g:a.length=n)(I Q:List Nat)(k:Q.length<=20)(ram:ByteArray):
 vC (aaH (uR s) (f:Int) a)=0/\((i9 ⟨uR s,I,Q⟩ (f:Int) a ram 5000).kind≠7->i9 ⟨aaH (uR s) (f:Int) a,I,Q⟩ ((uR s).funcs.length:Int) [] ram (5000+(a.length:Int)+2)=i9 ⟨uR s,I,Q⟩ (f:Int) a ram 5000):=by
 have c:=(rz (fm s)).1;have d:=(se c).2.1;have i:=(Jh.1 hf).1;have hg:(uR s).args.getD f 0=(n:Int):=by rw[Jj,hf];rfl
 have hv:=made_wrap_valid s (f:=(f:Int)) (a:=a) Zo Zo (by rw[Ni,hg,g]);refine⟨hv,?_⟩;have l:=sm s;have h:=qA s
 have q1:io (uR s) (f:Int) a=true:=by
  unfold io;rw[fm s,Ni,hg,g];simp;omega
 have q2:io (aaH (uR s) (f:Int) a) ((uR s).funcs.length:Int) []=true:=by
  have e1:(aaH (uR s) (f:Int) a).args.getD (uR s).funcs.length 0=0:=by
   show((uR s).args++ [0]).getD (uR s).funcs.length 0=0
   rw[<-d,Jj,Nc (Je _),Qy];rfl
  unfold io;rw[hv,Ni,e1,(aed _ _ _).1];simp;omega
 unfold i9;rw[if_pos q1,if_pos q2];exact wrap_run ⟨uR s,I,Q⟩ (f:Int) a ram 5000 (made_later s) (by show(uR s).funcs.length+Q.length<=99;omega) Zo (by show(f:Int)<((uR s).funcs.length:Int);omega) Zd
theorem nineC {l:List Nat}(h:l.length=9):∃l0 l1 l2 l3 l4 l5 l6 l7 l8,l=[l0,l1,l2,l3,l4,l5,l6,l7,l8]:=by
 match l,h with
 | [l0,l1,l2,l3,l4,l5,l6,l7,l8],_=>exact⟨l0,l1,l2,l3,l4,l5,l6,l7,l8,rfl⟩
theorem ad2 (x:SetF):(aaX x).size<=9223372036854775807:=by
 unfold aaX
 split
 ·decide
 ·rw[mG,gT];have:=Qj x.ram (show 0<3 by decide);omega
theorem aef (w:World)(sv:Value)(s:List Int)(l:List Nat)(xv:Value)(x:SetF)(hs:zY w w.heap.size sv s)(hl:l.length=9/\∀x∈l,x<65536)(hx:SetIn w w.heap.size xv x):
 Calls Try.prog 9 #[sv,.agg (l.map vL).toArray,xv] w fun e w'=>e=.returned (.bool true)/\F w w':=by
 obtain⟨sa,sc,rfl,i6,i5⟩:=hs.form;obtain⟨sa3,sc3,r,qc3,rfl,j5,j4⟩:=hx.form;obtain⟨g6,h64⟩:=hl;obtain⟨l0,l1,l2,l3,l4,l5,l6,l7,l8,rfl⟩:=nineC g6;have n9:=hx.fuel;have j3:l8<65536:=h64 l8 Zs;have HS:=Ja (Jb hs (Jb hx (show ∀x∈ [l0,l1,l2,l3,l4,l5,l6,l7],x<65536 from fun x h=>h64 x (by simp only[Jq,List.not_mem_nil,or_false] at h ⊢;omega))))
 show Calls Try.prog 9 #[.slice sa s.length sc,.agg #[.int .u16 (l0:Int),.int .u16 (l1:Int),.int .u16 (l2:Int),.int .u16 (l3:Int),.int .u16 (l4:Int),.int .u16 (l5:Int),.int .u16 (l6:Int),.int .u16 (l7:Int),.int .u16 (l8:Int)],.agg #[.slice sa3 x.inn.length sc3,.slice r x.irq.length qc3,.int .u32 (x.ram:Int),.int .u16 (x.fuel:Int)]] w fun e w'=>e=.returned (.bool true)/\F w w'
 have e5:F w ((w.alloc (U #[.int .u16 (l0:Int),.int .u16 (l1:Int),.int .u16 (l2:Int),.int .u16 (l3:Int),.int .u16 (l4:Int),.int .u16 (l5:Int),.int .u16 (l6:Int),.int .u16 (l7:Int),.int .u16 (l8:Int)] 65)).alloc (U #[.slice sa3 x.inn.length sc3,.slice r x.irq.length qc3,.int .u32 (x.ram:Int),.int .u16 (x.fuel:Int)] 41)):=((Below.refl _ _).alloc (Je _) _).alloc Zs _;have g0:L ((w.alloc (U #[.int .u16 (l0:Int),.int .u16 (l1:Int),.int .u16 (l2:Int),.int .u16 (l3:Int),.int .u16 (l4:Int),.int .u16 (l5:Int),.int .u16 (l6:Int),.int .u16 (l7:Int),.int .u16 (l8:Int)] 65)).alloc (U #[.slice sa3 x.inn.length sc3,.slice r x.irq.length qc3,.int .u32 (x.ram:Int),.int .u16 (x.fuel:Int)] 41)) w.heap.size #[.int .u16 (l0:Int),.int .u16 (l1:Int),.int .u16 (l2:Int),.int .u16 (l3:Int),.int .u16 (l4:Int),.int .u16 (l5:Int),.int .u16 (l6:Int),.int .u16 (l7:Int),.int .u16 (l8:Int)] 65:=zB (zI rfl);have f9:SBx ((w.alloc (U #[.int .u16 (l0:Int),.int .u16 (l1:Int),.int .u16 (l2:Int),.int .u16 (l3:Int),.int .u16 (l4:Int),.int .u16 (l5:Int),.int .u16 (l6:Int),.int .u16 (l7:Int),.int .u16 (l8:Int)] 65)).alloc (U #[.slice sa3 x.inn.length sc3,.slice r x.irq.length qc3,.int .u32 (x.ram:Int),.int .u16 (x.fuel:Int)] 41)) (w.heap.size+1) x sa3 sc3 r qc3:=⟨zI Zs,(hx.below e5).mono e5.size⟩
 have H0:=Ja (Jb e5 (Jb g0 f9));clear hs i6 i5 j5 j4 g6 h64 e5 g0 f9 hx;go_enter Try.func9,Try.ntmps9;go_upto_region 2 with(go_at_call 17;go_must (refine(ln _).mono ?_;rintro e w0 ⟨rfl,d⟩))
 have H1:=Ja (Jb (H0.out.1.trans (d.mono H0.out.1.size)) (Jb (zH d H0.out.2.1 (lt_of_block H0.out.2.1)) (H0.out.2.2.below d)));clear d H0;have HM:=Ja (abW ((HS.out.1.below zO H1.out.1).mono zO H1.out.1.size));have g5:=acK (s.take 200);have g9:=@aeb (s.take 200);obtain⟨n0,d6,j2,d9,h5⟩:=aea (s.take 200);have HG:=Ja (Jb d6 (Jb d9 h5));clear d6 j2 d9 h5;generalize uR (s.take 200)=p at *;go_upto_region 3 with(go_at_call 18;go_must (refine HM.out.mono ?_;rintro e w1 ⟨fa,fc,aa,ac,da,dc,ba,bc,rfl,hp,d⟩))
 have e4:=d.alloc d.size (U #[.slice fa p.funcs.length fc,.slice aa p.args.length ac,A p.entry,A p.handler,.slice da p.data.length dc,.slice ba p.banks.length bc] 29);have H2:=Ja (Jb (H1.out.1.trans (e4.mono H1.out.1.size)) (Jb (zH e4 H1.out.2.1 (lt_of_block H1.out.2.1)) (Jb (H1.out.2.2.below e4) (PBxD.new hp))));clear d hp e4 HM H1;generalize w1.alloc (U #[.slice fa p.funcs.length fc,.slice aa p.args.length ac,A p.entry,A p.handler,.slice da p.data.length dc,.slice ba p.banks.length bc] 29)=X at *;generalize w1.heap.size=b8 at *;obtain⟨f,hf⟩:∃f,l8%p.funcs.length=f:=⟨_,rfl⟩
 have d6:=HG.out.1;have d9:=HG.out.2.1;have f2:f<n0:=by rw[<-hf,d6];exact Qj _ Zo
 obtain⟨n,g3,c9⟩:=HG.out.2.2 f f2;have k0:0<p.funcs.length:=Zo;have k1:p.funcs.length<=4:=Zo;have h6:(l8:Int)%(p.funcs.length:Int)=(f:Int):=by rw[<-hf];exact(Ou _ _).symm
 have c0:G X b8 0 (.slice fa p.funcs.length fc):=H2.out.2.2.2.c0;have d8:G X w.heap.size 8 (.int .u16 (l8:Int)):=zA H2.out.2.1 (by rfl);have m:=Ja (Jb g3 (Jb c9 (Jb f2 (Jb d6 (Jb g5 (Jb d9 @g9))))));clear hf f2 g3 c9 d6 d9 g5 g9 HG;go_upto_region 4 with fail;rw[h6];clear h6 k0 k1 c0 d8 j3;have o3:∀W,(Instr.arrayAt 67 (N w.heap.size 8 9)).run Try.prog W=.ok (.pointer (some ⟨w.heap.size,0,none⟩)) W:=fun W=>by kernel_rfl
 have HC:=Ja (show ∀W,F X W->(G W b8 0 (.slice fa p.funcs.length fc)/\G W b8 1 (.slice aa p.args.length ac)/\G W b8 2 (A p.entry)/\G W b8 3 (A p.handler)/\G W b8 4 (.slice da p.data.length dc)/\G W b8 5 (.slice ba p.banks.length bc)/\G W w.heap.size 0 (.int .u16 (l0:Int))/\G W w.heap.size 1 (.int .u16 (l1:Int))/\G W w.heap.size 2 (.int .u16 (l2:Int))/\G W w.heap.size 3 (.int .u16 (l3:Int))/\G W w.heap.size 4 (.int .u16 (l4:Int))/\G W w.heap.size 5 (.int .u16 (l5:Int))/\G W w.heap.size 6 (.int .u16 (l6:Int))/\G W w.heap.size 7 (.int .u16 (l7:Int))) from fun W hb=>by
  have h1:=H2.out.2.2.2.below hb;have h2:=zH hb H2.out.2.1 (lt_of_block H2.out.2.1)
  exact⟨h1.c0,h1.c1,h1.c2,h1.c3,h1.c4,h1.c5,zA h2 (by rfl),zA h2 (by rfl),zA h2 (by rfl),zA h2 (by rfl),zA h2 (by rfl),zA h2 (by rfl),zA h2 (by rfl),zA h2 (by rfl)⟩)
 have i2:=Ja (show ∀W,F X W->Calls Try.prog 28 #[.agg #[.slice fa p.funcs.length fc,.slice aa p.args.length ac,A p.entry,A p.handler,.slice da p.data.length dc,.slice ba p.banks.length bc],A f,.agg (adZ l0 l1 l2 l3 l4 l5 l6 l7)] W (ad9 W n [l0,l1,l2,l3,l4,l5,l6,l7]) from fun W hb=>aee (H2.out.2.2.2.below hb).prog m.out.1 m.out.2.1 HS.out.2.2)
 go_cut [10] (fun v wx=>∃b,v=N b n 8/\Hid (wV wx wx.heap.size (N b n 8) ([l0,l1,l2,l3,l4,l5,l6,l7].take n)/\F X wx))
 case first=>
  go_region_held3 (fun w'=>G w' b8 0 (.slice fa p.funcs.length fc)/\G w' b8 1 (.slice aa p.args.length ac)/\G w' b8 2 (A p.entry)/\G w' b8 3 (A p.handler)/\G w' b8 4 (.slice da p.data.length dc)/\G w' b8 5 (.slice ba p.banks.length bc)/\G w' w.heap.size 0 (.int .u16 (l0:Int))/\G w' w.heap.size 1 (.int .u16 (l1:Int))/\G w' w.heap.size 2 (.int .u16 (l2:Int))/\G w' w.heap.size 3 (.int .u16 (l3:Int))/\G w' w.heap.size 4 (.int .u16 (l4:Int))/\G w' w.heap.size 5 (.int .u16 (l5:Int))/\G w' w.heap.size 6 (.int .u16 (l6:Int))/\G w' w.heap.size 7 (.int .u16 (l7:Int)))
   ((refine HC.out _ ?_;repeat' (first|with_reducible exact Below.refl _ _|with_reducible assumption|with_reducible refine Below.drew ?_|with_reducible refine Below.alloc ?_ Zn _|with_reducible refine Below.setCell ?_ Zn _)))
   (first
     |(go_at_call 28
       refine(i2.out _ Zb).mono ?_;rintro e y1 ⟨b,rfl,h4,d⟩;have d7:F X y1:=Below.trans Zb (d.mono Zn);have g1:=d7.size
       clear d))
  all_goals go_wp2_with fail
  all_goals go_meet
  all_goals exact⟨b,rfl,Ja ⟨by first|exact h4|exact(h4.below zr (uG (Below.refl _ _))),by first|assumption|exact uG Zz⟩⟩
 case rest=>
 obtain⟨b11,rfl,HA⟩:=hcut;have H3:=Ja (Jb (H2.out.1.trans (HA.out.2.mono H2.out.1.size)) (Jb (H2.out.2.2.1.below HA.out.2) (H2.out.2.2.2.below HA.out.2)));obtain⟨Y,hY⟩:∃Y,wc=Y:=⟨_,rfl⟩
 rw[hY] at HA H3 ⊢;clear hY HC i2 H2;obtain⟨X,rfl⟩:∃X,X=Y:=⟨_,rfl⟩
 obtain⟨I,hI⟩:∃I,x.inn.take 20=I:=⟨_,rfl⟩
 obtain⟨Q,hQ⟩:∃Q,x.irq.take 20=Q:=⟨_,rfl⟩
 have f5:Q.length<=20:=by rw[<-hQ,Oc];omega
 obtain⟨a,ha⟩:∃a,[l0,l1,l2,l3,l4,l5,l6,l7].take n=a:=⟨_,rfl⟩
 have f4:a.length=n:=by rw[<-ha,Oc];have:=m.out.2.1;show min n 8=n;omega
 have e3:I64 (f:Int):=by have:=m.out.2.2.1;have:=m.out.2.2.2.2.2.1;exact⟨by omega,by omega⟩
 have e7:=m.out.2.2.2.2.2.2 m.out.1 m.out.2.1 f4 I Q f5 (aaX x);have e6:=HA.out.1;rw[ha] at e6;have HW:=Ja (ad7 H3.out.2.2.prog (m.out.2.2.2.2.1.small Zd) e3 (av:=N b11 n 8) (a:=a) e6 (by have:=m.out.2.1;omega));obtain⟨q,hq⟩:∃q,aaH p (f:Int) a=q:=⟨_,rfl⟩
 have f1:mW q:=by rw[<-hq];exact aec (m.out.2.2.2.2.1.sized Zd) _ (by have:=m.out.2.1;omega)
 have g2:mW p:=m.out.2.2.2.2.1.sized Zd;rw[hq] at e7 HW;have o0:p.funcs.length<=4:=by have:=m.out.2.2.2.1;have:=m.out.2.2.2.2.2.1;omega
 obtain⟨R,hR⟩:∃R,i9 ⟨p,I,Q⟩ (f:Int) a (aaX x) 5000=R:=⟨_,rfl⟩
 obtain⟨T,hT⟩:∃T,i9 ⟨q,I,Q⟩ (p.funcs.length:Int) [] (aaX x) (5000+(n:Int)+2)=T:=⟨_,rfl⟩
 rw[f4,hR,hT] at e7;have f8:=Ja e7;have i1:=Ja e6;have c9:=m.out.2.1;have k4:=Ja c9;clear e7 e6 f4 ha f5 hq;have k3:=H3.out.2.2;have c0:G X b8 0 (.slice fa p.funcs.length fc):=H3.out.2.2.c0;have c1:G X b8 1 (.slice aa p.args.length ac):=H3.out.2.2.c1;have c2:G X b8 2 (A p.entry):=H3.out.2.2.c2;have c3:G X b8 3 (A p.handler):=H3.out.2.2.c3;have c4:G X b8 4 (.slice da p.data.length dc):=H3.out.2.2.c4;have c5:G X b8 5 (.slice ba p.banks.length bc):=H3.out.2.2.c5;go_upto_region 6 with(go_at_call 31;go_must (refine HW.out.mono ?_;rintro e w2 ⟨b5,b4,aa2,ac2,b7,b6,ba2,bc2,rfl,g4,j⟩))
 have a4:=j.alloc j.size (U #[.slice b5 q.funcs.length b4,.slice aa2 q.args.length ac2,A q.entry,A q.handler,.slice b7 q.data.length b6,.slice ba2 q.banks.length bc2] 29);have H4:=Ja (Jb (H3.out.1.trans (a4.mono H3.out.1.size)) (Jb (H3.out.2.1.below a4) (Jb (H3.out.2.2.below a4) (Jb (PBxD.new g4) ((i1.out.below zr a4).mono zr a4.size)))));clear HW j g4 a4 k3 H3 HA i1 c0 c1 c2 c3 c4 c5;generalize w2.alloc (U #[.slice b5 q.funcs.length b4,.slice aa2 q.args.length ac2,A q.entry,A q.handler,.slice b7 q.data.length b6,.slice ba2 q.banks.length bc2] 29)=Z at *;generalize w2.heap.size=b9 at *;obtain⟨b11,f3⟩:∃b,b11=b:=⟨_,rfl⟩
 rw[f3] at H4 ⊢;clear f3
 have e1:=Ja (show ∀W,F Z W->(G W b8 0 (.slice fa p.funcs.length fc)/\G W b8 1 (.slice aa p.args.length ac)/\G W b8 2 (A p.entry)/\G W b8 3 (A p.handler)/\G W b8 4 (.slice da p.data.length dc)/\G W b8 5 (.slice ba p.banks.length bc)/\G W (w.heap.size+1) 0 (.slice sa3 x.inn.length sc3)/\G W (w.heap.size+1) 1 (.slice r x.irq.length qc3)/\G W (w.heap.size+1) 2 (.int .u32 (x.ram:Int))/\G W (w.heap.size+1) 3 (.int .u16 (x.fuel:Int)))/\ProgIn W W.heap.size ⟨.slice fa p.funcs.length fc,.slice aa p.args.length ac,.slice da p.data.length dc,.slice ba p.banks.length bc⟩ p/\SetIn W W.heap.size (.agg #[.slice sa3 x.inn.length sc3,.slice r x.irq.length qc3,.int .u32 (x.ram:Int),.int .u16 (x.fuel:Int)]) x from fun W hb=>by
  have h1:=H4.out.2.2.1.below hb;have h2:=H4.out.2.1.below hb
  exact⟨⟨h1.c0,h1.c1,h1.c2,h1.c3,h1.c4,h1.c5,h2.c0,h2.c1,h2.c2,h2.c3⟩,h1.prog,h2.set⟩)
 have a0:=Ja (show ∀W,F Z W->(G W b9 0 (.slice b5 q.funcs.length b4)/\G W b9 1 (.slice aa2 q.args.length ac2)/\G W b9 2 (A q.entry)/\G W b9 3 (A q.handler)/\G W b9 4 (.slice b7 q.data.length b6)/\G W b9 5 (.slice ba2 q.banks.length bc2)/\G W b8 0 (.slice fa p.funcs.length fc)/\G W (w.heap.size+1) 0 (.slice sa3 x.inn.length sc3)/\G W (w.heap.size+1) 1 (.slice r x.irq.length qc3)/\G W (w.heap.size+1) 2 (.int .u32 (x.ram:Int))/\G W (w.heap.size+1) 3 (.int .u16 (x.fuel:Int)))/\ProgIn W W.heap.size ⟨.slice b5 q.funcs.length b4,.slice aa2 q.args.length ac2,.slice b7 q.data.length b6,.slice ba2 q.banks.length bc2⟩ q/\SetIn W W.heap.size (.agg #[.slice sa3 x.inn.length sc3,.slice r x.irq.length qc3,.int .u32 (x.ram:Int),.int .u16 (x.fuel:Int)]) x from fun W hb=>by
  have h1:=H4.out.2.2.2.1.below hb;have h2:=H4.out.2.1.below hb;have h3:=(H4.out.2.2.1.below hb).c0
  exact⟨⟨h1.c0,h1.c1,h1.c2,h1.c3,h1.c4,h1.c5,h3,h2.c0,h2.c1,h2.c2,h2.c3⟩,h1.prog,h2.set⟩)
 have h8:=Ja (show ∀W,SetIn W W.heap.size (.agg #[.slice sa3 x.inn.length sc3,.slice r x.irq.length qc3,.int .u32 (x.ram:Int),.int .u16 (x.fuel:Int)]) x->Calls Try.prog 25 #[.agg #[.slice sa3 x.inn.length sc3,.slice r x.irq.length qc3,.int .u32 (x.ram:Int),.int .u16 (x.fuel:Int)]] W (fun e w'=>∃(ia:Option Addr) (ic:Nat) (qa:Option Addr) (qc:Nat),e=.returned (.agg #[.slice ia I.length ic,.slice qa Q.length qc])/\wV w' W.heap.size (.slice ia I.length ic) I/\dL w' W.heap.size (.slice qa Q.length qc) Q/\F W w') from fun W h=>by
  have:=fi h;unfold fI at this;rw[hI,hQ] at this
  exact this)
 have f7:=Ja (show ∀(W:World) (ia:Option Addr) (ic:Nat) (qa:Option Addr) (qc:Nat),F Z W->wV W W.heap.size (.slice ia I.length ic) I->dL W W.heap.size (.slice qa Q.length qc) Q->
  Calls Try.prog 23 #[.agg #[.slice fa p.funcs.length fc,.slice aa p.args.length ac,A p.entry,A p.handler,.slice da p.data.length dc,.slice ba p.banks.length bc],A f,N b11 n 8,.string (aaX x),.agg #[.slice ia I.length ic,.slice qa Q.length qc],A 5000] W (eM W R) from fun W ia ic qa qc hb hi hq=>by
  rw[<-hR]
  exact(mX (e1.out W hb).2.1 g2 (f:Int) e3 ((H4.out.2.2.2.2.below zr hb).mono zr hb.size) (aaX x) (ad2 x) hi hq 5000 ⟨by decide,by decide⟩ Zd).mono fun e w' h=>h.open)
 have c8:=Ja (show ∀(W:World) (ia:Option Addr) (ic:Nat) (qa:Option Addr) (qc:Nat),F Z W->wV W W.heap.size (.slice ia I.length ic) I->dL W W.heap.size (.slice qa Q.length qc) Q->
  Calls Try.prog 23 #[.agg #[.slice b5 q.funcs.length b4,.slice aa2 q.args.length ac2,A q.entry,A q.handler,.slice b7 q.data.length b6,.slice ba2 q.banks.length bc2],A (p.funcs.length:Int),O,.string (aaX x),.agg #[.slice ia I.length ic,.slice qa Q.length qc],A (5000+(n:Int)+2)] W (eM W T) from fun W ia ic qa qc hb hi hq=>by
  rw[<-hT]
  exact(mX (a0.out W hb).2.1 f1 (p.funcs.length:Int) ⟨by omega,by omega⟩ yN.nil (aaX x) (ad2 x) hi hq (5000+(n:Int)+2) ⟨by omega,by omega⟩ Zo).mono fun e w' h=>h.open)
 have c7:=Ja (show ∀W,F Z W->Calls Try.prog 20 #[.agg #[.slice b5 q.funcs.length b4,.slice aa2 q.args.length ac2,A q.entry,A q.handler,.slice b7 q.data.length b6,.slice ba2 q.banks.length bc2]] W (fun e w'=>e=.returned (A 0)/\F W w') from fun W hb=>by
  have h:=tu (a0.out W hb).2.1 (Je _) (fun g hg=>(f1 g hg).1);rw[f8.out.1] at h
  exact h)
 clear hI hQ hR hT f1 g2 e3 c9 m HS
 go_cut [12] (fun v wx=>fy Z R v wx)
 case first=>
  go_region_held3 (fun w'=>G w' b8 0 (.slice fa p.funcs.length fc)/\G w' b8 1 (.slice aa p.args.length ac)/\G w' b8 2 (A p.entry)/\G w' b8 3 (A p.handler)/\G w' b8 4 (.slice da p.data.length dc)/\G w' b8 5 (.slice ba p.banks.length bc)/\G w' (w.heap.size+1) 0 (.slice sa3 x.inn.length sc3)/\G w' (w.heap.size+1) 1 (.slice r x.irq.length qc3)/\G w' (w.heap.size+1) 2 (.int .u32 (x.ram:Int))/\G w' (w.heap.size+1) 3 (.int .u16 (x.fuel:Int)))
   ((refine(e1.out _ ?_).1;repeat' (first|with_reducible exact Below.refl _ _|with_reducible assumption|with_reducible refine Below.drew ?_|with_reducible refine Below.alloc ?_ Zn _|with_reducible refine Below.setCell ?_ Zn _)))
   (first
     |(go_at_call 24
       refine(gC (e1.out _ Zb).2.2).mono ?_;rintro e y1 ⟨rfl,d⟩;have d7:F Z y1:=Below.trans Zb (d.mono Zn);have g1:=d7.size
       first|(have b0:L y1 Z.heap.size #[.int .u16 0,O,A 0,.int .u16 0,.string ⟨#[]⟩,A 0,A 0] 57:=zH d (show(World.alloc Z _).heap[Z.heap.size]? =_ from zI rfl) Zs)|skip
       clear d)
     |(go_at_call 25
       refine(h8.out _ (e1.out _ Zb).2.2).mono ?_;rintro e y2 ⟨ia,ic,qa,qc,rfl,b1,a6,j⟩;have b1:=b1.mono zr j.size;have a6:=a6.mono xQ j.size;have f0:F Z y2:=Below.trans Zb (j.mono Zn);have j1:=f0.size
       first|(have a1:=zH j b0 (by first|exact lt_of_block b0|(have:=lt_of_block b0;simp;omega)))|(have a1:L y2 y1.heap.size #[.int .u16 0,O,A 0,.int .u16 0,.string ⟨#[]⟩,A 0,A 0] 57:=zH j (by with_reducible exact zI rfl) Zs)|skip
       clear j)
     |(go_at_call 23
       refine(f7.out _ _ _ _ _ Zb (yN.mono zr (B:=y2.heap.size) (yN.below zr b1 (by repeat' (first|with_reducible exact Below.refl _ _|with_reducible refine Below.drew ?_|with_reducible refine Below.alloc ?_ Zn _))) Zn) (yN.mono xQ (B:=y2.heap.size) (yN.below xQ a6 (by repeat' (first|with_reducible exact Below.refl _ _|with_reducible refine Below.drew ?_|with_reducible refine Below.alloc ?_ Zn _))) Zn)).mono ?_;rintro e y4 ⟨oa,oc,rfl,e0,b3⟩;have a5:F Z y4:=Below.trans Zb (b3.mono Zn);have j0:=a5.size
       first|(have c:=zH b3 a1 (by first|exact lt_of_block a1|(have:=lt_of_block a1;simp;omega)))|(have c:L y4 y2.heap.size #[.int .u16 0,O,A 0,.int .u16 0,.string ⟨#[]⟩,A 0,A 0] 57:=zH b3 (by with_reducible exact zI rfl) Zs)|skip
       first
        |(have a7:y4.heap[Z.heap.size]? =some (.cells #[.int .u16 0,.slice none 0 0,.int .i64 0,.int .u16 0,.string ⟨#[]⟩,.int .i64 0,.int .i64 0] 57 (0,0)):=c;have c0:=zA (i:=0) c rfl;have c1:=zA (i:=1) c rfl;have c2:=zA (i:=2) c rfl;have c3:=zA (i:=3) c rfl;have c4:=zA (i:=4) c rfl;have c5:=zA (i:=5) c rfl;have c6:=zA (i:=6) c rfl;have cf:∀i,y4.frozen? ⟨Z.heap.size,i,none⟩=false:=fun i=>zE c;have cl:=lt_of_block c)
        |(have a7:y4.heap[y1.heap.size]? =some (.cells #[.int .u16 0,.slice none 0 0,.int .i64 0,.int .u16 0,.string ⟨#[]⟩,.int .i64 0,.int .i64 0] 57 (0,0)):=c;have c0:=zA (i:=0) c rfl;have c1:=zA (i:=1) c rfl;have c2:=zA (i:=2) c rfl;have c3:=zA (i:=3) c rfl;have c4:=zA (i:=4) c rfl;have c5:=zA (i:=5) c rfl;have c6:=zA (i:=6) c rfl;have cf:∀i,y4.frozen? ⟨y1.heap.size,i,none⟩=false:=fun i=>zE c;have cl:=lt_of_block c)
        |(have a7:y4.heap[y2.heap.size]? =some (.cells #[.int .u16 0,.slice none 0 0,.int .i64 0,.int .u16 0,.string ⟨#[]⟩,.int .i64 0,.int .i64 0] 57 (0,0)):=c;have c0:=zA (i:=0) c rfl;have c1:=zA (i:=1) c rfl;have c2:=zA (i:=2) c rfl;have c3:=zA (i:=3) c rfl;have c4:=zA (i:=4) c rfl;have c5:=zA (i:=5) c rfl;have c6:=zA (i:=6) c rfl;have cf:∀i,y4.frozen? ⟨y2.heap.size,i,none⟩=false:=fun i=>zE c;have cl:=lt_of_block c)
        |skip))
  all_goals go_wp2_with fail
  all_goals go_meet
  all_goals first|with_reducible exact gE a5 e0 c Zn|exact gN a5 e0
 case rest=>
 obtain⟨b12,oa6,oc6,rfl,o⟩:=hcut;have a0:=Ja (fun W (hb:F wc W)=>a0.out W (o.out.2.2.2.trans (hb.mono o.out.2.2.2.size)));have c8:=Ja (fun W ia ic qa qc (hb:F wc W)=>c8.out W ia ic qa qc (o.out.2.2.2.trans (hb.mono o.out.2.2.2.size)));have c7:=Ja (fun W (hb:F wc W)=>c7.out W (o.out.2.2.2.trans (hb.mono o.out.2.2.2.size)));obtain⟨Y,hY⟩:∃Y,wc=Y:=⟨_,rfl⟩
 rw[hY] at a0 c8 c7 o ⊢;clear hY e1 f7;go_upto_region 7 with fail;have c9:=k4.out;have i4:IntKind.i64.wrap (5000+(n:Int))=5000+(n:Int):=Om _ Zo;have i3:IntKind.i64.wrap (5000+(n:Int)+2)=5000+(n:Int)+2:=Om _ Zo
 go_cut [13] (fun v wx=>fy Y T v wx)
 case first=>
  go_region_held3 (fun w'=>G w' b9 0 (.slice b5 q.funcs.length b4)/\G w' b9 1 (.slice aa2 q.args.length ac2)/\G w' b9 2 (A q.entry)/\G w' b9 3 (A q.handler)/\G w' b9 4 (.slice b7 q.data.length b6)/\G w' b9 5 (.slice ba2 q.banks.length bc2)/\G w' b8 0 (.slice fa p.funcs.length fc)/\G w' (w.heap.size+1) 0 (.slice sa3 x.inn.length sc3)/\G w' (w.heap.size+1) 1 (.slice r x.irq.length qc3)/\G w' (w.heap.size+1) 2 (.int .u32 (x.ram:Int))/\G w' (w.heap.size+1) 3 (.int .u16 (x.fuel:Int)))
   ((refine(a0.out _ ?_).1;repeat' (first|with_reducible exact Below.refl _ _|with_reducible assumption|with_reducible refine Below.drew ?_|with_reducible refine Below.alloc ?_ Zn _|with_reducible refine Below.setCell ?_ Zn _)))
   (first
     |(go_at_call 24
       refine(gC (a0.out _ Zb).2.2).mono ?_;rintro e y1 ⟨rfl,d⟩;have d7:F Y y1:=Below.trans Zb (d.mono Zn);have g1:=d7.size
       first|(have b0:L y1 Y.heap.size #[.int .u16 0,O,A 0,.int .u16 0,.string ⟨#[]⟩,A 0,A 0] 57:=zH d (show(World.alloc Y _).heap[Y.heap.size]? =_ from zI rfl) Zs)|skip
       clear d)
     |(go_at_call 25
       refine(h8.out _ (a0.out _ Zb).2.2).mono ?_;rintro e y2 ⟨ia,ic,qa,qc,rfl,b1,a6,j⟩;have b1:=b1.mono zr j.size;have a6:=a6.mono xQ j.size;have f0:F Y y2:=Below.trans Zb (j.mono Zn);have j1:=f0.size
       first|(have a1:=zH j b0 (by first|exact lt_of_block b0|(have:=lt_of_block b0;simp;omega)))|(have a1:L y2 y1.heap.size #[.int .u16 0,O,A 0,.int .u16 0,.string ⟨#[]⟩,A 0,A 0] 57:=zH j (by with_reducible exact zI rfl) Zs)|skip
       clear j)
     |(go_at_call 23
       refine(c8.out _ _ _ _ _ Zb (yN.mono zr (B:=y2.heap.size) (yN.below zr b1 (by repeat' (first|with_reducible exact Below.refl _ _|with_reducible refine Below.drew ?_|with_reducible refine Below.alloc ?_ Zn _))) Zn) (yN.mono xQ (B:=y2.heap.size) (yN.below xQ a6 (by repeat' (first|with_reducible exact Below.refl _ _|with_reducible refine Below.drew ?_|with_reducible refine Below.alloc ?_ Zn _))) Zn)).mono ?_;rintro e y4 ⟨oa,oc,rfl,e0,b3⟩;have a5:F Y y4:=Below.trans Zb (b3.mono Zn);have j0:=a5.size
       first|(have c:=zH b3 a1 (by first|exact lt_of_block a1|(have:=lt_of_block a1;simp;omega)))|(have c:L y4 y2.heap.size #[.int .u16 0,O,A 0,.int .u16 0,.string ⟨#[]⟩,A 0,A 0] 57:=zH b3 (by with_reducible exact zI rfl) Zs)|skip
       first
        |(have a7:y4.heap[Y.heap.size]? =some (.cells #[.int .u16 0,.slice none 0 0,.int .i64 0,.int .u16 0,.string ⟨#[]⟩,.int .i64 0,.int .i64 0] 57 (0,0)):=c;have c0:=zA (i:=0) c rfl;have c1:=zA (i:=1) c rfl;have c2:=zA (i:=2) c rfl;have c3:=zA (i:=3) c rfl;have c4:=zA (i:=4) c rfl;have c5:=zA (i:=5) c rfl;have c6:=zA (i:=6) c rfl;have cf:∀i,y4.frozen? ⟨Y.heap.size,i,none⟩=false:=fun i=>zE c;have cl:=lt_of_block c)
        |(have a7:y4.heap[y1.heap.size]? =some (.cells #[.int .u16 0,.slice none 0 0,.int .i64 0,.int .u16 0,.string ⟨#[]⟩,.int .i64 0,.int .i64 0] 57 (0,0)):=c;have c0:=zA (i:=0) c rfl;have c1:=zA (i:=1) c rfl;have c2:=zA (i:=2) c rfl;have c3:=zA (i:=3) c rfl;have c4:=zA (i:=4) c rfl;have c5:=zA (i:=5) c rfl;have c6:=zA (i:=6) c rfl;have cf:∀i,y4.frozen? ⟨y1.heap.size,i,none⟩=false:=fun i=>zE c;have cl:=lt_of_block c)
        |(have a7:y4.heap[y2.heap.size]? =some (.cells #[.int .u16 0,.slice none 0 0,.int .i64 0,.int .u16 0,.string ⟨#[]⟩,.int .i64 0,.int .i64 0] 57 (0,0)):=c;have c0:=zA (i:=0) c rfl;have c1:=zA (i:=1) c rfl;have c2:=zA (i:=2) c rfl;have c3:=zA (i:=3) c rfl;have c4:=zA (i:=4) c rfl;have c5:=zA (i:=5) c rfl;have c6:=zA (i:=6) c rfl;have cf:∀i,y4.frozen? ⟨y2.heap.size,i,none⟩=false:=fun i=>zE c;have cl:=lt_of_block c)
        |skip))
  all_goals go_wp2_with fail
  all_goals go_meet
  all_goals first|with_reducible exact gE a5 e0 c Zn|exact gN a5 e0
 case rest=>
 obtain⟨b13,oa7,oc7,rfl,t⟩:=hcut;have c7:=Ja (fun W (hb:F wc W)=>c7.out W (t.out.2.2.2.trans (hb.mono t.out.2.2.2.size)));have i7:=(a0.out wc t.out.2.2.2).1;obtain⟨d0,d1,d2,d3,d4,d5,_⟩:=i7;have y:=zH t.out.2.2.2 o.out.2.1 (lt_of_block o.out.2.1);have u:=t.out.2.1;have n8:=lt_of_block y;have n7:=lt_of_block u;have l9:=lt_of_block ((H4.out.2.2.2.1.below (o.out.2.2.2.trans (t.out.2.2.2.mono o.out.2.2.2.size))).blk);have p0:G wc b12 0 (.int .u16 (R.value:Int)):=zA y rfl;have p1:G wc b12 1 (.slice oa6 R.out.length oc6):=zA y rfl;have p2:G wc b12 2 (A (R.kind:Int)):=zA y rfl;have p3:G wc b12 3 (.int .u16 (R.info:Int)):=zA y rfl;have p4:G wc b12 4 (.string (y9 R.ram)):=zA y rfl;have p5:G wc b12 5 (A (R.inputs:Int)):=zA y rfl;have p6:G wc b12 6 (A (R.polls:Int)):=zA y rfl;have q0:G wc b13 0 (.int .u16 (T.value:Int)):=zA u rfl;have q1:G wc b13 1 (.slice oa7 T.out.length oc7):=zA u rfl;have q2:G wc b13 2 (A (T.kind:Int)):=zA u rfl;have q3:G wc b13 3 (.int .u16 (T.info:Int)):=zA u rfl;have q4:G wc b13 4 (.string (y9 T.ram)):=zA u rfl;have q5:G wc b13 5 (A (T.inputs:Int)):=zA u rfl;have q6:G wc b13 6 (A (T.polls:Int)):=zA u rfl;have e8:=Ja (H4.out.1.trans ((o.out.2.2.2.trans (t.out.2.2.2.mono o.out.2.2.2.size)).mono H4.out.1.size));have i0:=Ja ((o.out.2.2.1.below vo t.out.2.2.2).mono vo t.out.2.2.2.size);have h9:=Ja t.out.2.2.1;have e9:=Ja (Jb y u);clear y u i4 i3 a0 c8 H4 o t
 by_cases h7:R.kind=7
 ·rw[h7] at p2;clear h7;go_wp2_with (go_at_call 20;go_must (refine(c7.out _ (by first|exact Below.refl _ _|exact(Below.refl _ _).drew)).mono ?_;rintro e w7 ⟨rfl,b2⟩;have e2:=Ja b2;clear b2))
  all_goals go_ret
  all_goals exact⟨rfl,e8.out.trans (e2.out.mono e8.out.size)⟩
 ·have ht:=f8.out.2 h7;rw[ht] at q0 q1 q2 q3 q4 q5 q6 h9 e9;have f6:=Ja e9.out.2;have t7:((R.kind:Int)==7)=false:=Ze;have n6:¬(R.kind:Int)=7:=Zo;obtain⟨_,_,ef,o1,o2⟩:=i0.out.form;have k2:=Ja (show ∀W,F wc W->_ from fun W hb=>acn (w:=W) (x:=(R.value:Int)) (k:=(R.kind:Int)) (i:=(R.info:Int)) (p:=(R.inputs:Int)) (q:=(R.polls:Int)) (S:=y9 R.ram) rfl Zo ((i0.out.below vo hb).mono vo hb.size) ((h9.out.below vo hb).mono vo hb.size));clear ht h7 ef;go_wp2_with (first|(go_at_call 20;go_must (refine(c7.out _ (by first|exact Below.refl _ _|exact(Below.refl _ _).drew)).mono ?_;rintro e w7 ⟨rfl,b2⟩;have a3:=zH b2 e9.out.1 (by first|exact lt_of_block e9.out.1);have a2:=zH b2 f6.out (by first|exact lt_of_block f6.out);have n5:G w7 b12 0 (.int .u16 (R.value:Int)):=zA a3 rfl;have n4:G w7 b12 1 (.slice oa6 R.out.length oc6):=zA a3 rfl;have n3:G w7 b12 2 (A (R.kind:Int)):=zA a3 rfl;have n2:G w7 b12 3 (.int .u16 (R.info:Int)):=zA a3 rfl;have n1:G w7 b12 4 (.string (y9 R.ram)):=zA a3 rfl;have m7:G w7 b12 5 (A (R.inputs:Int)):=zA a3 rfl;have m6:G w7 b12 6 (A (R.polls:Int)):=zA a3 rfl;have m5:G w7 b13 0 (.int .u16 (R.value:Int)):=zA a2 rfl;have m4:G w7 b13 1 (.slice oa7 R.out.length oc7):=zA a2 rfl;have m3:G w7 b13 2 (A (R.kind:Int)):=zA a2 rfl;have m2:G w7 b13 3 (.int .u16 (R.info:Int)):=zA a2 rfl;have m1:G w7 b13 4 (.string (y9 R.ram)):=zA a2 rfl;have m0:G w7 b13 5 (A (R.inputs:Int)):=zA a2 rfl;have k9:G w7 b13 6 (A (R.polls:Int)):=zA a2 rfl;have k7:=lt_of_block a3;have k6:=lt_of_block a2;have e2:=Ja b2;clear b2 a3 a2))|(go_at_call 22;go_must (refine(k2.out _ e2.out).mono ?_;rintro e w8 ⟨rfl,h0⟩;have k5:=Ja h0;clear h0)))
  all_goals go_ret
  all_goals exact⟨rfl,e8.out.trans ((e2.out.trans (k5.out.mono e2.out.size)).mono e8.out.size)⟩
end Go.Proofs.Ytojclalkfhoooaa
