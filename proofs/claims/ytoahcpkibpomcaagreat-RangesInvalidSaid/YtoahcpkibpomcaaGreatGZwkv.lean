/- Part of a proof. -/
import Derived.Test.YtoahcpkibpomcaaGreatGLift8v
set_option linter.all false
set_option maxHeartbeats 16000000
set_option maxRecDepth 100000
namespace Go.Proofs.YtoahcpkibpomcaaGreat
open Go.RowKit
variable {W w w' wx:World}{K:SK}{o:IOp}{bl c g:List IBlk}{i k m ob t2:Nat}{xs:List Nat}{t:Slv}{l:List IOp}{oc pc:Array Value}
def BlkOp (n:Nat)(p:IProg)(o:IOp):Prop:=0<=o.res->agH n o/\(o.code=2->0<=o.a/\o.a<p.data.length)/\(o.code≠1->o.code≠2->ruG o.code≠none->(0<=o.a/\o.a<n)/\0<=o.b/\o.b<n)
def BlkEdge (n:Nat)(bls:List IBlk)(e:IEdge):Prop:=(0<=e.block/\e.block<bls.length)/\e.args.length=(xz bls e.block).params.length/\(∀x∈e.args,0<=x/\x<n)/\∀x∈(xz bls e.block).params,0<=x/\x<n
structure BlkW (n:Nat) (p:IProg) (bls:List IBlk) (b:IBlk):Prop where
 ops:∀o∈b.ops,BlkOp n p o
 tos:∀e∈b.term.to,BlkEdge n bls e
theorem SlvTo.blk(h:SlvTo w w' K){b:Nat}{o:_}(hb:w.heap[b]? =some o)(d:b<w.heap.size)(c:b≠K.rb/\b≠K.kb/\b≠K.sb):w'.heap[b]? =some o:=(h.block b d c.1 c.2.1 c.2.2).trans hb
theorem SlvAt.fresh{p:IProg}{s:Slv}(h:SlvAt w K p c k s){b:Nat}(hb:w.heap.size<=b):b≠K.rb/\b≠K.kb/\b≠K.sb:=by
 have:=lt_of_block h.row;have:=lt_of_block h.kn;have:=lt_of_block h.cell;omega
theorem SlvAt.keepB{p:IProg}{s:Slv}(h:SlvAt w K p c k s)(ht:SlvTo w w' K):Below K.B w w':=
 ht.below ⟨h.lt.2.1,h.lt.2.2.1,h.lt.1,Qd (Nat.lt_of_le_of_lt h.lt.1 (lt_of_block h.cell))⟩
theorem ed{α β:Type}{f:β->α->β}{l:List α}{x:α}(h:l[k]? =some x)(b:β):(l.take (k+1)).foldl f b=f ((l.take k).foldl f b) x:=by
 rw[Nh,h,List.foldl_append];rfl
theorem agv{p:IProg}{s:Slv}(h:SlvAt w K p g k s){bx:IBlk}(b9:g[i]? =some bx)(f4:BlkW K.n p g bx):
 G 42 #[.pointer (some ⟨K.sb,0,none⟩),I i] w (afp w K p g k (agf p g k (s,false) bx)):=by
 obtain⟨fa,fc,b8,j1,j0⟩:=h.blks.form;have a7:=h.blks;rw[b8] at a7;obtain⟨bb,bo,rfl,j2,g2,g3,h64,pv,ov,tv,g0,g1,g4,a0,b4,b2⟩:=a7.get b9;obtain⟨pa,pc,rfl,i4,i3⟩:=a0.form;obtain⟨oa,oc,rfl,i5,l0⟩:=b4.form;obtain⟨ta,tc,rfl,h9,k3⟩:=b2.form;have l3:=(Jh.1 b9).1;have l1:bx.ops.length<=9223372036854775807:=Zo;have k4:bx.term.to.length<=9223372036854775807:=Zo;have c6:=h.cells.2.2.2.2.2;rw[b8] at c6;have f2:=lt_of_block h.cell;have k0:bb<w.heap.size:=Jy j2 (Qd (Nat.lt_of_le_of_lt h.lt.1 f2));obtain⟨X,hX⟩:∃X,w.alloc (T #[.slice pa bx.params.length pc,.slice oa bx.ops.length oc,I bx.term.kind,I bx.term.a,.slice ta bx.term.to.length tc] 84)=X:=⟨_,rfl⟩
 have a5:O w X:=by rw[<-hX];exact(Below.refl _ _).alloc (Je _) _
 have c4:Q X w.heap.size #[.slice pa bx.params.length pc,.slice oa bx.ops.length oc,I bx.term.kind,I bx.term.a,.slice ta bx.term.to.length tc] 84:=by rw[<-hX];exact zI rfl
 have hB:K.B<=w.heap.size:=Qd (Nat.lt_of_le_of_lt h.lt.1 f2)
 have HX:=Ja (show SlvAt X K p g k s/\SlvTo w X K/\Q X w.heap.size #[.slice pa bx.params.length pc,.slice oa bx.ops.length oc,I bx.term.kind,I bx.term.a,.slice ta bx.term.to.length tc] 84/\mN X K.B (.slice oa bx.ops.length oc) bx.ops/\wH X K.B (.slice ta bx.term.to.length tc) bx.term.to/\O w X/\w.heap.size<X.heap.size/\K.B<=w.heap.size from
  ⟨h.below a5,SlvTo.of_below a5,c4,b4.below xA (a5.mono hB),b2.below xL (a5.mono hB),a5,lt_of_block c4,hB⟩)
 have HW:=Ja (Jb h (Jb f4 (Jb b9 b8)));have m1:=j0;obtain⟨t6,f1⟩:∃t6,w.heap.size=t6:=⟨_,rfl⟩
 clear h f4 b9 b8 a7 h64 a0 b4 b2 a5 c4 j1 i4 i3 i5 h9 hB;go_enter Tryz.func42,Tryz.ntmps42;go_upto_region 3 with fail;clear hX c6 g0 g1 g2 g3 g4;rw[f1] at HX;have d1:A X t6 1 (.slice oa bx.ops.length oc):=zA HX.out.2.2.1 rfl;go_wp2;clear d1
 go_loopw [5,24] (fun cv jv wx=>∃(j:Nat) (s':Slv) (c:Bool),j<=bx.ops.length/\cv=.bool c/\jv=I j/\Hid ((bx.ops.take j).foldl (opS p k) (s,false)=(s',c)/\SlvAt wx K p g k s'/\SlvTo X wx K)) (fun _ jv _=>bx.ops.length-(intOf jv).toNat)
 case atStart=>exact⟨0,s,false,Jt _,rfl,rfl,Ja ⟨rfl,HX.out.1,SlvTo.refl _ _⟩⟩
 case round=>
  obtain⟨j,s',c,hj,rfl,rfl,l⟩:=hrel
  by_cases y:j<bx.ops.length
  ·have b5:(j:Int)<(bx.ops.length:Int):=Zo;obtain⟨o,ho⟩:∃o,bx.ops[j]? =some o:=⟨_,Jd y⟩
   have t:Below K.B X wr:=HX.out.1.keepB l.out.2.2;obtain⟨qb,qo,d0,a9,e0,e1,e2,e3,e4,h64,av,e5,a6⟩:=(HX.out.2.2.2.1.below xA t).get ho;obtain⟨aa,ac,rfl,_,_⟩:=a6.form;subst d0;have c9:qb<wr.heap.size:=Jy a9 (Jn HX.out.2.2.2.2.2.2.2 (Jn (Qd HX.out.2.2.2.2.2.2.1) t.size));obtain⟨Y,hY⟩:∃Y,wr.alloc (T (D o aa ac) 76)=Y:=⟨_,rfl⟩
   have a1:O wr Y:=by rw[<-hY];exact(Below.refl _ _).alloc (Je _) _
   have a3:Q Y wr.heap.size (D o aa ac) 76:=by rw[<-hY];exact zI rfl
   have d:=Ja (show SlvAt Y K p g k s'/\SlvTo X Y K/\Q Y wr.heap.size (D o aa ac) 76/\wr.heap.size≠K.rb/\wr.heap.size≠K.kb/\wr.heap.size≠K.sb from⟨l.out.2.1.below a1,l.out.2.2.trans (SlvTo.of_below a1),a3,l.out.2.1.fresh (Je _)⟩);have HO:=Ja (Jb ho (Jb h64 (HW.out.2.1.ops o (Ji ho))));have a2:=Ja y;clear ho h64 a6 t a1 a3 y;go_upto_region 6 with fail;clear hY e0 e1 e2 e3 e4 e5 c9 a9;obtain⟨t8,i0⟩:∃t8,wr.heap.size=t8:=⟨_,rfl⟩
   rw[i0] at d ⊢;have z0:A Y t8 0 (I o.code):=zA d.out.2.2.1 rfl;have z1:A Y t8 1 (I o.res):=zA d.out.2.2.1 rfl;have z2:A Y t8 2 (I o.a):=zA d.out.2.2.1 rfl;have z3:A Y t8 3 (I o.b):=zA d.out.2.2.1 rfl;have z4:A Y t8 4 (U (o.n:Int)):=zA d.out.2.2.1 rfl;have z5:A Y t8 5 (.slice aa o.args.length ac):=zA d.out.2.2.1 rfl
   by_cases hr:0<=o.res
   ·have i2:decide (0<=o.res)=true:=decide_eq_true hr;obtain⟨a,ha⟩:∃a,afq p s' o=a:=⟨_,rfl⟩
    obtain⟨s2,r,hq⟩:∃s2 r,setF k s' o.res a=(s2,r):=⟨_,_,rfl⟩
    obtain⟨c7,d2,f7⟩:=HO.out.2.2 hr;have u:a.ok:=by rw[<-ha];exact ag1 d.out.1.oks c7 hr
    have b7:(aeG a (s'.get o.res)).ok:=aft u (d.out.1.oks.get _)
    have j4:=Ja (show ∀W,O Y W->G 96 #[.pointer (some ⟨K.sb,0,none⟩),.agg (D o aa ac)] W (lx W a) from fun W hb=>by
     rw[<-ha];exact ago (d.out.1.below hb) (.slice aa o.args.length ac) HO.out.2.1.1 HO.out.2.1.2.2.2.2 d2 f7)
    have e6:=Ja (show ∀W,SlvAt W K p g k s'->G 38 #[.pointer (some ⟨K.sb,0,none⟩),I o.res,.agg #[U (a.lo:Int),U (a.hi:Int)]] W (afp W K p g k (s2,r)) from fun W hb=>by
     have:=af5 hb (v:=o.res.toNat) ((c7 hr).1) u (by rw[Oa hr];exact b7);rw[Oa hr,hq] at this
     exact this)
    have HQ:=Ja (Jb hq (Jb ha hr));clear hq ha c7 d2 f7 u b7;have HC:=Ja (show ∀w':World,w'.heap[t8]? =Y.heap[t8]?->A w' t8 0 (I o.code)/\A w' t8 1 (I o.res)/\A w' t8 2 (I o.a)/\A w' t8 3 (I o.b)/\A w' t8 4 (U (o.n:Int))/\A w' t8 5 (.slice aa o.args.length ac) from fun W h=>⟨zA (h.trans d.out.2.2.1) rfl,zA (h.trans d.out.2.2.1) rfl,zA (h.trans d.out.2.2.1) rfl,zA (h.trans d.out.2.2.1) rfl,zA (h.trans d.out.2.2.1) rfl,zA (h.trans d.out.2.2.1) rfl⟩);have f5:=lt_of_block d.out.2.2.1;cases r
    all_goals go_region_held3 (fun w'=>A w' t8 0 (I o.code)/\A w' t8 1 (I o.res)/\A w' t8 2 (I o.a)/\A w' t8 3 (I o.b)/\A w' t8 4 (U (o.n:Int))/\A w' t8 5 (.slice aa o.args.length ac))
     ((refine HC.out _ ?_;first|exact rfl|exact i9|exact i7))
     ((first
       |(go_at_call 96;refine(j4.out _ Zf).mono ?_;rintro e w1 ⟨rfl,f6⟩;have d7:Below Y.heap.size Y w1:=Below.trans (show Below Y.heap.size Y _ from Zf) (f6.mono (Je _));clear f6;have i9:w1.heap[t8]? =Y.heap[t8]?:=d7.block _ f5)
       |(go_at_call 38;refine(e6.out _ (d.out.1.below (by repeat' (first|with_reducible exact d7|with_reducible refine Below.drew ?_)))).mono ?_;rintro e w2 ⟨rfl,a4,a8⟩;have c5:SlvTo Y w2 K:=SlvTo.trans (SlvTo.of_below (show Below Y.heap.size Y _ from by repeat' (first|with_reducible exact d7|with_reducible refine Below.drew ?_))) a8;have i7:w2.heap[t8]? =Y.heap[t8]?:=c5.block _ f5 d.out.2.2.2.1 d.out.2.2.2.2.1 d.out.2.2.2.2.2;have H2:=Ja (Jb a4 c5);clear a4 a8 c5)))
    all_goals clear z0 z1 z2 z3 z4 z5
    all_goals go_wp2_with fail
    all_goals (
     go_roundw
     case rel=>exact⟨j+1,s2,_,a2.out,by first|rfl|(cases c<;>rfl),by go_num,Ja ⟨by rw[ed HO.out.1,l.out.1];unfold opS;rw[if_pos HQ.out.2.2];unfold aeA;rw[show afq p (s',c).1 o=a from HQ.out.2.1,HQ.out.1];first|rw[Bool.or_true]|rw[Bool.or_false],H2.out.1.below (by first|exact Below.refl _ _|exact(Below.refl _ _).drew),d.out.2.1.trans (H2.out.2.trans (SlvTo.of_below (by first|exact Below.refl _ _|exact(Below.refl _ _).drew)))⟩⟩
     case measure=>(try have h1:=a2.out);(try have h2:=b1.out);simp[intOf];omega)
   ·have i2:decide (0<=o.res)=false:=decide_eq_false hr;go_quiet (fail);go_wp2;go_roundw
    case rel=>exact⟨j+1,s',c,a2.out,rfl,by go_num,Ja ⟨by rw[ed HO.out.1,l.out.1];unfold opS;rw[if_neg hr],d.out.1.below (by first|exact Below.refl _ _|exact yC (Below.refl _ _)),d.out.2.1.trans (SlvTo.of_below (by first|exact Below.refl _ _|exact yC (Below.refl _ _)))⟩⟩
    case measure=>(try have h1:=a2.out);(try have h2:=b1.out);simp[intOf];omega
  ·obtain rfl:j=bx.ops.length:=by omega
   have b5:¬(bx.ops.length:Int)<(bx.ops.length:Int):=Zo;have e9:=l.out.2.2.blk HX.out.2.2.1 HX.out.2.2.2.2.2.2.1 (by rw[<-f1];exact HW.out.1.fresh (Je _));have d4:A wr t6 4 (.slice ta bx.term.to.length tc):=zA e9 rfl;have HF:=Ja (show bx.ops.foldl (opS p k) (s,false)=(s',c) by have:=l.out.1;rw[Nl] at this;exact this);have e7:=Ja l.out.2;clear e9 hj y l;go_wp2;clear d4
   go_loopw [5,45] (fun cv jv wx=>∃(j:Nat) (s2:Slv) (c2:Bool),j<=bx.term.to.length/\cv=.bool c2/\jv=I j/\Hid ((bx.term.to.take j).foldl (ahe g k) (s',c)=(s2,c2)/\SlvAt wx K p g k s2/\SlvTo X wx K)) (fun _ jv _=>bx.term.to.length-(intOf jv).toNat)
   case atStart=>exact⟨0,s',c,Jt _,rfl,rfl,Ja ⟨rfl,e7.out.1,e7.out.2⟩⟩
   case round=>
    clear e7;obtain⟨j,s2,c2,hj,rfl,rfl,l⟩:=hrel
    by_cases y:j<bx.term.to.length
    ·have b5:(j:Int)<(bx.term.to.length:Int):=Zo;obtain⟨e,he⟩:∃e,bx.term.to[j]? =some e:=⟨_,Jd y⟩
     have t:Below K.B X wr:=HX.out.1.keepB l.out.2.2;obtain⟨qb,qo,d0,a9,e0,h64,av,e1,a6⟩:=(HX.out.2.2.2.2.1.below xL t).get he;obtain⟨aa,ac,rfl,j3,l5⟩:=a6.form;have l7:e.args.length<=9223372036854775807:=Zo;subst d0;have c9:qb<wr.heap.size:=Jy a9 (Jn HX.out.2.2.2.2.2.2.2 (Jn (Qd HX.out.2.2.2.2.2.2.1) t.size));obtain⟨Y,hY⟩:∃Y,wr.alloc (T #[I e.block,.slice aa e.args.length ac] 79)=Y:=⟨_,rfl⟩
     have a1:O wr Y:=by rw[<-hY];exact(Below.refl _ _).alloc (Je _) _
     have a3:Q Y wr.heap.size #[I e.block,.slice aa e.args.length ac] 79:=by rw[<-hY];exact zI rfl
     have f8:K.B<=wr.heap.size:=Qd (Nat.lt_of_le_of_lt l.out.2.1.lt.1 (lt_of_block l.out.2.1.cell));have d:=Ja (show SlvAt Y K p g k s2/\SlvTo X Y K/\Q Y wr.heap.size #[I e.block,.slice aa e.args.length ac] 79/\(wr.heap.size≠K.rb/\wr.heap.size≠K.kb/\wr.heap.size≠K.sb)/\zY Y K.B (.slice aa e.args.length ac) e.args/\wr.heap.size<Y.heap.size from⟨l.out.2.1.below a1,l.out.2.2.trans (SlvTo.of_below a1),a3,l.out.2.1.fresh (Je _),a6.below zO (a1.mono f8),lt_of_block a3⟩);have HO:=Ja (Jb he (HW.out.2.1.tos e (Ji he)));have a2:=Ja y;clear he h64 a6 t a1 a3 y j3 f8;go_upto_region 12 with fail;clear hY e0 e1 c9 a9;obtain⟨t10,f9⟩:∃t10,wr.heap.size=t10:=⟨_,rfl⟩
     rw[f9] at d ⊢;have z1:A Y t10 1 (.slice aa e.args.length ac):=zA d.out.2.2.1 rfl;obtain⟨eb,d5⟩:∃eb:Nat,e.block=eb:=⟨e.block.toNat,by have:=HO.out.2.1;omega⟩
     obtain⟨bq,c0⟩:∃bq,g[eb]? =some bq:=⟨_,Jd (by have:=HO.out.2.1;omega)⟩
     have b6:xz g e.block=bq:=by rw[d5];exact vp c0
     have b3:=HO.out.2.2;rw[b6] at b3;have l4:eb<g.length:=(Jh.1 c0).1;have HE:=Ja (Jb b3 (Jb b6 c0));have j5:=Ja d5;clear b3 b6 c0 d5;go_wp2;clear z1
     go_loopw [5,52] (fun cv jv wx=>∃(m:Nat) (s3:Slv) (c3:Bool),m<=e.args.length/\cv=.bool c3/\jv=I m/\Hid (((bq.params.zip e.args).take m).foldl (argS k) (s2,c2)=(s3,c3)/\SlvAt wx K p g k s3/\SlvTo Y wx K)) (fun _ jv _=>e.args.length-(intOf jv).toNat)
     case atStart=>exact⟨0,s2,c2,Jt _,rfl,rfl,Ja ⟨rfl,d.out.1,SlvTo.refl _ _⟩⟩
     case round=>
      obtain⟨m,s3,c3,hm,rfl,rfl,q⟩:=hrel
      by_cases b0:m<e.args.length
      ·have i6:(m:Int)<(e.args.length:Int):=Zo;obtain⟨x,hx⟩:∃x,e.args[m]? =some x:=⟨_,Jd b0⟩
       obtain⟨v,hv⟩:∃v,bq.params[m]? =some v:=⟨_,Jd (by rw[<-HE.out.1.1];exact b0)⟩
       have hz:(bq.params.zip e.args)[m]? =some (v,x):=List.getElem?_zip_eq_some.2 ⟨hv,hx⟩;have e8:=HE.out.1.2.1 x (Ji hx);have h6:=HE.out.1.2.2 v (Ji hv);have t:Below K.B Y wr:=d.out.1.keepB q.out.2.2;obtain⟨xb,xo,h4,h5,xc,_⟩:=(d.out.2.2.2.2.1.below zO t).get hx;subst h4;have d6:=q.out.2.1.blks;rw[HW.out.2.2.2] at d6;obtain⟨ub,uo,f0,h8,_,_,_,pv,_,_,u0,_,_,a0,_,_⟩:=d6.get HE.out.2.2;simp only[Option.some.injEq,Addr.mk.injEq,and_true] at f0;obtain⟨rfl,rfl⟩:=f0;obtain⟨ya,yc,rfl,g6,k1⟩:=a0.form;obtain⟨yb,yo,g8,h0,y0,_⟩:=a0.get hv;subst g8;rw[Nk] at xc y0;obtain⟨xn,rfl⟩:∃xn:Nat,x=xn:=⟨x.toNat,by omega⟩
       obtain⟨vn,rfl⟩:∃vn:Nat,v=vn:=⟨v.toNat,by omega⟩
       obtain⟨r0,r1⟩:=q.out.2.1.rcell e8;rw[Ni] at r0 r1;obtain⟨a,ha⟩:∃a,s3.get (xn:Int)=a:=⟨_,rfl⟩
       rw[ha] at r0 r1;have u:a.ok:=by rw[<-ha];exact q.out.2.1.oks.get _
       obtain⟨s4,r,hq⟩:∃s4 r,setF k s3 (vn:Int) a=(s4,r):=⟨_,_,rfl⟩
       have h7:vn<K.n:=Zo;have k2:xn<K.n:=Zo
       have e6:=Ja (show ∀W,SlvAt W K p g k s3->G 38 #[.pointer (some ⟨K.sb,0,none⟩),I vn,.agg #[U (a.lo:Int),U (a.hi:Int)]] W (afp W K p g k (s4,r)) from fun W hb=>by
        have:=af5 hb h7 u (aft u (hb.oks.get _));rw[hq] at this
        exact this)
       have f3:bq.params.length=e.args.length:=HE.out.1.1.symm;have c6:=q.out.2.1.cells.2.2.2.2.2;rw[HW.out.2.2.2] at c6;have c8:=q.out.2.1.cells.2.2.1;have d3:=q.out.2.2.blk d.out.2.2.1 d.out.2.2.2.2.2 d.out.2.2.2.1;have z0:A wr t10 0 (I eb):=by rw[<-j5.out];exact zA d3 rfl
       have l2:=q.out.2.1.n64;have k9:m<bq.params.length:=Zo;have HQ:=Ja (Jb hq (Jb ha (Jb hz f3)));have i1:=lt_of_block q.out.2.1.cell;have a4:=lt_of_block q.out.2.1.row;have l8:K.B<=wr.heap.size:=Qd (Nat.lt_of_le_of_lt q.out.2.1.lt.1 i1);have k7:xb<wr.heap.size:=Zo;have k6:bb<wr.heap.size:=Zo;have k5:yb<wr.heap.size:=Zo;have b1:=Ja b0;clear hq ha hz hx hv f3 d6 a0 t d3 g6 u e8 h6 h5 h8 h0 b0;go_upto_region 15 with fail;refine zt 21 Zk Zk ?_;simp only[Qo,Uc,Qp,Ui]
       repeat (go_big_quiet_step (fail))
       refine wpQuiet_nil ?_;clear z0 c6 c8 y0 u0 xc r0 r1;cases r
       all_goals go_wp2_with (go_at_call 38;go_must (refine(e6.out _ (q.out.2.1.below (Below.refl _ _).drew)).mono ?_;rintro e w2 ⟨rfl,a4,a8⟩;have H2:=Ja (Jb a4 ((SlvTo.of_below (Below.refl wr.heap.size wr).drew).trans a8));clear a4 a8))
       all_goals (
        go_roundw
        case rel=>exact⟨m+1,s4,_,b1.out,by first|rfl|(cases c3<;>rfl),by go_num,Ja ⟨by rw[ed HQ.out.2.2.1,q.out.1];unfold argS aeA;rw[show(s3,c3).1.get ((vn:Int),(xn:Int)).2=a from HQ.out.2.1,HQ.out.1];first|rw[Bool.or_true]|rw[Bool.or_false],H2.out.1.below (by first|exact Below.refl _ _|exact(Below.refl _ _).drew),q.out.2.2.trans (H2.out.2.trans (SlvTo.of_below (by first|exact Below.refl _ _|exact(Below.refl _ _).drew)))⟩⟩
        case measure=>(try have h1:=a2.out);(try have h2:=b1.out);simp[intOf];omega)
      ·obtain rfl:m=e.args.length:=by omega
       have i6:¬(e.args.length:Int)<(e.args.length:Int):=Zo;clear hm b0;go_wp2;go_roundw
       case rel=>
        refine⟨j+1,s3,c3,a2.out,rfl,by go_num,Ja ⟨?_,q.out.2.1,d.out.2.1.trans q.out.2.2⟩⟩;rw[ed HO.out.1,l.out.1];unfold ahe;rw[HE.out.2.1,<-q.out.1,Oy (by rw[List.length_zip,HE.out.1.1];omega)]
       case measure=>(try have h1:=a2.out);(try have h2:=b1.out);simp[intOf];omega
    ·obtain rfl:j=bx.term.to.length:=by omega
     have b5:¬(bx.term.to.length:Int)<(bx.term.to.length:Int):=Zo;clear hj y;go_wp2;go_ret
     have g5:agf p g k (s,false) bx=(s2,c2):=by
      unfold agf;rw[HF.out,<-l.out.1,Nl]
     rw[g5];exact⟨rfl,l.out.2.1,HX.out.2.1.trans l.out.2.2⟩
def RgsRet (w:World)(l:List Rg)(e:Ending)(w':World):Prop:=∃b,e=.returned (F b l.length l.length)/\Q w' b (l.flatMap tr).toArray 45/\w.heap.size<=b/\O w w'
theorem use_of{p:IProg}(hv:vC p=0){n:Nat}(c:p.funcs[n]? =some bl):∀b∈bl,aq (aaG bl).toNat b:=
 (dw c ((rz hv).2 n (Jh.1 c).1)).2
theorem agO {c:Int}(h:ruG c≠none):(c=3∨c=4∨c=19∨c=23)∨5<=c/\c<=17:=by
 by_cases d:(c=3∨c=4∨c=19∨c=23)∨5<=c/\c<=17
 ·exact d
 ·exfalso;apply h;simp only[ruG,putR]
  iterate 17 rw[if_neg Zo]
theorem blkW_of{p:IProg}(h:FnS p bl)(w:∀b∈bl,aq (aaG bl).toNat b)(hi:i<bl.length):BlkW (aaG bl).toNat p bl (xz bl i):=by
 obtain⟨b,hb⟩:∃b,bl[i]? =some b:=⟨_,Jd hi⟩
 have u:=vp hb;have q:=w b (Ji hb);refine⟨fun o ho h0=>⟨(h.sol i hi).1 o ho,?_,?_⟩,fun e he=>?_⟩
 ·intro h2;have:=(opF_ok (h.st.opok i hi o ho)).2.1 h2;omega
 ·intro h1 h2 hr;have d:=h.st.opok i hi o ho;have k:=((h.rng i hi).2 o ho).1;have t:=agO hr
  have y:(zi o.code).a=true:=by
   rcases t with(e|e|e|e)|e
   ·rw[e];rfl
   ·rw[e];rfl
   ·rw[e];rfl
   ·rw[e];rfl
   ·unfold zi;rw[if_neg Zo,if_neg Zo,if_pos e]
  have h3:=k.a y;refine⟨by omega,?_⟩
  by_cases l:(zi o.code).b=true
  ·have:=k.b l;omega
  ·unfold opF at d;rw[Jm] at d;have m:=d.2;rw[if_neg Zo,if_neg h2] at m;simp only[Jm,Bool.or_eq_true,decide_eq_true_eq] at m
   have j:o.b=0:=by
    rcases m.1.1.1.2 with j|j
    ·exact absurd j l
    ·exact j
   omega
 ·have c:=h.st.trm i hi;unfold wn at c;rw[Jm,Oe] at c;have g:=c.1 e he;unfold uM at g;simp only[Jm,decide_eq_true_eq] at g;refine⟨by omega,g.2,fun x hx=>?_,fun x hx=>?_⟩
  ·rw[u] at he;have:=q.2.2 x (by unfold mE;rw[Jl];exact .inr (List.mem_flatten.2 ⟨_,Nu.2 ⟨e,he,rfl⟩,hx⟩));omega
  ·have:=(h.rng e.block.toNat Zo).1 x (by rw[show((e.block.toNat:Nat):Int)=e.block by omega];exact hx);omega
theorem ru_cells (n:Nat):madeCells (#[U 0,U 0]:Array Value) (n*2)=((List.replicate n (⟨0,0⟩:Rg)).flatMap tr).toArray:=by
 apply Array.ext
 ·simp[madeCells,tr,List.length_flatMap]
 ·intro i h1 h2;have hi:i<n*2:=by simpa[madeCells] using h1
  have h3:((List.replicate n (⟨0,0⟩:Rg)).flatMap tr)=List.replicate (n*2) (U 0):=by
   clear h1 h2 hi
   induction n with
   |zero=>rfl
   |succ n ih=>rw[Qz,Qa,ih,show(n+1)*2=n*2+1+1 by omega];rfl
  simp only[h3,List.getElem_toArray,List.getElem_replicate];simp only[madeCells,Array.getElem_map,Array.getElem_range];have c:i%2=0∨i%2=1:=Zo;rcases c with c|c
  ·show((#[U 0,U 0]:Array Value)[i%2]!)=_;rw[c];rfl
  ·show((#[U 0,U 0]:Array Value)[i%2]!)=_;rw[c];rfl
theorem ae3{b:Nat}{o:Option Obj}(h:w.heap[b]? =o):w.drew.heap[b]? =o:=h
theorem kn_cells (n:Nat):madeCells (#[.bool false]:Array Value) n=((List.replicate n false).map Value.bool).toArray:=by rw[yA];simp
def ag2 (w wx:World)(K:SK)(p:IProg)(bl:List IBlk):Prop:=SlvAt wx K p bl 0 ⟨List.replicate K.n ⟨0,0⟩,List.replicate K.n false⟩/\O w wx/\w.heap.size<=K.rb/\w.heap.size<=K.kb/\w.heap.size<=K.sb
theorem slvNew{B n sb rb kb rm:Nat}{V:PV}{fv:Value}{p:IProg}(hp:ProgIn wx B V p)(h:wX wx B fv bl)(hB:B<=w.heap.size)(i:n<=1000000)(g:O w wx)
 (hm:bd wx rm 17 ruG) (hs:Q wx sb #[V.fv,V.av,I p.entry,I p.handler,V.dv,V.bv,fv,.map (some rm),F rb n n,F kb n n,I 0] 99)
 (hr:Q wx rb ((List.replicate n (⟨0,0⟩:Rg)).flatMap tr).toArray 45) (hk:Q wx kb ((List.replicate n false).map Value.bool).toArray 4)
 (c:w.heap.size<=sb/\w.heap.size<=rb/\w.heap.size<=kb/\w.heap.size<=rm) (d:sb≠rb/\sb≠kb/\sb≠rm/\rb≠kb/\rb≠rm/\kb≠rm):ag2 w wx ⟨sb,rb,kb,rm,n,B,V,fv⟩ p bl:=
 ⟨⟨hp,h,hm,hs,hr,hk,⟨by simp,by simp,fun a ha=>by rw[(List.mem_replicate.1 ha).2];exact⟨Je _,Jt _⟩⟩,i,⟨Jn hB c.1,Jn hB c.2.1,Jn hB c.2.2.1,Jn hB c.2.2.2⟩,d⟩,g,c.2.1,c.2.2.1,c.1⟩
theorem slvNew'{B n sb rb kb rm:Nat}{V:PV}{fv:Value}{p:IProg}(hs:Q wx sb #[V.fv,V.av,I p.entry,I p.handler,V.dv,V.bv,fv,.map (some rm),F rb n n,F kb n n,I 0] 99)
 (hB:B<=w.heap.size) (i:n<=1000000) (hp:ProgIn wx B V p) (h:wX wx B fv bl) (g:O w wx) (hm:bd wx rm 17 ruG)
 (hr:Q wx rb ((List.replicate n (⟨0,0⟩:Rg)).flatMap tr).toArray 45) (hk:Q wx kb ((List.replicate n false).map Value.bool).toArray 4)
 (d:w.heap.size<=sb/\w.heap.size<=rb/\w.heap.size<=kb/\w.heap.size<=rm) (c:sb≠rb/\sb≠kb/\sb≠rm/\rb≠kb/\rb≠rm/\kb≠rm):∃K:SK,Value.pointer (some ⟨sb,0,none⟩)=Y K.sb/\K.n=n/\Hid (ag2 w wx K p bl):=
 ⟨_,rfl,rfl,Ja (slvNew hp h hB i g hm hs hr hk d c)⟩
theorem Tryz.info_range:(Tryz.prog.info? 45).map (fun i=>(i.zero,i.size,i.bytes))=some (some (.agg #[U 0,U 0]),2,4):=by kernel_rfl
theorem make_rgs (n:Nat)(d:n<=1000000)(w:World):(Instr.makeSlice 34 (I n) (I n)).run Tryz.prog w=.ok (F w.heap.size n n) (w.alloc (T ((List.replicate n (⟨0,0⟩:Rg)).flatMap tr).toArray 45)):=by
 obtain⟨i,hi,c,h1,h2⟩:=info_parts Tryz.info_range;have:=run_make (P:=Tryz.prog) w 34 45 i (.agg #[U 0,U 0]) Tryz.underlying34 hi c .i64 .i64 n n Zo (Og _) (by rw[h2];omega) Zo;rw[this,h1,Ni,<-ru_cells];rfl
def afu (w:World)(ob:Nat)(xs:List Nat):Prop:=∃cur,Q w ob cur 3/\∀(k x:Nat),xs[k]? =some x->cur[k]? =some (I x)
theorem own_ord{base n:Nat}{v:Value}(h:w.ownsRow base 3 1 v n (xs.map zj))(m:n=xs.length)(o:0<xs.length):∃ob oc,v=F ob n oc/\n<=oc/\oc<=9223372036854775807/\base<=ob/\afu w ob xs:=by
 rcases h.2 with⟨_,e⟩|⟨g,d,cur,rfl,hg,i,h1,h2,h3,j⟩
 ·omega
 ·refine⟨g,d,rfl,h1,by unfold maxLen at h2;omega,hg,cur,i,fun k x hk=>?_⟩;have l:=(Jh.1 hk).1;have c:(cur.toList.take (n*1))[k]? =some (zj x):=by rw[j,Jr,hk];rfl
  rw[List.getElem?_take_of_lt Zo] at c
  simpa[zj] using c
theorem afu.to(h:afu w ob xs)(ht:SlvTo w w' K)(c:ob≠K.rb/\ob≠K.kb/\ob≠K.sb):afu w' ob xs:=by
 obtain⟨cur,h1,h2⟩:=h;exact⟨cur,ht.blk h1 (lt_of_block h1) c,h2⟩
theorem afu.lt(h:afu w ob xs):ob<w.heap.size:=by obtain⟨cur,h1,_⟩:=h;exact lt_of_block h1
theorem afu.cell {w:World}{ob:Nat}{xs:List Nat}(h:afu w ob xs){k x:Nat}(hk:xs[k]? =some x):A w ob k (I x):=by
 obtain⟨cur,h1,h2⟩:=h;exact zA h1 (h2 k x hk)
theorem SlvAt.round{p:IProg}{s:Slv}(h:SlvAt w K p c k s)(d:w.setCell ⟨K.sb,10,none⟩ (I (((k+1:Nat)):Int))=W):SlvAt W K p c (k+1) s/\SlvTo w W K:=by
 have j:=h.ne;have hb:Below K.B w W:=by rw[<-d];exact(Below.refl K.B w).setCell h.lt.1 _
 have ho:∀i,i≠K.sb->W.heap[i]? =w.heap[i]?:=fun i h1=>by rw[<-d,Below.heap_setCell _ _ _ _ h1]
 have g:=zD (i:=10) h.cell (I (((k+1:Nat)):Int));rw[d] at g;exact⟨⟨h.prog.below hb,h.blks.below yT hb,h.map.same (ho _ Zo),g,(ho _ Zo).trans h.row,(ho _ Zo).trans h.kn,h.oks,h.n64,h.lt,h.ne⟩,⟨hb.os,hb.tape,hb.output,hb.size,fun i _ _ _ h3=>ho i h3⟩⟩
theorem SlvAt.putR{X:World}{p:IProg}{s:Slv}(h:SlvAt X K p g k s){v:Nat}(hv:v<K.n){a:Rg}(o:a.ok)
 (l:(X.setCell ⟨K.rb,v*2,none⟩ (U (a.lo:Int))).setCell ⟨K.rb,v*2+1,none⟩ (U (a.hi:Int))=W):
 SlvAt W K p g k ⟨s.r.set v a,s.kn⟩/\SlvTo X W K:=by
 have m:=h.ne;have c:=h.lt;have d:=zD (i:=v*2+1) (zD (i:=v*2) h.row (U (a.lo:Int))) (U (a.hi:Int));rw[l] at d
 have hb:Below K.B X W:=by
  rw[<-l];exact((Below.refl K.B X).setCell c.2.1 _).setCell c.2.1 _
 have ho:∀i,i≠K.rb->W.heap[i]? =X.heap[i]?:=fun i h1=>by
  rw[<-l,Below.heap_setCell _ _ _ _ h1,Below.heap_setCell _ _ _ _ h1]
 refine⟨⟨h.prog.below hb,h.blks.below yT hb,h.map.same (ho _ Zo),(ho _ Zo).trans h.cell,?_,(ho _ Zo).trans h.kn,⟨by show(s.r.set _ _).length=_;rw[Nd,h.oks.rl],h.oks.kl,fun x j=>?_⟩,h.n64,c,m⟩,⟨hb.os,hb.tape,hb.output,hb.size,fun i _ h1 _ _=>ho i h1⟩⟩
 ·have:=agc s.r v a (by rw[h.oks.rl];exact hv);rw[<-this];exact d
 ·rcases Qe j with j|rfl
  ·exact h.oks.ok x j
  ·exact o
def aeB (t:Slv)(m:Nat):Slv:=⟨(afh t).take m++t.r.drop m,t.kn⟩
theorem aeO{n:Nat}(h:OkS n t):(afh t).length=n:=by unfold afh;rw[Nr,List.length_zip,h.rl,h.kl,Nat.min_self]
theorem agz{n:Nat}(h:OkS n t):aeB t n=⟨afh t,t.kn⟩:=by
 unfold aeB;rw[Oy (by rw[aeO h];exact Je _),List.drop_of_length_le (by rw[h.rl];exact Je _),Ua]
theorem afH{n:Nat}(h:OkS n t)(hm:m<n):(afh t)[m]? =some (if t.knw (m:Int)=true then t.get (m:Int) else vu):=by
 have h1:m<t.r.length:=by rw[h.rl];exact hm
 have h2:m<t.kn.length:=by rw[h.kl];exact hm
 unfold afh Slv.knw Slv.get;rw[Jr,Jd (by rw[List.length_zip];omega)];simp[Jj,Jd h1,Jd h2]
theorem agr (t:Slv)(m:Nat)(v:Int):(aeB t m).knw v=t.knw v:=rfl
theorem agy{n:Nat}(h:OkS n t)(hm:m<n)(hk:t.knw (m:Int)=true):aeB t (m+1)=aeB t m:=by
 have h1:m<t.r.length:=by rw[h.rl];exact hm
 have hg:=afH h hm;rw[if_pos hk] at hg;have h3:t.get (m:Int)=t.r[m]:=by unfold Slv.get;simp[Jj,Jd h1]
 unfold aeB;rw[Nh,hg,Qn h1,h3];simp
theorem agQ{n:Nat}(h:OkS n t)(hm:m<n)(hk:t.knw (m:Int)=false):aeB t (m+1)=⟨(aeB t m).r.set m vu,(aeB t m).kn⟩:=by
 have h1:m<t.r.length:=by rw[h.rl];exact hm
 have hg:=afH h hm;rw[hk,if_neg Zd] at hg;have hl:((afh t).take m).length=m:=by rw[Oc,aeO h];omega
 unfold aeB;simp only;rw[Nh,hg,Uj _ _ Zo,hl,Qy,Qn h1,Jf];simp
theorem afi{B:Nat}{V:PV}{p:IProg}(hp:ProgIn w B V p)(hB:B<=w.heap.size)(hs:∀f∈p.funcs,vZ f)(hv:vC p=0){f:Nat}(hf:p.funcs[f]? =some bl)(h0:bl≠ []):
 G 15 #[yH V p,I f] w (RgsRet w (p6 p bl)):=by
 have hF:=ag7 hv hs hp.p64 hf h0;have hU:=use_of hv hf
 have i4:∀W,O w W->G 35 #[yH V p] W (m9 W 0):=fun W hb=>by
  have:=tu (hp.below (hb.mono hB)) (Jn hB hb.size) hs;rw[hv] at this;exact this
 obtain⟨Vf,Va,Vd,Vb⟩:=V;obtain⟨f1,f2,e1,p1,p0⟩:=hp.funcs.form;have m0:Vf=.slice f1 p.funcs.length f2:=e1;subst m0;obtain⟨gb,go,rfl,i1,bv,g0,e9⟩:=hp.funcs.get hf;obtain⟨ka,kc,rfl,o4,o3⟩:=e9.form;rw[Nk] at g0;have o9:=(Jh.1 hf).1;have j4:=hF.pos;have g5:=hs bl (Ji hf);obtain⟨X,hX⟩:∃X,w.alloc (.cells #[.slice (some ⟨gb,go,none⟩) p.funcs.length f2,Va,I p.entry,I p.handler,Vd,Vb] 29)=X:=⟨_,rfl⟩
 have c2:O w X:=by rw[<-hX];exact(Below.refl _ _).alloc (Je _) _
 have a0:Q X w.heap.size #[.slice (some ⟨gb,go,none⟩) p.funcs.length f2,Va,I p.entry,I p.handler,Vd,Vb] 29:=by rw[<-hX];exact zI rfl
 have HX:=Ja (Jb c2 (Jb a0 (show ∀W,O w W->ProgIn W B ⟨.slice (some ⟨gb,go,none⟩) p.funcs.length f2,Va,Vd,Vb⟩ p/\wX W B (.slice ka bl.length kc) bl/\A W gb (go+f) (.slice ka bl.length kc) from fun W hb=>⟨hp.below (hb.mono hB),e9.below yT (hb.mono hB),zV (hb.mono hB) i1 g0⟩)));have o:=Ja (Jb hF (Jb hU (Jb hs (Jb hv (Jb g5 (Jb hB (Jb h0 i1)))))));have m1:=Ja (show ∀W,O X W->G 35 #[.agg #[.slice (some ⟨gb,go,none⟩) p.funcs.length f2,Va,I p.entry,I p.handler,Vd,Vb]] W (m9 W 0) from fun W hb=>i4 W (c2.trans (hb.mono c2.size)));have n9:decide ((f:Int)<0)=false:=decide_eq_false Zo;have n8:decide ((p.funcs.length:Int)<=(f:Int))=false:=decide_eq_false Zo;have n7:decide (p.funcs.length<=f)=false:=decide_eq_false Zo;have n6:((bl.length:Int)==0)=false:=Ze;have n5:(bl.length==0)=false:=beq_eq_false_iff_ne.2 Zo;have l5:gb<w.heap.size:=Zo;have x0:=zA (i:=0) a0 rfl;have x1:=zA (i:=1) a0 rfl;have x2:=zA (i:=2) a0 rfl;have x3:=zA (i:=3) a0 rfl;have x4:=zA (i:=4) a0 rfl;have x5:=zA (i:=5) a0 rfl;have j0:=lt_of_block a0;clear hp hB hs hv hf h0 hF hU i4 g0 e9 g5 c2 a0;unfold yH;go_enter Tryz.func15,Tryz.ntmps15;go_wp2_with fail
 go_step3
 go_upto_region 3 with(go_at_call 35;go_must (refine(m1.out _ (Below.refl _ _)).mono ?_;rintro e w1 ⟨rfl,c5⟩;have x:=zH c5 HX.out.2.1 j0;have y0:=zA (i:=0) x rfl;have yg:=(HX.out.2.2 w1 (HX.out.1.trans (c5.mono HX.out.1.size))).2.2;have l3:=lt_of_block x;have l2:gb<w1.heap.size:=by omega))
 clear hX x0 x1 x2 x3 x4 x5;obtain⟨N,hN⟩:∃N:Nat,aaG bl=N:=⟨(aaG bl).toNat,by have:=o.out.1.cnt;omega⟩
 have p3:N<=65536:=by have:=o.out.1.cnt;omega
 obtain⟨Y,hY⟩:∃Y,w1.alloc (.cells #[.slice ka bl.length kc] 39)=Y:=⟨_,rfl⟩
 obtain⟨t5,g4⟩:∃t,w1.heap.size=t:=⟨_,rfl⟩
 have b7:O w1 Y:=by rw[<-hY];exact(Below.refl _ _).alloc (Je _) _
 have d2:Q Y w1.heap.size #[.slice ka bl.length kc] 39:=by rw[<-hY];exact zI rfl
 have b5:=HX.out.1.trans (c5.mono HX.out.1.size);have HY:=Ja (show O w Y/\Q Y w.heap.size #[.slice (some ⟨gb,go,none⟩) p.funcs.length f2,Va,I p.entry,I p.handler,Vd,Vb] 29/\Q Y w1.heap.size #[.slice ka bl.length kc] 39/\w.heap.size<w1.heap.size/\w1.heap.size<Y.heap.size from⟨b5.trans (b7.mono b5.size),zH b7 x (lt_of_block x),d2,lt_of_block x,lt_of_block d2⟩);rw[g4] at HY;have y5:=zA (i:=0) HY.out.2.2.1 rfl;have k3:t5<Y.heap.size:=HY.out.2.2.2.2
 have m6:=Ja (show ∀W,O Y W->G 36 #[.agg #[.slice ka bl.length kc]] W (aeP W (N:Int)) from fun W hb=>by
  have:=ls (w:=W) (HX.out.2.2 W (HY.out.1.trans (hb.mono HY.out.1.size))).2.1 (Jn o.out.2.2.2.2.2.1 (Jn HY.out.1.size hb.size)) o.out.2.2.2.2.1;rw[hN] at this
  exact this)
 have HN:=Ja hN;clear hN b7 d2 b5 x c5 l5;go_upto_region 5 with(go_at_call 36;go_must (refine(m6.out _ (Below.refl _ _)).mono ?_;rintro e w2 ⟨rfl,c4⟩))
 clear hY g4 y5 y0 yg l3 l2;have f3:O w w2:=HY.out.1.trans (c4.mono HY.out.1.size);have x:=zH c4 HY.out.2.1 (lt_of_block HY.out.2.1);have e6:=zH c4 HY.out.2.2.1 (lt_of_block HY.out.2.2.1);have l:=Ja (show O w w2/\w2.heap[w.heap.size]? =_/\w2.heap[t5]? =_ from⟨f3,x,e6⟩);have a1:w.heap.size<w2.heap.size:=lt_of_block x;have b8:t5<w2.heap.size:=lt_of_block e6;clear c4 f3 x e6 k3;have HC:=Ja (show ∀w',O w2 w'->(A w' w.heap.size 0 (.slice (some ⟨gb,go,none⟩) p.funcs.length f2)/\A w' w.heap.size 1 Va/\A w' w.heap.size 2 (I p.entry)/\A w' w.heap.size 3 (I p.handler)/\A w' w.heap.size 4 Vd/\A w' w.heap.size 5 Vb)/\A w' t5 0 (.slice ka bl.length kc) from fun W hb=>⟨⟨zA (zH hb l.out.2.1 a1) rfl,zA (zH hb l.out.2.1 a1) rfl,zA (zH hb l.out.2.1 a1) rfl,zA (zH hb l.out.2.1 a1) rfl,zA (zH hb l.out.2.1 a1) rfl,zA (zH hb l.out.2.1 a1) rfl⟩,zA (zH hb l.out.2.2 b8) rfl⟩);obtain⟨⟨x0,x1,x2,x3,x4,x5⟩,y5⟩:=HC.out w2 (Below.refl _ _);have e3:=make_rgs N Zo;have b4:=run_make_row' (P:=Tryz.prog) 97 4 (.bool false) 1 Tryz.underlying97 Tryz.info_bool rfl .i64 .i64 N Zo Zo;rw[kn_cells] at b4;obtain⟨ZR,f5⟩:∃Z,((List.replicate N (⟨0,0⟩:Rg)).flatMap tr).toArray=Z:=⟨_,rfl⟩
 obtain⟨ZB,f6⟩:∃Z,((List.replicate N false).map Value.bool).toArray=Z:=⟨_,rfl⟩
 rw[f5] at e3;rw[f6] at b4;have HZ:=Ja (Jb f5 f6);clear f5 f6
 go_cut [7] from 46 to 54 (fun s wx=>∃K:SK,s=.pointer (some ⟨K.sb,0,none⟩)/\K.n=N/\Hid (ag2 w2 wx K p bl))
 case first=>
  go_region_held3 (fun w'=>(A w' w.heap.size 0 (.slice (some ⟨gb,go,none⟩) p.funcs.length f2)/\A w' w.heap.size 1 Va/\A w' w.heap.size 2 (I p.entry)/\A w' w.heap.size 3 (I p.handler)/\A w' w.heap.size 4 Vd/\A w' w.heap.size 5 Vb)/\A w' t5 0 (.slice ka bl.length kc))
   ((refine HC.out _ ?_;repeat' (first|with_reducible exact Below.refl _ _|with_reducible assumption|with_reducible refine Below.drew ?_|with_reducible refine Below.alloc ?_ Zn _|with_reducible refine Below.setCell ?_ Zn _)))
   ((go_at_call 37;refine(agM _).mono ?_;rintro e w3 ⟨rfl,h6,f0,e5⟩;have l8:O w2 w3:=Below.trans (show O w2 _ from by repeat' (first|with_reducible exact Below.refl _ _|with_reducible assumption|with_reducible refine Below.drew ?_|with_reducible refine Below.alloc ?_ Zn _|with_reducible refine Below.setCell ?_ Zn _)) (f0.mono Zn);have k5:w2.heap.size<=w3.heap.size:=l8.size;have h7:=e5;rw[show ∀v:World,v.drew.heap=v.heap from fun _=>rfl] at h7;(try simp at h7)))
  all_goals go_wp2_with fail
  all_goals go_meet
  all_goals (
   refine slvNew' (B:=B) (V:=⟨.slice (some ⟨gb,go,none⟩) p.funcs.length f2,Va,Vd,Vb⟩) (fv:=.slice ka bl.length kc) (zI (by first|rfl|(simp;done)|(simp;omega))) (Jn o.out.2.2.2.2.2.1 l.out.1.size) Zo ?_ ?_ ?_ ?_ ?_ ?_ ?_ ?_
   ·exact(HX.out.2.2 _ (l.out.1.trans (Below.mono (show O w2 _ from by repeat' (first|with_reducible exact Below.refl _ _|with_reducible assumption|with_reducible refine Below.drew ?_|with_reducible refine Below.alloc ?_ Zn _|with_reducible refine Below.setCell ?_ Zn _)) l.out.1.size))).1
   ·exact(HX.out.2.2 _ (l.out.1.trans (Below.mono (show O w2 _ from by repeat' (first|with_reducible exact Below.refl _ _|with_reducible assumption|with_reducible refine Below.drew ?_|with_reducible refine Below.alloc ?_ Zn _|with_reducible refine Below.setCell ?_ Zn _)) l.out.1.size))).2.1
   ·repeat' (first|with_reducible exact Below.refl _ _|with_reducible assumption|with_reducible refine Below.drew ?_|with_reducible refine Below.alloc ?_ Zn _|with_reducible refine Below.setCell ?_ Zn _)
   ·exact bd.below (by first|exact h6|simpa using h6) (by repeat' (first|with_reducible exact Below.refl _ _|with_reducible assumption|with_reducible refine Below.drew ?_|with_reducible refine Below.alloc ?_ Zn _|with_reducible refine Below.setCell ?_ Zn _))
   ·rw[HZ.out.1];repeat' (first|exact zI (by first|rfl|(simp;done)|(simp;omega))|exact zH f0 (by repeat' (first|exact zI (by first|rfl|(simp;done)|(simp;omega))|refine ae3 ?_|refine zB ?_)) (by first|exact e5|omega|(simp;done)|(simp;omega))|refine ae3 ?_|refine zB ?_)
   ·rw[HZ.out.2];repeat' (first|exact zI (by first|rfl|(simp;done)|(simp;omega))|exact zH f0 (by repeat' (first|exact zI (by first|rfl|(simp;done)|(simp;omega))|refine ae3 ?_|refine zB ?_)) (by first|exact e5|omega|(simp;done)|(simp;omega))|refine ae3 ?_|refine zB ?_)
   ·refine⟨?_,?_,?_,?_⟩<;>(first|exact Je _|omega|(simp;done)|(simp;omega))
   ·refine⟨?_,?_,?_,?_,?_,?_⟩<;>(first|omega|(simp;done)|(simp;omega)))
 case rest=>
  obtain⟨K,rfl,i6,HK⟩:=hcut;have a4:=HK.out.2.1;have y5:A wc t5 0 (.slice ka bl.length kc):=zA (zH a4 l.out.2.2 b8) rfl;have j3:=lt_of_block (zH a4 l.out.2.2 b8);obtain⟨b0,f4⟩:∃b,bl[0]? =some b:=⟨_,Jd j4⟩
  have e8:=(HX.out.2.2 wc (l.out.1.trans (a4.mono l.out.1.size))).2.1;obtain⟨qb,qo,k6,k7,_,_,_,pv,_,_,u0,_,_,b1,_,_⟩:=e8.get f4;obtain⟨pa,pc,rfl,l0,k9⟩:=b1.form;subst k6;rw[Nat.zero_mul,Uk] at u0;have o0:qb<wc.heap.size:=Jy k7 (Jn o.out.2.2.2.2.2.1 (Jn l.out.1.size a4.size));have n0:b0.params.length<=9223372036854775807:=Zo;have a3:=Ja (Jb f4 (Jb b1 a4));have h8:K.n=(aaG bl).toNat:=by rw[i6,HN.out];rfl
  have c7:=Ja h8;clear i6 h8 e8 b1 f4 l0 k9 a4 HC e3 b4 x0 x1 x2 x3 x4 x5;have a7:=HK.out.2.2;have d0:=Ja (show ∀wx,SlvTo wc wx K->Below w2.heap.size wc wx from fun wx h=>h.below ⟨a7.1,a7.2.1,a7.2.2,HK.out.2.1.size⟩);have f9:=Ja (show ∀wx,SlvTo wc wx K->wX wx B (.slice (some ⟨qb,qo,none⟩) bl.length kc) bl/\zY wx B (.slice pa b0.params.length pc) b0.params/\A wx t5 0 (.slice (some ⟨qb,qo,none⟩) bl.length kc)/\t5<wx.heap.size/\B<=wx.heap.size from fun wx h=>⟨(HX.out.2.2 wx (l.out.1.trans ((a3.out.2.2.trans ((d0.out wx h).mono (Je _))).mono l.out.1.size))).2.1,a3.out.2.1.below zO ((d0.out wx h).mono (Jn o.out.2.2.2.2.2.1 l.out.1.size)),zA (zH (a3.out.2.2.trans (d0.out wx h)) l.out.2.2 b8) rfl,Jy j3 h.size,Jn o.out.2.2.2.2.2.1 (Jn l.out.1.size (Jn a3.out.2.2.size h.size))⟩);clear a7;go_wp2;clear y5 u0
  go_loopw [61] (fun kv wx=>∃(j:Nat) (s':Slv) (c:Bool),j<=b0.params.length/\kv=I j/\Hid ((b0.params.take j).foldl (fun q v=>aeA 0 v vu q) (⟨List.replicate K.n ⟨0,0⟩,List.replicate K.n false⟩,false)=(s',c)/\SlvAt wx K p bl 0 s'/\SlvTo wc wx K)) (fun kv _=>b0.params.length-(intOf kv).toNat)
  case atStart=>exact⟨0,_,_,Jt _,rfl,Ja ⟨rfl,HK.out.1,SlvTo.refl _ _⟩⟩
  case round=>
   obtain⟨j,s',c,hj,rfl,HJ⟩:=hrel
   by_cases d:j<b0.params.length
   ·have a2:(j:Int)<(b0.params.length:Int):=Zo;obtain⟨v,hv⟩:∃v,b0.params[j]? =some v:=⟨_,Jd d⟩
    obtain⟨pb,po,l1,h4,k2,_⟩:=(f9.out wr HJ.out.2.2).2.1.get hv;subst l1;rw[Nk] at k2;have n1:pb<wr.heap.size:=Jy h4 (f9.out wr HJ.out.2.2).2.2.2.2;have d3:=((o.out.1.rng 0 o.out.1.pos).1 v (by rw[show((0:Nat):Int)=((0:Nat):Int) from rfl,vp a3.out.1];exact Ji hv))
    rw[<-c7.out] at d3;obtain⟨vn,rfl⟩:∃vn:Nat,v=vn:=⟨v.toNat,by omega⟩
    obtain⟨s2,r,hq⟩:∃s2 r,setF 0 s' (vn:Int) vu=(s2,r):=⟨_,_,rfl⟩
    have m2:=Ja (show ∀W,SlvAt W K p bl 0 s'->G 38 #[.pointer (some ⟨K.sb,0,none⟩),I vn,.agg #[U 0,U 65535]] W (afp W K p bl 0 (s2,r)) from fun W hb=>by
     have:=af5 hb (v:=vn) (by have:=d3.2;rw[Ni] at this;exact this) ek (aft ek (hb.oks.get _));rw[hq] at this
     exact this)
    have HV:=Ja (Jb hv (Jb hq d));clear hv hq d3 d h4
    go_wp2_with (first
     |(go_at_call 39;go_must (refine(d8 _).mono ?_;rintro e w5 ⟨rfl,a5⟩))
     |(go_at_call 38;go_must (refine(m2.out _ (HJ.out.2.1.below a5)).mono ?_;rintro e w6 ⟨rfl,d5,g3⟩;have H6:=Ja (Jb d5 ((SlvTo.of_below a5).trans g3));clear d5 g3 a5)))
    go_roundw
    case rel=>exact⟨j+1,s2,_,HV.out.2.2,by go_num,Ja ⟨by rw[ed HV.out.1,HJ.out.1];unfold aeA;rw[HV.out.2.1],H6.out.1,HJ.out.2.2.trans H6.out.2⟩⟩
    case measure=>have:=HV.out.2.2;simp[intOf];omega
   ·obtain rfl:j=b0.params.length:=by omega
    have a2:¬(b0.params.length:Int)<(b0.params.length:Int):=Zo
    have m4:=Ja (show afz (aaG bl).toNat (xz bl (0:Nat)).params=s' by
     unfold afz;rw[<-c7.out,vp a3.out.1];have:=HJ.out.1;rw[Nl] at this
     rw[this])
    have d1:=Ja HJ.out.2;clear hj d HJ;obtain⟨z1,z2,z3,z4,z5⟩:=f9.out wr d1.out.2;have HG:=Ja (ox z1 z5 ⟨o.out.2.2.2.2.1.1,fun b hb=>(o.out.2.2.2.2.1.2 b hb).2.2⟩)
    have g1:∀b∈bl,wn bl b.term=true:=fun b hb=>by
     obtain⟨i,hi⟩:=Ny hb;have:=o.out.1.st.trm i (Jh.1 hi).1;rw[vp hi] at this;exact this
    have m5:=Ja (show ∀W a8,OwnRows zN 3 22 W wr.heap.size a8 (zk bl)->GraphIn W (F a8 (zk bl).length (zk bl).length) (zy bl) from fun W a8 h=>bU o.out.2.2.2.2.1 o.out.2.2.2.2.2.2.1 g1 (h.asRows (Je _)));obtain⟨od,d7⟩:∃od,vD (zy bl)=od:=⟨_,rfl⟩
    obtain⟨gl,i0⟩:∃n,(zk bl).length=n:=⟨_,rfl⟩
    have f8:0∈od:=by rw[<-d7];exact(o.out.1.ord 0).2 o.out.1.pos
    have j5:0<od.length:=List.length_pos_of_mem f8;have a6:=Ja (Jb d7 i0);clear z1 z2 z5 g1 d7 i0 f8
    go_wp2_with (first
     |(go_at_call 41;go_must (refine HG.out.mono ?_;rintro e w7 ⟨a8,rfl,b9,l7,c3⟩;rw[a6.out.2]))
     |(go_at_call 40;go_must (refine(iJ (by have:=m5.out w7 a8 b9;rw[a6.out.2] at this;exact this)).mono ?_;rintro e w8 ⟨ov,rfl,b2,i2⟩;rw[a6.out.1] at b2;obtain⟨ob,oc,rfl,n4,n3,e0,i5⟩:=own_ord b2 rfl j5)))
    have b6:O wr w8:=c3.trans (i2.mono c3.size);have e2:=d1.out.1.fresh (b:=ob) (Jn c3.size e0)
    have d4:∀i∈od,d9 K.n bl (xz bl i):=fun i hi=>by
     rw[c7.out];exact o.out.1.sol i ((o.out.1.ord i).1 (by rw[a6.out.1];exact hi))
    obtain⟨T,hT⟩:∃T,ahf p bl od 0 s'=T:=⟨_,rfl⟩
    have e7:p6 p bl=afh T:=by
     unfold p6 fnT;rw[m4.out,a6.out.1,hT]
    have HQ:=Ja (show SlvAt w8 K p bl 0 s'/\SlvTo wc w8 K/\afu w8 ob od/\(ob≠K.rb/\ob≠K.kb/\ob≠K.sb)/\(∀i∈od,d9 K.n bl (xz bl i))/\ahf p bl od 0 s'=T/\p6 p bl=afh T from⟨d1.out.1.below b6,d1.out.2.trans (SlvTo.of_below b6),i5,e2,d4,hT,e7⟩);have n2:od.length<=9223372036854775807:=Zo;clear b6 e2 d4 hT e7 i5 c3 i2 b2 b9 l7 e0 z3 z4;go_wp2
    go_step3
    go_wp2
    go_loopg [11] (aeL 0 s') (fun g cv wx=>∃(j:Nat) (t:Slv),Hid (g=aeL j t/\j+aeL j t<=4+K.n/\ahf p bl od j t=T/\SlvAt wx K p bl j t/\SlvTo w8 wx K))
    case atStart=>exact⟨0,s',Ja ⟨rfl,by have:=nfL_le s'.r s'.kn;have:=HQ.out.1.oks.rl;unfold aeL Slv.nf;omega,HQ.out.2.2.2.2.2.1,HQ.out.1,SlvTo.refl _ _⟩⟩
    case round=>
     obtain⟨j,t,y⟩:=hrel;have o5:j<=2000000:=by have:=y.out.2.1;have:=y.out.2.2.2.1.n64;omega
     have c10:=y.out.2.2.2.1.cells.2.2.2.2.1;have l9:=zE (i:=10) y.out.2.2.2.1.cell;have k4:=lt_of_block y.out.2.2.2.1.cell;obtain⟨W4,i3⟩:∃W,wr.setCell ⟨K.sb,10,none⟩ (I ((j:Int)+1))=W:=⟨_,rfl⟩
     obtain⟨q1,q2⟩:=y.out.2.2.2.1.round i3;have H4:=Ja (Jb q1 (y.out.2.2.2.2.trans q2));clear q1 q2;go_upto_region 14 with fail;clear i3 c10 l9 k4;go_wp2
     go_loopw [11,82] (fun cv kv wx=>∃(m:Nat) (t2:Slv) (c:Bool),m<=od.length/\cv=.bool c/\kv=I m/\Hid ((od.take m).foldl (goS p bl (j+1)) (t,false)=(t2,c)/\SlvAt wx K p bl (j+1) t2/\SlvTo w8 wx K)) (fun _ kv _=>od.length-(intOf kv).toNat)
     case atStart=>exact⟨0,t,false,Jt _,rfl,rfl,Ja ⟨rfl,H4.out.1,H4.out.2⟩⟩
     case round=>
      obtain⟨m,t2,c,hm,rfl,rfl,u⟩:=hrel
      by_cases d:m<od.length
      ·have a2:(m:Int)<(od.length:Int):=Zo;obtain⟨i,hi⟩:∃i,od[m]? =some i:=⟨_,Jd d⟩
       have b3:=HQ.out.2.2.1.to u.out.2.2 HQ.out.2.2.2.1;have ci:=b3.cell hi;have o1:=b3.lt;have h9:i<bl.length:=(o.out.1.ord i).1 (by rw[a6.out.1];exact Ji hi);obtain⟨bx,c0⟩:∃b,bl[i]? =some b:=⟨_,Jd h9⟩
       obtain⟨t3,r,hq⟩:∃t3 r,agf p bl (j+1) (t2,false) bx=(t3,r):=⟨_,_,rfl⟩
       have m7:=Ja (show G 42 #[.pointer (some ⟨K.sb,0,none⟩),I i] wr (afp wr K p bl (j+1) (t3,r)) from by
        have hw:=blkW_of o.out.1 o.out.2.1 h9;rw[<-c7.out,vp c0] at hw;have:=agv u.out.2.1 c0 hw;rw[hq] at this
        exact this)
       have HI:=Ja (Jb hi (Jb c0 (Jb hq d)));clear hi c0 hq b3 d;cases r
       all_goals go_wp2_with (go_at_call 42;go_must (refine m7.out.mono ?_;rintro e w9 ⟨rfl,g6,g2⟩;have H9:=Ja (Jb g6 g2);clear g6 g2))
       all_goals (
        go_roundw
        case rel=>exact⟨m+1,t3,_,HI.out.2.2.2,by first|rfl|(cases c<;>rfl),by go_num,Ja ⟨by rw[ed HI.out.1,u.out.1];unfold goS;rw[vp HI.out.2.1,show(agf p bl (j+1) ((t2,c).1,false) bx)=_ from HI.out.2.2.1];first|rw[Bool.or_true]|rw[Bool.or_false],H9.out.1,u.out.2.2.trans H9.out.2⟩⟩
        case measure=>have:=HI.out.2.2.2;simp[intOf];omega)
      ·obtain rfl:m=od.length:=by omega
       have a2:¬(od.length:Int)<(od.length:Int):=Zo
       have HR:=Ja (show dx p bl od (j+1) t=(t2,c) by
        have:=u.out.1;rw[Nl] at this
        exact this)
       clear hm d;cases c
       ·have i7:=Ja (show t2=T by
         have:=y.out.2.2.1;rw[afw HQ.out.2.2.2.2.1 y.out.2.2.2.1.oks,HR.out,if_neg (fun h=>by cases h)] at this
         exact this)
        have c8:=u.out.2.1.cells.2.2.1;have g8:=lt_of_block u.out.2.1.cell;have o2:=u.out.2.1.n64;go_wp2;clear c8
        go_loopw [97] (fun kv wx=>∃m:Nat,m<=K.n/\kv=I m/\Hid (SlvAt wx K p bl (j+1) (aeB t2 m)/\SlvTo w8 wx K)) (fun kv _=>K.n-(intOf kv).toNat)
        case atStart=>exact⟨0,Jt _,rfl,Ja ⟨u.out.2.1,u.out.2.2⟩⟩
        case round=>
         obtain⟨m,hm,rfl,HL⟩:=hrel;have c8:=HL.out.1.cells.2.2.1;have c9:=HL.out.1.cells.2.2.2.1;have g8:=lt_of_block HL.out.1.cell;have a1:=lt_of_block HL.out.1.row;have k5:=lt_of_block HL.out.1.kn
         by_cases d:m<K.n
         ·have a2:(m:Int)<(K.n:Int):=Zo;have kx:=ae6 HL.out.1 d;rw[agr] at kx
          cases hk:t2.knw (m:Int) with
          |true=>
           rw[hk] at kx;have HE:=Ja (agy u.out.2.1.oks d hk);clear hk;go_wp2;go_roundw
           case rel=>exact⟨m+1,d,by go_num,Ja ⟨by rw[HE.out];exact HL.out.1,HL.out.2⟩⟩
           case measure=>simp[intOf];omega
          |false=>
           rw[hk] at kx;have HE:=Ja (agQ u.out.2.1.oks d hk);clear hk;go_upto_region 25 with fail;clear c9 kx;obtain⟨r0,r1⟩:=HL.out.1.rcell (v:=(m:Int)) Zo;rw[Ni] at r0 r1;have HC:=Ja (show ∀W:World,W.heap[K.sb]? =wr.heap[K.sb]?->A W K.sb 8 (F K.rb K.n K.n) from fun W h=>zA (h.trans HL.out.1.cell) rfl);have e2:=HL.out.1.ne
           go_region_held3 (fun w'=>A w' K.sb 8 (F K.rb K.n K.n))
            ((refine HC.out _ ?_;repeat' (first|exact rfl|exact l4|rw[Below.heap_setCell _ _ _ _ (show K.sb≠K.rb by omega)]|rw[show ∀v:World,v.drew.heap=v.heap from fun _=>rfl])))
            ((go_at_call 39;refine(d8 _).mono ?_;rintro e w5 ⟨rfl,a5⟩;have f7:O wr w5:=Below.trans (show O wr _ from Zf) (a5.mono (Je _));clear a5;have l4:w5.heap[K.sb]? =wr.heap[K.sb]?:=f7.block _ g8;have a9:=Ja (HL.out.1.below f7);obtain⟨r2,r3⟩:=a9.out.rcell (v:=(m:Int)) Zo;rw[Ni] at r2 r3;have k1:=zE (i:=m*2) a9.out.row;have k0:=zE (i:=m*2+1) a9.out.row;have d5:=lt_of_block a9.out.row))
           all_goals go_wp2_with fail
           all_goals (
            obtain⟨W,hW⟩:∃W,(w5.setCell ⟨K.rb,m*2,none⟩ (U 0)).setCell ⟨K.rb,m*2+1,none⟩ (U 65535)=W:=⟨_,rfl⟩
            obtain⟨j1,j2⟩:=a9.out.putR d ek hW;rw[hW];clear r2 r3 k1 k0;have i9:=Ja (Jb j1 (((SlvTo.of_below f7).trans j2)));clear j1 j2 hW;go_roundw
            case rel=>exact⟨m+1,d,by go_num,Ja ⟨by rw[HE.out];exact i9.out.1.below (by first|exact Below.refl _ _|exact(Below.refl _ _).drew),HL.out.2.trans (i9.out.2.trans (SlvTo.of_below (by first|exact Below.refl _ _|exact(Below.refl _ _).drew)))⟩⟩
            case measure=>simp[intOf];omega)
         ·obtain rfl:m=K.n:=by omega
          have a2:¬(K.n:Int)<(K.n:Int):=Zo;have HE:=Ja (show aeB t2 K.n=⟨p6 p bl,t2.kn⟩ by rw[agz u.out.2.1.oks,HQ.out.2.2.2.2.2.2,i7.out]);have e4:(p6 p bl).length=K.n:=by rw[HQ.out.2.2.2.2.2.2,<-i7.out];exact aeO u.out.2.1.oks
          have m3:=Ja e4;clear hm d e4 c9;go_wp2
          try rw[Exit.noGoto_ret]
          go_ret;have d6:=HL.out.1.row;rw[HE.out] at d6;refine⟨K.rb,by rw[m3.out];rfl,d6,?_,?_⟩
          ·exact Jn l.out.1.size HK.out.2.2.1
          ·exact l.out.1.trans ((a3.out.2.2.trans (d0.out wr (HQ.out.2.1.trans HL.out.2))).mono l.out.1.size)
       ·go_wp2
        go_roundg (aeL (j+1) t2)
        case measure=>
         have:=afd (p:=p) HQ.out.2.2.2.2.1 y.out.2.2.2.1.oks (k:=j) (by rw[HR.out]);rw[HR.out] at this;rw[y.out.1];exact this
        case rel=>
         refine⟨j+1,t2,Ja ⟨rfl,?_,?_,u.out.2.1,u.out.2.2⟩⟩
         ·have:=afd (p:=p) HQ.out.2.2.2.2.1 y.out.2.2.2.1.oks (k:=j) (by rw[HR.out]);rw[HR.out] at this;have h5:aeL (j+1) t2<aeL j t:=this;have:=y.out.2.1;omega
         ·have:=y.out.2.2.1;rw[afw HQ.out.2.2.2.2.1 y.out.2.2.2.1.oks,HR.out,if_pos rfl] at this;exact this
def ahi (p:IProg)(f:Int):Prop:=vC p=0/\(0<=f/\f.toNat<p.funcs.length)/\p.funcs.getD f.toNat []≠ []
def kr (w:World)(e:Ending)(w':World):Prop:=e=.returned (L)/\O w w'
theorem ags{B:Nat}{V:PV}{p:IProg}(hp:ProgIn w B V p)(hB:B<=w.heap.size)(hs:∀f∈p.funcs,vZ f)(hv:vC p≠0)(f:Int):
 G 15 #[yH V p,I f] w (kr w):=by
 obtain⟨z,h⟩:∃z,vC p=z:=⟨_,rfl⟩
 have g:∀W,O w W->G 35 #[yH V p] W (m9 W z):=fun W hb=>by
  have:=tu (hp.below (hb.mono hB)) (Jn hB hb.size) hs;rw[h] at this;exact this
 rw[h] at hv;have t:(z !=0)=true:=by simpa using hv
 obtain⟨Vf,Va,Vd,Vb⟩:=V;obtain⟨f1,f2,e1,x,u⟩:=hp.funcs.form;have l:Vf=.slice f1 p.funcs.length f2:=e1;subst l;obtain⟨X,k⟩:∃X,w.alloc (T #[.slice f1 p.funcs.length f2,Va,I p.entry,I p.handler,Vd,Vb] 29)=X:=⟨_,rfl⟩;have d:O w X:=by rw[<-k];exact(Below.refl _ _).alloc (Je _) _
 have c:Q X w.heap.size #[.slice f1 p.funcs.length f2,Va,I p.entry,I p.handler,Vd,Vb] 29:=by rw[<-k];exact zI rfl
 have o:=Ja (show ∀W,O X W->G 35 #[.agg #[.slice f1 p.funcs.length f2,Va,I p.entry,I p.handler,Vd,Vb]] W (m9 W z) from fun W hb=>g W (d.trans (hb.mono d.size)));have x0:=zA (i:=0) c rfl;have x1:=zA (i:=1) c rfl;have x2:=zA (i:=2) c rfl;have x3:=zA (i:=3) c rfl;have x4:=zA (i:=4) c rfl;have x5:=zA (i:=5) c rfl;have q:=lt_of_block c;have m:=Ja (Jb d c);clear d c;clear hp hB hs hv g h;unfold yH;go_enter Tryz.func15,Tryz.ntmps15;go_wp2_with fail
 go_step3
 go_wp2_with (go_at_call 35;go_must (refine(o.out _ (Below.refl _ _)).mono ?_;rintro e w1 ⟨rfl,j⟩))
 try rw[Exit.noGoto_ret]
 go_ret;exact⟨rfl,m.out.1.trans (j.mono m.out.1.size)⟩
theorem agA{B:Nat}{V:PV}{p:IProg}(hp:ProgIn w B V p)(hB:B<=w.heap.size)(hs:∀f∈p.funcs,vZ f)(hv:vC p=0)(f:Int)(hf:f<0):
 G 15 #[yH V p,I f] w (kr w):=by
 have g:∀W,O w W->G 35 #[yH V p] W (m9 W 0):=fun W hb=>by
  have:=tu (hp.below (hb.mono hB)) (Jn hB hb.size) hs;rw[hv] at this;exact this
 have q:decide (f<0)=true:=decide_eq_true hf;obtain⟨Vf,Va,Vd,Vb⟩:=V;obtain⟨f1,f2,e1,u,t⟩:=hp.funcs.form;have k:Vf=.slice f1 p.funcs.length f2:=e1;subst k;obtain⟨X,j⟩:∃X,w.alloc (T #[.slice f1 p.funcs.length f2,Va,I p.entry,I p.handler,Vd,Vb] 29)=X:=⟨_,rfl⟩;have d:O w X:=by rw[<-j];exact(Below.refl _ _).alloc (Je _) _
 have c:Q X w.heap.size #[.slice f1 p.funcs.length f2,Va,I p.entry,I p.handler,Vd,Vb] 29:=by rw[<-j];exact zI rfl
 have m:=Ja (show ∀W,O X W->G 35 #[.agg #[.slice f1 p.funcs.length f2,Va,I p.entry,I p.handler,Vd,Vb]] W (m9 W 0) from fun W hb=>g W (d.trans (hb.mono d.size)));have x0:=zA (i:=0) c rfl;have x1:=zA (i:=1) c rfl;have x2:=zA (i:=2) c rfl;have x3:=zA (i:=3) c rfl;have x4:=zA (i:=4) c rfl;have x5:=zA (i:=5) c rfl;have o:=lt_of_block c;have l:=Ja (Jb d c);clear d c;clear hp hB hs hv g;unfold yH;go_enter Tryz.func15,Tryz.ntmps15;go_wp2_with fail
 go_step3
 go_wp2_with (go_at_call 35;go_must (refine(m.out _ (Below.refl _ _)).mono ?_;rintro e w1 ⟨rfl,h⟩))
 try rw[Exit.noGoto_ret]
 go_ret;exact⟨rfl,l.out.1.trans (h.mono l.out.1.size)⟩
theorem agt{B:Nat}{V:PV}{p:IProg}(hp:ProgIn w B V p)(hB:B<=w.heap.size)(hs:∀f∈p.funcs,vZ f)(hv:vC p=0)(f:Int)(a1:0<=f)(hf:(p.funcs.length:Int)<=f):
 G 15 #[yH V p,I f] w (kr w):=by
 have j:∀W,O w W->G 35 #[yH V p] W (m9 W 0):=fun W hb=>by
  have:=tu (hp.below (hb.mono hB)) (Jn hB hb.size) hs;rw[hv] at this;exact this
 have u:decide (f<0)=false:=decide_eq_false Zo;have t:decide ((p.funcs.length:Int)<=f)=true:=decide_eq_true hf;obtain⟨Vf,Va,Vd,Vb⟩:=V;obtain⟨f1,f2,e1,a0,y⟩:=hp.funcs.form;have o:Vf=.slice f1 p.funcs.length f2:=e1;subst o;obtain⟨X,m⟩:∃X,w.alloc (T #[.slice f1 p.funcs.length f2,Va,I p.entry,I p.handler,Vd,Vb] 29)=X:=⟨_,rfl⟩;have d:O w X:=by rw[<-m];exact(Below.refl _ _).alloc (Je _) _
 have c:Q X w.heap.size #[.slice f1 p.funcs.length f2,Va,I p.entry,I p.handler,Vd,Vb] 29:=by rw[<-m];exact zI rfl
 have q:=Ja (show ∀W,O X W->G 35 #[.agg #[.slice f1 p.funcs.length f2,Va,I p.entry,I p.handler,Vd,Vb]] W (m9 W 0) from fun W hb=>j W (d.trans (hb.mono d.size)));have x0:=zA (i:=0) c rfl;have x1:=zA (i:=1) c rfl;have x2:=zA (i:=2) c rfl;have x3:=zA (i:=3) c rfl;have x4:=zA (i:=4) c rfl;have x5:=zA (i:=5) c rfl;have k:=lt_of_block c;have l:=Ja (Jb d c);clear d c;clear hp hB hs hv j;unfold yH;go_enter Tryz.func15,Tryz.ntmps15;go_wp2_with fail
 go_step3
 go_wp2_with (go_at_call 35;go_must (refine(q.out _ (Below.refl _ _)).mono ?_;rintro e w1 ⟨rfl,h⟩;have g:=zH h l.out.2 k;have y0:=zA (i:=0) g rfl;have x:=lt_of_block g))
 try rw[Exit.noGoto_ret]
 go_ret;exact⟨rfl,l.out.1.trans (h.mono l.out.1.size)⟩
theorem afk{B:Nat}{V:PV}{p:IProg}(hp:ProgIn w B V p)(hB:B<=w.heap.size)(hs:∀f∈p.funcs,vZ f)(hv:vC p=0)(f:Nat)(hf:p.funcs[f]? =some []):
 G 15 #[yH V p,I f] w (kr w):=by
 have m:∀W,O w W->G 35 #[yH V p] W (m9 W 0):=fun W hb=>by
  have:=tu (hp.below (hb.mono hB)) (Jn hB hb.size) hs;rw[hv] at this;exact this
 have a6:=(Jh.1 hf).1;have a0:decide ((f:Int)<0)=false:=decide_eq_false Zo;have y:decide ((p.funcs.length:Int)<=(f:Int))=false:=decide_eq_false Zo;have x:decide (p.funcs.length<=f)=false:=decide_eq_false Zo;obtain⟨Vf,Va,Vd,Vb⟩:=V;obtain⟨f1,f2,e1,a8,a7⟩:=hp.funcs.form;have t:Vf=.slice f1 p.funcs.length f2:=e1;subst t;obtain⟨X,q⟩:∃X,w.alloc (T #[.slice f1 p.funcs.length f2,Va,I p.entry,I p.handler,Vd,Vb] 29)=X:=⟨_,rfl⟩;have d:O w X:=by rw[<-q];exact(Below.refl _ _).alloc (Je _) _
 have c:Q X w.heap.size #[.slice f1 p.funcs.length f2,Va,I p.entry,I p.handler,Vd,Vb] 29:=by rw[<-q];exact zI rfl
 have u:=Ja (show ∀W,O X W->G 35 #[.agg #[.slice f1 p.funcs.length f2,Va,I p.entry,I p.handler,Vd,Vb]] W (m9 W 0) from fun W hb=>m W (d.trans (hb.mono d.size)));obtain⟨gb,go,rfl,k,bv,g0,l⟩:=hp.funcs.get hf;obtain⟨ka,kc,rfl,a4,a3⟩:=l.form;rw[Nk] at g0;have HG:=Ja (show ∀W,O w W->A W gb (go+f) (.slice ka 0 kc) from fun W hb=>zV (hb.mono hB) k g0);have a5:gb<w.heap.size:=Zo;have x0:=zA (i:=0) c rfl;have x1:=zA (i:=1) c rfl;have x2:=zA (i:=2) c rfl;have x3:=zA (i:=3) c rfl;have x4:=zA (i:=4) c rfl;have x5:=zA (i:=5) c rfl;have o:=lt_of_block c;have h:=Ja (Jb d c);clear d c;clear hp hB hs hv m hf g0 l k;unfold yH;go_enter Tryz.func15,Tryz.ntmps15;go_wp2_with fail
 go_step3
 go_wp2_with (go_at_call 35;go_must (refine(u.out _ (Below.refl _ _)).mono ?_;rintro e w1 ⟨rfl,g⟩;have j:=zH g h.out.2 o;have y0:=zA (i:=0) j rfl;have yg:=HG.out w1 (h.out.1.trans (g.mono h.out.1.size));have a2:=lt_of_block j;have a1:gb<w1.heap.size:=by omega))
 try rw[Exit.noGoto_ret]
 go_ret;exact⟨rfl,h.out.1.trans (g.mono h.out.1.size)⟩
theorem aeE{B:Nat}{V:PV}{p:IProg}(hp:ProgIn w B V p)(hB:B<=w.heap.size)(hs:∀f∈p.funcs,vZ f)(f:Int)(h:¬ahi p f):
 G 15 #[yH V p,I f] w (kr w):=by
 by_cases hv:vC p=0
 ·by_cases h1:f<0
  ·exact agA hp hB hs hv f h1
  by_cases h2:(p.funcs.length:Int)<=f
  ·exact agt hp hB hs hv f Zo h2
  obtain⟨n,rfl⟩:∃n:Nat,f=n:=⟨f.toNat,by omega⟩
  have c:n<p.funcs.length:=Zo
  have h3:p.funcs.getD n []=[]:=by
   by_cases e:p.funcs.getD n []=[]
   ·exact e
   ·exact absurd ⟨hv,⟨by omega,by omega⟩,e⟩ h
  refine afk hp hB hs hv n ?_;rw[Jj,Jd c] at h3;rw[Jd c]
  simpa using h3
 ·exact ags hp hB hs hv f
def obs (data:List IObj)(R:List Rg)(l:List IOp):List Int:=(l.filter afb).map (agS data R)
theorem afA{data:List IObj}{R:List Rg}(h:afb o=true):obs data R (l++ [o])=obs data R l++ [agS data R o]:=by
 unfold obs;rw[List.filter_append,List.filter_cons_of_pos h,List.filter_nil,Js];rfl
theorem af8{data:List IObj}{R:List Rg}(h:afb o=false):obs data R (l++ [o])=obs data R l:=by
 unfold obs;rw[List.filter_append,List.filter_cons_of_neg (by rw[h];decide),List.filter_nil,Ua]
theorem obs_le (data:List IObj)(R:List Rg)(l:List IOp):(obs data R l).length<=l.length:=by unfold obs;rw[Nr];exact List.length_filter_le _ _
theorem ag6:∀(l:List IBlk),(∀b∈l,b.ops.length<=2000000)->(l.flatMap (·.ops)).length<=l.length*2000000
 | [],_=>by simp
 |b::l,h=>by
  have h1:=ag6 l fun x hx=>h x (.tail _ hx)
  have h2:=h b (.head _);rw[Qa,Jk,Nq];omega
theorem aeN{j:Nat}(h:l[j]? =some o):l.take (j+1)=l.take j++ [o]:=by rw[Nh,h];rfl
theorem afB{b:IBlk}(h:bl[k]? =some b):(bl.take (k+1)).flatMap (·.ops)=(bl.take k).flatMap (·.ops)++b.ops:=by rw[Nh,h,Nx];simp
structure ObS (w wx:World) (t2 rb:Nat) (pc:Array Value) (R:List Rg) (bl:List IBlk):Prop where
 below:Below t2 w wx
 p2:wx.heap[t2]? =some (.cells pc 29 (0,0))
 row:bl≠ []->wx.heap[rb]? =some (.cells (R.flatMap tr).toArray 45 (0,0))
theorem ObS.lt{rb:Nat}{R:List Rg}(h:ObS w wx t2 rb pc R bl):t2<=wx.heap.size:=Qd (lt_of_block h.p2)
theorem ObS.keep{rb:Nat}{R:List Rg}(h:ObS w wx t2 rb pc R bl)(hb:O wx W):ObS w W t2 rb pc R bl:=
 ⟨h.below.trans (hb.mono h.lt),zH hb h.p2 (lt_of_block h.p2),fun h0=>zH hb (h.row h0) (lt_of_block (h.row h0))⟩
theorem ObS.drew{rb:Nat}{R:List Rg}(h:ObS w wx t2 rb pc R bl):ObS w wx.drew t2 rb pc R bl:=⟨h.below.drew,h.p2,h.row⟩
theorem own_ge{n:Nat}{v:Value}{xs:List Value}(ho:wx.ownsRow t2 3 1 v n xs):∀k,v.ownBlock=some k->t2<=k:=fun k hk=>by
 rcases ho.2 with⟨rfl,_⟩|⟨g,d,cur,rfl,c,_⟩
 ·cases hk
 ·cases hk;exact c
theorem ObS.grown{rb:Nat}{R:List Rg}(h:ObS w wx t2 rb pc R bl){n:Nat}{v:Value}{xs:List Value}(ho:wx.ownsRow t2 3 1 v n xs)(hg:wx.grownBy W v.ownBlock):ObS w W t2 rb pc R bl:=
 ⟨h.below.grown hg h.lt (own_ge ho),zL hg h.p2 (zC ho h.p2 (.inr Zd)),fun h0=>zL hg (h.row h0) (zC ho (h.row h0) (.inr Zd))⟩
structure ObT (w wx:World) (t2 rb:Nat) (pc:Array Value) (R:List Rg) (bl:List IBlk) (t10:Nat) (oc:Array Value):Prop where
 s:ObS w wx t2 rb pc R bl
 op:wx.heap[t10]? =some (.cells oc 76 (0,0))
theorem ObT.keep{rb c:Nat}{R:List Rg}(h:ObT w wx t2 rb pc R bl c oc)(hb:O wx W):ObT w W t2 rb pc R bl c oc:=
 ⟨h.s.keep hb,zH hb h.op (lt_of_block h.op)⟩
theorem ObT.grown{rb c:Nat}{R:List Rg}(h:ObT w wx t2 rb pc R bl c oc){n:Nat}{v:Value}{xs:List Value}(ho:wx.ownsRow t2 3 1 v n xs)(hg:wx.grownBy W v.ownBlock):ObT w W t2 rb pc R bl c oc:=
 ⟨h.s.grown ho hg,zL hg h.op (zC ho h.op (.inr Zd))⟩
theorem ObS.rcell{rb:Nat}{R:List Rg}(h:ObS w wx t2 rb pc R bl)(c:bl≠ []){x:Nat}(d:x<R.length):
 A wx rb (x*2) (U ((R.getD x ⟨0,0⟩).lo:Int))/\A wx rb (x*2+1) (U ((R.getD x ⟨0,0⟩).hi:Int)):=by
 have hg:R[x]? =some (R.getD x ⟨0,0⟩):=by rw[Jj,Jd d];rfl
 exact⟨by have:=oW (f:=tr) (n:=2) (fun _=>rfl) (h.row c) hg (j:=0) rfl;rw[Ng,Uk] at this;exact this,by have:=oW (f:=tr) (n:=2) (fun _=>rfl) (h.row c) hg (j:=1) rfl;rw[Ng] at this;exact this⟩
def ObjRet (w:World)(l:List Int)(e:Ending)(w':World):Prop:=∃v,e=.returned v/\w'.ownsRow w.heap.size 3 1 v l.length (l.map zN)/\O w w'
theorem aeH{p:IProg}(h:FnS p bl):(∀a∈p6 p bl,a.ok)/\(p6 p bl).length=(aaG bl).toNat:=by
 refine⟨fun a ha=>?_,aeO h.end.ok⟩;unfold p6 afh at ha;obtain⟨⟨x,b⟩,c,rfl⟩:=Nu.1 ha
 dsimp only
 split
 ·exact h.end.ok.ok x (List.of_mem_zip c).1
 ·exact ek
theorem acc_use{p:IProg}(h:FnS p bl){b:IBlk}(hb:bl[k]? =some b)(ho:o∈b.ops)(c:afb o=true):0<=o.a/\o.a.toNat<(p6 p bl).length:=by
 have hk:=(Jh.1 hb).1;have:=((h.rng k hk).2 o (by rw[vp hb];exact ho)).1.a (acc_a c);rw[(aeH h).2];exact this
theorem agk:afb o=decide (o.code=18∨o.code=19∨o.code=20∨o.code=21):=by
 unfold afb;rw[Bool.eq_iff_iff];simp only[Jm,decide_eq_true_eq];omega
theorem afn{B:Nat}{V:PV}{p:IProg}(hp:ProgIn w B V p)(hB:B<=w.heap.size)(hs:∀f∈p.funcs,vZ f)(hv:vC p=0){f:Nat}(hf:p.funcs[f]? =some bl):
 G 16 #[yH V p,I f] w (ObjRet w (agX p.data (p6 p bl) bl)):=by
 have u:=hs bl (Ji hf);have l4:=(Jh.1 hf).1;obtain⟨R,hR⟩:∃R,p6 p bl=R:=⟨_,rfl⟩
 have hF:bl≠ []->FnS p bl:=fun h0=>ag7 hv hs hp.p64 hf h0
 have g1:∀W,O w W->G 35 #[yH V p] W (m9 W 0):=fun W hb=>by
  have:=tu (hp.below (hb.mono hB)) (Jn hB hb.size) hs;rw[hv] at this;exact this
 have g2:∀W,O w W->G 15 #[yH V p,I f] W (fun e w'=>∃(ra:Option Addr) (rn rc:Nat),e=.returned (.slice ra rn rc)/\O W w'/\((bl=[]/\ra=none/\rn=0/\rc=0)∨bl≠ []/\rn=R.length/\rc=R.length/\∃rb,ra=some ⟨rb,0,none⟩/\Q w' rb (R.flatMap tr).toArray 45)):=fun W hb=>by
  by_cases h0:bl=[]
  ·subst h0;refine(afk (hp.below (hb.mono hB)) (Jn hB hb.size) hs hv f hf).mono ?_;rintro e w' ⟨rfl,i2⟩;exact⟨none,0,0,rfl,i2,.inl ⟨rfl,rfl,rfl,rfl⟩⟩
  ·refine(afi (hp.below (hb.mono hB)) (Jn hB hb.size) hs hv hf h0).mono ?_;rintro e w' ⟨rb,rfl,h1,h2,h3⟩;rw[hR] at h1 ⊢;exact⟨_,_,_,rfl,h3,.inr ⟨h0,rfl,rfl,rb,rfl,h1⟩⟩
 have g3:∀(a:Rg) (n:Int) W,O w W->a.ok->(0<=n/\n<=2)->G 43 #[yH V p,.agg #[U (a.lo:Int),U (a.hi:Int)],I n] W (aeP W (ae2 p.data 0 a n)):=fun a n W hb ha hn=>agu (hp.below (hb.mono hB)) (Jn hB hb.size) ha n hn
 obtain⟨Vf,Va,Vd,Vb⟩:=V;obtain⟨f1,f2,e1,l7,l5⟩:=hp.funcs.form;have i3:Vf=.slice f1 p.funcs.length f2:=e1;subst i3;obtain⟨gb,go,rfl,d1,bv,g0,d3⟩:=hp.funcs.get hf;obtain⟨ka,kc,rfl,l2,l1⟩:=d3.form;rw[Nk] at g0;obtain⟨X,hX⟩:∃X,w.alloc (T #[.slice (some ⟨gb,go,none⟩) p.funcs.length f2,Va,I p.entry,I p.handler,Vd,Vb] 29)=X:=⟨_,rfl⟩
 have f5:O w X:=by rw[<-hX];exact(Below.refl _ _).alloc (Je _) _
 have q:Q X w.heap.size #[.slice (some ⟨gb,go,none⟩) p.funcs.length f2,Va,I p.entry,I p.handler,Vd,Vb] 29:=by rw[<-hX];exact zI rfl
 have x0:=zA (i:=0) q rfl;have x1:=zA (i:=1) q rfl;have x2:=zA (i:=2) q rfl;have x3:=zA (i:=3) q rfl;have x4:=zA (i:=4) q rfl;have x5:=zA (i:=5) q rfl;have c5:=lt_of_block q;have HX:=Ja (Jb f5 q)
 have HC:=Ja (show(∀W,O w W->G 35 #[.agg #[.slice (some ⟨gb,go,none⟩) p.funcs.length f2,Va,I p.entry,I p.handler,Vd,Vb]] W (m9 W 0))/\(∀W,O w W->G 15 #[.agg #[.slice (some ⟨gb,go,none⟩) p.funcs.length f2,Va,I p.entry,I p.handler,Vd,Vb],I f] W (fun e w'=>∃(ra:Option Addr) (rn rc:Nat),e=.returned (.slice ra rn rc)/\O W w'/\((bl=[]/\ra=none/\rn=0/\rc=0)∨bl≠ []/\rn=R.length/\rc=R.length/\∃rb,ra=some ⟨rb,0,none⟩/\Q w' rb (R.flatMap tr).toArray 45)))/\
  (∀(a:Rg) (n:Int) W,O w W->a.ok->(0<=n/\n<=2)->G 43 #[.agg #[.slice (some ⟨gb,go,none⟩) p.funcs.length f2,Va,I p.entry,I p.handler,Vd,Vb],.agg #[U (a.lo:Int),U (a.hi:Int)],I n] W (aeP W (ae2 p.data 0 a n))) from⟨g1,g2,g3⟩)
 have HG:=Ja (show ∀W,O w W->A W gb (go+f) (.slice ka bl.length kc)/\wX W B (.slice ka bl.length kc) bl/\B<=W.heap.size/\gb<W.heap.size from fun W hb=>⟨zV (hb.mono hB) d1 g0,d3.below yT (hb.mono hB),Jn hB hb.size,Jy d1 (Jn hB hb.size)⟩);have HF:=Ja (Jb hF (Jb hR u));have j3:decide ((f:Int)<0)=false:=decide_eq_false Zo;have j2:decide ((p.funcs.length:Int)<=(f:Int))=false:=decide_eq_false Zo;have j1:decide (p.funcs.length<=f)=false:=decide_eq_false Zo;have j5:bl.length<=2000000:=u.1;clear hp hB hs hv g1 g2 g3 g0 d3 d1 f5 q hF hR u hf;unfold yH;go_enter Tryz.func16,Tryz.ntmps16;go_upto_region 2 with(go_at_call 15;go_must (refine(HC.out.2.1 _ HX.out.1).mono ?_;rintro e w1 ⟨ra,rn,rc,rfl,d4,f0⟩))
 have a7:=zH d4 HX.out.2 c5;have m:=Ja (Jb (HX.out.1.trans (d4.mono HX.out.1.size)) (Jb a7 f0));clear hX x0 x1 x2 x3 x4 x5 d4 a7 f0 c5;have e9:=lt_of_block m.out.2.1
 go_cut [5,31] from 14 to 31 (fun s v wx=>s=.slice ra rn rc/\v=.bool false/\Hid (O w1 wx))
 case first=>
  have y0:=zA (i:=0) m.out.2.1 rfl;have y1:=zA (i:=1) m.out.2.1 rfl;have y2:=zA (i:=2) m.out.2.1 rfl;have y3:=zA (i:=3) m.out.2.1 rfl;have y4:=zA (i:=4) m.out.2.1 rfl;have y5:=zA (i:=5) m.out.2.1 rfl;have hq:=fun W=>Lib.run_eql_slice_nil (P:=Tryz.prog) W 34 45 ra rn rc 0 0 Tryz.underlying34
  cases ra with
  |none=>
   go_wp2_with (go_at_call 35;go_must (refine(HC.out.1 _ m.out.1).mono ?_;rintro e w2 ⟨rfl,f8⟩;have a7:=zH f8 m.out.2.1 e9;have z0:=zA (i:=0) a7 rfl;have l0:=lt_of_block a7))
   go_meet
   exact⟨rfl,rfl,Ja f8⟩
  |some ra=>
   go_wp2_with fail;go_meet;exact⟨rfl,rfl,Ja (Below.refl _ _)⟩
 case rest=>
  obtain⟨rfl,rfl,HW⟩:=hcut;obtain⟨ii,i0,g6,g5,g4⟩:=info_parts Tryz.info_int;have a4:=zH HW.out m.out.2.1 e9;have y0:=zA (i:=0) a4 rfl;obtain⟨yg,_,l9,l3⟩:=HG.out wc (m.out.1.trans (HW.out.mono m.out.1.size));have h6:=lt_of_block a4;obtain⟨t2,c8⟩:∃t,w.heap.size=t:=⟨_,rfl⟩
  obtain⟨rb,a6⟩:∃rb:Nat,bl≠ []->ra=some ⟨rb,0,none⟩/\rn=R.length/\rc=R.length/\Q wc rb (R.flatMap tr).toArray 45:=by
   rcases m.out.2.2 with⟨h0,_⟩|⟨h0,h1,h2,rb,h3,h4⟩
   ·exact⟨0,fun h=>absurd h0 h⟩
   ·exact⟨rb,fun _=>⟨h3,h1,h2,zH HW.out h4 (lt_of_block h4)⟩⟩
  have HS:=Ja (show ObS w wc w.heap.size rb #[.slice (some ⟨gb,go,none⟩) p.funcs.length f2,Va,I p.entry,I p.handler,Vd,Vb] R bl from⟨m.out.1.trans (HW.out.mono m.out.1.size),a4,fun h0=>(a6 h0).2.2.2⟩);have i5:=Ja (show bl≠ []->ra=some ⟨rb,0,none⟩/\rn=R.length/\rc=R.length from fun h=>⟨(a6 h).1,(a6 h).2.1,(a6 h).2.2.1⟩);rw[c8] at HS y0 h6 HG HC ⊢;have HT:=Ja c8;clear c8;have i9:=Ja (show B<=t2 by rw[<-HT.out];exact(HG.out w (Below.refl _ _)).2.2.1);have b4:wc.ownsRow t2 3 1 (L) 0 ((obs p.data R ([]:List IOp)).map zN):=Jv _ _ _ _;have i7:=Ja b4;clear a6 b4 a4;go_wp2;clear y0 yg
  go_loopw [6,39] (fun sv kv wx=>∃(k:Nat) (oa:Option Addr) (on oc:Nat),k<=bl.length/\sv=.slice oa on oc/\kv=I k/\Hid (on=(obs p.data R ((bl.take k).flatMap (·.ops))).length/\ObS w wx t2 rb #[.slice (some ⟨gb,go,none⟩) p.funcs.length f2,Va,I p.entry,I p.handler,Vd,Vb] R bl/\wx.ownsRow t2 3 1 (.slice oa on oc) on ((obs p.data R ((bl.take k).flatMap (·.ops))).map zN))) (fun _ kv _=>bl.length-(intOf kv).toNat)
  case atStart=>exact⟨0,none,0,0,Jt _,rfl,rfl,Ja ⟨rfl,HS.out,i7.out⟩⟩
  case round=>
   obtain⟨k,oa,on,oc,hk,rfl,rfl,HK⟩:=hrel
   by_cases g:k<bl.length
   ·have b0:(k:Int)<(bl.length:Int):=Zo;obtain⟨b,hb⟩:∃b,bl[k]? =some b:=⟨_,Jd g⟩
    have h8:bl≠ []:=fun e=>by rw[e] at g;exact absurd g (Nat.not_lt_zero _)
    obtain⟨_,d2,a3,_⟩:=HG.out wr HK.out.2.1.below;obtain⟨bb,bo,h9,f6,c2,c3,h64,pv,ov,tv,c0,c1,c4,d0,a9,c7⟩:=d2.get hb;obtain⟨pa,pc,rfl,k7,k6⟩:=d0.form;obtain⟨qa,qc,rfl,k5,k4⟩:=a9.form;obtain⟨ta,tc,rfl,k3,k2⟩:=c7.form;subst h9;have k0:bb<wr.heap.size:=Jy f6 a3;have f4:=HF.out.2.2.2 b (Ji hb);have k9:b.ops.length<=2000000:=f4.2.1;obtain⟨Y,hY⟩:∃Y,wr.alloc (T #[.slice pa b.params.length pc,.slice qa b.ops.length qc,I b.term.kind,I b.term.a,.slice ta b.term.to.length tc] 84)=Y:=⟨_,rfl⟩
    have b6:O wr Y:=by rw[<-hY];exact(Below.refl _ _).alloc (Je _) _
    have e7:Q Y wr.heap.size #[.slice pa b.params.length pc,.slice qa b.ops.length qc,I b.term.kind,I b.term.a,.slice ta b.term.to.length tc] 84:=by rw[<-hY];exact zI rfl
    have HY:=Ja (show ObS w Y t2 rb #[.slice (some ⟨gb,go,none⟩) p.funcs.length f2,Va,I p.entry,I p.handler,Vd,Vb] R bl/\Y.ownsRow t2 3 1 (.slice oa on oc) on ((obs p.data R ((bl.take k).flatMap (·.ops))).map zN)/\Q Y wr.heap.size #[.slice pa b.params.length pc,.slice qa b.ops.length qc,I b.term.kind,I b.term.a,.slice ta b.term.to.length tc] 84/\mN Y B (.slice qa b.ops.length qc) b.ops from⟨HK.out.2.1.keep b6,p7 HK.out.2.2 b6 (Je _),e7,a9.below xA (b6.mono a3)⟩);have d:=Ja (Jb hb (Jb h8 (Jb g HK.out.1)));clear d2 hb f6 d0 a9 c7 b6 e7 f4 h64 g a3;go_upto_region 8 with fail;clear hY c0 c1 c2 c3 c4;obtain⟨t8,e8⟩:∃t,wr.heap.size=t:=⟨_,rfl⟩
    rw[e8] at HY ⊢;clear e8;have z1:A Y t8 1 (.slice qa b.ops.length qc):=zA HY.out.2.2.1 rfl;go_wp2;clear z1
    go_loopw [6,46] (fun sv jv wx=>∃(j:Nat) (oa:Option Addr) (on oc:Nat),j<=b.ops.length/\sv=.slice oa on oc/\jv=I j/\Hid (on=(obs p.data R ((bl.take k).flatMap (·.ops)++b.ops.take j)).length/\ObS w wx t2 rb #[.slice (some ⟨gb,go,none⟩) p.funcs.length f2,Va,I p.entry,I p.handler,Vd,Vb] R bl/\wx.ownsRow t2 3 1 (.slice oa on oc) on ((obs p.data R ((bl.take k).flatMap (·.ops)++b.ops.take j)).map zN)/\Below t2 Y wx)) (fun _ jv _=>b.ops.length-(intOf jv).toNat)
    case atStart=>exact⟨0,oa,on,oc,Jt _,rfl,rfl,Ja ⟨by rw[Uc,Ua];exact d.out.2.2.2,HY.out.1,by rw[Uc,Ua];exact HY.out.2.1,Below.refl _ _⟩⟩
    case round=>
     obtain⟨j,oa,on,oc,hj,rfl,rfl,HJ⟩:=hrel
     by_cases g:j<b.ops.length
     ·have b0:(j:Int)<(b.ops.length:Int):=Zo;obtain⟨o,ho⟩:∃o,b.ops[j]? =some o:=⟨_,Jd g⟩
      obtain⟨qb,qo,h7,f3,e0,e1,e2,e3,e4,h64,av,e5,f9⟩:=(HY.out.2.2.2.below xA (HJ.out.2.2.2.mono i9.out)).get ho;obtain⟨aa,ac,rfl,_,_⟩:=f9.form;subst h7;have a3:B<=wr.heap.size:=(HG.out wr HJ.out.2.1.below).2.2.1;have j0:qb<wr.heap.size:=Jy f3 a3;obtain⟨c,hc⟩:∃c,o.code=c:=⟨_,rfl⟩
      obtain⟨y,hy⟩:∃y,o.a=y:=⟨_,rfl⟩
      rw[hc] at e0;rw[hy] at e2;obtain⟨Z,hZ⟩:∃Z,wr.alloc (T #[I c,I o.res,I y,I o.b,U (o.n:Int),.slice aa o.args.length ac] 76)=Z:=⟨_,rfl⟩
      have b5:O wr Z:=by rw[<-hZ];exact(Below.refl _ _).alloc (Je _) _
      have b8:Q Z wr.heap.size #[I c,I o.res,I y,I o.b,U (o.n:Int),.slice aa o.args.length ac] 76:=by rw[<-hZ];exact zI rfl
      have l:=Ja (show ObS w Z t2 rb #[.slice (some ⟨gb,go,none⟩) p.funcs.length f2,Va,I p.entry,I p.handler,Vd,Vb] R bl/\Z.ownsRow t2 3 1 (.slice oa on oc) on ((obs p.data R ((bl.take k).flatMap (·.ops)++b.ops.take j)).map zN)/\Q Z wr.heap.size #[I c,I o.res,I y,I o.b,U (o.n:Int),.slice aa o.args.length ac] 76/\Below t2 Y Z from⟨HJ.out.2.1.keep b5,p7 HJ.out.2.2.1 b5 (Je _),b8,HJ.out.2.2.2.trans (b5.mono HJ.out.2.1.lt)⟩)
      have j4:on<=4000000000000:=by
       have h1:=HJ.out.1;have h2:=obs_le p.data R ((bl.take k).flatMap (·.ops)++b.ops.take j);have h3:=ag6 (bl.take k) fun x hx=>(HF.out.2.2.2 x (List.mem_of_mem_take hx)).2.1
       rw[Jk,Oc] at h2;rw[Oc] at h3;have h4:=d.out.2.2.1;omega
      have HO:=Ja (Jb ho (Jb hc (Jb hy (Jb g HJ.out.1))));clear ho h64 f9 b5 b8 g f3 a3;go_upto_region 11 with fail;clear hZ e0 e1 e2 e3 e4 e5 hc hy;obtain⟨b1,c9⟩:∃t,wr.heap.size=t:=⟨_,rfl⟩
      rw[c9] at l ⊢;clear c9;have z0:A Z b1 0 (I c):=zA l.out.2.2.1 rfl
      by_cases a2:c=18∨c=19∨c=20∨c=21
      ·have a1:afb o=true:=by rw[agk,HO.out.2.1];exact decide_eq_true a2
       have b9:=acc_use (HF.out.1 d.out.2.1) d.out.1 (Ji HO.out.1) a1;rw[HF.out.2.1,HO.out.2.2.1] at b9;obtain⟨yn,rfl⟩:∃yn:Nat,y=yn:=⟨y.toNat,by omega⟩
       have b2:yn<R.length:=by have:=b9.2;rw[Ni] at this;exact this
       obtain⟨rfl,rfl,rfl⟩:=i5.out d.out.2.1
       have l8:R.length<=65536:=by
        have h1:=(aeH (HF.out.1 d.out.2.1)).2;rw[HF.out.2.1] at h1;have h2:=(HF.out.1 d.out.2.1).cnt;omega
       obtain⟨a,ha⟩:∃a,R.getD yn ⟨0,0⟩=a:=⟨_,rfl⟩
       have d5:a.ok:=by
        have h1:=(aeH (HF.out.1 d.out.2.1)).1;rw[HF.out.2.1] at h1;refine h1 a ?_;rw[<-ha,Jj,Jd b2];exact Uf b2
       obtain⟨z,hz⟩:∃z,agS p.data R o=z:=⟨_,rfl⟩
       have e6:∀n,ahc o=n->ae2 p.data 0 a n=z:=fun n hn=>by rw[<-hz,<-ha,<-hn];unfold agS;rw[HO.out.2.2.1,Ni]
       have a5:obs p.data R ((bl.take k).flatMap (·.ops)++b.ops.take (j+1))=obs p.data R ((bl.take k).flatMap (·.ops)++b.ops.take j)++ [z]:=by
        rw[aeN HO.out.1,<-Nv,afA a1,hz]
       have HA:=Ja (Jb a5 (Jb d5 (Jb e6 (Jb a1 ha))));have hrl:=lt_of_block (l.out.1.row d.out.2.1);clear b9 ha d5 hz e6 a5 a1
       have i1:((c==18)=true/\ahc o=2)∨((c==18)=false/\(c==20)=true/\ahc o=2)∨((c==18)=false/\(c==20)=false/\(c==19)=true/\ahc o=1)∨((c==18)=false/\(c==20)=false/\(c==19)=false/\(c==21)=true/\ahc o=1):=by
        unfold ahc;rw[HO.out.2.1];rcases a2 with rfl|rfl|rfl|rfl
        ·exact .inl ⟨rfl,rfl⟩
        ·exact .inr (.inr (.inl ⟨rfl,rfl,rfl,rfl⟩))
        ·exact .inr (.inl ⟨rfl,rfl,rfl⟩)
        ·exact .inr (.inr (.inr ⟨rfl,rfl,rfl,rfl,rfl⟩))
       clear a2;rcases i1 with⟨b7,u⟩|⟨b7,d7,u⟩|⟨b7,d7,h5,u⟩|⟨b7,d7,h5,k1,u⟩
       all_goals (
        have HS:=Ja (show ∀w',ObT w w' t2 rb #[.slice (some ⟨gb,go,none⟩) p.funcs.length f2,Va,I p.entry,I p.handler,Vd,Vb] R bl b1 #[I c,I o.res,I yn,I o.b,U (o.n:Int),.slice aa o.args.length ac]->(A w' t2 0 (.slice (some ⟨gb,go,none⟩) p.funcs.length f2)/\A w' t2 1 Va/\A w' t2 2 (I p.entry)/\A w' t2 3 (I p.handler)/\A w' t2 4 Vd/\A w' t2 5 Vb)/\A w' b1 2 (I yn)/\A w' rb (yn*2) (U (a.lo:Int))/\A w' rb (yn*2+1) (U (a.hi:Int)) from fun W h=>⟨⟨zA h.s.p2 rfl,zA h.s.p2 rfl,zA h.s.p2 rfl,zA h.s.p2 rfl,zA h.s.p2 rfl,zA h.s.p2 rfl⟩,zA h.op rfl,by rw[<-HA.out.2.2.2.2];exact(h.s.rcell d.out.2.1 b2).1,by rw[<-HA.out.2.2.2.2];exact(h.s.rcell d.out.2.1 b2).2⟩)
        have i6:=Ja (show ∀n W,ahc o=n->Below t2 w W->G 43 #[.agg #[.slice (some ⟨gb,go,none⟩) p.funcs.length f2,Va,I p.entry,I p.handler,Vd,Vb],.agg #[U (a.lo:Int),U (a.hi:Int)],I n] W (aeP W z) from fun n W hn hb=>by
         rw[<-HA.out.2.2.1 n hn];exact HC.out.2.2 a n W hb HA.out.2.1 (by rw[<-hn];unfold ahc;split<;>decide))
        have i4:=Ja u;clear u
        first|go_upto_region 14 with fail|go_upto_region 17 with fail
        clear z0;refine wp_region_noPanic ?_;refine yQ (S:=(fun w'=>(A w' t2 0 (.slice (some ⟨gb,go,none⟩) p.funcs.length f2)/\A w' t2 1 Va/\A w' t2 2 (I p.entry)/\A w' t2 3 (I p.handler)/\A w' t2 4 Vd/\A w' t2 5 Vb)/\A w' b1 2 (I yn)/\A w' rb (yn*2) (U (a.lo:Int))/\A w' rb (yn*2+1) (U (a.hi:Int)))) 10 Zk (HS.out _ ⟨l.out.1.drew,l.out.2.2.1⟩) (fun hHeld=>?_);refine Tl 0 ?_
        try simp only[Yp]
        refine Tl 1 ?_
        try simp only[Yp]
        refine Tl 2 ?_
        try simp only[Yp]
        refine Tl 3 ?_
        try simp only[Yp]
        refine Tl 4 ?_
        try simp only[Yp]
        refine Tl 5 ?_
        try simp only[Yp]
        refine Tl 6 ?_
        try simp only[Yp]
        refine z8 (rs:=[7]) Zk Zs ?_;refine zS.cons (o:=_) rfl (fun K hK=>?_) ?_
        ·skip
         (go_simp;refine(i6.out _ _ i4.out l.out.1.below.drew).mono ?_;rintro e w5 ⟨rfl,f7⟩;have a8:O Z w5:=(Below.refl Z.heap.size Z).drew.trans f7;clear f7;have H5:=Ja (Jb (ObT.keep ⟨l.out.1,l.out.2.2.1⟩ a8) (Jb (p7 l.out.2.1 a8 (Je _)) (Jb a8 (show t2<=(w5.alloc (T #[I z] 3)).heap.size by have:=l.out.1.lt;have:=a8.size;simp;omega))));clear a8)
         refine hK.out _ _ (HS.out _ H5.out.1) (fun hHeld=>?_);clear hK K
         try simp only[Yp]
         refine z8 (rs:=[8]) Zk Zs ?_;refine zS.cons (o:=_) rfl (fun K hK=>?_) ?_
         ·skip
          go_simp;refine hK.out _ _ (HS.out _ (H5.out.1.keep ((Below.refl _ _).alloc (Je _) _))) (fun hHeld=>?_);clear hK K
          try simp only[Yp]
          refine z8 (rs:=[9]) Zk Zs ?_;refine zS.cons (o:=_) rfl (fun K hK=>?_) ?_
          ·skip
           (refine yG (by rfl) _ _ _ (by rfl) t2 3 ii (I 0) 1 8 Tryz.underlying22 i0 g6 g5 g4 rfl Zo (.slice oa on oc) on ((obs p.data R ((bl.take k).flatMap (·.ops)++b.ops.take j)).map zN) (by rfl) (H5.out.2.1.alloc _) (F w5.heap.size 1 1) 1 [I z] (by rfl) (yM.one (zI rfl) rfl) (by unfold maxLen;omega) Zo H5.out.2.2.2 ?_;intro va9 vc9 w9 b3 a0 g8;(try dsimp only))
           refine hK.out _ _ (HS.out _ ((H5.out.1.keep ((Below.refl _ _).alloc (Je _) _)).grown (H5.out.2.1.alloc _) a0)) (fun hHeld=>?_);clear hK K
           try simp only[Yp]
           refine z8 (rs:=[10]) Zk Zs ?_;refine zS.last (o:=_) rfl (fun K hK=>?_);go_simp;refine hK.out _ _ ?_;clear hK K
           try simp only[Yp]
           refine xj Zk (NoPanic.normal ?_) _
           have d6:=Ja (show ObS w w9 t2 rb #[.slice (some ⟨gb,go,none⟩) p.funcs.length f2,Va,I p.entry,I p.handler,Vd,Vb] R bl/\w9.ownsRow t2 3 1 (.slice va9 (on+1) vc9) (on+1) ((obs p.data R ((bl.take k).flatMap (·.ops)++b.ops.take (j+1))).map zN)/\Below t2 Y w9 from by
            have h2:=(H5.out.1.s.keep ((Below.refl _ _).alloc (Je _) (T #[I z] 3))).grown (H5.out.2.1.alloc _) a0;have h4:Below t2 Y (w5.alloc (T #[I z] 3)):=(l.out.2.2.2.trans (H5.out.2.2.1.mono l.out.1.lt)).alloc H5.out.1.s.lt _
            exact⟨h2,by rw[HA.out.1,Js];exact b3,h4.grown a0 H5.out.2.2.2 (own_ge H5.out.2.1)⟩)
           clear b3 a0 g8 hHeld;go_wp2_with fail;go_roundw
           case rel=>exact⟨j+1,va9,on+1,vc9,HO.out.2.2.2.1,rfl,by go_num,Ja ⟨by rw[HA.out.1,Jk,<-HO.out.2.2.2.2];rfl,d6.out.1,d6.out.2.1,d6.out.2.2⟩⟩
           case measure=>have:=HO.out.2.2.2.1;simp[intOf];omega
          exact zS.nil
         exact zS.nil
        exact zS.nil)
      ·have a1:afb o=false:=by rw[agk,HO.out.2.1];exact decide_eq_false a2
       have a5:obs p.data R ((bl.take k).flatMap (·.ops)++b.ops.take (j+1))=obs p.data R ((bl.take k).flatMap (·.ops)++b.ops.take j):=by
        rw[aeN HO.out.1,<-Nv,af8 a1]
       have HA:=Ja a5;have m3:(c==18)=false:=Ze;have m2:(c==19)=false:=Ze;have m1:(c==20)=false:=Ze;have m0:(c==21)=false:=Ze;clear a5 a1 a2;go_wp2;go_roundw
       case rel=>exact⟨j+1,oa,on,oc,HO.out.2.2.2.1,rfl,by go_num,Ja ⟨by rw[HA.out];exact HO.out.2.2.2.2,l.out.1,by rw[HA.out];exact l.out.2.1,l.out.2.2.2⟩⟩
       case measure=>have:=HO.out.2.2.2.1;simp[intOf];omega
     ·obtain rfl:j=b.ops.length:=by omega
      have b0:¬(b.ops.length:Int)<(b.ops.length:Int):=Zo;clear hj g;go_wp2;go_roundw
      case rel=>exact⟨k+1,oa,on,oc,d.out.2.2.1,rfl,by go_num,Ja ⟨by rw[afB d.out.1];have:=HJ.out.1;rw[Nl] at this;exact this,HJ.out.2.1,by rw[afB d.out.1];have:=HJ.out.2.2.1;rw[Nl] at this;exact this⟩⟩
      case measure=>have:=d.out.2.2.1;simp[intOf];omega
   ·obtain rfl:k=bl.length:=by omega
    have b0:¬(bl.length:Int)<(bl.length:Int):=Zo;have HE:=Ja (show agX p.data (p6 p bl) bl=obs p.data R ((bl.take bl.length).flatMap (·.ops)) by rw[HF.out.2.1,Nl];rfl);clear hk g;go_wp2;go_ret;refine⟨_,rfl,?_,by rw[HT.out];exact HK.out.2.1.below⟩;rw[HE.out,<-HK.out.1,HT.out];exact HK.out.2.2
theorem af4{B:Nat}{V:PV}{p:IProg}(hp:ProgIn w B V p)(hB:B<=w.heap.size)(hs:∀f∈p.funcs,vZ f)(hv:vC p≠0)(f:Int):
 G 16 #[yH V p,I f] w (kr w):=by
 obtain⟨z,q⟩:∃z,vC p=z:=⟨_,rfl⟩
 have j:¬ahi p f:=fun h=>hv h.1
 have m:∀W,O w W->G 35 #[yH V p] W (m9 W z):=fun W hb=>by
  have:=tu (hp.below (hb.mono hB)) (Jn hB hb.size) hs;rw[q] at this;exact this
 have o:∀W,O w W->G 15 #[yH V p,I f] W (kr W):=fun W hb=>aeE (hp.below (hb.mono hB)) (Jn hB hb.size) hs f j
 have a2:(z !=0)=true:=by rw[q] at hv;simpa using hv
 obtain⟨Vf,Va,Vd,Vb⟩:=V;obtain⟨f1,f2,e1,a4,a3⟩:=hp.funcs.form;have a0:Vf=.slice f1 p.funcs.length f2:=e1;subst a0;obtain⟨X,y⟩:∃X,w.alloc (T #[.slice f1 p.funcs.length f2,Va,I p.entry,I p.handler,Vd,Vb] 29)=X:=⟨_,rfl⟩
 have l:O w X:=by rw[<-y];exact(Below.refl _ _).alloc (Je _) _
 have c:Q X w.heap.size #[.slice f1 p.funcs.length f2,Va,I p.entry,I p.handler,Vd,Vb] 29:=by rw[<-y];exact zI rfl
 have HC:=Ja (show(∀W,O w W->G 35 #[.agg #[.slice f1 p.funcs.length f2,Va,I p.entry,I p.handler,Vd,Vb]] W (m9 W z))/\(∀W,O w W->G 15 #[.agg #[.slice f1 p.funcs.length f2,Va,I p.entry,I p.handler,Vd,Vb],I f] W (kr W)) from⟨m,o⟩);have x0:=zA (i:=0) c rfl;have x1:=zA (i:=1) c rfl;have x2:=zA (i:=2) c rfl;have x3:=zA (i:=3) c rfl;have x4:=zA (i:=4) c rfl;have x5:=zA (i:=5) c rfl;have t:=lt_of_block c;have k:=Ja (Jb l c);have hq:=fun W=>Lib.run_eql_slice_nil (P:=Tryz.prog) W 34 45 none 0 0 0 0 Tryz.underlying34
 clear hp hB hs m o l c j q hv;unfold yH;go_enter Tryz.func16,Tryz.ntmps16
 go_wp2_with (first
  |(go_at_call 15;go_must (refine(HC.out.2 _ k.out.1).mono ?_;rintro e w1 ⟨rfl,g⟩;have d:=zH g k.out.2 t;clear x0 x1 x2 x3 x4 x5;have x0:=zA (i:=0) d rfl;have x1:=zA (i:=1) d rfl;have x2:=zA (i:=2) d rfl;have x3:=zA (i:=3) d rfl;have x4:=zA (i:=4) d rfl;have x5:=zA (i:=5) d rfl;have a1:=lt_of_block d;have u:=Ja (Jb (k.out.1.trans (g.mono k.out.1.size)) d);clear g d))
  |(go_at_call 35;go_must (refine(HC.out.1 _ u.out.1).mono ?_;rintro e w2 ⟨rfl,x⟩)))
 go_ret;exact⟨rfl,u.out.1.trans (x.mono u.out.1.size)⟩
theorem afW{B:Nat}{V:PV}{p:IProg}(hp:ProgIn w B V p)(hB:B<=w.heap.size)(hs:∀f∈p.funcs,vZ f)(u:vC p=0)(f:Int)(hf:f<0):
 G 16 #[yH V p,I f] w (kr w):=by
 have j:¬ahi p f:=fun h=>by have:=h.2.1.1;omega
 have m:∀W,O w W->G 35 #[yH V p] W (m9 W 0):=fun W hb=>by
  have:=tu (hp.below (hb.mono hB)) (Jn hB hb.size) hs;rw[u] at this;exact this
 have o:∀W,O w W->G 15 #[yH V p,I f] W (kr W):=fun W hb=>aeE (hp.below (hb.mono hB)) (Jn hB hb.size) hs f j
 have hd:decide (f<0)=true:=decide_eq_true hf;obtain⟨Vf,Va,Vd,Vb⟩:=V;obtain⟨f1,f2,e1,a3,a2⟩:=hp.funcs.form;have a0:Vf=.slice f1 p.funcs.length f2:=e1;subst a0;obtain⟨X,y⟩:∃X,w.alloc (T #[.slice f1 p.funcs.length f2,Va,I p.entry,I p.handler,Vd,Vb] 29)=X:=⟨_,rfl⟩
 have l:O w X:=by rw[<-y];exact(Below.refl _ _).alloc (Je _) _
 have c:Q X w.heap.size #[.slice f1 p.funcs.length f2,Va,I p.entry,I p.handler,Vd,Vb] 29:=by rw[<-y];exact zI rfl
 have HC:=Ja (show(∀W,O w W->G 35 #[.agg #[.slice f1 p.funcs.length f2,Va,I p.entry,I p.handler,Vd,Vb]] W (m9 W 0))/\(∀W,O w W->G 15 #[.agg #[.slice f1 p.funcs.length f2,Va,I p.entry,I p.handler,Vd,Vb],I f] W (kr W)) from⟨m,o⟩);have x0:=zA (i:=0) c rfl;have x1:=zA (i:=1) c rfl;have x2:=zA (i:=2) c rfl;have x3:=zA (i:=3) c rfl;have x4:=zA (i:=4) c rfl;have x5:=zA (i:=5) c rfl;have q:=lt_of_block c;have k:=Ja (Jb l c);have hq:=fun W=>Lib.run_eql_slice_nil (P:=Tryz.prog) W 34 45 none 0 0 0 0 Tryz.underlying34
 clear hp hB hs m o l c j u hf;unfold yH;go_enter Tryz.func16,Tryz.ntmps16
 go_wp2_with (first
  |(go_at_call 15;go_must (refine(HC.out.2 _ k.out.1).mono ?_;rintro e w1 ⟨rfl,g⟩;have d:=zH g k.out.2 q;clear x0 x1 x2 x3 x4 x5;have x0:=zA (i:=0) d rfl;have x1:=zA (i:=1) d rfl;have x2:=zA (i:=2) d rfl;have x3:=zA (i:=3) d rfl;have x4:=zA (i:=4) d rfl;have x5:=zA (i:=5) d rfl;have a1:=lt_of_block d;have t:=Ja (Jb (k.out.1.trans (g.mono k.out.1.size)) d);clear g d))
  |(go_at_call 35;go_must (refine(HC.out.1 _ t.out.1).mono ?_;rintro e w2 ⟨rfl,x⟩)))
 go_ret;exact⟨rfl,t.out.1.trans (x.mono t.out.1.size)⟩
theorem afO{B:Nat}{V:PV}{p:IProg}(hp:ProgIn w B V p)(hB:B<=w.heap.size)(hs:∀f∈p.funcs,vZ f)(hz:vC p=0)(f:Int)(a0:0<=f)(hf:(p.funcs.length:Int)<=f):
 G 16 #[yH V p,I f] w (kr w):=by
 have j:¬ahi p f:=fun h=>by have:=h.2.1.2;omega
 have t:∀W,O w W->G 35 #[yH V p] W (m9 W 0):=fun W hb=>by
  have:=tu (hp.below (hb.mono hB)) (Jn hB hb.size) hs;rw[hz] at this;exact this
 have u:∀W,O w W->G 15 #[yH V p,I f] W (kr W):=fun W hb=>aeE (hp.below (hb.mono hB)) (Jn hB hb.size) hs f j
 have hd:decide (f<0)=false:=decide_eq_false Zo;have a5:decide ((p.funcs.length:Int)<=f)=true:=decide_eq_true hf;obtain⟨Vf,Va,Vd,Vb⟩:=V;obtain⟨f1,f2,e1,a4,a3⟩:=hp.funcs.form;have a1:Vf=.slice f1 p.funcs.length f2:=e1;subst a1;obtain⟨X,hX⟩:∃X,w.alloc (T #[.slice f1 p.funcs.length f2,Va,I p.entry,I p.handler,Vd,Vb] 29)=X:=⟨_,rfl⟩
 have o:O w X:=by rw[<-hX];exact(Below.refl _ _).alloc (Je _) _
 have c:Q X w.heap.size #[.slice f1 p.funcs.length f2,Va,I p.entry,I p.handler,Vd,Vb] 29:=by rw[<-hX];exact zI rfl
 have HC:=Ja (show(∀W,O w W->G 35 #[.agg #[.slice f1 p.funcs.length f2,Va,I p.entry,I p.handler,Vd,Vb]] W (m9 W 0))/\(∀W,O w W->G 15 #[.agg #[.slice f1 p.funcs.length f2,Va,I p.entry,I p.handler,Vd,Vb],I f] W (kr W)) from⟨t,u⟩);have x0:=zA (i:=0) c rfl;have x1:=zA (i:=1) c rfl;have x2:=zA (i:=2) c rfl;have x3:=zA (i:=3) c rfl;have x4:=zA (i:=4) c rfl;have x5:=zA (i:=5) c rfl;have x:=lt_of_block c;have k:=Ja (Jb o c);have hq:=fun W=>Lib.run_eql_slice_nil (P:=Tryz.prog) W 34 45 none 0 0 0 0 Tryz.underlying34
 clear hp hB hs t u o c j hz hf a0;unfold yH;go_enter Tryz.func16,Tryz.ntmps16
 go_wp2_with (first
  |(go_at_call 15;go_must (refine(HC.out.2 _ k.out.1).mono ?_;rintro e w1 ⟨rfl,g⟩;have d:=zH g k.out.2 x;clear x0 x1 x2 x3 x4 x5;have x0:=zA (i:=0) d rfl;have x1:=zA (i:=1) d rfl;have x2:=zA (i:=2) d rfl;have x3:=zA (i:=3) d rfl;have x4:=zA (i:=4) d rfl;have x5:=zA (i:=5) d rfl;have y:=lt_of_block d;have l:=Ja (Jb (k.out.1.trans (g.mono k.out.1.size)) d);clear g d))
  |(go_at_call 35;go_must (refine(HC.out.1 _ l.out.1).mono ?_;rintro e w2 ⟨rfl,q⟩;have m:=zH q l.out.2 y;have y0:=zA (i:=0) m rfl;have a2:=lt_of_block m)))
 go_ret;exact⟨rfl,l.out.1.trans (q.mono l.out.1.size)⟩
theorem aeU{B:Nat}{V:PV}{p:IProg}(hp:ProgIn w B V p)(hB:B<=w.heap.size)(hs:∀f∈p.funcs,vZ f)(f:Int)(h:¬(vC p=0/\0<=f/\f.toNat<p.funcs.length)):
 G 16 #[yH V p,I f] w (kr w):=by
 by_cases hv:vC p=0
 ·by_cases h1:f<0
  ·exact afW hp hB hs hv f h1
  ·exact afO hp hB hs hv f Zo (by
    by_cases h2:(p.funcs.length:Int)<=f
    ·exact h2
    ·exact absurd ⟨hv,by omega,by omega⟩ h)
 ·exact af4 hp hB hs hv f
end Go.Proofs.YtoahcpkibpomcaaGreat
