/- Part of a proof. -/
import Derived.Test.YtoahcpkibpomcaaGreatGLift7w
import Derived.StillTailTactics
set_option linter.all false
set_option maxHeartbeats 4000000
set_option maxRecDepth 100000
namespace Go.Proofs.YtoahcpkibpomcaaGreat
open Go.RowKit
variable {blocks:List IBlk}{f1 g3 i k r2 tb:Nat}{w w' w0 w1 w9 wx:World}{g:Int->Option Nat}{xs:List Int}{d gv:Value}
theorem edge_bad{t:ITerm}{e:IEdge}(c:t.to[k]? =some e)(h:uM blocks e=false):mb blocks t=false:=by
 unfold mb
 have:t.to.all (uM blocks)=false:=by
  rw[Bool.eq_false_iff];intro h2;rw[Oe.1 h2 e (Ji c)] at h;cases h
 rw[this];rfl
theorem term_any{B C:Nat}{cs:Array Value}{d2:Value}(c1:wX w B d2 blocks)(hB:B<=w.heap.size)(hC:O w C cs 173)(h6:cs[6]? =some d2)(t:ITerm)(ht:I64 t.kind/\I64 t.a){tv:Value}(b2:wH w B tv t.to):
 G 139 #[Q C,.agg #[U t.kind,U t.a,tv]] w (ym w (mb blocks t)):=by
 obtain⟨fa,fc,rfl,e6,e5⟩:=c1.form;obtain⟨ta,tc,rfl,e2,d9⟩:=b2.form;have g3:blocks.length<=9223372036854775807:=Zo;have f9:t.to.length<=9223372036854775807:=Zo;obtain⟨tk,b3⟩:∃x,t.kind=x:=⟨_,rfl⟩
 obtain⟨tA,b4⟩:∃x,t.a=x:=⟨_,rfl⟩
 have f5:=Ja c1;have f3:=Ja b2;obtain⟨res,a0⟩:∃x,mb blocks t=x:=⟨_,rfl⟩
 rw[a0,b3,b4];have u:=Ja (show mb blocks t=res/\t.kind=tk/\t.a=tA from⟨a0,b3,b4⟩);have d0:N w (w.alloc (I #[U tk,U tA,.slice ta t.to.length tc] 82)):=(Below.refl _ _).alloc (Je _) _;have b1:=zI (W:=w) (o:=I #[U tk,U tA,.slice ta t.to.length tc] 82) rfl;have i:=zB (o:=I #[U tk,U tA,.slice ta t.to.length tc] 82) hC;clear c1 b2 a0 b3 b4 hC e6 e5 e2 d9;go_enter Tryz.func139,Tryz.ntmps139;go_upto_region 1 with fail;generalize f2:w.alloc (I #[U tk,U tA,.slice ta t.to.length tc] 82)=W0 at *;have y2:=K2 b1;have c:=Ja d0;have d3:=Ja b1;have d5:=Ja i;clear f2 d0 b1 i;go_wp2
 go_loopw [10] (fun kv wx=>∃k:Nat,k<=t.to.length/\kv=U k/\Hid (N W0 wx/\(t.to.take k).all (uM blocks)=true)) (fun kv _=>t.to.length-(intOf kv).toNat)
 case atStart=>exact⟨0,Jt _,rfl,Ja ⟨Below.refl _ _,by rfl⟩⟩
 case round=>
  obtain⟨k,hk,rfl,HK⟩:=hrel
  by_cases a6:k<t.to.length
  ·have d6:(k:Int)<t.to.length:=Zo;have d4:=Ja a6;obtain⟨e,he⟩:∃e,t.to[k]? =some e:=⟨_,Jd a6⟩
   obtain⟨b,oo,rfl,hb,i,b7,av,c9,d1⟩:=f3.out.get he;obtain⟨aa,ac,rfl,f0,e9⟩:=d1.form;have g6:e.args.length<=9223372036854775807:=Zo;have c0:N w wr:=c.out.trans (HK.out.1.mono c.out.size);obtain⟨eb,a8⟩:∃x,e.block=x:=⟨_,rfl⟩
   rw[a8] at i;have e0:=zV c0 (Jy hb hB) i;have e1:=zV c0 (Jy hb hB) c9;have d:=zH HK.out.1 d5.out (lt_of_block d5.out);have HT:=Ja (show(t.to.take (k+1)).all (uM blocks)=((t.to.take k).all (uM blocks) && uM blocks e)/\(uM blocks e=false->mb blocks t=false) from⟨xX (uM blocks) he,fun h=>edge_bad he h⟩);have HE:=Ja a8;have c3:I64 eb:=a8 ▸ b7;obtain⟨g5,g4⟩:=c3;have c5:=zB (o:=I #[U eb,.slice aa e.args.length ac] 79) d;have b0:=zI (W:=wr) (o:=I #[U eb,.slice aa e.args.length ac] 79) rfl;have c4:=HK.out.1.alloc (HK.out.1.size) (I #[U eb,.slice aa e.args.length ac] 79);clear i c9 d1 he d a6 f0 e9 b7 a8 y2;go_upto_region 4 with fail;generalize f1:wr.alloc (I #[U eb,.slice aa e.args.length ac] 79)=W1 at *;generalize wr.heap.size=b6 at *;have f7:=K0 b0;have f6:=K1 b0;have zc:A W1 C 6 (.slice fa blocks.length fc):=zA c5 h6;have y:=Ja c4;clear f1 b0 c5 c4 c0 e0 e1
   by_cases g1:1<=eb
   ·have t1:decide (eb<1)=false:=decide_eq_false Zo;obtain⟨j,rfl⟩:∃j:Nat,eb=(j:Int):=⟨eb.toNat,by omega⟩
    by_cases g2:j<blocks.length
    ·have t2:decide ((blocks.length:Int)<=(j:Int))=false:=decide_eq_false Zo;have d7:decide (blocks.length<=j)=false:=decide_eq_false Zo;have d8:(j:Int)<(blocks.length:Int):=Zo;obtain⟨bx,b8⟩:∃bx,blocks[j]? =some bx:=⟨_,Jd g2⟩
     obtain⟨fb,fo,rfl,e7,_,_,_,pv,ov,f8,c8,_,_,c7,_⟩:=f5.out.get b8;obtain⟨pa,pc,rfl,e4,e3⟩:=c7.form;have g0:bx.params.length<=9223372036854775807:=Zo;have b9:N w W1:=c.out.trans (y.out.mono c.out.size);have p0:=zV b9 (Jy e7 hB) c8;obtain⟨q3,b5⟩:∃q,decide (e.args.length=bx.params.length)=q:=⟨_,rfl⟩
     have t3:((e.args.length:Int) !=(bx.params.length:Int))=!q3:=by
      rw[bne,y7 (q:=q3) (zZ b5 Zo)]
     have g:uM blocks e=q3:=by
      unfold uM xz;rw[HE.out,decide_eq_true g1,decide_eq_true d8,Ni,Jj,b8,Ot,b5];rfl
     have l:=Ja g;clear b8 c8 c7 e4 e3 b9 g b5 g2
     cases q3 with
     |true=>
      go_quiet (fail);go_wp2;go_roundw
      case rel=>exact⟨k+1,d4.out,by go_num,Ja ⟨yC y.out,by rw[HT.out.1,HK.out.2,l.out];rfl⟩⟩
      case measure=>have:=d4.out;simp[intOf];omega
     |false=>
      go_quiet (fail);go_wp2;go_ret;exact⟨uz (u.out.1.symm.trans (HT.out.2 l.out)),yC (c.out.trans (y.out.mono c.out.size))⟩
    ·have t2:decide ((blocks.length:Int)<=(j:Int))=true:=decide_eq_true Zo;have d7:decide (blocks.length<=j)=true:=decide_eq_true Zo
     have g:uM blocks e=false:=by
      unfold uM;rw[HE.out,decide_eq_false (show ¬(j:Int)<(blocks.length:Int) by omega),Uh];rfl
     have l:=Ja g;clear g g2;go_quiet (fail);go_wp2;go_ret;exact⟨uz (u.out.1.symm.trans (HT.out.2 l.out)),yC (c.out.trans (y.out.mono c.out.size))⟩
   ·have t1:decide (eb<1)=true:=decide_eq_true Zo
    have g:uM blocks e=false:=by
     unfold uM;rw[HE.out,decide_eq_false g1];rfl
    have l:=Ja g;clear g g1;go_quiet (fail);go_wp2;go_ret;exact⟨uz (u.out.1.symm.trans (HT.out.2 l.out)),yC (c.out.trans (y.out.mono c.out.size))⟩
  ·obtain rfl:k=t.to.length:=by omega
   have d6:¬(t.to.length:Int)<t.to.length:=Zo;have d:=zH HK.out.1 d3.out (lt_of_block d3.out);have z0:=K0 d;have z1:=K1 d;have z2:=K2 d;have c2:t.to.all (uM blocks)=true:=by have:=HK.out.2;rwa [Nl] at this
   have HR:Hid ((if tk=1 then decide (t.to.length=1) && decide (tA=0)
    else if tk=2 then decide (t.to.length=2)
    else if tk=3 then decide (1<=t.to.length)
    else if tk=4 then decide (t.to.length=0)
    else if tk=5 then decide (t.to.length=0) && decide (tA=0)
    else false)=res):=by
    have h:=u.out;unfold mb at h;rw[c2,Bool.true_and,h.2.1,h.2.2] at h;exact h.1
   have m:=Ja (show N w wr from c.out.trans (HK.out.1.mono c.out.size));obtain⟨a1,h1⟩:∃q,decide (t.to.length=1)=q:=⟨_,rfl⟩
   obtain⟨a2,h2⟩:∃q,decide (t.to.length=2)=q:=⟨_,rfl⟩
   obtain⟨a3,h3⟩:∃q,decide (1<=t.to.length)=q:=⟨_,rfl⟩
   obtain⟨a4,h4⟩:∃q,decide (t.to.length=0)=q:=⟨_,rfl⟩
   obtain⟨a5,h5⟩:∃q,decide (tA=0)=q:=⟨_,rfl⟩
   rw[h1,h2,h3,h4,h5] at HR;have t1:((t.to.length:Int)==1)=a1:=y7 (zZ h1 Zo);have t2:((t.to.length:Int)==2)=a2:=y7 (zZ h2 Zo);have t3:decide ((1:Int)<=(t.to.length:Int))=a3:=zZ h3 Zo;have t4:((t.to.length:Int)==0)=a4:=y7 (zZ h4 Zo);have t5:=y7 h5;clear c2 d h1 h2 h4 h5 y2 a6
   by_cases k1:tk=1
   ·subst k1;cases a1<;>cases a5
    all_goals go_wp2
    all_goals go_ret
    all_goals exact⟨uz (HR.out.symm.trans rfl),m.out⟩
   by_cases k2:tk=2
   ·subst k2;go_wp2;go_ret;exact⟨uz (HR.out.symm.trans rfl),m.out⟩
   by_cases k3:tk=3
   ·subst k3;go_wp2;go_ret;exact⟨uz (HR.out.symm.trans rfl),m.out⟩
   by_cases k4:tk=4
   ·subst k4;go_wp2;go_ret;exact⟨uz (HR.out.symm.trans rfl),m.out⟩
   by_cases k5:tk=5
   ·subst k5;cases a4<;>cases a5
    all_goals go_wp2
    all_goals go_ret
    all_goals exact⟨uz (HR.out.symm.trans rfl),m.out⟩
   have f4:Hid (false=res):=by
    have:=HR.out;rw[if_neg k1,if_neg k2,if_neg k3,if_neg k4,if_neg k5] at this;exact this
   have u1:(tk==1)=false:=by rw[beq_eq_false_iff_ne];exact k1
   have u2:(tk==2)=false:=by rw[beq_eq_false_iff_ne];exact k2
   have u3:(tk==3)=false:=by rw[beq_eq_false_iff_ne];exact k3
   have u4:(tk==4)=false:=by rw[beq_eq_false_iff_ne];exact k4
   have u5:(tk==5)=false:=by rw[beq_eq_false_iff_ne];exact k5
   clear k1 k2 k3 k4 k5 HR;go_wp2;go_ret;exact⟨uz f4.out.symm,m.out⟩
structure Row where
 v:Value
 e:TypeId
 sz:Nat
 n:Nat
 cs:List Value
def Row.blk (r:Row):Option Nat:=r.v.ownBlock
variable {c rs rs':List Row}{r':Row}
structure Rows (w:World) (B:Nat) (rs:List Row):Prop where
 own:∀r∈rs,w.ownsRow B r.e r.sz r.v r.n r.cs
 nd:(rs.filterMap Row.blk).Nodup
theorem Rows.perm{B:Nat}(h:Rows w B rs)(hp:rs.Perm rs'):Rows w B rs':=
 ⟨fun r hr=>h.own r (hp.mem_iff.2 hr),(hp.filterMap Row.blk).nodup_iff.1 h.nd⟩
theorem Rows.lt{B:Nat}(h:Rows w B rs)(hk:k∈rs.filterMap Row.blk):B<=k/\k<w.heap.size:=by
 obtain⟨r,hr,e⟩:=Nj.1 hk;exact(h.own r hr).lt k e
theorem Rows.keep{B:Nat}(h:Rows w B rs)(hk:∀k∈rs.filterMap Row.blk,w'.heap[k]? =w.heap[k]?):Rows w' B rs:=
 ⟨fun r hr=>yD (h.own r hr) (fun k e=>hk k (Nj.2 ⟨r,hr,e⟩)),h.nd⟩
theorem Rows.below{B:Nat}(h:Rows w B rs)(hb:N w w'):Rows w' B rs:=h.keep fun k hk=>hb.block k (h.lt hk).2
theorem Rows.base{B B':Nat}(h:Rows w B rs)(hB:B'<=B):Rows w B' rs:=⟨fun r hr=>vY (h.own r hr) hB,h.nd⟩
theorem Rows.tail{B:Nat}{r:Row}(h:Rows w B (r::rs)):Rows w B rs:=by
 refine⟨fun x hx=>h.own x (List.mem_cons_of_mem _ hx),?_⟩;have:=h.nd;rw[List.filterMap_cons] at this
 split at this
 ·exact this
 ·exact(Qt.1 this).2
theorem Rows.right{B:Nat}(h:Rows w B (rs++rs')):Rows w B rs':=by
 induction rs with
 |nil=>exact h
 |cons r rs ih=>exact ih h.tail
theorem Rows.left{B:Nat}(h:Rows w B (rs++c)):Rows w B rs:=(h.perm List.perm_append_comm).right
theorem Rows.apart{B:Nat}{r:Row}(h:Rows w B (r::rs)){g:Nat}(hg:r.blk=some g):g ∉ rs.filterMap Row.blk:=by
 have:=h.nd;rw[List.filterMap_cons,hg] at this;exact(Qt.1 this).1
theorem Rows.cons{B:Nat}{r:Row}(h:Rows w B rs)(hr:w.ownsRow B r.e r.sz r.v r.n r.cs)(d:∀g,r.blk=some g->g ∉ rs.filterMap Row.blk):Rows w B (r::rs):=by
 refine⟨fun x c=>?_,?_⟩
 ·rcases Jq.1 c with rfl|c
  ·exact hr
  ·exact h.own x c
 ·rw[List.filterMap_cons]
  split
  ·exact h.nd
  ·rename_i g hg
   exact Qt.2 ⟨d g hg,h.nd⟩
theorem Rows.nil{B:Nat}:Rows w B []:=⟨fun r hr=>by simp at hr,by simp⟩
theorem Rows.append{B:Nat}(h:Rows w B rs)(d:Rows w' w.heap.size c)(hb:N w w')(hB:B<=w.heap.size):Rows w' B (c++rs):=by
 have h1:=h.below hb;have h2:=d.base hB;refine⟨fun r hr=>(Jl.1 hr).elim (h2.own r) (h1.own r),?_⟩;rw[List.filterMap_append];refine Qq.2 ⟨d.nd,h.nd,fun a ha b hb' e=>?_⟩;have e1:=(d.lt ha).1;have e2:=(h.lt hb').2;omega
theorem Rows.grow{B:Nat}{r:Row}(h:Rows w B (r::rs))(hb:N w w1)(hg:w1.grownBy w' r.blk)(c:w'.ownsRow B r'.e r'.sz r'.v r'.n r'.cs)(d:∀k,r'.blk=some k->r.blk=some k∨w.heap.size<=k):Rows w' B (r'::rs):=by
 have ht:Rows w' B rs:=h.tail.keep fun k hk=>(hg.block k (Jy (h.tail.lt hk).2 hb.size) (fun e=>h.apart e.symm hk)).trans (hb.block k (h.tail.lt hk).2)
 refine ht.cons c fun g e hg2=>?_
 rcases d g e with e2|e2
 ·exact h.apart e2 hg2
 ·have:=(h.tail.lt hg2).2;omega
theorem Rows.put{B:Nat}{r:Row}(h:Rows w B (r::rs)){g:Nat}(hg:r.blk=some g)(hk:∀k,k≠g->w'.heap[k]? =w.heap[k]?)(c:w'.ownsRow B r'.e r'.sz r'.v r'.n r'.cs)(hv:r'.v=r.v):Rows w' B (r'::rs):=by
 have ht:Rows w' B rs:=h.tail.keep fun k hk2=>hk k (fun e=>h.apart hg (by rw[<-e];exact hk2))
 refine ht.cons c fun g2 e hg2=>?_
 refine h.apart (g:=g2) ?_ hg2;unfold Row.blk at e ⊢;rw[<-hv];exact e
structure BT where
 params:List Int
 pv:Value
 ops:List (IOp×Value)
 ov:Value
 kind:Int
 a:Int
 tos:List (IEdge×Value)
 tv:Value
structure FT where
 blks:List BT
 bv:Value
structure PT where
 funcs:List FT
 fv:Value
 args:List Int
 av:Value
 data:List IObj
 dv:Value
 banks:List ByteArray
 bv:Value
 entry:Int
 handler:Int
def BT.blk (b:BT):IBlk:=⟨b.params,b.ops.map (·.1),⟨b.kind,b.a,b.tos.map (·.1)⟩⟩
def zz (b:BT):List Value:=[b.pv,b.ov,U b.kind,U b.a,b.tv]
def FT.fn (f:FT):List IBlk:=f.blks.map BT.blk
def PT.prog (t:PT):IProg:=⟨t.funcs.map FT.fn,t.args,t.entry,t.handler,t.data,t.banks⟩
def PT.V (t:PT):PV:=⟨t.fv,t.av,t.dv,t.bv⟩
def zP (v:Value)(xs:List Int):Row:=⟨v,3,1,xs.length,xs.map zN⟩
def tt (v:Value)(l:List (IOp×Value)):Row:=⟨v,76,6,l.length,l.flatMap zU⟩
def xg (v:Value)(l:List (IEdge×Value)):Row:=⟨v,79,2,l.length,l.flatMap za⟩
def zd (v:Value)(l:List BT):Row:=⟨v,84,5,l.length,l.flatMap zz⟩
def xP (o:IObj):List Value:=[U o.bank,Y (o.addr:Int),Y (o.size:Int)]
def wY (v:Value)(l:List FT):Row:=⟨v,39,1,l.length,l.map (·.bv)⟩
def vK (v:Value)(l:List IObj):Row:=⟨v,89,3,l.length,l.flatMap xP⟩
def v8 (v:Value)(l:List ByteArray):Row:=⟨v,9,1,l.length,l.map .string⟩
def wI (l:List (IOp×Value)):List Row:=l.map fun o=>zP o.2 o.1.args
def ve (l:List (IEdge×Value)):List Row:=l.map fun o=>zP o.2 o.1.args
def BT.rows (b:BT):List Row:=zP b.pv b.params::tt b.ov b.ops::xg b.tv b.tos::(wI b.ops++ve b.tos)
variable {bt':BT}{l:List BT}
def FT.rows (f:FT):List Row:=zd f.bv f.blks::f.blks.flatMap BT.rows
def PT.rows (t:PT):List Row:=wY t.fv t.funcs::zP t.av t.args::vK t.dv t.data::v8 t.bv t.banks::t.funcs.flatMap FT.rows
structure B64 (b:IBlk):Prop where
 par:∀x∈b.params,I64 x
 ops:∀o∈b.ops,qN o/\∀x∈o.args,I64 x
 term:I64 b.term.kind/\I64 b.term.a
 tos:∀e∈b.term.to,I64 e.block/\∀x∈e.args,I64 x
structure P64 (p:IProg):Prop where
 funcs:∀f∈p.funcs,∀b∈f,B64 b
 args:∀x∈p.args,I64 x
 data:∀o∈p.data,I64 o.bank/\o.addr<65536/\o.size<65536
 banks:∀s∈p.banks,s.size<=9223372036854775807
 ent:I64 p.entry
 hnd:I64 p.handler
theorem a7{α β:Type}{sz:Nat}{f:β->List Value}{g:β->α}{R:World->Nat->Nat->Nat->α->Prop}(x:0<sz)(hf:∀a,(f a).length=sz){S:Nat}{e:TypeId}{v:Value}{l:List β}(h:w.ownsRow S e sz v l.length (l.flatMap f))
 (t:∀q∈l,∀b o,(∀j u,(f q)[j]? =some u->A w b (o+j) u)->R w w.heap.size b o (g q)):yN sz R w w.heap.size v (l.map g):=by
 obtain⟨a,c,rfl⟩:=zG h;have hl:=zm h;refine⟨a,c,by rw[Nr],by rw[Nr];exact hl.1,by omega,fun k o hk=>?_⟩;rw[Jr,Oz] at hk;obtain⟨q,d,rfl⟩:=hk;have i:=(Jh.1 d).1;obtain⟨gg,y,e,hg,hb⟩:=h.form Zo;cases e;refine⟨gg,0,rfl,hb,t q (Ji d) _ _ fun j u hj=>?_⟩;have m:j<sz:=by rw[<-hf q];exact(Jh.1 hj).1
 rw[Ng]
 exact(h.cellAt (k*sz+j) (by
  have:(k+1)*sz<=l.length*sz:=Qw sz i;rw[Nat.add_mul] at this
  omega)).trans ((uB f sz hf l k q d j m).trans hj)
theorem pT{B:Nat}{v:Value}(h:w.ownsRow B 3 1 v xs.length (xs.map zN))(h64:∀x∈xs,I64 x):zY w w.heap.size v xs:=by
 have h2:w.ownsRow B 3 1 v xs.length (xs.flatMap fun x=> [zN x]):=by rw[<-Qh];exact h
 have:=a7 (sz:=1) (f:=fun x:Int=> [zN x]) (R:=IntR) (g:=fun x:Int=>x) Zd (fun _=>rfl) h2 (fun q hq b o hc=>⟨hc 0 _ rfl,h64 q hq⟩);rw[List.map_id'] at this;exact this
theorem z7 (q:IOp×Value):(zU q).length=6:=rfl
theorem yd (q:IEdge×Value):(za q).length=2:=rfl
theorem zX (q:BT):(zz q).length=5:=rfl
theorem sk (q:IObj):(xP q).length=3:=rfl
theorem BT.in{B:Nat}{b:BT}(h:∀r∈b.rows,w.ownsRow B r.e r.sz r.v r.n r.cs)(h64:B64 b.blk):zY w w.heap.size b.pv b.params/\mN w w.heap.size b.ov (b.ops.map (·.1))/\wH w w.heap.size b.tv (b.tos.map (·.1)):=by
 unfold BT.rows at h;refine⟨pT (h _ (.head _)) h64.par,?_,?_⟩
 ·refine a7 Zd z7 (h _ (.tail _ (.head _))) fun q hq b2 o hc=>?_
  have h1:=h64.ops q.1 (Oj hq);exact⟨hc 0 _ rfl,hc 1 _ rfl,hc 2 _ rfl,hc 3 _ rfl,hc 4 _ rfl,h1.1,q.2,hc 5 _ rfl,pT (h (zP q.2 q.1.args) (.tail _ (.tail _ (.tail _ (Jz _ (Oj hq)))))) h1.2⟩
 ·refine a7 Zd yd (h _ (.tail _ (.tail _ (.head _)))) fun q hq b2 o hc=>?_
  have h1:=h64.tos q.1 (Oj hq);exact⟨hc 0 _ rfl,h1.1,q.2,hc 1 _ rfl,pT (h (zP q.2 q.1.args) (.tail _ (.tail _ (.tail _ (Qf _ (Oj hq)))))) h1.2⟩
theorem FT.in{B:Nat}{f:FT}(h:∀r∈f.rows,w.ownsRow B r.e r.sz r.v r.n r.cs)(h64:∀b∈f.fn,B64 b):wX w w.heap.size f.bv f.fn:=by
 unfold FT.rows at h;refine a7 Zd zX (h _ (.head _)) fun q hq b2 o hc=>?_
 have hb:=h64 q.blk (Oj hq);have h1:=BT.in (w:=w) (B:=B) (b:=q) (fun r hr=>h r (.tail _ (Qx.2 ⟨q,hq,hr⟩))) hb;exact⟨hc 2 _ rfl,hc 3 _ rfl,hb.term,q.pv,q.ov,q.tv,hc 0 _ rfl,hc 1 _ rfl,hc 4 _ rfl,h1.1,h1.2.1,h1.2.2⟩
theorem PT.in{B:Nat}{t:PT}(h:Rows w B t.rows)(h64:P64 t.prog):ProgIn w w.heap.size t.V t.prog:=by
 have h:=h.own;unfold PT.rows at h;refine⟨?_,pT (h _ (.tail _ (.head _))) h64.args,?_,?_,h64.ent,h64.hnd⟩
 ·have h1:w.ownsRow B 39 1 t.fv t.funcs.length (t.funcs.flatMap fun f=> [f.bv]):=by rw[<-Qh];exact h _ (.head _)
  refine a7 (sz:=1) (f:=fun f:FT=> [f.bv]) (g:=FT.fn) Zd (fun _=>rfl) h1 fun q hq b2 o hc=>?_
  exact⟨q.bv,hc 0 _ rfl,FT.in (B:=B) (fun r hr=>h r (.tail _ (.tail _ (.tail _ (.tail _ (Qx.2 ⟨q,hq,hr⟩)))))) (h64.funcs q.fn (Oj hq))⟩
 ·have:=a7 (sz:=3) (f:=xP) (R:=ObjR) (g:=fun x:IObj=>x) Zd sk (h (vK t.dv t.data) (.tail _ (.tail _ (.head _)))) (fun q hq b o hc=>?_)
  ·rw[List.map_id'] at this;exact this
  ·have h1:=h64.data q hq;exact⟨hc 0 _ rfl,hc 1 _ rfl,hc 2 _ rfl,h1.1,h1.2.1,h1.2.2⟩
 ·have h1:w.ownsRow B 9 1 t.bv t.banks.length (t.banks.flatMap fun s=> [.string s]):=by rw[<-Qh];exact h _ (.tail _ (.tail _ (.tail _ (.head _))))
  have:=a7 (sz:=1) (f:=fun s:ByteArray=> [.string s]) (R:=StrR) (g:=fun x:ByteArray=>x) Zd (fun _=>rfl) h1 (fun q hq b o hc=>⟨hc 0 _ rfl,h64.banks q hq⟩);rw[List.map_id'] at this;exact this
def acg (f:Flds):Value:=.agg #[.bool f.is,.bool f.res,.bool f.a,.bool f.b,.bool f.n]
def wL (w:World)(f:Flds)(e:Ending)(w':World):Prop:=e=.returned (acg f)/\N w w'
theorem shp_1 (w:World):G 52 #[U 1] w (wL w ⟨true,true,false,false,true⟩):=by
 go_enter Tryz.func52,Tryz.ntmps52;go_wp2;refine bodyPost_ret (v:=.agg #[.bool true,.bool true,.bool false,.bool false,.bool true]) ?_ rfl ?_
 ·rw[zM rfl];go_simp
 ·exact⟨rfl,Zr⟩
theorem shp_2 (w:World):G 52 #[U 2] w (wL w ⟨true,true,false,false,true⟩):=by
 go_enter Tryz.func52,Tryz.ntmps52;go_wp2;refine bodyPost_ret (v:=.agg #[.bool true,.bool true,.bool false,.bool false,.bool true]) ?_ rfl ?_
 ·rw[zM rfl];go_simp
 ·exact⟨rfl,Zr⟩
theorem shp_3 (w:World):G 52 #[U 3] w (wL w ⟨true,true,true,false,false⟩):=by
 go_enter Tryz.func52,Tryz.ntmps52;go_wp2;refine bodyPost_ret (v:=.agg #[.bool true,.bool true,.bool true,.bool false,.bool false]) ?_ rfl ?_
 ·rw[zM rfl];go_simp
 ·exact⟨rfl,Zr⟩
theorem shp_4 (w:World):G 52 #[U 4] w (wL w ⟨true,true,true,false,false⟩):=by
 go_enter Tryz.func52,Tryz.ntmps52;go_wp2;refine bodyPost_ret (v:=.agg #[.bool true,.bool true,.bool true,.bool false,.bool false]) ?_ rfl ?_
 ·rw[zM rfl];go_simp
 ·exact⟨rfl,Zr⟩
theorem shp_18 (w:World):G 52 #[U 18] w (wL w ⟨true,true,true,false,false⟩):=by
 go_enter Tryz.func52,Tryz.ntmps52;go_wp2;refine bodyPost_ret (v:=.agg #[.bool true,.bool true,.bool true,.bool false,.bool false]) ?_ rfl ?_
 ·rw[zM rfl];go_simp
 ·exact⟨rfl,Zr⟩
theorem shp_19 (w:World):G 52 #[U 19] w (wL w ⟨true,true,true,false,false⟩):=by
 go_enter Tryz.func52,Tryz.ntmps52;go_wp2;refine bodyPost_ret (v:=.agg #[.bool true,.bool true,.bool true,.bool false,.bool false]) ?_ rfl ?_
 ·rw[zM rfl];go_simp
 ·exact⟨rfl,Zr⟩
theorem shp_20 (w:World):G 52 #[U 20] w (wL w ⟨true,false,true,true,false⟩):=by
 go_enter Tryz.func52,Tryz.ntmps52;go_wp2;refine bodyPost_ret (v:=.agg #[.bool true,.bool false,.bool true,.bool true,.bool false]) ?_ rfl ?_
 ·rw[zM rfl];go_simp
 ·exact⟨rfl,Zr⟩
theorem shp_21 (w:World):G 52 #[U 21] w (wL w ⟨true,false,true,true,false⟩):=by
 go_enter Tryz.func52,Tryz.ntmps52;go_wp2;refine bodyPost_ret (v:=.agg #[.bool true,.bool false,.bool true,.bool true,.bool false]) ?_ rfl ?_
 ·rw[zM rfl];go_simp
 ·exact⟨rfl,Zr⟩
theorem shp_22 (w:World):G 52 #[U 22] w (wL w ⟨true,true,true,false,true⟩):=by
 go_enter Tryz.func52,Tryz.ntmps52;go_wp2;refine bodyPost_ret (v:=.agg #[.bool true,.bool true,.bool true,.bool false,.bool true]) ?_ rfl ?_
 ·rw[zM rfl];go_simp
 ·exact⟨rfl,Zr⟩
theorem shp_23 (w:World):G 52 #[U 23] w (wL w ⟨true,true,true,false,true⟩):=by
 go_enter Tryz.func52,Tryz.ntmps52;go_wp2;refine bodyPost_ret (v:=.agg #[.bool true,.bool true,.bool true,.bool false,.bool true]) ?_ rfl ?_
 ·rw[zM rfl];go_simp
 ·exact⟨rfl,Zr⟩
theorem shp_24 (w:World):G 52 #[U 24] w (wL w ⟨true,true,false,false,true⟩):=by
 go_enter Tryz.func52,Tryz.ntmps52;go_wp2;refine bodyPost_ret (v:=.agg #[.bool true,.bool true,.bool false,.bool false,.bool true]) ?_ rfl ?_
 ·rw[zM rfl];go_simp
 ·exact⟨rfl,Zr⟩
theorem shp_25 (w:World):G 52 #[U 25] w (wL w ⟨true,false,true,false,true⟩):=by
 go_enter Tryz.func52,Tryz.ntmps52;go_wp2;refine bodyPost_ret (v:=.agg #[.bool true,.bool false,.bool true,.bool false,.bool true]) ?_ rfl ?_
 ·rw[zM rfl];go_simp
 ·exact⟨rfl,Zr⟩
theorem shp_26 (w:World):G 52 #[U 26] w (wL w ⟨true,false,false,false,false⟩):=by
 go_enter Tryz.func52,Tryz.ntmps52;go_wp2;refine bodyPost_ret (v:=.agg #[.bool true,.bool false,.bool false,.bool false,.bool false]) ?_ rfl ?_
 ·rw[zM rfl];go_simp
 ·exact⟨rfl,Zr⟩
theorem shp_27 (w:World):G 52 #[U 27] w (wL w ⟨true,false,false,false,false⟩):=by
 go_enter Tryz.func52,Tryz.ntmps52;go_wp2;refine bodyPost_ret (v:=.agg #[.bool true,.bool false,.bool false,.bool false,.bool false]) ?_ rfl ?_
 ·rw[zM rfl];go_simp
 ·exact⟨rfl,Zr⟩
theorem aao (c:Int)(h:5<=c/\c<=17)(w:World):G 52 #[U c] w (wL w ⟨true,true,true,true,false⟩):=by
 have t1:((c:Int)==1)=false:=Ze;have t2:((c:Int)==2)=false:=Ze;have t3:((c:Int)==3)=false:=Ze;have t4:((c:Int)==4)=false:=Ze;have u:((c:Int)==18)=false:=Ze;have t:((c:Int)==19)=false:=Ze;have o:((c:Int)==20)=false:=Ze;have m:((c:Int)==21)=false:=Ze;have l:((c:Int)==22)=false:=Ze;have k:((c:Int)==23)=false:=Ze;have j:((c:Int)==24)=false:=Ze;have i:((c:Int)==25)=false:=Ze;have g:((c:Int)==26)=false:=Ze;have d:((c:Int)==27)=false:=Ze;have d1:decide (5<=c)=true:=by rw[decide_eq_true_eq];omega
 have d2:decide (c<=17)=true:=by rw[decide_eq_true_eq];omega
 clear h;go_enter Tryz.func52,Tryz.ntmps52;go_wp2;refine bodyPost_ret (v:=.agg #[.bool true,.bool true,.bool true,.bool true,.bool false]) ?_ rfl ?_
 ·rw[zM rfl];go_simp
 ·exact⟨rfl,Zr⟩
theorem shp_low (c:Int)(h:c<1)(w:World):G 52 #[U c] w (wL w ⟨false,false,false,false,false⟩):=by
 have t1:((c:Int)==1)=false:=Ze;have t2:((c:Int)==2)=false:=Ze;have t3:((c:Int)==3)=false:=Ze;have t4:((c:Int)==4)=false:=Ze;have u:((c:Int)==18)=false:=Ze;have t:((c:Int)==19)=false:=Ze;have o:((c:Int)==20)=false:=Ze;have m:((c:Int)==21)=false:=Ze;have l:((c:Int)==22)=false:=Ze;have k:((c:Int)==23)=false:=Ze;have j:((c:Int)==24)=false:=Ze;have i:((c:Int)==25)=false:=Ze;have g:((c:Int)==26)=false:=Ze;have d:((c:Int)==27)=false:=Ze;have d1:decide (5<=c)=false:=by rw[decide_eq_false_iff_not];omega
 have d2:decide (c<=17)=true:=by rw[decide_eq_true_eq];omega
 clear h;go_enter Tryz.func52,Tryz.ntmps52;go_wp2;refine bodyPost_ret (v:=.agg #[.bool false,.bool false,.bool false,.bool false,.bool false]) ?_ rfl ?_
 ·rw[zM rfl];go_simp
 ·exact⟨rfl,Zr⟩
theorem shp_high (c:Int)(h:27<c)(w:World):G 52 #[U c] w (wL w ⟨false,false,false,false,false⟩):=by
 have t1:((c:Int)==1)=false:=Ze;have t2:((c:Int)==2)=false:=Ze;have t3:((c:Int)==3)=false:=Ze;have t4:((c:Int)==4)=false:=Ze;have u:((c:Int)==18)=false:=Ze;have t:((c:Int)==19)=false:=Ze;have o:((c:Int)==20)=false:=Ze;have m:((c:Int)==21)=false:=Ze;have l:((c:Int)==22)=false:=Ze;have k:((c:Int)==23)=false:=Ze;have j:((c:Int)==24)=false:=Ze;have i:((c:Int)==25)=false:=Ze;have g:((c:Int)==26)=false:=Ze;have d:((c:Int)==27)=false:=Ze;have d1:decide (5<=c)=true:=by rw[decide_eq_true_eq];omega
 have d2:decide (c<=17)=false:=by rw[decide_eq_false_iff_not];omega
 clear h;go_enter Tryz.func52,Tryz.ntmps52;go_wp2;refine bodyPost_ret (v:=.agg #[.bool false,.bool false,.bool false,.bool false,.bool false]) ?_ rfl ?_
 ·rw[zM rfl];go_simp
 ·exact⟨rfl,Zr⟩
theorem aaK (c:Int)(w:World):G 52 #[U c] w (wL w (zi c)):=by
 rcases rJ c with⟨h,e⟩|⟨h,e⟩|⟨h,e⟩|⟨h,e⟩|⟨h,e⟩|⟨h,e⟩|⟨h,e⟩|⟨h,e⟩<;>rw[e]
 ·rcases h with rfl|rfl|rfl
  ·exact shp_1 w
  ·exact shp_2 w
  ·exact shp_24 w
 ·rcases h with rfl|rfl|rfl|rfl
  ·exact shp_3 w
  ·exact shp_4 w
  ·exact shp_18 w
  ·exact shp_19 w
 ·exact aao c h w
 ·rcases h with rfl|rfl
  ·exact shp_20 w
  ·exact shp_21 w
 ·rcases h with rfl|rfl
  ·exact shp_22 w
  ·exact shp_23 w
 ·subst h;exact shp_25 w
 ·rcases h with rfl|rfl
  ·exact shp_26 w
  ·exact shp_27 w
 ·rcases h with h|h
  ·exact shp_low c h w
  ·exact shp_high c h w
structure OfMid (w:World) (f1 r2 g3 tb:Nat) (fv gv:Value) (bt:BT) (l:List BT) (xr:List Row) (wx:World):Prop where
 h1:wx.heap[f1]? =some (.cells #[fv] 39 (0,0))
 h2:wx.heap[r2]? =some (.cells #[.slice none 0 0] 39 (0,0))
 h3:wx.heap[g3]? =some (.cells #[gv] 39 (0,0))
 hb:wx.heap[tb]? =some (.cells (zz bt).toArray 84 (0,0))
 bel:Below f1 w wx
 rows:Rows wx f1 (xr++(bt.rows++(zd gv l::l.flatMap BT.rows)))
 ges:f1<r2/\r2<g3/\g3<tb
 hgt:gv.ownBlock≠some tb
 xe:∀r∈xr,r.e=3
section
variable {w:World} {f1 r2 g3 tb:Nat} {fv gv:Value} {bt:BT} {l:List BT} {xr:List Row} {wx:World} (h:OfMid w f1 r2 g3 tb fv gv bt l xr wx)
include h
theorem OfMid.sz:f1<=wx.heap.size:=Qd (lt_of_block h.h1)
theorem OfMid.below(hb:N wx w'):OfMid w f1 r2 g3 tb fv gv bt l xr w':=
 ⟨zH hb h.h1 (lt_of_block h.h1),zH hb h.h2 (lt_of_block h.h2),zH hb h.h3 (lt_of_block h.h3),zH hb h.hb (lt_of_block h.hb),h.bel.trans (hb.mono h.sz),h.rows.below hb,h.ges,h.hgt,h.xe⟩
theorem OfMid.noTb:∀x∈xr++(bt.rows++(zd gv l::l.flatMap BT.rows)),x.blk≠some tb:=by
 have d:∀(b:BT),∀x∈b.rows,x.e≠84:=fun b x c=>by
  unfold BT.rows at c;rcases Jq.1 c with rfl|c
  ·show 3≠84;decide
  rcases Jq.1 c with rfl|c
  ·show 76≠84;decide
  rcases Jq.1 c with rfl|c
  ·show 79≠84;decide
  rcases Jl.1 c with c|c
  ·obtain⟨q,_,rfl⟩:=Nu.1 c
   show 3≠84;decide
  ·obtain⟨q,_,rfl⟩:=Nu.1 c
   show 3≠84;decide
 intro x c;have ho:=h.rows.own x c;rcases Jl.1 c with c|c
 ·exact zC ho h.hb (.inr (by rw[h.xe x c];decide))
 rcases Jl.1 c with c|c
 ·exact zC ho h.hb (.inr (d bt x c))
 rcases Jq.1 c with rfl|c
 ·exact h.hgt
 ·obtain⟨b,_,hb⟩:=Qx.1 c;exact zC ho h.hb (.inr (d b x hb))
theorem OfMid.grow{r:Row}{j:List Row}(hp:(xr++(bt.rows++(zd gv l::l.flatMap BT.rows))).Perm (r::rs))(d:N wx w1)(hg:w1.grownBy w' r.blk)
 (o:w'.ownsRow f1 r'.e r'.sz r'.v r'.n r'.cs) (a6:∀k,r'.blk=some k->r.blk=some k∨wx.heap.size<=k) (g:r.e≠39/\r.e≠84) (a5:r'.e≠84) {W:World} (hW:W=w'∨∃i u,W=w'.setCell ⟨tb,i,none⟩ u)
 (a3:∀c:Array Value,O w' tb c 84->c=(zz bt).toArray->O W tb (zz bt').toArray 84)
 (hq:(r'::rs).Perm (j++(bt'.rows++(zd gv l::l.flatMap BT.rows)))) (a2:∀r∈j,r.e=3):OfMid w f1 r2 g3 tb fv gv bt' l j W:=by
 have hr:=h.rows.perm hp;have ho:=hr.own r (.head _);have keep:∀ {b:Nat} {cs:Array Value} {t:TypeId},O wx b cs t->r.e≠t->O w' b cs t:=fun hb hne=>zL hg (zH d hb (lt_of_block hb)) (zC ho hb (.inr hne))
 have a4:wx.heap.size<=w'.heap.size:=Jn d.size hg.size;have a0:Below f1 w w':=h.bel.trans ⟨hg.os.trans d.os,hg.tape.trans d.tape,hg.output.trans d.output,a4,fun k hk=>(hg.block k (by have:=h.sz;have:=d.size;omega) (fun e=>by have:=(ho.lt k e.symm).1;omega)).trans (d.block k (by have:=h.sz;omega))⟩;have y:Rows w' f1 (r'::rs):=hr.grow d hg o a6;have m:=keep h.hb g.2;rcases hW with rfl|⟨i,u,rfl⟩
 ·exact⟨keep h.h1 g.1,keep h.h2 g.1,keep h.h3 g.1,a3 _ m rfl,a0,y.perm hq,h.ges,h.hgt,a2⟩
 ·have a8:=h.ges;refine⟨zR (keep h.h1 g.1) (by show f1≠tb;omega),zR (keep h.h2 g.1) (by show r2≠tb;omega),zR (keep h.h3 g.1) (by show g3≠tb;omega),a3 _ m rfl,a0.setCell (by show f1<=tb;omega) _,(y.keep fun k hk=>Below.heap_setCell _ _ _ _ (fun e=>?_)).perm hq,h.ges,h.hgt,a2⟩;obtain⟨x,hx,a1⟩:=Nj.1 hk;have e':k=tb:=e;subst e';rcases Jq.1 hx with rfl|hx
  ·exact zC o m (.inr a5) a1
  ·exact h.noTb x (hp.mem_iff.2 (.tail _ hx)) a1
end
section
variable {w:World} {f1 r2 g3 tb:Nat} {fv gv:Value} {bt:BT} {l:List BT} {wx:World}
theorem OfMid.par(h:OfMid w f1 r2 g3 tb fv gv bt l [] wx)(hp:bt.params=[])(i:N wx w1)(hg:w1.grownBy w9 bt.pv.ownBlock)(g:w9.ownsRow f1 3 1 d xs.length (xs.map zN))
 (j:∀k,d.ownBlock=some k->bt.pv.ownBlock=some k∨wx.heap.size<=k):OfMid w f1 r2 g3 tb fv gv {bt with params:=xs,pv:=d } l [] (w9.setCell ⟨tb,0,none⟩ d):=
 h.grow (r:=zP bt.pv bt.params) (r':=zP d xs) (Uq _) i hg g j ⟨by show 3≠_;decide,by show 3≠_;decide⟩ (by show 3≠_;decide) (.inr ⟨0,d,rfl⟩)
  (fun c hc e=>by subst e;rw[zD hc];rfl) (Uq _) (fun r hr=>by simp at hr)
theorem OfMid.arg2{av:Value}(h:OfMid w f1 r2 g3 tb fv gv bt l [] wx)(c:N wx w1)(hg:w1.grownBy w9 none)(o:w9.ownsRow f1 3 1 av xs.length (xs.map zN))(m:∀k,av.ownBlock=some k->w1.heap.size<=k)
 {q:Nat} (x:wx.heap.size<=q/\q<w1.heap.size) (u:Value):OfMid w f1 r2 g3 tb fv gv bt l [zP av xs] (w9.setCell ⟨q,i,none⟩ u):=by
 have t:N wx (w9.setCell ⟨q,i,none⟩ u):=Below.setCell ⟨hg.os.trans c.os,hg.tape.trans c.tape,hg.output.trans c.output,Jn c.size hg.size,fun k hk=>(hg.block k (Jy hk c.size) (fun e=>by cases e)).trans (c.block k hk)⟩ x.1 _;have d:=h.below t;have j:(w9.setCell ⟨q,i,none⟩ u).ownsRow f1 3 1 av xs.length (xs.map zN):=yD o (fun k e=>Below.heap_setCell _ _ _ _ (fun e2=>by have:=m k e;have e3:k=q:=e2;omega));exact⟨d.h1,d.h2,d.h3,d.hb,d.bel,d.rows.cons j (fun g e hm=>by have:=m g e;have:=(h.rows.lt hm).2;omega),d.ges,d.hgt,fun r hr=>by rw[Jo] at hr;subst hr;rfl⟩
theorem OfMid.op{av:Value}{o:IOp}(h:OfMid w f1 r2 g3 tb fv gv bt l [zP av o.args] wx)(i:N wx w1)(hg:w1.grownBy w9 bt.ov.ownBlock)
 (g:w9.ownsRow f1 76 6 d (bt.ops.length+1) (bt.ops.flatMap zU++zU (o,av))) (j:∀k,d.ownBlock=some k->bt.ov.ownBlock=some k∨wx.heap.size<=k):
 OfMid w f1 r2 g3 tb fv gv {bt with ops:=bt.ops++ [(o,av)],ov:=d } l [] (w9.setCell ⟨tb,1,none⟩ d):=
 h.grow (r:=tt bt.ov bt.ops) (r':=tt d (bt.ops++ [(o,av)])) (rs:=zP av o.args::zP bt.pv bt.params::xg bt.tv bt.tos::(wI bt.ops++ve bt.tos)++(zd gv l::l.flatMap BT.rows)) (by
  classical
  unfold BT.rows;refine Jp.2 fun r=>?_
  simp only[Nb,Nf,List.count_nil]
  omega) i hg (by
  show w9.ownsRow f1 76 6 d (bt.ops++ [(o,av)]).length ((bt.ops++ [(o,av)]).flatMap zU)
  rw[Jk,Ju,Nx]
  simpa using g) j ⟨by show 76≠_;decide,by show 76≠_;decide⟩ (by show 76≠_;decide) (.inr ⟨1,d,rfl⟩)
  (fun c hc e=>by subst e;rw[zD hc];rfl) (by
   classical
   unfold BT.rows wI;refine Jp.2 fun r=>?_
   simp only[Nb,Nf,List.count_nil,Js,Ql,List.map_nil]
   omega) (fun r hr=>by simp at hr)
theorem OfMid.edge{av:Value}{o:IEdge}(h:OfMid w f1 r2 g3 tb fv gv bt l [zP av o.args] wx)(i:N wx w1)(hg:w1.grownBy w9 bt.tv.ownBlock)
 (g:w9.ownsRow f1 79 2 d (bt.tos.length+1) (bt.tos.flatMap za++za (o,av))) (j:∀k,d.ownBlock=some k->bt.tv.ownBlock=some k∨wx.heap.size<=k):
 OfMid w f1 r2 g3 tb fv gv {bt with tos:=bt.tos++ [(o,av)],tv:=d } l [] (w9.setCell ⟨tb,4,none⟩ d):=
 h.grow (r:=xg bt.tv bt.tos) (r':=xg d (bt.tos++ [(o,av)])) (rs:=zP av o.args::zP bt.pv bt.params::tt bt.ov bt.ops::(wI bt.ops++ve bt.tos)++(zd gv l::l.flatMap BT.rows)) (by
  classical
  unfold BT.rows;refine Jp.2 fun r=>?_
  simp only[Nb,Nf,List.count_nil]
  omega) i hg (by
  show w9.ownsRow f1 79 2 d (bt.tos++ [(o,av)]).length ((bt.tos++ [(o,av)]).flatMap za)
  rw[Jk,Ju,Nx]
  simpa using g) j ⟨by show 79≠_;decide,by show 79≠_;decide⟩ (by show 79≠_;decide) (.inr ⟨4,d,rfl⟩)
  (fun c hc e=>by subst e;rw[zD hc];rfl) (by
   classical
   unfold BT.rows ve;refine Jp.2 fun r=>?_
   simp only[Nb,Nf,List.count_nil,Js,Ql,List.map_nil]
   omega) (fun r hr=>by simp at hr)
theorem OfMid.set{u:Value}(h:OfMid w f1 r2 g3 tb fv gv bt l [] wx)(g:((zz bt).toArray).setIfInBounds i u=(zz bt').toArray)(hr:bt'.rows=bt.rows):OfMid w f1 r2 g3 tb fv gv bt' l [] (wx.setCell ⟨tb,i,none⟩ u):=by
 have hg:=h.ges;refine⟨zR h.h1 (by show f1≠tb;omega),zR h.h2 (by show r2≠tb;omega),zR h.h3 (by show g3≠tb;omega),by rw[zD h.hb,g],h.bel.setCell (by show f1<=tb;omega) _,?_,h.ges,h.hgt,h.xe⟩;rw[hr];refine h.rows.keep fun k hk=>Below.heap_setCell _ _ _ _ (fun e=>?_)
 obtain⟨x,d,c⟩:=Nj.1 hk;have e':k=tb:=e;subst e';exact h.noTb x d c
end
structure OfTop (w:World) (f1 r2 g3:Nat) (fv gv:Value) (l:List BT) (wx:World):Prop where
 h1:wx.heap[f1]? =some (.cells #[fv] 39 (0,0))
 h2:wx.heap[r2]? =some (.cells #[.slice none 0 0] 39 (0,0))
 h3:wx.heap[g3]? =some (.cells #[gv] 39 (0,0))
 bel:Below f1 w wx
 rows:Rows wx f1 (zd gv l::l.flatMap BT.rows)
 ges:f1<r2/\r2<g3
def bt0:BT:=⟨[],L,[],L,0,0,[],L⟩
theorem OfTop.start{fv:Value}(h:OfTop w f1 r2 g3 fv gv l wx)(d:wx.heap.size=tb):
 OfMid w f1 r2 g3 tb fv gv bt0 l [] (wx.alloc (I #[L,L,U 0,U 0,L] 84)):=by
 have i:N wx (wx.alloc (I #[L,L,U 0,U 0,L] 84)):=(Below.refl _ _).alloc (Je _) _;have hl:=lt_of_block h.h3;have j:=lt_of_block h.h1;have c:∀(e:TypeId) (W:World) (sz:Nat),W.ownsRow f1 e sz (L) 0 []:=fun e W sz=>Jv _ _ _ _
 refine⟨zB h.h1,zB h.h2,zB h.h3,zI d,h.bel.alloc Zo _,?_,⟨h.ges.1,h.ges.2,by omega⟩,fun e=>?_,fun r hr=>by simp at hr⟩
 ·show Rows _ f1 (zP (L) []::tt (L) []::xg (L) []::(zd gv l::l.flatMap BT.rows))
  have hr:=h.rows.below i;exact((hr.cons (c _ _ _) (fun g e=>by simp[Row.blk,xg,Value.ownBlock] at e)).cons (c _ _ _) (fun g e=>by simp[Row.blk,tt,Value.ownBlock] at e)).cons (c _ _ _) (fun g e=>by simp[Row.blk,zP,Value.ownBlock] at e)
 ·have:=((h.rows.own _ (.head _)).lt tb e).2;omega
theorem OfMid.close{fv g:Value}{bt:BT}(h:OfMid w f1 r2 g3 tb fv gv bt l [] wx)(d:N wx w1)(hg:w1.grownBy w9 gv.ownBlock)
 (j:w9.ownsRow f1 84 5 g (l.length+1) (l.flatMap zz++zz bt)) (a1:∀k,g.ownBlock=some k->gv.ownBlock=some k∨wx.heap.size<=k):OfTop w f1 r2 g3 fv g (l++ [bt]) (w9.setCell ⟨g3,0,none⟩ g):=by
 have hp:(bt.rows++(zd gv l::l.flatMap BT.rows)).Perm (zd gv l::(bt.rows++l.flatMap BT.rows)):=List.perm_middle;have hr:Rows wx f1 (zd gv l::(bt.rows++l.flatMap BT.rows)):=h.rows.perm hp;have ho:=hr.own _ (.head _);have keep:∀ {b:Nat} {cs:Array Value} {t:TypeId},O wx b cs t->84≠t->O w9 b cs t:=fun hb hne=>zL hg (zH d hb (lt_of_block hb)) (zC ho hb (.inr hne))
 have a0:wx.heap.size<=w9.heap.size:=Jn d.size hg.size;have o:Below f1 w w9:=h.bel.trans ⟨hg.os.trans d.os,hg.tape.trans d.tape,hg.output.trans d.output,a0,fun k hk=>(hg.block k (by have:=h.sz;have:=d.size;omega) (fun e=>by have:=(ho.lt k e.symm).1;omega)).trans (d.block k (by have:=h.sz;omega))⟩
 have m:Rows w9 f1 (zd g (l++ [bt])::(bt.rows++l.flatMap BT.rows)):=hr.grow d hg (by
  show w9.ownsRow f1 84 5 g (l++ [bt]).length ((l++ [bt]).flatMap zz)
  rw[Jk,Ju,Nx]
  simpa using j) a1
 have h3:=keep h.h3 Zd;have a2:=h.ges;refine⟨zR (keep h.h1 Zd) (by show f1≠g3;omega),zR (keep h.h2 Zd) (by show r2≠g3;omega),by rw[zD h3];rfl,o.setCell (by show f1<=g3;omega) _,?_,⟨h.ges.1,h.ges.2.1⟩⟩;have i:Rows w9 f1 (zd g (l++ [bt])::(l++ [bt]).flatMap BT.rows):=m.perm (List.Perm.cons _ (by rw[Nx];simpa using List.perm_append_comm));refine i.keep fun k hk=>Below.heap_setCell _ _ _ _ (fun e=>?_)
 obtain⟨x,c,u⟩:=Nj.1 hk;have e':k=g3:=e;subst e'
 have y:x.e≠39:=by
  rcases Jq.1 c with rfl|c
  ·show 84≠39;decide
  obtain⟨b,_,c⟩:=Qx.1 c;unfold BT.rows at c;rcases Jq.1 c with rfl|c
  ·show 3≠39;decide
  rcases Jq.1 c with rfl|c
  ·show 76≠39;decide
  rcases Jq.1 c with rfl|c
  ·show 79≠39;decide
  rcases Jl.1 c with c|c
  ·obtain⟨q,_,rfl⟩:=Nu.1 c
   show 3≠39;decide
  ·obtain⟨q,_,rfl⟩:=Nu.1 c
   show 3≠39;decide
 exact zC (i.own x c) h3 (.inr y) u
def mo (w:World)(a:Rg)(e:Ending)(w':World):Prop:=e=.returned (.agg #[Y (a.lo:Int),Y (a.hi:Int)])/\N w w'
theorem ajD (x y:Nat):∀(ts:Array TypeId) (t:TypeId) (W:World),(Builtin.max_ ts t #[Y x,Y y]).run Tryz.prog W=.ok (Y ((max x y:Nat):Int)) W:=fun ts t W=>by
 rw[run_max_int2,show(if(y:Int)>x then(y:Int) else x)=((max x y:Nat):Int) by split<;>omega]
theorem min16 (x y:Nat):∀(ts:Array TypeId) (t:TypeId) (W:World),(Builtin.min_ ts t #[Y x,Y y]).run Tryz.prog W=.ok (Y ((min x y:Nat):Int)) W:=fun ts t W=>by
 rw[run_min_int2,show(if(y:Int)<x then(y:Int) else x)=((min x y:Nat):Int) by split<;>omega]
theorem full_any (w:World):G 39 #[] w (mo w vu):=by
 go_enter Tryz.func39,Tryz.ntmps39;go_wp2;refine bodyPost_ret (v:=.agg #[Y 0,Y 65535]) ?_ rfl ?_
 ·rw[zM rfl];go_simp
 ·exact⟨rfl,Zx⟩
theorem em (w:World):G 39 #[] w (fun e w'=>e=.returned (.agg #[Y 0,Y 65535])/\N w w'):=full_any w
theorem ahB (w:World)(n:Nat):G 122 #[Y n] w (mo w (agu n)):=by
 go_enter Tryz.func122,Tryz.ntmps122;go_wp2;refine bodyPost_ret (v:=.agg #[Y n,Y n]) ?_ rfl ?_
 ·rw[zM rfl];go_simp
 ·exact⟨rfl,Zx⟩
theorem ae6 (w:World)(a:Rg):G 83 #[.agg #[Y (a.lo:Int),Y (a.hi:Int)]] w (fun e w'=>e=.returned (.bool (q8 a))/\N w w'):=by
 obtain⟨q,c⟩:∃q,q8 a=q:=⟨_,rfl⟩
 have hb:((a.lo:Int)==(a.hi:Int))=q:=by rw[<-c];unfold q8;rw[Bool.eq_iff_iff,beq_iff_eq,decide_eq_true_eq];omega
 rw[c];clear c;go_enter Tryz.func83,Tryz.ntmps83;go_wp2;go_ret;exact⟨rfl,Zx⟩
theorem hull_any (w:World)(a b:Rg):G 92 #[.agg #[Y (a.lo:Int),Y (a.hi:Int)],.agg #[Y (b.lo:Int),Y (b.hi:Int)]] w (mo w (aeR a b)):=by
 obtain⟨x,d⟩:∃x,min a.lo b.lo=x:=⟨_,rfl⟩
 obtain⟨y,c⟩:∃y,max a.hi b.hi=y:=⟨_,rfl⟩
 have h1:=min16 a.lo b.lo;have h2:=ajD a.hi b.hi;rw[d] at h1;rw[c] at h2;have hr:aeR a b=⟨x,y⟩:=by unfold aeR;rw[d,c]
 rw[hr];clear d c hr;go_enter Tryz.func92,Tryz.ntmps92;go_wp2;refine bodyPost_ret (v:=.agg #[Y x,Y y]) ?_ rfl ?_
 ·rw[zM rfl];go_simp
 ·exact⟨rfl,Zx⟩
theorem afv (w:World){lo hi:Int}(hl:-70000000<=lo/\lo<=70000000)(l:-70000000<=hi/\hi<=70000000):G 71 #[U lo,U hi] w (mo w (ma lo hi)):=by
 obtain⟨x,g⟩:∃x,(lo%65536).toNat=x:=⟨_,rfl⟩
 obtain⟨y,d⟩:∃y,(hi%65536).toNat=y:=⟨_,rfl⟩
 have e1:IntKind.u16.wrap lo=(x:Int):=by rw[xY];omega
 have e2:IntKind.u16.wrap hi=(y:Int):=by rw[xY];omega
 by_cases h:lo/65536=hi/65536
 ·have hr:ma lo hi=⟨x,y⟩:=by unfold ma;rw[if_pos h,g,d]
  have hb:(lo/65536 !=hi/65536)=false:=by simp[h]
  rw[hr];clear hr g d h;go_enter Tryz.func71,Tryz.ntmps71;go_wp2;refine bodyPost_ret (v:=.agg #[Y x,Y y]) ?_ rfl ⟨rfl,Zx⟩;rw[zM rfl];go_simp
 ·have hr:ma lo hi=⟨0,65535⟩:=by unfold ma;rw[if_neg h];rfl
  have hb:(lo/65536 !=hi/65536)=true:=by simp[h]
  rw[hr];clear hr g d h;go_enter Tryz.func71,Tryz.ntmps71;go_wp2_with (go_at_call 39;go_must (refine(em _).mono ?_;rintro e w1 ⟨rfl,c⟩;have hk:O w1 w.heap.size #[Y 0,Y 0] 45:=zH c (zI Zs) Zs;have f0:=zA (i:=0) hk rfl;have f1:=zA (i:=1) hk rfl;have g0:=zE (i:=0) hk;have g1:=zE (i:=1) hk;have j:=lt_of_block hk;have k:=Below.trans (show N w _ from Zv) (c.mono Zy);clear c hk))
  refine bodyPost_ret (v:=.agg #[Y 0,Y 65535]) ?_ rfl ⟨rfl,Zx⟩;rw[zM rfl];go_simp
theorem af3 (w:World){lo hi:Nat}(hl:lo<=hi)(j:hi<9223372036854775807):G 76 #[U lo,U hi] w (mo w (m6 lo hi)):=by
 by_cases h:hi<=65535
 ·have hr:m6 lo hi=⟨lo,hi⟩:=by unfold m6;rw[if_pos h]
  have e1:IntKind.u16.wrap (lo:Int)=(lo:Int):=by rw[xY];omega
  have e2:IntKind.u16.wrap (hi:Int)=(hi:Int):=by rw[xY];omega
  have hb:¬(65535:Int)<(hi:Int):=Zo;rw[hr];clear hr h;go_enter Tryz.func76,Tryz.ntmps76;go_wp2;refine bodyPost_ret (v:=.agg #[Y lo,Y hi]) ?_ rfl ⟨rfl,Zx⟩;rw[zM rfl];go_simp
 ·have hr:m6 lo hi=⟨0,65535⟩:=by unfold m6;rw[if_neg h];rfl
  have hb:(65535:Int)<(hi:Int):=Zo;rw[hr];clear hr h;go_enter Tryz.func76,Tryz.ntmps76;go_wp2_with (go_at_call 39;go_must (refine(em _).mono ?_;rintro e w1 ⟨rfl,c⟩;have hk:O w1 w.heap.size #[Y 0,Y 0] 45:=zH c (zI Zs) Zs;have f0:=zA (i:=0) hk rfl;have f1:=zA (i:=1) hk rfl;have g0:=zE (i:=0) hk;have g1:=zE (i:=1) hk;have d:=lt_of_block hk;have g:=Below.trans (show N w _ from Zv) (c.mono Zy);clear c hk))
  refine bodyPost_ret (v:=.agg #[Y 0,Y 65535]) ?_ rfl ⟨rfl,Zx⟩;rw[zM rfl];go_simp
theorem ahc (w:World){a b:Rg}(j:a.lo<65536/\a.hi<65536)(hb:b.lo<65536):G 84 #[.agg #[Y (a.lo:Int),Y (a.hi:Int)],.agg #[Y (b.lo:Int),Y (b.hi:Int)]] w (mo w (aw a b)):=by
 by_cases h:b.lo=b.hi
 ·obtain⟨x,d⟩:∃x,a.lo/2^(b.lo%16)=x:=⟨_,rfl⟩
  obtain⟨y,c⟩:∃y,a.hi/2^(b.lo%16)=y:=⟨_,rfl⟩
  have hr:aw a b=⟨x,y⟩:=by unfold aw q8;rw[if_pos (by simpa using h),d,c]
  have i:((b.lo:Int)==(b.hi:Int))=true:=by rw[beq_iff_eq];omega
  rw[hr];have g:=Ja (Jb d c);clear hr h d c;go_enter Tryz.func84,Tryz.ntmps84;go_wp2_with go_in;refine bodyPost_ret (v:=.agg #[Y ((a.lo:Int)/2^(b.lo%16)),Y ((a.hi:Int)/2^(b.lo%16))]) ?_ rfl ⟨by rw[<-g.out.1,<-g.out.2];simp,Zx⟩;rw[zM rfl];go_simp
 ·have hr:aw a b=⟨0,a.hi⟩:=by unfold aw q8;rw[if_neg (by simpa using h)]
  have i:((b.lo:Int)==(b.hi:Int))=false:=Ze;rw[hr];clear hr h;go_enter Tryz.func84,Tryz.ntmps84;go_wp2_with go_in;refine bodyPost_ret (v:=.agg #[Y 0,Y (a.hi:Int)]) ?_ rfl ⟨rfl,Zx⟩;rw[zM rfl];go_simp
theorem afU (w:World)(p q:Bool):G 87 #[.bool p,.bool q] w (mo w (if p=true then⟨1,1⟩ else if q=true then⟨0,0⟩ else⟨0,1⟩)):=by
 cases p
 ·cases q
  ·show G 87 #[.bool false,.bool false] w (mo w ⟨0,1⟩)
   go_enter Tryz.func87,Tryz.ntmps87;go_wp2;refine bodyPost_ret (v:=.agg #[Y 0,Y 1]) ?_ rfl ⟨rfl,Zx⟩;rw[zM rfl];go_simp
  ·show G 87 #[.bool false,.bool true] w (mo w ⟨0,0⟩)
   go_enter Tryz.func87,Tryz.ntmps87;go_wp2_with (go_at_call 122;go_must (refine(show G 122 #[Y 0] _ (fun e w'=>e=.returned (.agg #[Y 0,Y 0])/\Below _ _ w') from ahB _ 0).mono ?_;rintro e w1 ⟨rfl,c⟩;have hk:O w1 w.heap.size #[Y 0,Y 0] 45:=zH c (zI Zs) Zs;have f0:=zA (i:=0) hk rfl;have f1:=zA (i:=1) hk rfl;have g0:=zE (i:=0) hk;have g1:=zE (i:=1) hk;have d:=lt_of_block hk;have g:=Below.trans (show N w _ from Zv) (c.mono Zy);clear c hk))
   refine bodyPost_ret (v:=.agg #[Y 0,Y 0]) ?_ rfl ⟨rfl,Zx⟩;rw[zM rfl];go_simp
 ·show G 87 #[.bool true,.bool q] w (mo w ⟨1,1⟩)
  go_enter Tryz.func87,Tryz.ntmps87;go_wp2_with (go_at_call 122;go_must (refine(show G 122 #[Y 1] _ (fun e w'=>e=.returned (.agg #[Y 1,Y 1])/\Below _ _ w') from ahB _ 1).mono ?_;rintro e w1 ⟨rfl,c⟩;have hk:O w1 w.heap.size #[Y 0,Y 0] 45:=zH c (zI Zs) Zs;have f0:=zA (i:=0) hk rfl;have f1:=zA (i:=1) hk rfl;have g0:=zE (i:=0) hk;have g1:=zE (i:=1) hk;have d:=lt_of_block hk;have g:=Below.trans (show N w _ from Zv) (c.mono Zy);clear c hk))
  refine bodyPost_ret (v:=.agg #[Y 1,Y 1]) ?_ rfl ⟨rfl,Zx⟩;rw[zM rfl];go_simp
theorem ahW (w:World){x y:Nat}(hx:x<65536)(u:y<65536):G 80 #[Y x,Y y] w (fun e w'=>e=.returned (Y ((il (max x y):Nat):Int))/\w=w'):=by
 obtain⟨z,o⟩:∃z,max x y=z:=⟨_,rfl⟩
 have h1:=ajD x y;rw[o] at h1 ⊢;have l:z<65536:=Zo;have c:=aiM l;have i:=Ja (Jb (aiK z) (Jb c (afH z)));clear o hx u c;go_enter Tryz.func80,Tryz.ntmps80;go_wp2
 go_loop [5] (fun mv=>∃m k:Nat,mv=U m/\m+1=2^k/\m<=il z) (fun mv=>(65536-intOf mv).toNat)
 case atStart=>exact⟨0,0,rfl,rfl,Jt _⟩
 case round=>
  obtain⟨m,k,rfl,hk,hm⟩:=hrel;have d:=i.out.2.1;have HK:=Ja (Jb hk hm);have a2:m<65536:=Zo
  by_cases g:m<z
  ·have h:(m:Int)<(z:Int):=Zo
   have t:2*m+1<=il z:=by
    obtain⟨j,h3,h4,_⟩:=i.out.2.2;have h5:=i.out.1;have h6:k<j:=(Nat.pow_lt_pow_iff_right (a:=2) Zd).1 Zo;have h7:=Nat.pow_le_pow_right (show 0<2 by decide) (show k+1<=j by omega);rw[Nat.pow_succ] at h7;omega
   have HN:=Ja t;clear hk hm d t g;go_wp2
   go_round
   case rel=>exact⟨2*m+1,k+1,by go_num,by have:=HK.out.1;rw[Nat.pow_succ];omega,HN.out⟩
   case measure=>simp[intOf];omega
  ·have h:¬(m:Int)<(z:Int):=Zo
   have a1:il z=m:=by
    have:=mask_min z m k hk Zo;omega
   have a0:IntKind.u16.wrap (m:Int)=(m:Int):=by rw[xY];omega
   clear g hk hm d;go_wp2;go_ret;exact⟨rfl,rfl⟩
theorem neg_any (w:World){a b:Rg}(d:a.ok)(hb:b.ok):G 70 #[.agg #[Y (a.lo:Int),Y (a.hi:Int)],.agg #[Y (b.lo:Int),Y (b.hi:Int)]] w (mo w (ma (-(a.hi:Int)) (-(a.lo:Int)))):=by
 have o:=d.1;have m:=d.2;have c:=hb.1;have l:=hb.2;obtain⟨⟨x,y⟩,hr⟩:∃r,ma (-(a.hi:Int)) (-(a.lo:Int))=r:=⟨_,rfl⟩
 rw[hr]
 have g:∀W,G 71 #[U (-(a.hi:Int)),U (-(a.lo:Int))] W (fun e w'=>e=.returned (.agg #[Y x,Y y])/\N W w'):=fun W=>by
  have:=afv W (lo:=-(a.hi:Int)) (hi:=-(a.lo:Int)) Zo Zo;rw[hr] at this;exact this
 have h:=Ja g;clear g hr d hb;go_enter Tryz.func70,Tryz.ntmps70;go_wp2_with (go_at_call 71;go_must (refine(h.out _).mono ?_;rintro e w1 ⟨rfl,c⟩;have hk:O w1 (w.heap.size+1+1) #[Y 0,Y 0] 45:=zH c (zI Zs) Zs;have f0:=zA (i:=0) hk rfl;have f1:=zA (i:=1) hk rfl;have g0:=zE (i:=0) hk;have g1:=zE (i:=1) hk;have j:=lt_of_block hk;have k:=Below.trans (show N w _ from Zv) (c.mono Zy);clear c hk))
 refine bodyPost_ret (v:=.agg #[Y x,Y y]) ?_ rfl ⟨rfl,Zx⟩;rw[zM rfl];go_simp
theorem add_any (w:World){a b:Rg}(d:a.ok)(hb:b.ok):G 73 #[.agg #[Y (a.lo:Int),Y (a.hi:Int)],.agg #[Y (b.lo:Int),Y (b.hi:Int)]] w (mo w (ma ((a.lo:Int)+b.lo) ((a.hi:Int)+b.hi))):=by
 have o:=d.1;have m:=d.2;have c:=hb.1;have l:=hb.2;obtain⟨⟨x,y⟩,hr⟩:∃r,ma ((a.lo:Int)+b.lo) ((a.hi:Int)+b.hi)=r:=⟨_,rfl⟩
 rw[hr]
 have g:∀W,G 71 #[U ((a.lo:Int)+(b.lo:Int)),U ((a.hi:Int)+(b.hi:Int))] W (fun e w'=>e=.returned (.agg #[Y x,Y y])/\N W w'):=fun W=>by
  have:=afv W (lo:=(a.lo:Int)+b.lo) (hi:=(a.hi:Int)+b.hi) Zo Zo;rw[hr] at this;exact this
 have h:=Ja g;clear g hr d hb;go_enter Tryz.func73,Tryz.ntmps73;go_wp2_with (go_at_call 71;go_must (refine(h.out _).mono ?_;rintro e w1 ⟨rfl,c⟩;have hk:O w1 (w.heap.size+1+1) #[Y 0,Y 0] 45:=zH c (zI Zs) Zs;have f0:=zA (i:=0) hk rfl;have f1:=zA (i:=1) hk rfl;have g0:=zE (i:=0) hk;have g1:=zE (i:=1) hk;have j:=lt_of_block hk;have k:=Below.trans (show N w _ from Zv) (c.mono Zy);clear c hk))
 refine bodyPost_ret (v:=.agg #[Y x,Y y]) ?_ rfl ⟨rfl,Zx⟩;rw[zM rfl];go_simp
theorem sub_any (w:World){a b:Rg}(d:a.ok)(hb:b.ok):G 74 #[.agg #[Y (a.lo:Int),Y (a.hi:Int)],.agg #[Y (b.lo:Int),Y (b.hi:Int)]] w (mo w (ma ((a.lo:Int)-b.hi) ((a.hi:Int)-b.lo))):=by
 have o:=d.1;have m:=d.2;have c:=hb.1;have l:=hb.2;obtain⟨⟨x,y⟩,hr⟩:∃r,ma ((a.lo:Int)-b.hi) ((a.hi:Int)-b.lo)=r:=⟨_,rfl⟩
 rw[hr]
 have g:∀W,G 71 #[U ((a.lo:Int)-(b.hi:Int)),U ((a.hi:Int)-(b.lo:Int))] W (fun e w'=>e=.returned (.agg #[Y x,Y y])/\N W w'):=fun W=>by
  have:=afv W (lo:=(a.lo:Int)-b.hi) (hi:=(a.hi:Int)-b.lo) Zo Zo;rw[hr] at this;exact this
 have h:=Ja g;clear g hr d hb;go_enter Tryz.func74,Tryz.ntmps74;go_wp2_with (go_at_call 71;go_must (refine(h.out _).mono ?_;rintro e w1 ⟨rfl,c⟩;have hk:O w1 (w.heap.size+1+1) #[Y 0,Y 0] 45:=zH c (zI Zs) Zs;have f0:=zA (i:=0) hk rfl;have f1:=zA (i:=1) hk rfl;have g0:=zE (i:=0) hk;have g1:=zE (i:=1) hk;have j:=lt_of_block hk;have k:=Below.trans (show N w _ from Zv) (c.mono Zy);clear c hk))
 refine bodyPost_ret (v:=.agg #[Y x,Y y]) ?_ rfl ⟨rfl,Zx⟩;rw[zM rfl];go_simp
theorem mul_any (w:World){a b:Rg}(h:a.ok)(hb:b.ok):G 75 #[.agg #[Y (a.lo:Int),Y (a.hi:Int)],.agg #[Y (b.lo:Int),Y (b.hi:Int)]] w (mo w (m6 (a.lo*b.lo) (a.hi*b.hi))):=by
 have k:=h.1;have g:=h.2;have c:=hb.1;have d:=hb.2;obtain⟨⟨x,y⟩,hr⟩:∃r,m6 (a.lo*b.lo) (a.hi*b.hi)=r:=⟨_,rfl⟩
 rw[hr];have u:a.lo*b.lo<=65535*65535:=Nat.mul_le_mul Zo Zo;have t:a.hi*b.hi<=65535*65535:=Nat.mul_le_mul g d;have o:IntKind.i64.wrap ((a.lo:Int)*(b.lo:Int))=(a.lo:Int)*(b.lo:Int):=by rw[<-Int.natCast_mul];exact Om _ ⟨by omega,by omega⟩
 have m:IntKind.i64.wrap ((a.hi:Int)*(b.hi:Int))=(a.hi:Int)*(b.hi:Int):=by rw[<-Int.natCast_mul];exact Om _ ⟨by omega,by omega⟩
 have j:∀W,G 76 #[U ((a.lo:Int)*(b.lo:Int)),U ((a.hi:Int)*(b.hi:Int))] W (fun e w'=>e=.returned (.agg #[Y x,Y y])/\N W w'):=fun W=>by
  have:=af3 W (lo:=a.lo*b.lo) (hi:=a.hi*b.hi) (Nat.mul_le_mul k c) (by have:=Nat.mul_le_mul g d;omega);rw[hr,Int.natCast_mul,Int.natCast_mul] at this;exact this
 have l:=Ja j;clear j hr h hb;go_enter Tryz.func75,Tryz.ntmps75;go_wp2_with (go_at_call 76;go_must (refine(l.out _).mono ?_;rintro e w1 ⟨rfl,c⟩;have hk:O w1 (w.heap.size+1+1) #[Y 0,Y 0] 45:=zH c (zI Zs) Zs;have f0:=zA (i:=0) hk rfl;have f1:=zA (i:=1) hk rfl;have g0:=zE (i:=0) hk;have g1:=zE (i:=1) hk;have a0:=lt_of_block hk;have a1:=Below.trans (show N w _ from Zv) (c.mono Zy);clear c hk))
 refine bodyPost_ret (v:=.agg #[Y x,Y y]) ?_ rfl ⟨rfl,Zx⟩;rw[zM rfl];go_simp
theorem and_any (w:World){a b:Rg}(c:a.ok)(hb:b.ok):G 78 #[.agg #[Y (a.lo:Int),Y (a.hi:Int)],.agg #[Y (b.lo:Int),Y (b.hi:Int)]] w (mo w (⟨0,min a.hi b.hi⟩)):=by
 have i:=c.1;have h:=c.2;have g:=hb.1;have d:=hb.2;have h1:=min16 a.hi b.hi;obtain⟨m,hm⟩:∃m,min a.hi b.hi=m:=⟨_,rfl⟩
 rw[hm] at h1 ⊢;clear hm c hb;go_enter Tryz.func78,Tryz.ntmps78;go_wp2;refine bodyPost_ret (v:=.agg #[Y 0,Y m]) ?_ rfl ⟨rfl,Zx⟩;rw[zM rfl];go_simp
theorem lts_any (w:World){a b:Rg}(c:a.ok)(hb:b.ok):G 89 #[.agg #[Y (a.lo:Int),Y (a.hi:Int)],.agg #[Y (b.lo:Int),Y (b.hi:Int)]] w (mo w (⟨0,1⟩)):=by
 have i:=c.1;have h:=c.2;have g:=hb.1;have d:=hb.2;go_enter Tryz.func89,Tryz.ntmps89;go_wp2;refine bodyPost_ret (v:=.agg #[Y 0,Y 1]) ?_ rfl ⟨rfl,Zx⟩;rw[zM rfl];go_simp
theorem ahJ (w:World){a b:Rg}(c:a.ok)(hb:b.ok):G 90 #[.agg #[Y (a.lo:Int),Y (a.hi:Int)],.agg #[Y (b.lo:Int),Y (b.hi:Int)]] w (mo w (⟨0,255⟩)):=by
 have i:=c.1;have h:=c.2;have g:=hb.1;have d:=hb.2;go_enter Tryz.func90,Tryz.ntmps90;go_wp2;refine bodyPost_ret (v:=.agg #[Y 0,Y 255]) ?_ rfl ⟨rfl,Zx⟩;rw[zM rfl];go_simp
theorem air (w:World){a b:Rg}(c:a.ok)(hb:b.ok):G 91 #[.agg #[Y (a.lo:Int),Y (a.hi:Int)],.agg #[Y (b.lo:Int),Y (b.hi:Int)]] w (mo w (⟨0,255⟩)):=by
 have i:=c.1;have h:=c.2;have g:=hb.1;have d:=hb.2;go_enter Tryz.func91,Tryz.ntmps91;go_wp2;refine bodyPost_ret (v:=.agg #[Y 0,Y 255]) ?_ rfl ⟨rfl,Zx⟩;rw[zM rfl];go_simp
theorem not_any (w:World){a b:Rg}(g:a.ok)(hb:b.ok):G 72 #[.agg #[Y (a.lo:Int),Y (a.hi:Int)],.agg #[Y (b.lo:Int),Y (b.hi:Int)]] w (mo w ⟨65535-a.hi,65535-a.lo⟩):=by
 have j:=g.1;have i:=g.2;have e1:=not16 a.hi Zo;have e2:=not16 a.lo Zo;obtain⟨x,d⟩:∃x,65535-a.hi=x:=⟨_,rfl⟩
 obtain⟨y,c⟩:∃y,65535-a.lo=y:=⟨_,rfl⟩
 rw[d,c];rw[d] at e1;rw[c] at e2;have q:=Ja (Jb e1 e2);clear g hb d c e1 e2;go_enter Tryz.func72,Tryz.ntmps72;go_wp2;refine bodyPost_ret (v:=.agg #[Y (bits .xor .u16 IntKind.u16.max (a.hi:Int)),Y (bits .xor .u16 IntKind.u16.max (a.lo:Int))]) ?_ rfl ⟨by rw[q.out.1,q.out.2],Zx⟩;rw[zM rfl];go_simp
theorem or_any (w:World){a b:Rg}(d:a.ok)(hb:b.ok):G 79 #[.agg #[Y (a.lo:Int),Y (a.hi:Int)],.agg #[Y (b.lo:Int),Y (b.hi:Int)]] w (mo w ⟨max a.lo b.lo,il (max a.hi b.hi)⟩):=by
 have a0:=d.1;have u:=d.2;have t:=hb.1;have o:=hb.2;have h1:=ajD a.lo b.lo;have j:=Ja (fun W=>ahW W (x:=a.hi) (y:=b.hi) Zo Zo);obtain⟨x,h⟩:∃x,max a.lo b.lo=x:=⟨_,rfl⟩
 obtain⟨y,g⟩:∃y,il (max a.hi b.hi)=y:=⟨_,rfl⟩
 rw[g] at j ⊢;rw[h] at h1 ⊢;clear h g d hb;go_enter Tryz.func79,Tryz.ntmps79;go_upto_region 1 with fail;have c:=Ja (show N w (((w.alloc (I #[Y (a.lo:Int),Y (a.hi:Int)] 45)).alloc (I #[Y (b.lo:Int),Y (b.hi:Int)] 45)).alloc (I #[Y 0,Y 0] 45))/\O (((w.alloc (I #[Y (a.lo:Int),Y (a.hi:Int)] 45)).alloc (I #[Y (b.lo:Int),Y (b.hi:Int)] 45)).alloc (I #[Y 0,Y 0] 45)) w.heap.size #[Y (a.lo:Int),Y (a.hi:Int)] 45/\O (((w.alloc (I #[Y (a.lo:Int),Y (a.hi:Int)] 45)).alloc (I #[Y (b.lo:Int),Y (b.hi:Int)] 45)).alloc (I #[Y 0,Y 0] 45)) (w.heap.size+1) #[Y (b.lo:Int),Y (b.hi:Int)] 45/\O (((w.alloc (I #[Y (a.lo:Int),Y (a.hi:Int)] 45)).alloc (I #[Y (b.lo:Int),Y (b.hi:Int)] 45)).alloc (I #[Y 0,Y 0] 45)) (w.heap.size+1+1) #[Y 0,Y 0] 45 from⟨Zx,zB (zB (zI rfl)),zB (zI Zs),zI Zs⟩);generalize ((w.alloc (I #[Y (a.lo:Int),Y (a.hi:Int)] 45)).alloc (I #[Y (b.lo:Int),Y (b.hi:Int)] 45)).alloc (I #[Y 0,Y 0] 45)=X at *;have k:=Ja (show ∀W,N X W->A W w.heap.size 0 (Y (a.lo:Int))/\A W w.heap.size 1 (Y (a.hi:Int))/\A W (w.heap.size+1) 0 (Y (b.lo:Int))/\A W (w.heap.size+1) 1 (Y (b.hi:Int)) from fun W hb=>⟨zA (zH hb c.out.2.1 (lt_of_block c.out.2.1)) rfl,zA (zH hb c.out.2.1 (lt_of_block c.out.2.1)) rfl,zA (zH hb c.out.2.2.1 (lt_of_block c.out.2.2.1)) rfl,zA (zH hb c.out.2.2.1 (lt_of_block c.out.2.2.1)) rfl⟩);obtain⟨c0,c1,c2,c3⟩:=k.out X (Below.refl _ _);have hk:=c.out.2.2.2;have f0:=zA (i:=0) hk rfl;have f1:=zA (i:=1) hk rfl;have g0:∀i,D X (w.heap.size+1+1) i:=fun i=>zE (i:=i) hk;have m:=lt_of_block hk;have l:=Ja c.out.1;clear hk
 go_region_held3 (fun w'=>A w' w.heap.size 0 (Y (a.lo:Int))/\A w' w.heap.size 1 (Y (a.hi:Int))/\A w' (w.heap.size+1) 0 (Y (b.lo:Int))/\A w' (w.heap.size+1) 1 (Y (b.hi:Int))) ((first|exact⟨c0,c1,c2,c3⟩|(go_simp;done)|(refine⟨?_,?_,?_,?_⟩<;>go_simp)))
  ((go_at_call 80;refine(j.out _).mono ?_;rintro e w1 ⟨rfl,rfl⟩))
 all_goals go_wp2_with fail
 all_goals (refine bodyPost_ret (v:=.agg #[Y x,Y y]) ?_ rfl ⟨rfl,by repeat' (first|exact l.out|(refine Below.drew ?_)|(refine Below.setCell ?_ (by first|(simp;done)|omega|(simp;omega)) _))⟩;rw[zM rfl];go_simp)
theorem xor_any (w:World){a b:Rg}(c:a.ok)(hb:b.ok):G 81 #[.agg #[Y (a.lo:Int),Y (a.hi:Int)],.agg #[Y (b.lo:Int),Y (b.hi:Int)]] w (mo w (⟨0,il (max a.hi b.hi)⟩)):=by
 have k:=c.1;have j:=c.2;have i:=hb.1;have h:=hb.2;have g:=Ja (fun W=>ahW W (x:=a.hi) (y:=b.hi) Zo Zo);obtain⟨y,d⟩:∃y,il (max a.hi b.hi)=y:=⟨_,rfl⟩
 rw[d] at g ⊢;clear d c hb;go_enter Tryz.func81,Tryz.ntmps81;go_wp2_with (go_at_call 80;go_must (refine(g.out _).mono ?_;rintro e w1 ⟨rfl,rfl⟩))
 refine bodyPost_ret (v:=.agg #[Y 0,Y y]) ?_ rfl ⟨rfl,Zx⟩;rw[zM rfl];go_simp
theorem aim (w:World){a b:Rg}(g:a.ok)(hb:b.ok):G 77 #[.agg #[Y (a.lo:Int),Y (a.hi:Int)],.agg #[Y (b.lo:Int),Y (b.hi:Int)]] w (mo w (aeG a b)):=by
 have b1:=g.1;have b0:=g.2;have d:=hb.1;have a8:=hb.2
 by_cases h:b.hi=0
 ·have hr:aeG a b=vu:=by unfold aeG;rw[if_pos h]
  rw[hr];have k:((b.hi:Int)==0)=true:=by rw[beq_iff_eq];omega
  clear hr h g hb;go_enter Tryz.func77,Tryz.ntmps77;go_wp2_with (go_at_call 39;go_must (refine(em _).mono ?_;rintro e w1 ⟨rfl,d⟩;have hk:O w1 (w.heap.size+1+1) #[Y 0,Y 0] 45:=zH d (zI Zs) Zs;have f0:=zA (i:=0) hk rfl;have f1:=zA (i:=1) hk rfl;have g0:=zE (i:=0) hk;have g1:=zE (i:=1) hk;have a4:=lt_of_block hk;have a5:=Below.trans (show N w _ from Zv) (d.mono Zy);clear d hk))
  refine bodyPost_ret (v:=.agg #[Y 0,Y 65535]) ?_ rfl ⟨rfl,Zx⟩;rw[zM rfl];go_simp
 ·have k:((b.hi:Int)==0)=false:=Ze;obtain⟨m,hm⟩:∃m,max b.lo 1=m:=⟨_,rfl⟩
  have h1:=ajD b.lo 1;rw[hm] at h1;have a2:((m:Int)==0)=false:=Ze;have a1:0<(m:Int):=Zo;have a6:0<(b.hi:Int):=Zo;have a0:¬b.hi=0:=Zo;have y:¬m=0:=Zo;have x:¬(b.hi:Int)=0:=Zo;have u:¬(m:Int)=0:=Zo;have hr:aeG a b=⟨a.lo/b.hi,a.hi/m⟩:=by unfold aeG;rw[if_neg h,hm]
  rw[hr];have b2:∀(ts:Array TypeId) (t:TypeId) (W:World),(Builtin.max_ ts t #[Y (b.lo:Int),Y 1]).run Tryz.prog W=.ok (Y m) W:=h1;have e1:=ar8 a.lo b.hi Zo;have e2:=ar8 a.hi m Zo;have j:=Ja (Jb e1 e2);clear hr h g hb hm h1 e1 e2;go_enter Tryz.func77,Tryz.ntmps77;go_upto_region 1 with fail;have c:=Ja (show N w (((w.alloc (I #[Y (a.lo:Int),Y (a.hi:Int)] 45)).alloc (I #[Y (b.lo:Int),Y (b.hi:Int)] 45)).alloc (I #[Y 0,Y 0] 45))/\O (((w.alloc (I #[Y (a.lo:Int),Y (a.hi:Int)] 45)).alloc (I #[Y (b.lo:Int),Y (b.hi:Int)] 45)).alloc (I #[Y 0,Y 0] 45)) w.heap.size #[Y (a.lo:Int),Y (a.hi:Int)] 45/\O (((w.alloc (I #[Y (a.lo:Int),Y (a.hi:Int)] 45)).alloc (I #[Y (b.lo:Int),Y (b.hi:Int)] 45)).alloc (I #[Y 0,Y 0] 45)) (w.heap.size+1) #[Y (b.lo:Int),Y (b.hi:Int)] 45/\O (((w.alloc (I #[Y (a.lo:Int),Y (a.hi:Int)] 45)).alloc (I #[Y (b.lo:Int),Y (b.hi:Int)] 45)).alloc (I #[Y 0,Y 0] 45)) (w.heap.size+1+1) #[Y 0,Y 0] 45 from⟨Zx,zB (zB (zI rfl)),zB (zI Zs),zI Zs⟩);generalize ((w.alloc (I #[Y (a.lo:Int),Y (a.hi:Int)] 45)).alloc (I #[Y (b.lo:Int),Y (b.hi:Int)] 45)).alloc (I #[Y 0,Y 0] 45)=X at *;have l:=Ja (show ∀W,N X W->A W w.heap.size 0 (Y (a.lo:Int))/\A W w.heap.size 1 (Y (a.hi:Int))/\A W (w.heap.size+1) 0 (Y (b.lo:Int))/\A W (w.heap.size+1) 1 (Y (b.hi:Int)) from fun W hb=>⟨zA (zH hb c.out.2.1 (lt_of_block c.out.2.1)) rfl,zA (zH hb c.out.2.1 (lt_of_block c.out.2.1)) rfl,zA (zH hb c.out.2.2.1 (lt_of_block c.out.2.2.1)) rfl,zA (zH hb c.out.2.2.1 (lt_of_block c.out.2.2.1)) rfl⟩);obtain⟨c0,c1,c2,c3⟩:=l.out X (Below.refl _ _);have hk:=c.out.2.2.2;have f0:=zA (i:=0) hk rfl;have f1:=zA (i:=1) hk rfl;have g0:∀i,D X (w.heap.size+1+1) i:=fun i=>zE (i:=i) hk;have a3:=lt_of_block hk;have o:=Ja c.out.1;clear hk
  go_upto_region 3 with fail
  go_region_held3 (fun w'=>A w' w.heap.size 0 (Y (a.lo:Int))/\A w' w.heap.size 1 (Y (a.hi:Int))/\A w' (w.heap.size+1) 0 (Y (b.lo:Int))/\A w' (w.heap.size+1) 1 (Y (b.hi:Int))) ((first|exact⟨c0,c1,c2,c3⟩|(go_simp;done)|(refine⟨?_,?_,?_,?_⟩<;>go_simp))) (fail)
  all_goals go_wp2_with fail
  all_goals (refine bodyPost_ret (v:=.agg #[Y (IntKind.u16.wrap ((a.lo:Int)/(b.hi:Int))),Y (IntKind.u16.wrap ((a.hi:Int)/(m:Int)))]) ?_ rfl ⟨by rw[j.out.1,j.out.2];rfl,by repeat' (first|exact o.out|(refine Below.drew ?_)|(refine Below.setCell ?_ (by first|(simp;done)|omega|(simp;omega)) _))⟩;rw[zM rfl];go_simp)
theorem sar_any (w:World){a b:Rg}(d:a.ok)(hb:b.ok):G 85 #[.agg #[Y (a.lo:Int),Y (a.hi:Int)],.agg #[Y (b.lo:Int),Y (b.hi:Int)]] w (mo w (if 32768<=a.hi then vu else aw a b)):=by
 have u:=d.1;have t:=d.2;have c:=hb.1;have o:=hb.2
 by_cases g:32768<=a.hi
 ·rw[if_pos g];have l:(32768:Int)<=(a.hi:Int):=Zo;clear d hb;go_enter Tryz.func85,Tryz.ntmps85;go_wp2_with (go_at_call 39;go_must (refine(em _).mono ?_;rintro e w1 ⟨rfl,c⟩;have hk:O w1 (w.heap.size+1+1) #[Y 0,Y 0] 45:=zH c (zI Zs) Zs;have f0:=zA (i:=0) hk rfl;have f1:=zA (i:=1) hk rfl;have g0:=zE (i:=0) hk;have g1:=zE (i:=1) hk;have h:=lt_of_block hk;have k:=Below.trans (show N w _ from Zv) (c.mono Zy);clear c hk))
  refine bodyPost_ret (v:=.agg #[Y 0,Y 65535]) ?_ rfl ⟨rfl,Zx⟩;rw[zM rfl];go_simp
 ·rw[if_neg g];have l:¬(32768:Int)<=(a.hi:Int):=Zo;obtain⟨⟨x,y⟩,hr⟩:∃r,aw a b=r:=⟨_,rfl⟩
  have j:∀W,G 84 #[.agg #[Y (a.lo:Int),Y (a.hi:Int)],.agg #[Y (b.lo:Int),Y (b.hi:Int)]] W (fun e w'=>e=.returned (.agg #[Y x,Y y])/\N W w'):=fun W=>by
   have:=ahc W (a:=a) (b:=b) Zo Zo;rw[hr] at this;exact this
  have m:=Ja j;rw[hr];clear d hb hr j g;go_enter Tryz.func85,Tryz.ntmps85;go_wp2_with (go_at_call 84;go_must (refine(m.out _).mono ?_;rintro e w1 ⟨rfl,c⟩;have hk:O w1 (w.heap.size+1+1) #[Y 0,Y 0] 45:=zH c (zI Zs) Zs;have f0:=zA (i:=0) hk rfl;have f1:=zA (i:=1) hk rfl;have g0:=zE (i:=0) hk;have g1:=zE (i:=1) hk;have h:=lt_of_block hk;have k:=Below.trans (show N w _ from Zv) (c.mono Zy);clear c hk))
  refine bodyPost_ret (v:=.agg #[Y x,Y y]) ?_ rfl ⟨rfl,Zx⟩;rw[zM rfl];go_simp
theorem eq_any (w:World){a b:Rg}(h:a.ok)(hb:b.ok):G 86 #[.agg #[Y (a.lo:Int),Y (a.hi:Int)],.agg #[Y (b.lo:Int),Y (b.hi:Int)]] w (mo w (if a.hi<b.lo∨b.hi<a.lo then⟨0,0⟩ else⟨0,1⟩)):=by
 have a0:=h.1;have u:=h.2;have c:=hb.1;have t:=hb.2;obtain⟨q,g⟩:∃q,decide (a.hi<b.lo∨b.hi<a.lo)=q:=⟨_,rfl⟩
 have hr:(if a.hi<b.lo∨b.hi<a.lo then(⟨0,0⟩:Rg) else⟨0,1⟩)=if false=true then⟨1,1⟩ else if q=true then⟨0,0⟩ else⟨0,1⟩:=by rw[<-g];simp
 rw[hr];obtain⟨⟨x,y⟩,d⟩:∃r:Rg,(if false=true then(⟨1,1⟩:Rg) else if q=true then⟨0,0⟩ else⟨0,1⟩)=r:=⟨_,rfl⟩
 have l:∀W,G 87 #[.bool false,.bool q] W (fun e w'=>e=.returned (.agg #[Y x,Y y])/\N W w'):=fun W=>by
  have:=afU W false q;rw[d] at this;exact this
 have o:=Ja l;rw[d];clear h hb hr l d
 by_cases h1:a.hi<b.lo
 ·obtain rfl:q=true:=by rw[<-g];simp[h1]
  have d1:decide (a.hi<b.lo)=true:=decide_eq_true h1;clear g h1;go_enter Tryz.func86,Tryz.ntmps86;go_wp2_with (go_at_call 87;go_must (refine(o.out _).mono ?_;rintro e w1 ⟨rfl,c⟩;have hk:O w1 (w.heap.size+1+1) #[Y 0,Y 0] 45:=zH c (zI Zs) Zs;have f0:=zA (i:=0) hk rfl;have f1:=zA (i:=1) hk rfl;have g0:=zE (i:=0) hk;have g1:=zE (i:=1) hk;have k:=lt_of_block hk;have m:=Below.trans (show N w _ from Zv) (c.mono Zy);clear c hk))
  refine bodyPost_ret (v:=.agg #[Y x,Y y]) ?_ rfl ⟨rfl,Zx⟩;rw[zM rfl];go_simp
 ·have d1:decide (a.hi<b.lo)=false:=decide_eq_false h1;obtain⟨q2,j⟩:∃q2,decide (b.hi<a.lo)=q2:=⟨_,rfl⟩
  obtain rfl:q=q2:=by rw[<-g,<-j];simp[h1]
  clear g h1;go_enter Tryz.func86,Tryz.ntmps86;go_wp2_with (go_at_call 87;go_must (refine(o.out _).mono ?_;rintro e w1 ⟨rfl,c⟩;have hk:O w1 (w.heap.size+1+1) #[Y 0,Y 0] 45:=zH c (zI Zs) Zs;have f0:=zA (i:=0) hk rfl;have f1:=zA (i:=1) hk rfl;have g0:=zE (i:=0) hk;have g1:=zE (i:=1) hk;have k:=lt_of_block hk;have m:=Below.trans (show N w _ from Zv) (c.mono Zy);clear c hk))
  refine bodyPost_ret (v:=.agg #[Y x,Y y]) ?_ rfl ⟨rfl,Zx⟩;rw[zM rfl];go_simp
theorem ltu_any (w:World){a b:Rg}(g:a.ok)(hb:b.ok):G 88 #[.agg #[Y (a.lo:Int),Y (a.hi:Int)],.agg #[Y (b.lo:Int),Y (b.hi:Int)]] w (mo w (if a.hi<b.lo then⟨1,1⟩ else if b.hi<=a.lo then⟨0,0⟩ else⟨0,1⟩)):=by
 have u:=g.1;have t:=g.2;have c:=hb.1;have o:=hb.2;obtain⟨q,j⟩:∃q,decide (a.hi<b.lo)=q:=⟨_,rfl⟩
 obtain⟨p,hp⟩:∃p,decide (b.hi<=a.lo)=p:=⟨_,rfl⟩
 have hr:(if a.hi<b.lo then(⟨1,1⟩:Rg) else if b.hi<=a.lo then⟨0,0⟩ else⟨0,1⟩)=if q=true then⟨1,1⟩ else if p=true then⟨0,0⟩ else⟨0,1⟩:=by rw[<-j,<-hp];simp
 rw[hr];obtain⟨⟨x,y⟩,d⟩:∃r:Rg,(if q=true then(⟨1,1⟩:Rg) else if p=true then⟨0,0⟩ else⟨0,1⟩)=r:=⟨_,rfl⟩
 have h:∀W,G 87 #[.bool q,.bool p] W (fun e w'=>e=.returned (.agg #[Y x,Y y])/\N W w'):=fun W=>by
  have:=afU W q p;rw[d] at this;exact this
 have k:=Ja h;rw[d];clear g hb hr h d;go_enter Tryz.func88,Tryz.ntmps88;go_wp2_with (go_at_call 87;go_must (refine(k.out _).mono ?_;rintro e w1 ⟨rfl,c⟩;have hk:O w1 (w.heap.size+1+1) #[Y 0,Y 0] 45:=zH c (zI Zs) Zs;have f0:=zA (i:=0) hk rfl;have f1:=zA (i:=1) hk rfl;have g0:=zE (i:=0) hk;have g1:=zE (i:=1) hk;have l:=lt_of_block hk;have m:=Below.trans (show N w _ from Zv) (c.mono Zy);clear c hk))
 refine bodyPost_ret (v:=.agg #[Y x,Y y]) ?_ rfl ⟨rfl,Zx⟩;rw[zM rfl];go_simp
theorem shl_any (w:World){a b:Rg}(l:a.ok)(hb:b.ok):G 82 #[.agg #[Y (a.lo:Int),Y (a.hi:Int)],.agg #[Y (b.lo:Int),Y (b.hi:Int)]] w (mo w (if q8 b=true then m6 (a.lo*2^(b.lo%16)) (a.hi*2^(b.lo%16)) else vu)):=by
 have a4:=l.1;have a3:=l.2;have g:=hb.1;have d:=hb.2
 by_cases j:b.lo=b.hi
 ·rw[if_pos (by unfold q8;simpa using j)];have hq:((b.lo:Int)==(b.hi:Int))=true:=by rw[beq_iff_eq];omega
  have hp:2^(b.lo%16)<=32768:=Nat.pow_le_pow_right (show 0<2 by decide) (show b.lo%16<=15 by omega);have a0:a.lo*2^(b.lo%16)<=65535*32768:=Nat.mul_le_mul Zo hp;have t:a.hi*2^(b.lo%16)<=65535*32768:=Nat.mul_le_mul a3 hp;obtain⟨u,h⟩:∃u,a.lo*2^(b.lo%16)=u:=⟨_,rfl⟩
  obtain⟨v,hv⟩:∃v,a.hi*2^(b.lo%16)=v:=⟨_,rfl⟩
  have o:u<=v:=by rw[<-h,<-hv];exact Qw _ a4
  have m:v<=2147450880:=by rw[<-hv];exact t
  have a8:u<=2147450880:=Jn o m;clear a0 t hp;obtain⟨⟨x,y⟩,hr⟩:∃r,m6 u v=r:=⟨_,rfl⟩
  have a6:wrap64 ((a.lo:Int)*2^(b.lo%16))=(u:Int):=by rw[show(a.lo:Int)*2^(b.lo%16)=((a.lo*2^(b.lo%16):Nat):Int) by simp,h];clear h hv;exact IntWalk.wrap64_in _ ⟨by omega,by omega⟩
  have a5:wrap64 ((a.hi:Int)*2^(b.lo%16))=(v:Int):=by rw[show(a.hi:Int)*2^(b.lo%16)=((a.hi*2^(b.lo%16):Nat):Int) by simp,hv];clear h hv;exact IntWalk.wrap64_in _ ⟨by omega,by omega⟩
  have hc:∀W,G 76 #[U u,U v] W (fun e w'=>e=.returned (.agg #[Y x,Y y])/\N W w'):=fun W=>by
   have:=af3 W o (Nat.lt_of_le_of_lt m Zd);rw[hr] at this;exact this
  have HC:=Ja hc;rw[h,hv,hr]
  have k:=Ja (show ∀W,G 83 #[.agg #[Y (b.lo:Int),Y (b.hi:Int)]] W (fun e w'=>e=.returned (.bool true)/\N W w') from fun W=>by
   have:=ae6 W b;rw[show q8 b=true from decide_eq_true j] at this
   exact this)
  clear l hb hr hc j h hv hq;go_enter Tryz.func82,Tryz.ntmps82;go_upto_region 3 with(go_at_call 83;go_must (refine(k.out _).mono ?_;rintro e w2 ⟨rfl,d⟩;have c:=Ja (show N w w2/\O w2 w.heap.size #[Y (a.lo:Int),Y (a.hi:Int)] 45/\O w2 (w.heap.size+1) #[Y (b.lo:Int),Y (b.hi:Int)] 45/\O w2 (w.heap.size+1+1) #[Y 0,Y 0] 45 from⟨Below.trans (show N w _ from Zv) (d.mono Zy),zH d (zB (zB (zI rfl))) Zy,zH d (zB (zI Zs)) Zy,zH d (zI Zs) Zs⟩);clear d))
  have c0:=zA (i:=0) c.out.2.1 rfl;have c1:=zA (i:=1) c.out.2.1 rfl;have c2:=zA (i:=0) c.out.2.2.1 rfl;have c3:=zA (i:=1) c.out.2.2.1 rfl;have l1:=lt_of_block c.out.2.1;have l2:=lt_of_block c.out.2.2.1;have l3:=lt_of_block c.out.2.2.2;go_wp2_with (go_at_call 76;go_must (refine(HC.out _).mono ?_;rintro e w1 ⟨rfl,g⟩;have hk:=zH g c.out.2.2.2 (lt_of_block c.out.2.2.2);have f0:=zA (i:=0) hk rfl;have f1:=zA (i:=1) hk rfl;have g0:=zE (i:=0) hk;have g1:=zE (i:=1) hk;have a1:=lt_of_block hk;have a2:=c.out.1.trans (g.mono c.out.1.size);clear g hk))
  refine bodyPost_ret (v:=.agg #[Y x,Y y]) ?_ rfl ⟨rfl,Zx⟩;rw[zM rfl];go_simp
 ·rw[if_neg (by unfold q8;simpa using j)]
  have k:=Ja (show ∀W,G 83 #[.agg #[Y (b.lo:Int),Y (b.hi:Int)]] W (fun e w'=>e=.returned (.bool false)/\N W w') from fun W=>by
   have:=ae6 W b;rw[show q8 b=false from decide_eq_false j] at this
   exact this)
  clear l hb j;go_enter Tryz.func82,Tryz.ntmps82;go_upto_region 2 with(go_at_call 83;go_must (refine(k.out _).mono ?_;rintro e w2 ⟨rfl,d⟩;have c:=Ja (show N w w2/\O w2 w.heap.size #[Y (a.lo:Int),Y (a.hi:Int)] 45/\O w2 (w.heap.size+1) #[Y (b.lo:Int),Y (b.hi:Int)] 45/\O w2 (w.heap.size+1+1) #[Y 0,Y 0] 45 from⟨Below.trans (show N w _ from Zv) (d.mono Zy),zH d (zB (zB (zI rfl))) Zy,zH d (zB (zI Zs)) Zy,zH d (zI Zs) Zs⟩);clear d))
  have c0:=zA (i:=0) c.out.2.1 rfl;have c1:=zA (i:=1) c.out.2.1 rfl;have c2:=zA (i:=0) c.out.2.2.1 rfl;have c3:=zA (i:=1) c.out.2.2.1 rfl;have l1:=lt_of_block c.out.2.1;have l2:=lt_of_block c.out.2.2.1;have l3:=lt_of_block c.out.2.2.2;go_wp2_with (go_at_call 39;go_must (refine(em _).mono ?_;rintro e w1 ⟨rfl,g⟩;have hk:=zH g c.out.2.2.2 (lt_of_block c.out.2.2.2);have f0:=zA (i:=0) hk rfl;have f1:=zA (i:=1) hk rfl;have g0:=zE (i:=0) hk;have g1:=zE (i:=1) hk;have a1:=lt_of_block hk;have a2:=c.out.1.trans (g.mono c.out.1.size);clear g hk))
  refine bodyPost_ret (v:=.agg #[Y 0,Y 65535]) ?_ rfl ⟨rfl,Zx⟩;rw[zM rfl];go_simp
open Go.RowKit Go.Maps
def ahX (v:Value):Option (DataW Unit×List MemPlace):=
 match v with
 |.func (.func k) fs cs=>if fs.size=0/\cs.size=0 then some (.lit (.int .i64 (k:Int)),[]) else none
 |.nilFunc=>some (.lit (.int .i64 (-1)),[])
 |_=>none
def ruV:Option Nat->Value
 |some k=> .func (.func k) #[] #[]
 |none=> .nilFunc
def ruD:Option Nat->DataW Unit
 |some k=> .lit (.int .i64 (k:Int))
 |none=> .lit (.int .i64 (-1))
theorem ag4 (o:Option Nat):ahX (ruV o)=some (ruD o,[]):=by cases o<;>rfl
theorem aiA {v:Value}{o:Option Nat}{ps:List MemPlace}(h:ahX v=some (ruD o,ps)):v=ruV o:=by
 unfold ahX at h
 split at h
 ·rename_i k fs cs
  split at h
  ·rename_i hs
   have e1:fs=#[]:=Array.eq_empty_of_size_eq_zero hs.1;have e2:cs=#[]:=Array.eq_empty_of_size_eq_zero hs.2;subst e1 e2
   cases o with
   |none=>simp only[ruD,Option.some.injEq,Prod.mk.injEq,DataW.lit.injEq,Lit.int.injEq,true_and] at h;have:=h.1;omega
   |some j=>simp only[ruD,Option.some.injEq,Prod.mk.injEq,DataW.lit.injEq,Lit.int.injEq,true_and] at h;have:k=j:=Int.ofNat.inj h.1
            subst this;rfl
  ·cases h
 ·cases o with
  |none=>rfl
  |some j=>simp[ruD] at h
 ·cases h
theorem zeroRu (w:World):(zeroValue 176).run Tryz.prog w=.ok .nilFunc w:=by kernel_rfl
def aeE (w:World)(b n:Nat)(g:Int->Option Nat):Prop:=
 ∃D:DataW Unit,w.ownsMap Tryz.prog 3 ahX b n D/\∀x,I64 x->D.atKey (.int .i64 x) (ruD none)=ruD (g x)/\Maps.has D (.int .i64 x)=(g x).isSome
theorem aeE.made (w:World):aeE (w.alloc (.map #[] 0)) w.heap.size 0 (fun _=>none):=⟨_,World.ownsMap_made _ _ _ _,fun _ _=>⟨rfl,rfl⟩⟩
theorem aeE.blk{b n:Nat}(h:aeE w b n g):∃es clock,w.heap[b]? =some (.map es clock):=by
 obtain⟨D,⟨es,clock,h1,h2⟩,h3⟩:=h;exact⟨es,clock,h1⟩
theorem aeE.same{b n:Nat}(h:aeE w b n g)(hb:w'.heap[b]? =w.heap[b]?):aeE w' b n g:=by
 obtain⟨D,⟨es,c,h1,h2⟩,h3⟩:=h;exact⟨D,⟨es,c,hb.trans h1,h2⟩,h3⟩
theorem aeE.below{b n:Nat}(h:aeE w b n g)(hb:N w w'):aeE w' b n g:=by
 obtain⟨es,c,d⟩:=h.blk;exact h.same (hb.block b (lt_of_block d))
theorem aeE.lookOk{b n:Nat}(h:aeE w b n g){x:Int}(d:I64 x):
 (Instr.lookup 95 (.map (some b)) (U x) true).run Tryz.prog w=.ok (.tuple #[ruV (g x),.bool (g x).isSome]) w:=by
 obtain⟨D,h,hf⟩:=h;obtain⟨v,ps,c,hv⟩:=h.look_ok xH Tryz.underlying95 (zeroRu w) (ag4 none) (vB d);rw[(hf x d).1] at hv;rw[(hf x d).2,aiA hv] at c;exact c
def putR (g:Int->Option Nat)(x:Int)(k:Nat):Int->Option Nat:=fun y=>if y=x then some k else g y
theorem ahs{n b:Nat}(h:Below n w0 w)(hg:w.grownBy w' (some b))(hb:n<=b)(hs:n<=w.heap.size):Below n w0 w':=
 ⟨hg.os.trans h.os,hg.tape.trans h.tape,hg.output.trans h.output,Jn h.size hg.size,fun k hk=>(hg.block k Zo (by intro e;cases e;omega)).trans (h.block k hk)⟩
theorem aiS{b n:Nat}(h:aeE w b n g)(m:n<9000000000000000000)(kx:Int)(k:Nat)(d:I64 kx):
 ∃w',(Instr.mapUpdate 95 (.map (some b)) (.int .i64 kx) (.func (.func k) #[] #[])).run Tryz.prog w=.ok () w'/\aeE w' b (n+1) (putR g kx k)/\w.grownBy w' (some b):=by
 obtain⟨D,h,hf⟩:=h;obtain⟨w1,j,l,c⟩:=h.update xH Tryz.underlying95 (by unfold maxLen;omega) (vB d) (ag4 (some k));refine⟨w1,j,⟨_,l,fun y hy=>?_⟩,c⟩;have i:WideAt.IsKeyLit (.int .i64 kx):=xH.key (vB d)
 by_cases e:y=kx
 ·subst e;simp only[putR,if_true];exact⟨Maps.atKey_put_same h.isMap i _ _,Maps.has_put_same h.isMap i _⟩
 ·simp only[putR,if_neg e];rw[Maps.atKey_put_other (by simpa using e),Maps.has_put_other (by simpa using e)];exact hf y hy
theorem p6{b n:Nat}(h:aeE w b n g)(hb:Below b w0 w/\b<w.heap.size)(d:n<9000000000000000000)(kx:Int)(k:Nat)(c:I64 kx):
 ∃w',(Instr.mapUpdate 95 (.map (some b)) (U kx) (.func (.func k) #[] #[])).run Tryz.prog w=.ok () w'/\aeE w' b (n+1) (putR g kx k)/\(Below b w0 w'/\b<w'.heap.size):=by
 obtain⟨w',h1,h2,h3⟩:=aiS h d kx k c;exact⟨w',h1,h2,⟨ahs hb.1 h3 (Je _) (Qd hb.2),Jy hb.2 h3.size⟩⟩
def ruG:Int->Option Nat:=(putR (putR (putR (putR (putR (putR (putR (putR (putR (putR (putR (putR (putR (putR (putR (putR (putR (fun _=>none) 3 70) 4 72) 5 73) 6 74) 7 75) 8 77) 9 78) 10 79) 11 81) 12 82) 13 84) 14 85) 15 86) 16 88) 17 89) 19 90) 23 91)
theorem ajm (w:World):Calls Tryz.prog 37 #[] w (fun e w'=>e=.returned (.map (some w.heap.size))/\aeE w' w.heap.size 17 ruG/\N w w'/\w.heap.size<w'.heap.size):=by
 obtain⟨G,hG⟩:∃G,ruG=G:=⟨_,rfl⟩
 rw[hG];go_enter Tryz.func37,Tryz.ntmps37;have b3:=aeE.made w;have c3:N w (w.alloc (.map #[] 0))/\w.heap.size<(w.alloc (.map #[] 0)).heap.size:=⟨Below.alloc (Below.refl _ _) (Je _) _,by simp⟩
 obtain⟨w1,e1,b2,c2⟩:=p6 b3 c3 Zd 3 70 (by unfold I64;omega);clear b3 c3;obtain⟨w2,e0,b1,c1⟩:=p6 b2 c2 Zd 4 72 (by unfold I64;omega);clear b2 c2;obtain⟨w3,d9,b0,c0⟩:=p6 b1 c1 Zd 5 73 (by unfold I64;omega);clear b1 c1;obtain⟨w4,d8,a8,b9⟩:=p6 b0 c0 Zd 6 74 (by unfold I64;omega);clear b0 c0;obtain⟨w5,d7,a6,b8⟩:=p6 a8 b9 Zd 7 75 (by unfold I64;omega);clear a8 b9;obtain⟨w6,d6,a5,b7⟩:=p6 a6 b8 Zd 8 77 (by unfold I64;omega);clear a6 b8;obtain⟨w7,d5,a4,b6⟩:=p6 a5 b7 Zd 9 78 (by unfold I64;omega);clear a5 b7;obtain⟨w8,d4,a3,b5⟩:=p6 a4 b6 Zd 10 79 (by unfold I64;omega);clear a4 b6;obtain⟨w9,d3,a2,b4⟩:=p6 a3 b5 Zd 11 81 (by unfold I64;omega);clear a3 b5;obtain⟨w10,d2,l,a1⟩:=p6 a2 b4 Zd 12 82 (by unfold I64;omega);clear a2 b4;obtain⟨w11,d1,k,a0⟩:=p6 l a1 Zd 13 84 (by unfold I64;omega);clear l a1;obtain⟨w12,d0,j,y⟩:=p6 k a0 Zd 14 85 (by unfold I64;omega);clear k a0;obtain⟨w13,c9,i,x⟩:=p6 j y Zd 15 86 (by unfold I64;omega);clear j y;obtain⟨w14,c8,h,u⟩:=p6 i x Zd 16 88 (by unfold I64;omega);clear i x;obtain⟨w15,c7,g,t⟩:=p6 h u Zd 17 89 (by unfold I64;omega);clear h u;obtain⟨w16,c5,d,o⟩:=p6 g t Zd 19 90 (by unfold I64;omega);clear g t;obtain⟨w17,c4,c,m⟩:=p6 d o Zd 23 91 (by unfold I64;omega);clear d o;have HM:=Ja c;have HB:=Ja m;clear c m;have e2:=@run_makeMap Tryz.prog;go_wp2;go_ret;subst hG;exact⟨rfl,HM.out,HB.out.1,HB.out.2⟩
theorem ruG_none {c:Int}(h:ruG c=none)(a b:Rg):aeS c a b=none:=by
 simp only[ruG,putR] at h
 by_cases d:c=23
 ·rw[if_pos d] at h;cases h
 rw[if_neg d] at h
 by_cases g:c=19
 ·rw[if_pos g] at h;cases h
 rw[if_neg g] at h
 by_cases i:c=17
 ·rw[if_pos i] at h;cases h
 rw[if_neg i] at h
 by_cases j:c=16
 ·rw[if_pos j] at h;cases h
 rw[if_neg j] at h
 by_cases k:c=15
 ·rw[if_pos k] at h;cases h
 rw[if_neg k] at h
 by_cases l:c=14
 ·rw[if_pos l] at h;cases h
 rw[if_neg l] at h
 by_cases m:c=13
 ·rw[if_pos m] at h;cases h
 rw[if_neg m] at h
 by_cases o:c=12
 ·rw[if_pos o] at h;cases h
 rw[if_neg o] at h
 by_cases t:c=11
 ·rw[if_pos t] at h;cases h
 rw[if_neg t] at h
 by_cases u:c=10
 ·rw[if_pos u] at h;cases h
 rw[if_neg u] at h
 by_cases w:c=9
 ·rw[if_pos w] at h;cases h
 rw[if_neg w] at h
 by_cases x:c=8
 ·rw[if_pos x] at h;cases h
 rw[if_neg x] at h
 by_cases y:c=7
 ·rw[if_pos y] at h;cases h
 rw[if_neg y] at h
 by_cases h6:c=6
 ·rw[if_pos h6] at h;cases h
 rw[if_neg h6] at h
 by_cases h5:c=5
 ·rw[if_pos h5] at h;cases h
 rw[if_neg h5] at h
 by_cases h4:c=4
 ·rw[if_pos h4] at h;cases h
 rw[if_neg h4] at h
 by_cases h3:c=3
 ·rw[if_pos h3] at h;cases h
 rw[if_neg h3] at h;unfold aeS;simp only[if_neg h3,if_neg h4,if_neg h5,if_neg h6,if_neg y,if_neg x,if_neg w,if_neg u,if_neg t,if_neg o,if_neg m,if_neg l,if_neg k,if_neg j,if_neg i,if_neg g,if_neg d]
theorem ahO{c:Int}(h:ruG c=some k){a b:Rg}(d:a.ok)(hb:b.ok)(w:World):∃r,aeS c a b=some r/\G k #[.agg #[Y (a.lo:Int),Y (a.hi:Int)],.agg #[Y (b.lo:Int),Y (b.hi:Int)]] w (mo w r):=by
 simp only[ruG,putR] at h
 by_cases g:c=23
 ·rw[if_pos g] at h;cases h;subst g;exact⟨_,rfl,air w d hb⟩
 rw[if_neg g] at h
 by_cases i:c=19
 ·rw[if_pos i] at h;cases h;subst i;exact⟨_,rfl,ahJ w d hb⟩
 rw[if_neg i] at h
 by_cases j:c=17
 ·rw[if_pos j] at h;cases h;subst j;exact⟨_,rfl,lts_any w d hb⟩
 rw[if_neg j] at h
 by_cases l:c=16
 ·rw[if_pos l] at h;cases h;subst l;exact⟨_,rfl,ltu_any w d hb⟩
 rw[if_neg l] at h
 by_cases m:c=15
 ·rw[if_pos m] at h;cases h;subst m;exact⟨_,rfl,eq_any w d hb⟩
 rw[if_neg m] at h
 by_cases o:c=14
 ·rw[if_pos o] at h;cases h;subst o;exact⟨_,rfl,sar_any w d hb⟩
 rw[if_neg o] at h
 by_cases t:c=13
 ·rw[if_pos t] at h;cases h;subst t;exact⟨_,rfl,ahc w ⟨by have:=d.1;have:=d.2;omega,by have:=d.2;omega⟩ (by have:=hb.1;have:=hb.2;omega)⟩
 rw[if_neg t] at h
 by_cases u:c=12
 ·rw[if_pos u] at h;cases h;subst u;exact⟨_,rfl,shl_any w d hb⟩
 rw[if_neg u] at h
 by_cases x:c=11
 ·rw[if_pos x] at h;cases h;subst x;exact⟨_,rfl,xor_any w d hb⟩
 rw[if_neg x] at h
 by_cases y:c=10
 ·rw[if_pos y] at h;cases h;subst y;exact⟨_,rfl,or_any w d hb⟩
 rw[if_neg y] at h
 by_cases h9:c=9
 ·rw[if_pos h9] at h;cases h;subst h9;exact⟨_,rfl,and_any w d hb⟩
 rw[if_neg h9] at h
 by_cases h8:c=8
 ·rw[if_pos h8] at h;cases h;subst h8;exact⟨_,rfl,aim w d hb⟩
 rw[if_neg h8] at h
 by_cases h7:c=7
 ·rw[if_pos h7] at h;cases h;subst h7;exact⟨_,rfl,mul_any w d hb⟩
 rw[if_neg h7] at h
 by_cases h6:c=6
 ·rw[if_pos h6] at h;cases h;subst h6;exact⟨_,rfl,sub_any w d hb⟩
 rw[if_neg h6] at h
 by_cases h5:c=5
 ·rw[if_pos h5] at h;cases h;subst h5;exact⟨_,rfl,add_any w d hb⟩
 rw[if_neg h5] at h
 by_cases h4:c=4
 ·rw[if_pos h4] at h;cases h;subst h4;exact⟨_,rfl,not_any w d hb⟩
 rw[if_neg h4] at h
 by_cases h3:c=3
 ·rw[if_pos h3] at h;cases h;subst h3;exact⟨_,rfl,neg_any w d hb⟩
 rw[if_neg h3] at h;cases h
end Go.Proofs.YtoahcpkibpomcaaGreat
