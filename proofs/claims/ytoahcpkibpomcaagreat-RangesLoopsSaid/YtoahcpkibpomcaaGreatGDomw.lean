/- Part of a proof. -/
import Derived.Test.YtoahcpkibpomcaaGreatGMeetw
import Derived.Laws.BytesArg
set_option linter.all false
set_option maxHeartbeats 4000000
set_option maxRecDepth 100000
namespace Go.Proofs.YtoahcpkibpomcaaGreat
open Go.RowKit
variable {W W' w w':World}{K:MK}{m:Mach}{Bi Bn Bv b12 b13 bi bp bt g i k:Nat}{c idom:List Int}{ds:List Deferred}{xs:List Nat}
def y9 (l:List Nat):ByteArray:=strOfNums (l.map fun(n:Nat)=>(n:Int))
def yV (x:Nat)(ov:Value)(k i:Nat)(s:ByteArray)(inp pol:Nat):Array Value:=#[Y x,ov,U k,Y i,.string s,U inp,U pol]
theorem mp{b:Nat}{l:List Nat}(h:O w b (l.map ly).toArray 5)(hl:l.length=8192):
 (convert 49 9 (F b 8192 8192)).run Tryz.prog w=.ok (.string (y9 l)) w:=by
 refine run_convert_bytes_arg w 49 5 Tryz.underlying49 Tryz.underlying5 b 0 8192 8192 (l.map fun(n:Nat)=>(n:Int)) (by simpa using hl) (fun i hi=>?_) 9 Tryz.underlying9;rw[Ng];have c:i<l.length:=Zo;refine zA h ?_;simp[Jj,Jd c,ly]
theorem zu{b:Nat}(h:w.grownBy w' (some b))(j:Nat)(v:Value):w.grownBy (w'.setCell ⟨b,j,none⟩ v) (some b):=
 ⟨h.os,h.tape,h.output,by have:=h.size;simpa[World.setCell] using this,fun q hq hn=>by rw[Below.heap_setCell _ _ _ _ (by simpa using hn)];exact h.block q hq hn⟩
structure FinS (K:MK) (m:Mach) (ov:Value) (b13 bt:Nat) (k i:Nat) (w':World):Prop where
 c13:w'.cell? ⟨b13,0,none⟩=some (.pointer (some ⟨K.pm,0,none⟩))
 c6:w'.cell? ⟨K.pm,6,none⟩=some (.slice (some ⟨K.rb,0,none⟩) 8192 8192)
 c10:w'.cell? ⟨K.pm,10,none⟩=some ov
 c11:w'.cell? ⟨K.pm,11,none⟩=some (.int .i64 (m.inputs:Int))
 c12:w'.cell? ⟨K.pm,12,none⟩=some (.int .i64 (m.polls:Int))
 t0:w'.cell? ⟨bt,0,none⟩=some (.int .i64 (k:Int))
 t1:w'.cell? ⟨bt,1,none⟩=some (.int .u16 (i:Int))
 ram:w'.heap[K.rb]? =some (.cells (m.ram.map ly).toArray 5 (0,0))
theorem FinS.set{ov:Value}(h:FinS K m ov b13 bt k i w')(n1:b12≠b13)(n2:b12≠K.pm)(n3:b12≠bt)(n4:b12≠K.rb)(j:Nat)(v:Value):FinS K m ov b13 bt k i (w'.setCell ⟨b12,j,none⟩ v):=by
 have c:∀ {b q:Nat} {x:Value},b12≠b->A w' b q x->A (w'.setCell ⟨b12,j,none⟩ v) b q x:=fun hn hc=>by
  rw[Oo (w:=w') (Below.heap_setCell _ _ _ _ (by simpa using Ne.symm hn))];exact hc
 exact⟨c n1 h.c13,c n2 h.c6,c n2 h.c10,c n2 h.c11,c n2 h.c12,c n3 h.t0,c n3 h.t1,zR h.ram (by simpa using Ne.symm n4)⟩
theorem FinS.drew{ov:Value}(h:FinS K m ov b13 bt k i w'):FinS K m ov b13 bt k i w'.drew:=⟨h.c13,h.c6,h.c10,h.c11,h.c12,h.t0,h.t1,h.ram⟩
theorem FinS.all{oa:Option Addr}{oc:Nat}(hrl:m.ram.length=8192)(h:FinS K m (.slice oa m.out.length oc) b13 bt k i w'):A w' b13 0 (Q K.pm)/\A w' K.pm 6 (F K.rb 8192 8192)/\A w' K.pm 10 (.slice oa m.out.length oc)/\A w' K.pm 11 (U (m.inputs:Int))/\A w' K.pm 12 (U (m.polls:Int))/\A w' bt 0 (U k)/\A w' bt 1 (Y i)/\(convert 49 9 (F K.rb 8192 8192)).run Tryz.prog w'=.ok (.string (y9 m.ram)) w':=⟨h.c13,h.c6,h.c10,h.c11,h.c12,h.t0,h.t1,mp h.ram hrl⟩
theorem pE{ov:Value}(h:MachAt w K m ov)(a1:O w b13 #[Q K.pm] 208)(l:O w b12 #[Y 0,L,U 0,Y 0,.string {data:=#[]},U 0,U 0] 57)(k i x:Nat):
 G 148 #[.agg #[U k,Y i],Y x,Q b13,Q b12] w fun e w'=>
  e=.returned (.tuple #[])/\O w' b12 (yV x ov k i (y9 m.ram) m.inputs m.polls) 57/\w.grownBy w' (some b12):=by
 obtain⟨oa,oc,rfl⟩:=zG h.out;have hrl:=h.rlen;have n1:b12≠b13:=by rintro rfl;rw[l] at a1;simp at a1
 have n2:b12≠K.pm:=by rintro rfl;rw[h.blk] at l;simp[r9] at l
 have n4:b12≠K.rb:=by
  rintro rfl;rw[h.ram] at l;have:=congrArg (fun o=>match o with|some (Obj.cells _ t _)=>t|_=>0) l;simp at this
 have n3:b12≠w.heap.size:=by have:=lt_of_block l;omega
 have b:=(Below.refl w.heap.size w).alloc (Je _) (I #[U k,Y i] 55);have hM:=h.keep b
 have u:FinS K m (.slice oa m.out.length oc) b13 w.heap.size k i (w.alloc (I #[U k,Y i] 55)):=
  ⟨zA (zB a1) Zs,hM.c6,hM.c10,hM.c11,hM.c12,zA (zI rfl) Zs,zA (zI rfl) Zs,hM.ram⟩
 have c:=zB (o:=I #[U k,Y i] 55) l;have f9:w.grownBy (w.alloc (I #[U k,Y i] 55)) (some b12):=Uo w _ _;have d0:A (w.alloc (I #[U k,Y i] 55)) b12 0 (Y 0):=zA c Zs;have f0:D (w.alloc (I #[U k,Y i] 55)) b12 0:=zE c;have d1:A (w.alloc (I #[U k,Y i] 55)) b12 1 (L):=zA c Zs;have f1:D (w.alloc (I #[U k,Y i] 55)) b12 1:=zE c;have d2:A (w.alloc (I #[U k,Y i] 55)) b12 2 (U 0):=zA c Zs;have f2:D (w.alloc (I #[U k,Y i] 55)) b12 2:=zE c;have d3:A (w.alloc (I #[U k,Y i] 55)) b12 3 (Y 0):=zA c Zs;have f3:D (w.alloc (I #[U k,Y i] 55)) b12 3:=zE c;have d4:A (w.alloc (I #[U k,Y i] 55)) b12 4 (.string {data:=#[]}):=zA c Zs;have f4:D (w.alloc (I #[U k,Y i] 55)) b12 4:=zE c;have d5:A (w.alloc (I #[U k,Y i] 55)) b12 5 (U 0):=zA c Zs;have f5:D (w.alloc (I #[U k,Y i] 55)) b12 5:=zE c;have d6:A (w.alloc (I #[U k,Y i] 55)) b12 6 (U 0):=zA c Zs;have f6:D (w.alloc (I #[U k,Y i] 55)) b12 6:=zE c;have HG:=Ja f9;have HB:=Ja c;clear h hM b a1 l f9 c;go_enter Tryz.func148,Tryz.ntmps148;go_upto_region 1 with fail;generalize hW:w.alloc (I #[U k,Y i] 55)=W at *;generalize w.heap.size=bt at *;have a0:∀w',FinS K m (.slice oa m.out.length oc) b13 bt k i w'->(convert 49 9 (F K.rb 8192 8192)).run Tryz.prog w'=.ok (.string (y9 m.ram)) w':=fun w' hs=>mp hs.ram hrl
 have c1:=u.c13;have c2:=u.c6;have c3:=u.c10;have c4:=u.c11;have c5:=u.c12;have c6:=u.t0;have c7:=u.t1;have cc:=a0 _ u;have a8:∀(w':World) (j:Nat) (v:Value),FinS K m (.slice oa m.out.length oc) b13 bt k i w'->FinS K m (.slice oa m.out.length oc) b13 bt k i (w'.setCell ⟨b12,j,none⟩ v):=fun w' j v hs=>hs.set n1 n2 n3 n4 j v
 have d:=Ja a8;have i2:=Ja a0;have HS:=Ja u;clear a8 a0 u hW;refine wp_region_noPanic ?_;refine wp_region_held_drew (S:=(fun w'=>A w' b13 0 (Q K.pm)/\A w' K.pm 6 (F K.rb 8192 8192)/\A w' K.pm 10 (.slice oa m.out.length oc)/\A w' K.pm 11 (U (m.inputs:Int))/\A w' K.pm 12 (U (m.polls:Int))/\A w' bt 0 (U k)/\A w' bt 1 (Y i)/\(convert 49 9 (F K.rb 8192 8192)).run Tryz.prog w'=.ok (.string (y9 m.ram)) w')) Zk (HS.out.drew.all hrl) (fun hHeld=>?_);have g8:=Ja HS.out.drew;have g:=Ja (show W.drew.heap[b12]? =_ from HB.out);have h8:=Ja (show w.grownBy W.drew (some b12) from⟨HG.out.os,HG.out.tape,HG.out.output,HG.out.size,HG.out.block⟩);clear c1 c2 c3 c4 c5 c6 c7 cc HS HB HG d0 f0 d1 f1 d2 f2 d3 f3 d4 f4 d5 f5 d6 f6;generalize W.drew=Wa at *;refine Th 0 ?_
 try simp only[Yp]
 refine Th 1 ?_
 try simp only[Yp]
 refine Th 2 ?_
 try simp only[Yp]
 refine Th 3 ?_
 try simp only[Yp]
 refine Th 4 ?_
 try simp only[Yp]
 refine Th 5 ?_
 try simp only[Yp]
 refine Th 6 ?_
 try simp only[Yp]
 refine Th 7 ?_
 try simp only[Yp]
 refine Th 8 ?_
 try simp only[Yp]
 refine Th 9 ?_
 try simp only[Yp]
 refine Th 10 ?_
 try simp only[Yp]
 refine Th 11 ?_
 try simp only[Yp]
 refine Th 12 ?_
 try simp only[Yp]
 refine Th 13 ?_
 try simp only[Yp]
 refine Th 14 ?_
 try simp only[Yp]
 refine Th 15 ?_
 try simp only[Yp]
 refine Th 16 ?_
 try simp only[Yp]
 refine Th 17 ?_
 try simp only[Yp]
 refine Th 18 ?_
 try simp only[Yp]
 have e0:=K0 g.out;have g0:D Wa b12 0:=zE g.out;have e1:=K1 g.out;have g1:D Wa b12 1:=zE g.out;have e2:=K2 g.out;have g2:D Wa b12 2:=zE g.out;have e3:=K3 g.out;have g3:D Wa b12 3:=zE g.out;have e4:=K4 g.out;have g4:D Wa b12 4:=zE g.out;have e5:=K5 g.out;have g5:D Wa b12 5:=zE g.out;have e6:=K6 g.out;have g6:D Wa b12 6:=zE g.out;refine wpAnyH_ready (rs:=[19]) Zk Zs ?_;refine AllReadyH.cons (o:=_) rfl (fun K hK=>?_) ?_
 ·skip
  go_simp;have f8:=Ja (d.out ((((((Wa.setCell ⟨b12,0,none⟩ (Y 0)).setCell ⟨b12,1,none⟩ (L)).setCell ⟨b12,2,none⟩ (U 0)).setCell ⟨b12,3,none⟩ (Y 0)).setCell ⟨b12,4,none⟩ (.string {data:=#[]})).setCell ⟨b12,5,none⟩ (U 0)) 6 (U 0) (d.out (((((Wa.setCell ⟨b12,0,none⟩ (Y 0)).setCell ⟨b12,1,none⟩ (L)).setCell ⟨b12,2,none⟩ (U 0)).setCell ⟨b12,3,none⟩ (Y 0)).setCell ⟨b12,4,none⟩ (.string {data:=#[]})) 5 (U 0) (d.out ((((Wa.setCell ⟨b12,0,none⟩ (Y 0)).setCell ⟨b12,1,none⟩ (L)).setCell ⟨b12,2,none⟩ (U 0)).setCell ⟨b12,3,none⟩ (Y 0)) 4 (.string {data:=#[]}) (d.out (((Wa.setCell ⟨b12,0,none⟩ (Y 0)).setCell ⟨b12,1,none⟩ (L)).setCell ⟨b12,2,none⟩ (U 0)) 3 (Y 0) (d.out ((Wa.setCell ⟨b12,0,none⟩ (Y 0)).setCell ⟨b12,1,none⟩ (L)) 2 (U 0) (d.out (Wa.setCell ⟨b12,0,none⟩ (Y 0)) 1 (L) (d.out Wa 0 (Y 0) g8.out)))))));have d7:O (Wa.setCell ⟨b12,0,none⟩ (Y 0)) b12 #[Y 0,L,U 0,Y 0,.string {data:=#[]},U 0,U 0] 57:=by rw[zD g.out];rfl
  have c9:O ((Wa.setCell ⟨b12,0,none⟩ (Y 0)).setCell ⟨b12,1,none⟩ (L)) b12 #[Y 0,L,U 0,Y 0,.string {data:=#[]},U 0,U 0] 57:=by rw[zD d7];rfl
  have c8:O (((Wa.setCell ⟨b12,0,none⟩ (Y 0)).setCell ⟨b12,1,none⟩ (L)).setCell ⟨b12,2,none⟩ (U 0)) b12 #[Y 0,L,U 0,Y 0,.string {data:=#[]},U 0,U 0] 57:=by rw[zD c9];rfl
  have c0:O ((((Wa.setCell ⟨b12,0,none⟩ (Y 0)).setCell ⟨b12,1,none⟩ (L)).setCell ⟨b12,2,none⟩ (U 0)).setCell ⟨b12,3,none⟩ (Y 0)) b12 #[Y 0,L,U 0,Y 0,.string {data:=#[]},U 0,U 0] 57:=by rw[zD c8];rfl
  have b9:O (((((Wa.setCell ⟨b12,0,none⟩ (Y 0)).setCell ⟨b12,1,none⟩ (L)).setCell ⟨b12,2,none⟩ (U 0)).setCell ⟨b12,3,none⟩ (Y 0)).setCell ⟨b12,4,none⟩ (.string {data:=#[]})) b12 #[Y 0,L,U 0,Y 0,.string {data:=#[]},U 0,U 0] 57:=by rw[zD c0];rfl
  have b8:O ((((((Wa.setCell ⟨b12,0,none⟩ (Y 0)).setCell ⟨b12,1,none⟩ (L)).setCell ⟨b12,2,none⟩ (U 0)).setCell ⟨b12,3,none⟩ (Y 0)).setCell ⟨b12,4,none⟩ (.string {data:=#[]})).setCell ⟨b12,5,none⟩ (U 0)) b12 #[Y 0,L,U 0,Y 0,.string {data:=#[]},U 0,U 0] 57:=by rw[zD b9];rfl
  have b7:O (((((((Wa.setCell ⟨b12,0,none⟩ (Y 0)).setCell ⟨b12,1,none⟩ (L)).setCell ⟨b12,2,none⟩ (U 0)).setCell ⟨b12,3,none⟩ (Y 0)).setCell ⟨b12,4,none⟩ (.string {data:=#[]})).setCell ⟨b12,5,none⟩ (U 0)).setCell ⟨b12,6,none⟩ (U 0)) b12 #[Y 0,L,U 0,Y 0,.string {data:=#[]},U 0,U 0] 57:=by rw[zD b8];rfl
  have a6:=Ja b7;have h7:=Ja (zu (zu (zu (zu (zu (zu (zu h8.out 0 (Y 0)) 1 (L)) 2 (U 0)) 3 (Y 0)) 4 (.string {data:=#[]})) 5 (U 0)) 6 (U 0));refine hK.out _ _ (FinS.all hrl f8.out) (fun hHeld=>?_);clear hK K e0 g0 e1 g1 e2 g2 e3 g3 e4 g4 e5 g5 e6 g6 d7 c9 c8 c0 b9 b8 b7 g8 g h8
  try simp only[Yp]
  generalize (((((((Wa.setCell ⟨b12,0,none⟩ (Y 0)).setCell ⟨b12,1,none⟩ (L)).setCell ⟨b12,2,none⟩ (U 0)).setCell ⟨b12,3,none⟩ (Y 0)).setCell ⟨b12,4,none⟩ (.string {data:=#[]})).setCell ⟨b12,5,none⟩ (U 0)).setCell ⟨b12,6,none⟩ (U 0))=Wb at *;refine Th 20 ?_
  try simp only[Yp]
  have e0:=K0 a6.out;have g0:D Wb b12 0:=zE a6.out;refine wpAnyH_ready (rs:=[21]) Zk Zs ?_;refine AllReadyH.cons (o:=_) rfl (fun K hK=>?_) ?_
  ·skip
   go_simp;have f7:=Ja (d.out Wb 0 (Y x) f8.out);have b6:O (Wb.setCell ⟨b12,0,none⟩ (Y x)) b12 #[Y x,L,U 0,Y 0,.string {data:=#[]},U 0,U 0] 57:=by rw[zD a6.out];rfl
   have a5:=Ja b6;have h6:=Ja (zu h7.out 0 (Y x));refine hK.out _ _ (FinS.all hrl f7.out) (fun hHeld=>?_);clear hK K e0 g0 b6 f8 a6 h7
   try simp only[Yp]
   generalize (Wb.setCell ⟨b12,0,none⟩ (Y x))=Wc at *;refine Th 22 ?_
   try simp only[Yp]
   have e1:=K1 a5.out;have g1:D Wc b12 1:=zE a5.out;refine wpAnyH_ready (rs:=[23]) Zk Zs ?_;refine AllReadyH.cons (o:=_) rfl (fun K hK=>?_) ?_
   ·skip
    go_simp;have e9:=Ja (d.out Wc 1 (.slice oa m.out.length oc) f7.out);have b5:O (Wc.setCell ⟨b12,1,none⟩ (.slice oa m.out.length oc)) b12 #[Y x,.slice oa m.out.length oc,U 0,Y 0,.string {data:=#[]},U 0,U 0] 57:=by rw[zD a5.out];rfl
    have y:=Ja b5;have h5:=Ja (zu h6.out 1 (.slice oa m.out.length oc));refine hK.out _ _ (FinS.all hrl e9.out) (fun hHeld=>?_);clear hK K e1 g1 b5 f7 a5 h6
    try simp only[Yp]
    generalize (Wc.setCell ⟨b12,1,none⟩ (.slice oa m.out.length oc))=Wd at *;refine Th 24 ?_
    try simp only[Yp]
    have e2:=K2 y.out;have g2:D Wd b12 2:=zE y.out;have e3:=K3 y.out;have g3:D Wd b12 3:=zE y.out;refine wpAnyH_ready (rs:=[25]) Zk Zs ?_;refine AllReadyH.cons (o:=_) rfl (fun K hK=>?_) ?_
    ·skip
     go_simp;have e7:=Ja (d.out (Wd.setCell ⟨b12,2,none⟩ (U k)) 3 (Y i) (d.out Wd 2 (U k) e9.out));have b4:O (Wd.setCell ⟨b12,2,none⟩ (U k)) b12 #[Y x,.slice oa m.out.length oc,U k,Y 0,.string {data:=#[]},U 0,U 0] 57:=by rw[zD y.out];rfl
     have b3:O ((Wd.setCell ⟨b12,2,none⟩ (U k)).setCell ⟨b12,3,none⟩ (Y i)) b12 #[Y x,.slice oa m.out.length oc,U k,Y i,.string {data:=#[]},U 0,U 0] 57:=by rw[zD b4];rfl
     have a4:=Ja b3;have h4:=Ja (zu (zu h5.out 2 (U k)) 3 (Y i));refine hK.out _ _ (FinS.all hrl e7.out) (fun hHeld=>?_);clear hK K e2 g2 e3 g3 b4 b3 e9 y h5
     try simp only[Yp]
     generalize ((Wd.setCell ⟨b12,2,none⟩ (U k)).setCell ⟨b12,3,none⟩ (Y i))=We at *;refine Th 26 ?_
     try simp only[Yp]
     have e4:=K4 a4.out;have g4:D We b12 4:=zE a4.out;refine wpAnyH_ready (rs:=[27]) Zk Zs ?_;refine AllReadyH.cons (o:=_) rfl (fun K hK=>?_) ?_
     ·skip
      go_simp;have d9:=Ja (d.out We 4 (.string (y9 m.ram)) e7.out);have b2:O (We.setCell ⟨b12,4,none⟩ (.string (y9 m.ram))) b12 #[Y x,.slice oa m.out.length oc,U k,Y i,.string (y9 m.ram),U 0,U 0] 57:=by rw[zD a4.out];rfl
      have a3:=Ja b2;have h0:=Ja (zu h4.out 4 (.string (y9 m.ram)));refine hK.out _ _ (FinS.all hrl d9.out) (fun hHeld=>?_);clear hK K e4 g4 b2 e7 a4 h4
      try simp only[Yp]
      generalize (We.setCell ⟨b12,4,none⟩ (.string (y9 m.ram)))=Wf at *;refine Th 28 ?_
      try simp only[Yp]
      have e5:=K5 a3.out;have g5:D Wf b12 5:=zE a3.out;refine wpAnyH_ready (rs:=[29]) Zk Zs ?_;refine AllReadyH.cons (o:=_) rfl (fun K hK=>?_) ?_
      ·skip
       go_simp;have d8:=Ja (d.out Wf 5 (U (m.inputs:Int)) d9.out);have b1:O (Wf.setCell ⟨b12,5,none⟩ (U (m.inputs:Int))) b12 #[Y x,.slice oa m.out.length oc,U k,Y i,.string (y9 m.ram),U (m.inputs:Int),U 0] 57:=by rw[zD a3.out];rfl
       have a2:=Ja b1;have g9:=Ja (zu h0.out 5 (U (m.inputs:Int)));refine hK.out _ _ (FinS.all hrl d8.out) (fun hHeld=>?_);clear hK K e5 g5 b1 d9 a3 h0
       try simp only[Yp]
       generalize (Wf.setCell ⟨b12,5,none⟩ (U (m.inputs:Int)))=Wg at *;refine Th 30 ?_
       try simp only[Yp]
       have e6:=K6 a2.out;have g6:D Wg b12 6:=zE a2.out;refine wpAnyH_ready (rs:=[31]) Zk Zs ?_;refine AllReadyH.cons (o:=_) rfl (fun K hK=>?_) ?_
       ·skip
        go_simp;have h9:=Ja (d.out Wg 6 (U (m.polls:Int)) d8.out);have b0:O (Wg.setCell ⟨b12,6,none⟩ (U (m.polls:Int))) b12 #[Y x,.slice oa m.out.length oc,U k,Y i,.string (y9 m.ram),U (m.inputs:Int),U (m.polls:Int)] 57:=by rw[zD a2.out];rfl
        have i1:=Ja b0;have i0:=Ja (zu g9.out 6 (U (m.polls:Int)));refine hK.out _ _ (FinS.all hrl h9.out) (fun hHeld=>?_);clear hK K e6 g6 b0 d8 a2 g9
        try simp only[Yp]
        generalize (Wg.setCell ⟨b12,6,none⟩ (U (m.polls:Int)))=Wh at *;refine wpAnyH_done Zk (NoPanic.normal ?_) _;go_wp2
        go_end0
        exact⟨rfl,i1.out,i0.out⟩
       ·exact AllReadyH.nil
      ·exact AllReadyH.nil
     ·exact AllReadyH.nil
    ·exact AllReadyH.nil
   ·exact AllReadyH.nil
  ·exact AllReadyH.nil
 ·exact AllReadyH.nil
end Go.Proofs.YtoahcpkibpomcaaGreat
set_option maxRecDepth 8000
namespace Go.Proofs.YtoahcpkibpomcaaGreat
open Go.RowKit Go.Shelf
variable {W W' w w':World}{K:MK}{m:Mach}{Bi Bn Bv b12 b13 bi bp bt g i k:Nat}{c idom:List Int}{ds:List Deferred}{xs:List Nat}
attribute [local go_sem] Oper.semAt_some
theorem wi.snoc {idom:List Int}{f:Int->Int}{p:Nat}:∀ {ps:List Nat} {d d1 d2:Int},wi idom f ps d d1->mJ idom f p d1 d2->wi idom f (ps++ [p]) d d2
 | [],d,d1,d2,h,h2=>by cases h;exact⟨d2,h2,rfl⟩
 |q::ps,d,d1,d2,⟨d0,h0,h⟩,h2=>⟨d0,h0,wi.snoc h h2⟩
theorem UpN.unique{f:Int->Int}{t:Int}:∀ {k k2 a r r2:Nat},UpN c f t k a r->UpN c f t k2 a r2->r=r2
 |0,0,_,_,_,h,h2=>h.2.trans h2.2.symm
 |0,_+1,_,_,_,h,h2=>absurd h2.1 h.1
 |_+1,0,_,_,_,h,h2=>absurd h.1 h2.1
 |k+1,k2+1,a,r,r2,⟨_,a1,_,h,h3⟩,⟨_,a2,_,h2,h4⟩=>by
  obtain rfl:a1=a2:=by rw[h] at h2;exact Int.ofNat_inj.1 (Nt h2)
  exact UpN.unique h3 h4
theorem qZ.unique{f:Int->Int}:∀ {k k2 a b r r2:Nat},qZ c f k a b r->qZ c f k2 a b r2->r=r2
 |0,0,_,_,_,_,h,h2=>h.2.trans h2.2.symm
 |0,_+1,_,_,_,_,h,h2=>absurd h.1 h2.1
 |_+1,0,_,_,_,_,h,h2=>absurd h2.1 h.1
 |k+1,k2+1,a,b,r,r2,⟨_,j,a1,h1,j',b1,h2,h3⟩,⟨_,i,a2,g1,i',b2,g2,g3⟩=>by
  obtain rfl:=UpN.unique h1 g1;obtain rfl:=UpN.unique h2 g2;exact qZ.unique h3 g3
theorem mJ.unique{f:Int->Int}{p:Nat}{d d1 d2:Int}(h:mJ c f p d d1)(h2:mJ c f p d d2):d1=d2:=by
 obtain⟨x,j,h⟩:=h;obtain⟨y,g,h2⟩:=h2;obtain rfl:x=y:=by rw[j] at g;simpa using g
 rcases h with⟨a,rfl⟩|⟨a,b,rfl⟩|⟨a,dn,rfl,_,k,r,hm,rfl⟩<;>rcases h2 with⟨a',e⟩|⟨a',b',e⟩|⟨a',dn',e0,_,k',r',i,e⟩
 ·exact e.symm
 ·exact absurd a a'
 ·exact absurd a a'
 ·exact absurd a' a
 ·exact e.symm
 ·omega
 ·exact absurd a' a
 ·omega
 ·obtain rfl:dn=dn':=by omega
  rw[e,qZ.unique hm i]
theorem wi.unique{f:Int->Int}:∀ {ps:List Nat} {d d1 d2:Int},wi c f ps d d1->wi c f ps d d2->d1=d2
 | [],_,_,_,h,h2=>h.trans h2.symm
 |p::ps,d,d1,d2,⟨e,h,h'⟩,⟨e2,g,g'⟩=>by
  obtain rfl:=h.unique g;exact wi.unique h' g'
structure DomMem (w W:World) (bv Bi bi n:Nat) (idom:List Int):Prop where
 hv:W.heap[w.heap.size]? =some (.cells #[.pointer (some ⟨bv,0,none⟩)] 192 (0,0))
 hi:W.heap[Bi]? =some (.cells #[.slice (some ⟨bi,0,none⟩) n n] 22 (0,0))
 hm:W.heap[Bi+1]? =some (.cells #[.func (.func 146) #[] #[.pointer (some ⟨w.heap.size,0,none⟩),.pointer (some ⟨Bi,0,none⟩)]] 204 (0,0))
 hr:W.heap[bi]? =some (.cells (idom.map (Value.int .i64)).toArray 3 (0,0))
 hl:idom.length=n
 hb:Below w.heap.size w W
 lt:w.heap.size<bi/\bi<Bi
theorem DomMem.kept{bv n:Nat}{row:Option Nat}(h:DomMem w W bv Bi bi n idom)(hg:W.grownBy W' row)
 (c:∀r,row=some r->w.heap.size<r/\r≠bi/\r≠Bi/\r≠Bi+1):DomMem w W' bv Bi bi n idom:=by
 obtain⟨hv,hi,hm,hr,hl,hb,lt⟩:=h;refine⟨zL hg hv (fun e=>by have:=c _ e;omega),zL hg hi (fun e=>(c _ e).2.2.1 rfl),zL hg hm (fun e=>(c _ e).2.2.2 rfl),zL hg hr (fun e=>(c _ e).2.1 rfl),hl,hb.grown hg hb.size (fun k hk=>?_),lt⟩;have:=c _ hk;omega
theorem DomMem.own{bv n:Nat}{row:Option Nat}(h:DomMem w W bv Bi bi n idom)(hg:W.grownBy W' row)
 (c:∀r,row=some r->∃o:Obj,W.heap[r]? =some o/\o.isCells=false) (hB:∀r,row=some r->w.heap.size<=r):DomMem w W' bv Bi bi n idom:=by
 refine h.kept hg (fun r e=>?_);obtain⟨o,ho,d⟩:=c r e
 have aux:∀ {b:Nat} {cs:Array Value} {t:TypeId},O W b cs t->r≠b:=by
  rintro b cs t hb rfl;rw[hb] at ho;cases ho;cases d
 exact⟨Nat.lt_of_le_of_ne (hB r e) (Ne.symm (aux h.hv)),aux h.hr,aux h.hi,aux h.hm⟩
theorem DomMem.set{bv n:Nat}(h:DomMem w W bv Bi bi n c)(k:Nat)(d:Int):DomMem w (W.setCell ⟨bi,k,none⟩ (U d)) bv Bi bi n (c.set k d):=by
 obtain⟨hv,hi,hm,hr,hl,hb,lt⟩:=h;refine⟨zR hv Zt,zR hi Zt,zR hm Zt,?_,by simpa using hl,hb.setCell Zt _,lt⟩;rw[zD hr];simp
def oh (B:Nat)(W:World)(ds:List Deferred):Prop:=
 ∃Ds:List Nat,ds=Ds.map (fun D=> {target:=.collected D,args:=#[]})/\Ds.Nodup/\∀D∈Ds,B<=D/\W.heap[D]? =some (.deferred (some []))
theorem oh.keeps{B:Nat}(h:oh B W ds)(hk:KeepsFrom 0 W W'):oh B W' ds:=by
 obtain⟨Ds,rfl,h1,h2⟩:=h;exact⟨Ds,rfl,h1,fun D hD=>⟨(h2 D hD).1,hk.same D _ (Jt _) (h2 D hD).2 rfl⟩⟩
theorem oh.push{B:Nat}{W0:World}{D:Nat}(h:oh B W0 ds)(hk:KeepsFrom 0 W0 W)(g:W0.heap.size<=D)(hB:B<=D)(d:W.heap[D]? =some (.deferred (some []))):
 oh B W ({target:=.collected D,args:=#[]}::ds):=by
 obtain⟨Ds,rfl,h1,h2⟩:=h;refine⟨D::Ds,rfl,Qt.2 ⟨fun hm=>?_,h1⟩,fun E c=>?_⟩
 ·have:=(Array.getElem?_eq_some_iff.1 (h2 D hm).2).1;omega
 ·rcases Jq.1 c with rfl|c
  ·exact⟨hB,d⟩
  ·exact⟨(h2 E c).1,hk.same E _ (Jt _) (h2 E c).2 rfl⟩
theorem sr {F:Fence}{m:Nat}{P:Program}{fn:Func}{c:Array Value}{R:Ending->World->Prop}(B:Nat)(G:World->Prop)
 (g:∀W D,B<=D->W.heap[D]? =some (.deferred (some []))->G W->G (W.putObj D (.deferred none))) (d:∀W,G W->LeavesIn F m P fn c R [] .returning W):
 ∀(Ds:List Nat) (W:World),Ds.Nodup->(∀D∈Ds,B<=D/\W.heap[D]? =some (.deferred (some [])))->G W->LeavesInM F m P fn c R (Ds.map (fun D=> {target:=.collected D,args:=#[]})) .returning W
 | [],W,_,_,h=>d W h
 |D::Ds,W,hn,hd,h=>by
  have hD:=hd D Zs;refine⟨by simp,.inl ⟨D,_,rfl,run_takeDeferred hD.2,?_⟩⟩;refine sr B G g d Ds _ (Qt.1 hn).2 (fun E hE=>⟨(hd E (by simp[hE])).1,?_⟩) (g W D hD.1 hD.2 h);rw[World.putObj_heap_other (by rintro rfl;exact(Qt.1 hn).1 hE)];exact(hd E (by simp[hE])).2
theorem _root_.Go.KeepsFrom.from0(h:KeepsFrom 0 W W')(B:Nat):KeepsFrom B W W':=⟨h.size,fun k o _ hk ho=>h.same k o (Jt _) hk ho⟩
theorem uh (W:World)(o:Obj):KeepsFrom 0 W (W.alloc o):=⟨by simp,fun k o' _ hk _=>(Below.heap_alloc _ _ _ (Array.getElem?_eq_some_iff.1 hk).1).trans hk⟩
theorem uu{b:Nat}{cs:Array Value}{t:TypeId}(h:O W b cs t)(v:Value):KeepsFrom 0 W (W.setCell ⟨b,i,none⟩ v):=
 ⟨by simp,fun k o _ hk hc=>(Below.heap_setCell _ _ _ k (fun e=>by subst e;rw[h] at hk;cases hk;cases hc)).trans hk⟩
theorem uW (W:World)(n:Nat):KeepsFrom 0 W (W.drewN n):=⟨Je _,fun _ _ _ h _=>h⟩
theorem oH{w1:World}{bv n:Nat}(h:O w1 (w.heap.size+2) (List.replicate n (U (-1))).toArray 3/\N w w1/\O w1 w.heap.size #[Q bv] 192)
 (d:w.heap.size+2<w1.heap.size) (h1:1<=n):
 DomMem w (((w1.setCell ⟨w.heap.size+2,0,none⟩ (U 0)).alloc (I #[F (w.heap.size+2) n n] 22)).alloc (I #[.func (.func 146) #[] #[Q w.heap.size,Q w1.heap.size]] 204))
  bv w1.heap.size (w.heap.size+2) n ((0:Int)::List.replicate (n-1) (-1)):=by
 obtain⟨hr,hb,hv⟩:=h;have c:=zD (i:=0) hr (U 0);refine⟨zB (zB (zR hv Zs)),zB (zI Zs),zI Zs,?_,by simp;omega,?_,by omega,d⟩
 ·rw[zB (zB c)];obtain⟨m,rfl⟩:∃m,n=m+1:=⟨n-1,by omega⟩
  simp[Qz]
 ·exact((hb.setCell Zs _).alloc Zt _).alloc Zt _
theorem vA{b:Nat}{a:Addr}(h:a.block≠b)(u:Value):(W.setCell ⟨b,i,none⟩ u).cell? a=W.cell? a:=by
 have:(W.setCell ⟨b,i,none⟩ u).heap[a.block]? =W.heap[a.block]?:=Below.heap_setCell _ _ _ _ h;unfold World.cell?;rw[this]
theorem aaT.keptObj{n:Nat}{bv op len:Nat}{ar:Option Addr}{row:Option Nat}(h:aaT Bv Bn n xs bv bp op len i ar g W)(hg:W.grownBy W' row)
 (d:∀r,row=some r->∃o:Obj,W.heap[r]? =some o/\o.isCells=false):aaT Bv Bn n xs bv bp op len i ar g W':=by
 obtain⟨c1,c2,c3,k,c4,l⟩:=h;refine⟨cell_kept c1 hg d,cell_kept c2 hg d,cell_kept c3 hg d,k,cell_kept c4 hg d,fun j x hj=>?_⟩;obtain⟨b,o,e,c⟩:=l j x hj;exact⟨b,o,e,cell_kept c hg d⟩
theorem aaT.set{n:Nat}{bv op len:Nat}{ar:Option Addr}{d:Nat}{Bd:Nat}(h:aaT Bv Bn n xs bv bp op len g ar d W)(u:Value)
 (h1:Bv≠Bd) (h2:Bn≠Bd) (h3:bv≠Bd) (m:bp≠Bd) (l:∀(j x:Nat),xs[j]? =some x->∀a,ar=some a->a.block≠Bd):aaT Bv Bn n xs bv bp op len g ar d (W.setCell ⟨Bd,0,none⟩ u):=by
 obtain⟨c1,c2,c3,i,c4,k⟩:=h;refine⟨(vA h1 u).trans c1,(vA h2 u).trans c2,(vA h3 u).trans c3,i,(vA m u).trans c4,fun j x hj=>?_⟩;obtain⟨b,o,e,c⟩:=k j x hj;exact⟨b,o,e,(vA (a:=⟨b,o+j,none⟩) (l j x hj ⟨b,o,none⟩ e) u).trans c⟩
theorem jt{C bv:Nat}{k:List Nat}{f:Int->Int}{c:List (List Nat)}(t:oN w C bv k f c)(hb:Below C w W){x:Nat}{pr:List Nat}(g:c[x]? =some pr)
 (c1:A W Bv 0 (Q bv)) (c2:A W Bn 0 (U x)):
 ∃bp op len cap ar capr,aaT Bv Bn x pr bv bp op len cap ar capr W/\bp<C/\∀(j y:Nat),pr[j]? =some y->∀a,ar=some a->a.block<C:=by
 obtain⟨ov,bm,pv,nm,e0,e1,e2,ho,hm,u,hp,hl⟩:=t;obtain⟨a,cap,rfl,m⟩:=hp.form;obtain⟨b,o,a2,i,rfl,h,d,a0,l⟩:=hp.row g;refine⟨b,o,c.length,cap,a2,i,⟨c1,c2,(hb.cell (p:=⟨bv,2,none⟩) hl).trans e2,(Jh.1 g).1,(hb.cell (p:=⟨b,o+x,none⟩) h).trans d,fun j y hj=>?_⟩,h,fun j y hj a e=>?_⟩
 ·obtain⟨b2,o2,e,hB,d⟩:=l j y hj;exact⟨b2,o2,e,(hb.cell (p:=⟨b2,o2+j,none⟩) hB).trans d⟩
 ·obtain⟨b2,o2,e2,hB,d⟩:=l j y hj;rw[e2] at e;cases e;exact hB
theorem qQ (w:World)(C bv n:Nat)(l0:List Nat)(f:Int->Int)(a0:List (List Nat))(hC:C<=w.heap.size)(hV:oN w C bv l0 f a0)(h1:1<=n)(hn:n<=2000000)
 (ns:List Nat) (n9:l0=0::ns) (l6:∀x∈ns,x<n) (p4:ns.length<=2000000) (hpl:a0.length=n) (l4:∀row∈a0,row.length<=4000004000000) (k0:Nat) (idom':List Int) (hD:ip a0 f ns k0 ((0:Int)::List.replicate (n-1) (-1)) idom'):
 G 141 #[Q bv,U n] w fun e w'=>∃g,e=.returned (F g n n)/\w.heap.size<=g/\O w' g (idom'.map (Value.int .i64)).toArray 3/\N w w':=by
 have HV:=Ja hV;have HD:=Ja hD;have HN:=Ja l6;have p3:=Ja l4;clear hV hD l6 l4;refine(callsIn_wide (n:=100)).1 (callsIn_of_wp_marks Tryz.func141 rfl trivial ?_ rfl);simp only[Tryz.ntmps141,List.size_toArray,Nq,Ow,Nat.reduceAdd,Nat.reduceSub,Array.replicate_succ,Array.replicate_zero,List.push_toArray,List.append_toArray,Op,List.cons_append];refine wpIn_wide.2 ?_
 have i0:∀W:World,W=(w.alloc (I #[Q bv] 192)).alloc (I #[U (-1)] 3)->G 145 #[F (w.heap.size+1) 1 1,U n] W fun e w1=>
  e=.returned (F (w.heap.size+2) n n)/\A w1 (w.heap.size+2) 0 (U (-1))/\w1.frozen? ⟨w.heap.size+2,0,none⟩=false/\w.heap.size+2<w1.heap.size/\Hid (O w1 (w.heap.size+2) (List.replicate n (U (-1))).toArray 3/\N w w1/\O w1 w.heap.size #[Q bv] 192):=by
  rintro W rfl;have n5:((w.alloc (I #[Q bv] 192)).alloc (I #[U (-1)] 3)).heap.size=w.heap.size+2:=by simp
  have hb:N w ((w.alloc (I #[Q bv] 192)).alloc (I #[U (-1)] 3)):=((Below.refl _ _).alloc (Je _) _).alloc Zs _;refine(lr _ (w.heap.size+1) 0 1 n (zA (zI Zs) Zs) h1 Zo).mono ?_;rintro e w1 ⟨rfl,hr,j1⟩;rw[n5] at hr j1 ⊢;exact⟨rfl,zA hr (by rw[List.getElem?_toArray,Nm,if_pos Zo]),zE hr,lt_of_block hr,hr,hb.trans (j1.mono Zo),zH j1 (zB (zI rfl)) Zo⟩
 have c3:∀(w1:World) (a:Addr) (u:Value) (o:Obj),(((w1.setCell a u).alloc o).alloc (I #[.nilFunc] 204)).cell? ⟨w1.heap.size+1,0,none⟩=some .nilFunc:=fun w1 a u o=>zA (zI Zs) Zs
 have f3:∀(w1:World) (a:Addr) (u:Value) (o:Obj),(((w1.setCell a u).alloc o).alloc (I #[.nilFunc] 204)).frozen? ⟨w1.heap.size+1,0,none⟩=false:=fun w1 a u o=>zE (zI Zs)
 go_wp2_with (go_at_call 145;go_must (refine(i0 _ rfl).mono ?_;rintro e w1 ⟨rfl,c0,f0,n0,HW⟩))
 refine wp_loop_ghost (fun k a W=>∃(ch:Bool) (ds:List Deferred),∃u9 g9 g8 g6 g5 g4 g3 g2 k9 k7 k6 g1 g0 f9 f8 f7 f6 f5 f4 f2 f1 e9 e7 e6 e5 e4 e3 d9 d8 d7 d6 d5 d4 d3 d2 c9 c8 c7 c5 c4 c2 c1 b9 b8:Value,a= {tmps:=#[.pointer (some ⟨bv,0,none⟩),U n,.pointer (some ⟨w.heap.size,0,none⟩),undef,.slice none 0 0,.pointer (some ⟨w1.heap.size,0,none⟩),.pointer (some ⟨w1.heap.size+1,0,none⟩),.bool ch,undef,u9,g9,g8,.slice (some ⟨w.heap.size+1,0,none⟩) 1 1,U n,.slice (some ⟨w.heap.size+2,0,none⟩) n n,.slice (some ⟨w.heap.size+2,0,none⟩) n n,.pointer (some ⟨w.heap.size+2,0,none⟩),.func (.func 146) #[] #[.pointer (some ⟨w.heap.size,0,none⟩),.pointer (some ⟨w1.heap.size,0,none⟩)],g6,g5,g4,g3,g2,k9,k7,k6,g1,g0,f9,f8,f7,f6,f5,f4,f2,f1,e9,e7,e6,e5,e4,e3,d9,d8,d7,d6,d5,d4,d3,d2,c9,c8,c7,c5,c4,c2,c1,b9,b8],defers:=ds }/\oh w.heap.size W ds/\∃idom,DomMem w W bv w1.heap.size (w.heap.size+2) n idom/\((ch=true/\ip a0 f ns k idom idom')∨(ch=false/\idom=idom'))) k0 ?_ ?_
 ·refine⟨true,[],_,_,_,_,_,_,_,_,_,_,_,_,_,_,_,_,_,_,_,_,_,_,_,_,_,_,_,_,_,_,_,_,_,_,_,_,_,_,_,_,_,_,_,_,rfl,⟨[],rfl,List.nodup_nil,by simp⟩,_,oH HW.out n0 h1,.inl ⟨rfl,HD.out⟩⟩
 clear HD HW c0 f0 c3 f3 i0;rintro k a W ⟨ch,ds,u9,g9,g8,g6,g5,g4,g3,g2,k9,k7,k6,g1,g0,f9,f8,f7,f6,f5,f4,f2,f1,e9,e7,e6,e5,e4,e3,d9,d8,d7,d6,d5,d4,d3,d2,c9,c8,c7,c5,c4,c2,c1,b9,b8,rfl,hM,idom,h0,m0⟩;have HM:=Ja hM;have t:=Ja h0;have k1:=Ja m0;clear hM h0 m0;have cI:=cell_of_one t.out.hi;have cV:=cell_of_one t.out.hv
 cases ch with
 |false=>
  go_wp2;obtain⟨Ds,rfl,hnd,o2⟩:=HM.out;obtain rfl:idom=idom':=k1.out.elim (fun h=>Bool.noConfusion h.1) (fun h=>h.2);refine sr w.heap.size (fun W=>O W (w.heap.size+2) (idom.map (Value.int .i64)).toArray 3/\N w W) ?_ ?_ Ds W hnd o2 ⟨t.out.hr,t.out.hb⟩
  ·rintro W D hB hd ⟨h1,h2⟩;exact⟨zL (grownBy_putObj' W D _) h1 (by rintro e;cases e;rw[h1] at hd;cases hd),h2.grown (grownBy_putObj' W D _) h2.size (by rintro k e;cases e;exact hB)⟩
  ·rintro W ⟨h1,h2⟩
   exact⟨_,results_tmp rfl _ _ _,_,rfl,by omega,h1,h2⟩
 |true=>
  have p0:=HV.out;obtain⟨ov,bm,pv,nm,e0,e1,e2,ho,hm,q5,hp,hl⟩:=p0;obtain⟨aO,capO,rfl,o4,h8⟩:=ho;subst n9;obtain⟨b,o,rfl,r2,o5⟩:=h8 0 0 rfl;simp only[Nq] at o4 e0;have HX:=Ja h8;clear e2 hm hp h8 o5 e1;have e0:=(t.out.hb.cell (p:=⟨bv,0,none⟩) (show bv<w.heap.size by omega)).trans e0;have l1:1<=capO:=Zo;go_upto_region 7 with fail
  go_cut [23,24,25] from 18 to 25 (fun s l i wx=>wx=W/\l=U (ns.length:Int)/\i=U 0/\∃o' c',s=.slice (some ⟨b,o',none⟩) ns.length c'/\Hid (0<ns.length->o'=o+1))
  case first=>
   go_wp2
   all_goals go_meet
   ·exact⟨rfl,rfl,rfl,_,_,rfl,by unfold Hid;intro h;omega⟩
   ·exact⟨rfl,rfl,rfl,_,_,rfl,fun _=>rfl⟩
  case rest=>
   obtain⟨rfl,rfl,rfl,o',c',rfl,HO⟩:=hcut
   obtain⟨k,i1,h4,a3,h6,rfl⟩:∃k2 i1 h4,ny a0 f ns idom false i1 h4/\((h4=false/\idom'=i1)∨(h4=true/\ip a0 f ns k2 i1 idom'))/\k=k2+1:=by
    rcases k1.out with⟨_,h⟩|⟨h,_⟩
    ·cases k with
     |zero=>exact h.elim
     |succ k=>obtain⟨i1,ch,h1,h2⟩:=h;exact⟨k,i1,ch,h1,h2,rfl⟩
    ·cases h
   have a5:=Ja a3;have k5:=Ja h6;clear a3 h6 k1 cI cV;go_wp2;refine wp_loop_ghost (fun k a W=>∃(i:Nat) (ch:Bool) (ds:List Deferred),∃u9 g9 g8 g6 g5 g4 g3 g2 g1 g0 f9 f8 f7 f6 f5 f4 f2 f1 e9 e7 e6 e5 e4 e3 d9 d8 d7 d6 d5 d4 d3 d2 c9 c8 c7 c5 c4 c2 c1 b9 b8:Value,a= {tmps:=#[.pointer (some ⟨bv,0,none⟩),U n,.pointer (some ⟨w.heap.size,0,none⟩),undef,.slice none 0 0,.pointer (some ⟨w1.heap.size,0,none⟩),.pointer (some ⟨w1.heap.size+1,0,none⟩),.bool ch,undef,u9,g9,g8,.slice (some ⟨w.heap.size+1,0,none⟩) 1 1,U n,.slice (some ⟨w.heap.size+2,0,none⟩) n n,.slice (some ⟨w.heap.size+2,0,none⟩) n n,.pointer (some ⟨w.heap.size+2,0,none⟩),.func (.func 146) #[] #[.pointer (some ⟨w.heap.size,0,none⟩),.pointer (some ⟨w1.heap.size,0,none⟩)],g6,g5,g4,g3,g2,(.slice (some ⟨b,o',none⟩) ns.length c'),(U (ns.length:Int)),(U i),g1,g0,f9,f8,f7,f6,f5,f4,f2,f1,e9,e7,e6,e5,e4,e3,d9,d8,d7,d6,d5,d4,d3,d2,c9,c8,c7,c5,c4,c2,c1,b9,b8],defers:=ds }/\k+i=ns.length/\oh w.heap.size W ds/\∃idom,DomMem w W bv w1.heap.size (w.heap.size+2) n idom/\ny a0 f (ns.drop i) idom ch i1 h4) ns.length ?_ ?_
   ·exact⟨0,false,ds,_,_,_,_,_,_,_,_,_,_,_,_,_,_,_,_,_,_,_,_,_,_,_,_,_,_,_,_,_,_,_,_,_,_,_,_,_,_,_,_,_,rfl,rfl,HM.out,idom,t.out,a5.out⟩
   clear a5 HM t ds idom;rintro j a W ⟨i,ch,ds,u9,g9,g8,g6,g5,g4,g3,g2,g1,g0,f9,f8,f7,f6,f5,f4,f2,f1,e9,e7,e6,e5,e4,e3,d9,d8,d7,d6,d5,d4,d3,d2,c9,c8,c7,c5,c4,c2,c1,b9,b8,rfl,q9,hM,idom,h0,a3⟩;have HM:=Ja hM;have t:=Ja h0;have a5:=Ja a3;clear hM h0 a3
   by_cases q6:(i:Int)<ns.length
   ·obtain⟨x,hx⟩:∃x,ns[i]? =some x:=⟨_,Jd Zo⟩
    have q2:=HN.out x (Ji hx);obtain⟨b1,o1,o6,_,h7⟩:=HX.out (i+1) x (by simpa using hx);obtain⟨rfl,rfl⟩:b=b1/\o=o1:=by simpa using o6
    have h7:A W b (o'+i) (U x):=by
     rw[HO.out Zo,Nat.add_assoc,Nat.add_comm 1 i];exact(t.out.hb.cell (p:=⟨b,o+(i+1),none⟩) (show b<w.heap.size by omega)).trans h7
    have cV:=cell_of_one t.out.hv;have r3:w.heap.size<W.heap.size:=lt_of_block t.out.hv;have q0:w1.heap.size+1<W.heap.size:=lt_of_block t.out.hm;go_wp2_with (go_at_call 147;refine(lj _ _ _).mono ?_;rintro e w2 ⟨rfl,rfl⟩)
    have b5:ns.drop i=x::ns.drop (i+1):=by
     rw[Qn Zo]
     congr 1
     have:=Jd (l:=ns) (i:=i) Zo;rw[hx] at this;exact(Nt this).symm
    have hp:=a5.out;rw[b5] at hp;obtain⟨pr,d0,old,l2,a6,a2,h5,b6⟩:=hp;have m5:(((W.alloc (I #[U (-1)] 3)).alloc (I #[Q bv] 192)).alloc (I #[U x] 3)).heap.size=W.heap.size+3:=by simp
    have b0:DomMem w (((W.alloc (I #[U (-1)] 3)).alloc (I #[Q bv] 192)).alloc (I #[U x] 3)) bv w1.heap.size (w.heap.size+2) n idom:=
     ((t.out.kept (Uo W _ none) (fun _ e=>by cases e)).kept (Uo _ _ none) (fun _ e=>by cases e)).kept (Uo _ _ none) (fun _ e=>by cases e)
    have b7:Boxed (((W.alloc (I #[U (-1)] 3)).alloc (I #[Q bv] 192)).alloc (I #[U x] 3)) W.heap.size 3 (U (-1)):=((Boxed.new W _ _).alloc _).alloc _;have i8:KeepsFrom 0 W (((W.alloc (I #[U (-1)] 3)).alloc (I #[Q bv] 192)).alloc (I #[U x] 3)):=((uh _ _).trans (uh _ _)).trans (uh _ _);obtain⟨bp,op,len,p1,ar,n1,b4,r1,m1⟩:=jt HV.out (b0.hb.mono hC) l2 (Bv:=W.heap.size+1) (Bn:=W.heap.size+1+1) (cell_of_one (zB (zI Zs))) (cell_of_one (zI Zs));generalize (((W.alloc (I #[U (-1)] 3)).alloc (I #[Q bv] 192)).alloc (I #[U x] 3))=W4 at m5 b0 b7 i8 b4 ⊢;have n2:=Ja a6;have HC:=Ja b6;have r4:=Ja a2
    refine(wpIn_wide (n:=100)).1 (wpIn_rangeFunc_ownG rfl Zd (gf:=152) (lb:=#[Q (W.heap.size+1),Q (W.heap.size+1+1)]) rfl trivial (enters_of Tryz.func152 Zk rfl)
     (nH 99 Zd (W.heap.size+1) (W.heap.size+1+1) x pr bv bp op len p1 ar n1 (p3.out pr (Ji l2)) W4 b4) (fun h k x=>k (h x)) (fun V l o o' hl ho hc _ h=>h.keptObj (grownBy_putObj' V l o') (fun r e=>by cases e;exact⟨o,ho,hc⟩)) (Below.refl _ _) (fun _=>rfl)
     (fun pre V=>DomMem w V bv w1.heap.size (w.heap.size+2) n idom/\KeepsFrom 0 W4 V/\∃d,Boxed V W.heap.size 3 (U d)/\OkD idom d/\wi idom f (pre.map (·.1)) (-1) d) (fun _ _ _=>False)
     ?own (fun _ _ _ _ _ hs _ _=>hs) ⟨b0,KeepsFrom.refl _ _,-1,b7,.inl rfl,rfl⟩ ?a1 ?assign ?body ?done ?stop)
    case own=>
     rintro s X Y row ⟨hd,hk,d,hb,ho,hp⟩ hg hr;exact⟨hd.own hg (fun r e=>(hr r e).2) (fun r e=>by have:=(hr r e).1;omega),ownFrom_keepsFrom (β:=Unit) (Je W4.heap.size) () X Y row hk hg hr,d,hb.kept hg (fun e=>by have:=(hr _ e.symm).1;omega),ho,hp⟩
    case assign=>
     intro l x W K hK
     gi_wp2
     exact hK
    case body=>
     clear h7 b4 b0 b7 a2 a6 b6 h5 hx b5 e0 cV;rintro l pre ⟨p,hp⟩ V ⟨hd,hk,d,hb,ho,b2⟩ p8;have a8:(pre++ [(⟨p,hp⟩: {p//p∈pr})]).map (fun x=>x.1)=pre.map (fun x=>x.1)++ [p]:=by rw[Js];rfl
     have a8:=Ja a8;obtain⟨hpl,a6⟩:=n2.out p hp;obtain⟨d1,l5,k3⟩:=a6 d ho;obtain⟨x0,h9,l3⟩:=k3;have HD:=Ja hd;have HK:=Ja hk;have HB:=Ja hb;have b3:=Ja (Jb l5 (b2.snoc ⟨x0,h9,l3⟩));have cI:=cell_of_one hd.hi;have cM:=cell_of_one hd.hm;have cD:=hb.cell;have fD:=hb.frozen;have n7:p<n:=by rw[<-hd.hl];exact hpl
     have cr:A V (w.heap.size+2) p (U x0):=zA hd.hr (by simp[h9]);have q4:(p:Int)<n:=Zo;clear hd hk hb b2 ho l5 a6 h9 hpl;rcases l3 with⟨i2,rfl⟩|⟨i2,r0,rfl⟩|⟨i2,dn,rfl,o3,k2,r,k4,rfl⟩
     ·gi_wp2
      refine(show _/\_/\_ from⟨KeepsFrom.refl _ _,fun h=>h,HD.out,HK.out,_,HB.out,b3.out.1,?_⟩);rw[a8.out];exact b3.out.2
     ·gi_wp2
      refine(show _/\_/\_ from⟨(uu HB.out _).from0 _,fun h=>h.set _ Zo Zo Zo Zo (fun j y hj a e=>by have:=m1 j y hj a e;omega),HD.out.kept (grownBy_setCell' V _ _) (fun r e=>by cases e;have:=HD.out.lt;omega),HK.out.trans (uu HB.out _),_,HB.out.set _,b3.out.1,?_⟩)
      show wi idom f ((pre++ [(⟨p,hp⟩: {p//p∈pr})]).map (fun x=>x.1)) (-1) _
      rw[a8.out];exact b3.out.2
     ·have hnd:¬(dn:Int)<0:=Zo
      gi_wp2
      obtain⟨ov,bm',q1,n3,e0,e1,e2,n8,l7,p5,n6,q7⟩:=HV.out.below (HD.out.hb.mono hC);refine⟨trivial,CallsIn.inRound l (callsIn_wide.2 ((meet_any V w.heap.size w1.heap.size bv bm' n3 (w.heap.size+2) f idom (by rw[HD.out.hl];exact hn) (cell_of_one HD.out.hv) e1 l7 (by rw[HD.out.hl];exact cI) HD.out.hr k2 p dn r (by rw[HD.out.hl];exact n7) o3 k4).mono ?_))⟩;rintro e V2 ⟨rfl,m,rfl⟩;clear e0 e1 e2 n8 l7 n6
      gi_wp2
      have m4:Boxed (V.drewN m) W.heap.size 3 (U dn):=HB.out;have l9:V.grownBy (V.drewN m) none:=⟨rfl,rfl,rfl,Je _,fun _ _ _=>rfl⟩
      have l8:KeepsFrom 0 V ((V.drewN m).setCell ⟨W.heap.size,0,none⟩ (U r)):=(uW V m).trans (uu m4 _);refine(show _/\_/\_ from⟨l8.from0 _,fun h=>(h.keptObj l9 (fun r e=>by cases e)).set _ Zo Zo Zo Zo (fun j y hj a e=>by have:=m1 j y hj a e;omega),(HD.out.kept l9 (fun r e=>by cases e)).kept (grownBy_setCell' _ _ _) (fun r e=>by cases e;have:=HD.out.lt;omega),HK.out.trans l8,_,m4.set _,b3.out.1,?_⟩)
      show wi idom f ((pre++ [(⟨p,hp⟩: {p//p∈pr})]).map (fun x=>x.1)) (-1) _
      rw[a8.out];exact b3.out.2
    case done=>
     rintro D xs V hD n4 ⟨hd,hk,d,hb,ho,b2⟩ m2;rw[n4] at b2;obtain rfl:=wi.unique b2 a2;have cI:=cell_of_one hd.hi;have cD:=hb.cell;have cr:A V (w.heap.size+2) x (U old):=zA hd.hr (by simp[h5]);have fr:V.frozen? ⟨w.heap.size+2,x,none⟩=false:=zE hd.hr;have q3:(x:Int)<n:=Zo;have HD:=Ja hd;have m3:=Ja (HM.out.push (i8.trans hk) Zo (by have:=t.out.hb.size;omega) m2);clear hd hk hb ho b2 m2 h7 b4 b0 b7 a2 a6 b6 h5 hx b5 e0 cV;rcases HC.out with⟨rfl,a4⟩|⟨o0,a4⟩
     ·have j2:=Ja a4;clear a4;have o9:(old !=old)=false:=by simp
      go_wp2;go_quiet (fail);go_wp2;have j0:V.grownBy (V.drewN nq) none:=⟨rfl,rfl,rfl,Je _,fun _ _ _=>rfl⟩
      refine⟨j-1,by omega,i+1,ch,_,_,_,_,_,_,_,_,_,_,_,_,_,_,_,_,_,_,_,_,_,_,_,_,_,_,_,_,_,_,_,_,_,_,_,_,_,_,_,_,_,_,(by rw[Int.natCast_add];rfl),by omega,m3.out.keeps (uW V nq),idom,HD.out.kept j0 (fun r e=>by cases e),j2.out⟩
     ·have j2:=Ja a4;clear a4;have o9:(old !=d)=true:=by simpa using o0
      go_wp2;go_quiet (fail);go_wp2;have j0:V.grownBy (V.drewN nq) none:=⟨rfl,rfl,rfl,Je _,fun _ _ _=>rfl⟩
      refine⟨j-1,by omega,i+1,true,_,_,_,_,_,_,_,_,_,_,_,_,_,_,_,_,_,_,_,_,_,_,_,_,_,_,_,_,_,_,_,_,_,_,_,_,_,_,_,_,_,_,(by rw[Int.natCast_add];rfl),by omega,(m3.out.keeps (uW V nq)).keeps (uu (W:=V.drewN nq) HD.out.hr _),idom.set x d,(HD.out.kept j0 (fun r e=>by cases e)).set x d,j2.out⟩
    case stop=>
     rintro D c pre V _ _ h _;exact h.elim
   ·go_wp2;obtain rfl:i=ns.length:=by omega
    have hp:=a5.out;rw[List.drop_length] at hp;obtain⟨rfl,rfl⟩:=hp;refine⟨k,by omega,?_⟩;rcases k5.out with⟨rfl,rfl⟩|⟨rfl,h⟩
    ·exact .inl ⟨_,⟨rfl,rfl⟩,HM.out,t.out⟩
    ·exact .inr ⟨_,⟨rfl,rfl⟩,HM.out,_,t.out,h⟩
end Go.Proofs.YtoahcpkibpomcaaGreat
