/- Part of a proof. -/
import Derived.Test.YtojclalkfhoooaaGRShp
set_option linter.all false
set_option maxHeartbeats 1000000
set_option maxRecDepth 100000
namespace Go.Proofs.Ytojclalkfhoooaa
open Go.RowKit
def g8 (s:Nat):Nat:=(s*1664525+1013904223)%4294967296
def gx (s:Nat):Nat->Nat
 |0=>s
 |k+1=>g8 (gx s k)
def gF (s k:Nat):Nat:=gx s (k+1)/16777216
def gD (s n:Nat):List Nat:=(List.range n).map (gF s)
theorem nextS_lt (s:Nat):g8 s<4294967296:=Qj _ Zd
theorem eT {s:Nat}(h:s<4294967296):∀k,gx s k<4294967296
 |0=>h
 |k+1=>nextS_lt _
theorem gT (s n:Nat):(gD s n).length=n:=by simp[gD]
def aaU (s n k:Nat):List Nat:=(List.range n).map fun j=>if j<k then gF s j else 0
theorem gz (s n:Nat):aaU s n 0=List.replicate n 0:=by
 apply Oq;intro j;unfold aaU;rw[Jr,Nm]
 by_cases h:j<n
 ·rw[Oh h,if_pos h];rfl
 ·rw[Of (by simpa using h),if_neg h];rfl
theorem gt (s n:Nat):aaU s n n=gD s n:=by
 unfold aaU gD;exact Up fun j hj=>if_pos (Ol.1 hj)
theorem gG (s n k:Nat):(aaU s n k).length=n:=by simp[aaU]
theorem fL (s n:Nat){k:Nat}(h:k<n):(aaU s n k).set k (gF s k)=aaU s n (k+1):=by
 apply Oq;intro j;rw[Ov,gG];unfold aaU;rw[Jr,Jr]
 by_cases e:k=j
 ·subst e;rw[if_pos rfl,if_pos h,Oh h]
  show some _=some (if k<k+1 then gF s k else 0)
  rw[if_pos Zo]
 ·rw[if_neg e]
  by_cases c:j<n
  ·rw[Oh c]
   show some (if j<k then gF s j else 0)=some (if j<k+1 then gF s j else 0)
   by_cases h2:j<k
   ·rw[if_pos h2,if_pos Zo]
   ·rw[if_neg h2,if_neg Zo]
  ·rw[Of (by simpa using c)];rfl
def aap (w:World)(s:ByteArray)(e:Ending)(w':World):Prop:=e=.returned (.string s)/\F w w'
theorem eR (w:World)(s n:Nat)(hs:s<4294967296)(u:n<=1000000):Y 33 #[.int .u32 (s:Int),A n] w (aap w (y9 (gD s n))):=by
 have y:=run_make_row' (P:=Try.prog) 37 5 (.int .u8 0) 1 Try.underlying37 Try.info_u8 rfl .i64 .i64 n Zo Zo
 have m:∀(ts:Array TypeId) (t:TypeId) (W:World),(Builtin.max_ ts t #[A 0,A n]).run Try.prog W=.ok (A n) W:=fun ts t W=>by
  rw[run_max_int2]
  split
  ·rfl
  ·have:n=0:=Zo;subst this;rfl
 have a4:n<=9223372036854775807:=Zo;have HN:=Ja (Jb hs u)
 have l:L (w.alloc (U (madeCells #[.int .u8 0] n) 5)) w.heap.size ((aaU s n 0).map wz).toArray 5:=by
  rw[zI rfl,yA,gz,List.map_replicate];rfl
 have j:F w (w.alloc (U (madeCells #[.int .u8 0] n) 5)):=(Below.refl _ _).alloc (Je _) _;have a3:(w.alloc (U (madeCells #[.int .u8 0] n) 5)).heap.size=w.heap.size+1:=by simp
 clear hs u;go_enter Try.func33,Try.ntmps33;go_upto_region 2 with fail;generalize a2:w.alloc (U (madeCells #[.int .u8 0] n) 5)=W0 at *;generalize a1:w.heap.size=bb at *;have H0:=Ja (Jb l j);clear l j a2 y m;go_wp2
 go_loopw [0,6] (fun sv kv wx=>∃(k z:Nat),k<=n/\sv=.int .u32 (z:Int)/\kv=A k/\Hid (z=gx s k/\L wx bb ((aaU s n k).map wz).toArray 5/\Below bb w wx)) (fun _ kv _=>n-(intOf kv).toNat)
 case atStart=>exact⟨0,s,Jt _,rfl,rfl,Ja ⟨rfl,H0.out.1,H0.out.2⟩⟩
 case round=>
  obtain⟨k,z,hk,rfl,rfl,c⟩:=hrel
  by_cases g:k<n
  ·have o:(k:Int)<n:=Zo;have h:=Ja g;have hz:z<4294967296:=by rw[c.out.1];exact eT HN.out.1 k
   obtain⟨x,r⟩:∃x,(aaU s n k)[k]? =some x:=⟨_,Jd (by rw[gG];exact g)⟩
   have cx:G wr bb k (.int .u8 (x:Int)):=zA c.out.2.1 (by simp[r,wz]);have fx:T wr bb k:=zE c.out.2.1;clear g r;go_wp2;have e1:((z:Int)*1664525%4294967296+1013904223)%4294967296=((g8 z:Nat):Int):=by unfold g8;omega
   have e2:((z:Int)*1664525+1013904223)%4294967296/16777216=((g8 z/16777216:Nat):Int):=by unfold g8;omega
   have i:g8 z=gx s (k+1):=by rw[c.out.1];rfl
   have a0:g8 z/16777216=gF s k:=by rw[i];rfl
   rw[e1,e2];refine⟨⟨k+1,g8 z,h.out,rfl,by go_num,Ja ⟨i,?_,c.out.2.2.setCell Zs _⟩⟩,by have:=h.out;simp[intOf];omega⟩;rw[zD c.out.2.1,a0,<-fL s n h.out];simp[Ox,wz]
  ·obtain rfl:k=n:=by omega
   have o:¬(k:Int)<k:=Zo;have d:=c.out.2.1;rw[gt] at d;have a5:=pN d (gT s k);have HC:=Ja c.out.2.2;clear g d;go_wp2;go_ret;exact⟨rfl,by rw[a1];exact HC.out⟩
structure SetF where
 inn:List Nat
 irq:List Nat
 ram:Nat
 fuel:Nat
structure SetIn (w:World) (B:Nat) (v:Value) (x:SetF):Prop where
 form:∃(ia:Option Addr) (ic:Nat) (qa:Option Addr) (qc:Nat),v=.agg #[.slice ia x.inn.length ic,.slice qa x.irq.length qc,.int .u32 (x.ram:Int),.int .u16 (x.fuel:Int)]/\wV w B (.slice ia x.inn.length ic) x.inn/\dL w B (.slice qa x.irq.length qc) x.irq
 ram:x.ram<4294967296
 fuel:x.fuel<65536
theorem SetIn.below {w w':World}{B:Nat}{v:Value}{x:SetF}(h:SetIn w B v x)(hb:Below B w w'):SetIn w' B v x:=
 ⟨by obtain⟨ia,ic,qa,qc,e,h1,h2⟩:=h.form;exact⟨ia,ic,qa,qc,e,h1.below zr hb,h2.below xQ hb⟩,h.ram,h.fuel⟩
theorem SetIn.mono {w:World}{B B':Nat}{v:Value}{x:SetF}(h:SetIn w B v x)(hb:B<=B'):SetIn w B' v x:=
 ⟨by obtain⟨ia,ic,qa,qc,e,h1,h2⟩:=h.form;exact⟨ia,ic,qa,qc,e,h1.mono zr hb,h2.mono xQ hb⟩,h.ram,h.fuel⟩
def aaX (x:SetF):ByteArray:=if x.ram=0 then⟨#[]⟩ else y9 (gD x.ram (272+x.ram%3*5000))
theorem fq {w:World}{v:Value}{x:SetF}(h:SetIn w w.heap.size v x):Y 26 #[v] w (fun e w'=>e=.returned (A ((x.fuel%3000:Nat):Int))/\F w w'):=by
 obtain⟨ia,ic,qa,qc,rfl,h1,h2⟩:=h.form;have hf:=h.fuel;have c:=(Below.refl w.heap.size w).alloc (Je _) (U #[.slice ia x.inn.length ic,.slice qa x.irq.length qc,.int .u32 (x.ram:Int),I (x.fuel:Int)] 41);have d:=Ja c;rw[show((x.fuel%3000:Nat):Int)=(x.fuel:Int)%3000 from by omega];clear h h1 h2 c;go_enter Try.func26,Try.ntmps26;go_wp2;go_ret;exact⟨rfl,d.out⟩
theorem gC {w:World}{v:Value}{x:SetF}(h:SetIn w w.heap.size v x):Y 24 #[v] w (aap w (aaX x)):=by
 obtain⟨ia,ic,qa,qc,rfl,h1,h2⟩:=h.form;have hf:=h.ram;have j:=(Below.refl w.heap.size w).alloc (Je _) (U #[.slice ia x.inn.length ic,.slice qa x.irq.length qc,.int .u32 (x.ram:Int),I (x.fuel:Int)] 41);have d:=Ja j;clear h h1 h2 j
 by_cases c:x.ram=0
 ·have k:(x.ram:Int)=0:=Zo;have hr:aaX x=⟨#[]⟩:=by unfold aaX;rw[if_pos c]
  rw[hr];clear hr;rw[k] at d ⊢;clear c k hf;go_enter Try.func24,Try.ntmps24;go_wp2;go_ret;exact⟨rfl,d.out⟩
 ·have k:¬(x.ram:Int)=0:=Zo;have hr:aaX x=y9 (gD x.ram (272+x.ram%3*5000)):=by unfold aaX;rw[if_neg c]
  obtain⟨n,l⟩:∃n,272+x.ram%3*5000=n:=⟨_,rfl⟩
  have r:(272:Int)+(x.ram:Int)%3*5000=(n:Int):=Zo;have g:n<=1000000:=Zo;rw[hr,l];have m:=Ja (Jb hf g);clear hr l g c;go_enter Try.func24,Try.ntmps24;go_wp2_with (go_at_call 33;go_must (refine(eR _ x.ram n m.out.1 m.out.2).mono ?_;rintro e w1 ⟨rfl,i⟩;have o:=Ja i;clear i))
  go_ret;exact⟨rfl,d.out.trans (o.out.mono d.out.size)⟩
def fI (w:World)(x:SetF)(e:Ending)(w':World):Prop:=∃(ia:Option Addr) (ic:Nat) (qa:Option Addr) (qc:Nat),e=.returned (.agg #[.slice ia (x.inn.take 20).length ic,.slice qa (x.irq.take 20).length qc])/\wV w' w.heap.size (.slice ia (x.inn.take 20).length ic) (x.inn.take 20)/\dL w' w.heap.size (.slice qa (x.irq.take 20).length qc) (x.irq.take 20)/\F w w'
theorem fi {w:World}{v:Value}{x:SetF}(h:SetIn w w.heap.size v x):Y 25 #[v] w (fI w x):=by
 obtain⟨ia,ic,qa,qc,rfl,h1,h2⟩:=h.form;have t1:=lw h1 20;have t2:=lw h2 20;obtain⟨i1,y,u⟩:=gj x.inn.length 20;obtain⟨q1,l,j⟩:=gj x.irq.length 20;have a6:∀(ts:Array TypeId) (t:TypeId) (W:World),(Builtin.min_ ts t #[A (x.inn.length:Int),A 20]).run Try.prog W=.ok (A i1) W:=fun ts t W=>by rw[y];exact run_min_int2 ..
 have a5:∀(ts:Array TypeId) (t:TypeId) (W:World),(Builtin.min_ ts t #[A (x.irq.length:Int),A 20]).run Try.prog W=.ok (A q1) W:=fun ts t W=>by rw[l];exact run_min_int2 ..
 obtain⟨a1,c1,e1,b3,_⟩:=h1.form;obtain⟨a2,c2,e2,b2,_⟩:=h2.form;cases e1;cases e2;have b1:(i1:Int)<=(ic:Int):=Zo;have b0:(q1:Int)<=(qc:Int):=Zo;have r:(x.inn.take 20).length=i1:=by rw[Oc];omega
 have m:(x.irq.take 20).length=q1:=by rw[Oc];omega
 rw[<-u] at t1;rw[<-j] at t2;have HT:=Ja (Jb t1 t2);unfold fI;rw[r,m];have a0:=((Below.refl w.heap.size w).alloc (Je _) (U #[.slice ia x.inn.length ic,.slice qa x.irq.length qc,.int .u32 (x.ram:Int),I (x.fuel:Int)] 41)).alloc Zs (U #[O,O] 61);have HB:=Ja a0;clear h h1 h2 a0 y u l j t1 t2 r m;generalize x.inn.length=n1 at *;generalize x.irq.length=n2 at *;have x0:=zB (o:=U #[O,O] 61) (zI (W:=w) (o:=U #[.slice ia n1 ic,.slice qa n2 qc,.int .u32 (x.ram:Int),I (x.fuel:Int)] 41) rfl);have HX:=Ja x0;clear x0;go_enter Try.func25,Try.ntmps25;go_upto_region 1 with fail;generalize hW:(w.alloc (U #[.slice ia n1 ic,.slice qa n2 qc,.int .u32 (x.ram:Int),I (x.fuel:Int)] 41)).alloc (U #[O,O] 61)=W at *;have a3:(w.alloc (U #[.slice ia n1 ic,.slice qa n2 qc,.int .u32 (x.ram:Int),I (x.fuel:Int)] 41)).heap.size=w.heap.size+1:=by simp
 have d:=HX.out;have c:=zI (W:=w.alloc (U #[.slice ia n1 ic,.slice qa n2 qc,.int .u32 (x.ram:Int),I (x.fuel:Int)] 41)) (o:=U #[O,O] 61) (B:=w.heap.size+1) Zs;have a4:=HB.out;rw[hW] at c;have HC:=Ja (show ∀W':World,(∀k,k=w.heap.size->W'.heap[k]? =W.heap[k]?)->G W' w.heap.size 0 (.slice ia n1 ic)/\G W' w.heap.size 1 (.slice qa n2 qc) from fun W' h=>⟨zA ((h _ rfl).trans d) rfl,zA ((h _ rfl).trans d) rfl⟩);have k0:=zA (i:=0) c rfl;have k1:=zA (i:=1) c rfl;have kf:∀i,T W (w.heap.size+1) i:=fun i=>zE c
 have kl:=lt_of_block c;have a7:=lt_of_block d;clear HX HB a3 hW
 go_region_held3 (fun w'=>G w' w.heap.size 0 (.slice ia n1 ic)/\G w' w.heap.size 1 (.slice qa n2 qc))
  ((refine HC.out _ ?_;rintro k rfl;repeat' (first|(rw[Below.heap_setCell _ _ _ _ (by show w.heap.size≠w.heap.size+1;omega)])|(rw[show ∀v:World,v.drew.heap=v.heap from fun _=>rfl])|exact rfl)))
  (fail)
 all_goals go_wp2_with fail
 all_goals
  have z0:=zD (i:=0) c (.slice ia i1 ic);have z1:=zD (i:=1) z0 (.slice qa q1 qc);have y0:=zA (i:=0) z1 rfl;have y1:=zA (i:=1) z1 rfl;have yl:=lt_of_block z1;have g:F w ((W.setCell ⟨w.heap.size+1,0,none⟩ (.slice ia i1 ic)).setCell ⟨w.heap.size+1,1,none⟩ (.slice qa q1 qc)):=(a4.setCell (by show w.heap.size<=w.heap.size+1;omega) _).setCell (by show w.heap.size<=w.heap.size+1;omega) _;refine bodyPost_ret (v:=.agg #[.slice ia i1 ic,.slice qa q1 qc]) ?_ rfl ?_
  ·rw[zM rfl];generalize (W.setCell ⟨w.heap.size+1,0,none⟩ (.slice ia i1 ic)).setCell ⟨w.heap.size+1,1,none⟩ (.slice qa q1 qc)=Z at *;go_simp
  ·exact⟨ia,ic,qa,qc,rfl,HT.out.1.below zr g.drew,HT.out.2.below xQ g.drew,g.drew⟩
theorem acn {w:World}{x k i p q:Int}{n:Nat}{S:ByteArray}{l:List (Nat×Nat)}{o1 o2:Option Addr}{c1 c2:Nat}(hn:l.length=n)(a4:n<=9223372036854775807)(h1:vM w w.heap.size (.slice o1 n c1) l)(h2:vM w w.heap.size (.slice o2 n c2) l):
 Y 22 #[.agg #[I x,.slice o1 n c1,A k,I i,.string S,A p,A q],.agg #[I x,.slice o2 n c2,A k,I i,.string S,A p,A q]] w (ym w true):=by
 have a0:=((Below.refl w.heap.size w).alloc (Je _) (U #[I x,.slice o1 n c1,A k,I i,.string S,A p,A q] 57)).alloc Zs (U #[I x,.slice o2 n c2,A k,I i,.string S,A p,A q] 57);have y:=zB (o:=U #[I x,.slice o2 n c2,A k,I i,.string S,A p,A q] 57) (zI (W:=w) (o:=U #[I x,.slice o1 n c1,A k,I i,.string S,A p,A q] 57) rfl);have u:=zI (W:=w.alloc (U #[I x,.slice o1 n c1,A k,I i,.string S,A p,A q] 57)) (o:=U #[I x,.slice o2 n c2,A k,I i,.string S,A p,A q] 57) (B:=w.heap.size+1) Zs;have HX:=Ja (Jb a0 (Jb y u));have HE:=Ja (Jb h1 (Jb h2 hn));clear a0 y u h1 h2 hn;go_enter Try.func22,Try.ntmps22;go_wp2
 go_loopw [5] (fun jv wx=>∃j:Nat,j<=n/\jv=A j/\∃t,wx=((w.alloc (U #[I x,.slice o1 n c1,A k,I i,.string S,A p,A q] 57)).alloc (U #[I x,.slice o2 n c2,A k,I i,.string S,A p,A q] 57)).drewN t) (fun jv _=>n-(intOf jv).toNat)
 case atStart=>exact⟨0,Jt _,rfl,0,rfl⟩
 case round=>
  obtain⟨j,hj,rfl,t,d⟩:=hrel;have c:F w wr:=by rw[d];exact yC HX.out.1
  have m:L wr w.heap.size #[I x,.slice o1 n c1,A k,I i,.string S,A p,A q] 57:=by rw[d];exact HX.out.2.1
  have h:L wr (w.heap.size+1) #[I x,.slice o2 n c2,A k,I i,.string S,A p,A q] 57:=by rw[d];exact HX.out.2.2
  have d1:=zA (i:=1) m rfl;have d2:=zA (i:=1) h rfl;have l1:=lt_of_block m;have l2:=lt_of_block h;have HW:=Ja d;have HB:=Ja c;clear d m h
  by_cases g:j<n
  ·have a1:(j:Int)<(n:Int):=Zo;have HJ:=Ja g;obtain⟨ev,r⟩:∃ev,l[j]? =some ev:=⟨_,Jd (by rw[HE.out.2.2];exact g)⟩
   obtain⟨e1,f1,rfl,a6,b2,b0,_⟩:=(HE.out.1.below vo c).get r;obtain⟨e2,f2,rfl,a5,b1,a7,_⟩:=(HE.out.2.1.below vo c).get r;have hs:=c.size;have a3:e1<wr.heap.size:=Zo;have a2:e2<wr.heap.size:=Zo;clear g c r;go_wp2;go_quiet (fail);go_wp2;go_roundw
   case rel=>exact⟨j+1,HJ.out,by go_num,_,by rw[HW.out,World.drewN_drewN]⟩
   case measure=>have:=HJ.out;simp[intOf];omega
  ·obtain rfl:j=n:=by omega
   have a1:¬(j:Int)<(j:Int):=Zo;clear g c;go_wp2;go_ret;exact⟨rfl,HB.out⟩
end Go.Proofs.Ytojclalkfhoooaa
set_option maxRecDepth 100000
namespace Go.Proofs.Ytojclalkfhoooaa
open Go.ChangeShapes Go.WideShapes Go.ChangeAt Go.RowKit
section
variable {H:Type} {enc:TypeId×Value->H} {W:World} {fuel:Nat} {u:Value} {x:DataW H×List MemPlace}
theorem bytes_at (hf:DataW.trod enc Try.prog W 0 (fun _=>true) true fuel 37 [u]=some x):∃row:List Nat,dL W W.heap.size u row:=
 fP Try.underlying37 Try.underlying5 Zk U8R Int.toNat (fun b o z hz hc=>by
  have h:0<=z/\z<=255:=by simpa[Lit.wf,IntKind.min,IntKind.max,IntKind.signed,IntKind.bits] using hz
  exact⟨by rw[hc,Oa h.1],by omega⟩) hf
theorem words_at (hf:DataW.trod enc Try.prog W 0 (fun _=>true) true fuel 36 [u]=some x):∃row:List Nat,wV W W.heap.size u row:=
 fP Try.underlying36 Try.underlying39 Zk U16R Int.toNat (fun b o z hz hc=>by
  have h:0<=z/\z<=65535:=by simpa[Lit.wf,IntKind.min,IntKind.max,IntKind.signed,IntKind.bits] using hz
  exact⟨by rw[hc,Oa h.1],by omega⟩) hf
end
end Go.Proofs.Ytojclalkfhoooaa
set_option maxRecDepth 100000
namespace Go.Proofs.Ytojclalkfhoooaa
open Go.ChangeShapes Go.WideShapes Go.ChangeAt Go.RowKit
theorem a8 {z:Int}(h:(Lit.int .u16 z).wf=true):∃x:Nat,z=(x:Int)/\x<65536:=by
 have h:0<=z/\z<=65535:=by simpa[Lit.wf,IntKind.min,IntKind.max,IntKind.signed,IntKind.bits] using h
 exact⟨z.toNat,by rw[Oa h.1],by omega⟩
end Go.Proofs.Ytojclalkfhoooaa
set_option maxRecDepth 100000
namespace Go.Proofs.Ytojclalkfhoooaa
open Go.ChangeShapes Go.WideShapes Go.ChangeAt Go.RowKit
section
variable {H:Type} {enc:TypeId×Value->H} {W:World} {v:Value} {d:DataW H} {p:List MemPlace} {r:Go.Reach} {base:Nat}
theorem fz (hv:Value.okWide Try.prog W r base 41 v)(j:DataW.Trod enc Try.prog W 0 (fun _=>true) true 41 v d p):∃x:SetF,SetIn W W.heap.size v x:=by
 obtain⟨cs,rfl,g⟩:=okWide_struct Try.underlying41 hv;have c6:Try.prog.cellsOf 41=4:=by kernel_rfl
 have c1:Try.prog.cellsOf 36=1:=by kernel_rfl
 have c2:Try.prog.cellsOf 37=1:=by kernel_rfl
 have c3:Try.prog.cellsOf 38=1:=by kernel_rfl
 have c4:Try.prog.cellsOf 39=1:=by kernel_rfl
 rw[c6] at g
 obtain⟨u0,u1,u2,u3,rfl⟩:∃u0 u1 u2 u3,cs=#[u0,u1,u2,u3]:=by
  match cs,g with
  |⟨[u0,u1,u2,u3]⟩,_=>exact⟨u0,u1,u2,u3,rfl⟩
 obtain⟨fuel,hf⟩:=j;obtain⟨xs,n,_,_,_,i,c⟩:=DataW.trod_struct Try.underlying41 hf;have k:xs.length=4:=i;have g0:DataW.trod enc Try.prog W 0 (fun _=>true) true n 36 (([u0,u1,u2,u3].drop 0).take (Try.prog.cellsOf 36))=xs[0]?:=c 0 _ rfl;have g1:DataW.trod enc Try.prog W 0 (fun _=>true) true n 37 (([u0,u1,u2,u3].drop 1).take (Try.prog.cellsOf 37))=xs[1]?:=c 1 _ rfl;have g2:DataW.trod enc Try.prog W 0 (fun _=>true) true n 38 (([u0,u1,u2,u3].drop 2).take (Try.prog.cellsOf 38))=xs[2]?:=c 2 _ rfl;have g3:DataW.trod enc Try.prog W 0 (fun _=>true) true n 39 (([u0,u1,u2,u3].drop 3).take (Try.prog.cellsOf 39))=xs[3]?:=c 3 _ rfl;rw[c1] at g0;rw[c2] at g1;rw[c3] at g2;rw[c4] at g3;rw[Jd Zo] at g0 g1 g2 g3;obtain⟨z2,e2,_,w2⟩:=DataW.trod_int Try.underlying38 g2;obtain⟨z3,e3,_,w3⟩:=DataW.trod_int Try.underlying39 g3;simp at e2 e3 g0 g1;obtain⟨i1,h1⟩:=words_at g0;obtain⟨i2,h2⟩:=bytes_at g1;obtain⟨a1,k1,e0,_,_⟩:=h1.form;obtain⟨a2,k2,e1,_,_⟩:=h2.form;have w2:0<=z2/\z2<=4294967295:=by simpa[Lit.wf,IntKind.min,IntKind.max,IntKind.signed,IntKind.bits] using w2
 obtain⟨y3,rfl,h⟩:=a8 w3;obtain⟨y2,rfl⟩:∃y:Nat,z2=(y:Int):=⟨z2.toNat,by omega⟩
 subst e0 e1 e2 e3;exact⟨⟨i1,i2,y2,y3⟩,⟨a1,k1,a2,k2,rfl,h1,h2⟩,by show y2<4294967296;omega,h⟩
end
end Go.Proofs.Ytojclalkfhoooaa
