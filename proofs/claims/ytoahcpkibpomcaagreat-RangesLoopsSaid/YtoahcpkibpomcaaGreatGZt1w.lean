/- Part of a proof. -/
import Derived.Test.YtoahcpkibpomcaaGreatGCal1w
import Derived.Test.YtoahcpkibpomcaaGreatGZx3w
set_option linter.all false
set_option maxHeartbeats 16000000
set_option maxRecDepth 100000
namespace Go.Proofs.YtoahcpkibpomcaaGreat
variable {l:List (Nat×Nat)}{m m':Mach}{dp nx x y:Int}{c:Value}{o:IOp}{w w' w1 w9:World}{ac i j k:Nat}{K:MK}{call:ae1}{t:Slv}{bl:List IBlk}{qs:List (IOp×Value)}{X:List Row}
structure RepF where
 R:List Rg
 objs:List Int
 szs:List Int
 data:List IObj
variable {T:RepF}
def aeV (T:RepF)(a b:Nat×Nat):Prop:=
 (a.1=254->a.2<T.R.length/\b.1=255/\(T.R.getD a.2 ⟨0,0⟩).has b.2)/\
 (a.1=253->a.2<T.objs.length/\a.2<T.szs.length/\b.1=252/\(T.objs.getD a.2 0=-1∨((0<=T.objs.getD a.2 0/\(T.objs.getD a.2 0).toNat<T.data.length)/\(T.data.getD (T.objs.getD a.2 0).toNat ⟨0,0,0⟩).bank=-1/\(T.data.getD (T.objs.getD a.2 0).toNat ⟨0,0,0⟩).addr<=b.2/\(b.2:Int)+T.szs.getD a.2 0<=(T.data.getD (T.objs.getD a.2 0).toNat ⟨0,0,0⟩).addr+(T.data.getD (T.objs.getD a.2 0).toNat ⟨0,0,0⟩).size)))
def aeC (T:RepF):List (Nat×Nat)->Prop
 | []=>True
 | [_]=>True
 |a::b::l=>aeV T a b/\aeC T (b::l)
def outLast (l:List (Nat×Nat)):Prop:=∀e,l.getLast? =some e->e.1≠254/\e.1≠253
def afd (T:RepF)(l:List (Nat×Nat)):Prop:=aeC T l/\outLast l
theorem ajr{a b:Nat×Nat}(h:a.1≠254/\a.1≠253):aeV T a b:=⟨fun e=>absurd e h.1,fun e=>absurd e h.2⟩
theorem agH{e:Nat×Nat}:∀(l:List (Nat×Nat)),aeC T l->(∀a,l.getLast? =some a->aeV T a e)->aeC T (l++ [e])
 | [],_,_=>trivial
 | [a],_,h=>⟨h a rfl,trivial⟩
 |a::b::l,h1,h2=>⟨h1.1,agH (b::l) h1.2 fun x hx=>h2 x (by rw[List.getLast?_cons_cons];exact hx)⟩
theorem agK(h:afd T l)(e:Nat×Nat):aeC T (l++ [e]):=agH l h.1 fun a ha=>ajr (h.2 a ha)
theorem aiJ(h:afd T l){e:Nat×Nat}(c:e.1≠254/\e.1≠253):afd T (l++ [e]):=
 ⟨agK h e,fun a ha=>by rw[List.getLast?_concat] at ha;cases ha;exact c⟩
theorem aiW(h:afd T l){a b:Nat×Nat}(c:aeV T a b)(hb:b.1≠254/\b.1≠253):afd T (l++ [a]++ [b]):=
 ⟨agH _ (agK h a) fun x hx=>by rw[List.getLast?_concat] at hx;cases hx;exact c,fun x hx=>by rw[List.getLast?_concat] at hx;cases hx;exact hb⟩
theorem good_nil (T:RepF):afd T []:=⟨trivial,fun e h=>by cases h⟩
structure MG (T:RepF) (m:Mach):Prop where
 out:afd T m.out
 ram:∀b∈m.ram,b<256
theorem MG.pay(h:MG T m):MG T m.pay:=⟨h.out,h.ram⟩
theorem MG.put(h:MG T m){a x:Nat}(c:x<256):MG T (m.put a x):=⟨h.out,fun b hb=>by
 rcases Qe hb with hb|rfl
 ·exact h.ram b hb
 ·exact c⟩
theorem MG.at(h:MG T m)(a:Nat):tC m a<256:=by
 unfold tC;rw[Jj]
 cases e:m.ram[a-16384]? with
 |none=>exact Nat.zero_lt_succ _
 |some b=>exact h.ram b (Ji e)
theorem ajg (E:IEnv)(b a:Nat):tS E b a<256:=UInt8.toNat_lt _
def aeJ (T:RepF)(P:Nat->Prop):Res Nat->Prop
 |.ok x m=>P x/\MG T m
 |.trap _ _ m=>aeC T m.out
abbrev aje (x:Nat):Prop:=x<65536
def ajC (E:IEnv):Prop:=∀x∈E.inn,x<65536
theorem load_ok(h:MG T m)(a:Nat):aeJ T aje (pR m a):=by
 unfold pR;have h1:=h.at a;have h2:=h.at (j3 a)
 split
 ·split
  ·exact⟨by show _<65536;omega,h⟩
  ·exact h.out.1
 ·exact h.out.1
theorem loadb_ok(h:MG T m)(a:Nat):aeJ T (fun x=>x<256) (abh m a):=by
 unfold abh
 split
 ·exact⟨h.at a,h⟩
 ·exact h.out.1
theorem store_ok(h:MG T m)(a:Nat){x:Nat}(c:x<65536):aeJ T aje (sK m a x):=by
 unfold sK
 split
 ·split
  ·exact⟨by decide,(h.put Zo).put Zo⟩
  ·exact h.out.1
 ·exact h.out.1
theorem aiO(h:MG T m)(a x:Nat):aeJ T aje (td m a x):=by
 unfold td
 split
 ·exact⟨by decide,h.put Zo⟩
 ·exact h.out.1
theorem romr_ok{E:IEnv}(h:MG T m)(b a:Nat):aeJ T aje (im E m b a):=by
 unfold im;have h1:=ajg E b a;have h2:=ajg E b (j3 a)
 split
 ·split
  ·exact⟨by show _<65536;omega,h⟩
  ·exact h.out.1
 ·exact h.out.1
theorem romb_ok{E:IEnv}(h:MG T m)(b a:Nat):aeJ T (fun x=>x<256) (nX E m b a):=by
 unfold nX
 split
 ·exact⟨ajg E b a,h⟩
 ·exact h.out.1
theorem input_ok{E:IEnv}(c:ajC E)(h:MG T m):aeJ T aje (uq E m):=by
 unfold uq
 split
 ·refine⟨?_,⟨h.out,h.ram⟩⟩
  show _<65536
  rw[Jj]
  cases e:E.inn[m.inputs]? with
  |none=>exact Nat.zero_lt_succ _
  |some b=>exact c b (Ji e)
 ·exact⟨by decide,h⟩
theorem div_ok(h:MG T m){c:Int}(g:5<=c/\c<=17){a b:Nat}(i:a<65536)(hb:b<65536):aeJ T (fun x=>x=cw c a b/\¬(c=8/\b=0)) (iy m c a b):=by
 unfold iy
 split
 ·exact h.out.1
 ·rename_i d
  exact⟨⟨by unfold cw;rw[if_neg Zo,if_neg Zo],d⟩,h⟩
theorem aeJ.mono{P Q:Nat->Prop}{r:Res Nat}(h:aeJ T P r)(c:∀x,P x->Q x):aeJ T Q r:=by
 cases r with
 |ok x m=>exact⟨c x h.1,h.2⟩
 |trap k i m=>exact h
theorem plain_in{E:IEnv}(hE:ajC E)(h:MG T m)(hc:1<=o.code/\o.code<=25)(hp:o.code=25->o.n≠254/\o.n≠253){a b:Nat}(ha:a<65536)(hb:b<65536){A B:Rg}(hA:A.ok)(hB:B.ok)
 (d:(zi o.code).a=true->A.has a) (hy:(zi o.code).b=true->B.has b) (hn:o.n<65536):
 aeJ T (fun x=>x<65536/\((if o.code=1 then agu o.n else if o.code=2 then agu (((E.p.data.getD o.a.toNat ⟨0,0,0⟩).addr+o.n)%65536) else afL o.code A B)).has x) (mU E o a b m):=by
 have g:∀x,x<65536->aeS o.code A B=none->(afL o.code A B).has x:=fun x d hr=>by
  unfold afL;rw[hr];exact i5 d
 unfold mU
 by_cases h1:o.code=1
 ·rw[if_pos h1,if_pos h1];exact⟨⟨hn,ae0 _⟩,h⟩
 by_cases h2:o.code=2
 ·rw[if_neg h1,if_pos h2,if_neg h1,if_pos h2];exact⟨⟨Qj _ Zd,ae0 _⟩,h⟩
 rw[if_neg h1,if_neg h2,if_neg h1,if_neg h2]
 by_cases h3:o.code=3
 ·rw[if_pos h3];have:=ahv (c:=o.code) Zo (d (by rw[h3];rfl)) (y:=b) (b:=B) (.inr (.inl h3)) hb hA hB Zo;have e:cw o.code a b=(65536-a)%65536:=by unfold cw;rw[if_pos h3]
  rw[e] at this;exact⟨⟨Qj _ Zd,this⟩,h⟩
 rw[if_neg h3]
 by_cases j:o.code=4
 ·rw[if_pos j];have:=ahv (c:=o.code) Zo (d (by rw[j];rfl)) (y:=b) (b:=B) (.inr (.inr j)) hb hA hB Zo;have e:cw o.code a b=65535-a:=by unfold cw;rw[if_neg h3,if_pos j]
  rw[e] at this;exact⟨⟨by omega,this⟩,h⟩
 rw[if_neg j]
 by_cases a1:o.code=18
 ·rw[if_pos a1];exact(load_ok h a).mono fun x d=>⟨d,g x d (by rw[a1];rfl)⟩
 rw[if_neg a1]
 by_cases a0:o.code=19
 ·rw[if_pos a0];refine(loadb_ok h a).mono fun x d=>⟨by omega,?_⟩
  have:afL o.code A B=⟨0,255⟩:=by rw[a0];rfl
  rw[this];exact⟨Jt _,by show x<=255;omega⟩
 rw[if_neg a0]
 by_cases w:o.code=20
 ·rw[if_pos w];exact(store_ok h a hb).mono fun x d=>⟨d,g x d (by rw[w];rfl)⟩
 rw[if_neg w]
 by_cases u:o.code=21
 ·rw[if_pos u];exact(aiO h a b).mono fun x d=>⟨d,g x d (by rw[u];rfl)⟩
 rw[if_neg u]
 by_cases t:o.code=22
 ·rw[if_pos t];exact(romr_ok h o.n a).mono fun x d=>⟨d,g x d (by rw[t];rfl)⟩
 rw[if_neg t]
 by_cases l:o.code=23
 ·rw[if_pos l];refine(romb_ok h o.n a).mono fun x d=>⟨by omega,?_⟩
  have:afL o.code A B=⟨0,255⟩:=by rw[l];rfl
  rw[this];exact⟨Jt _,by show x<=255;omega⟩
 rw[if_neg l]
 by_cases k:o.code=24
 ·rw[if_pos k];exact(input_ok hE h).mono fun x d=>⟨d,g x d (by rw[k];rfl)⟩
 rw[if_neg k]
 by_cases i:o.code=25
 ·rw[if_pos i];exact⟨⟨by decide,g 0 Zd (by rw[i];rfl)⟩,⟨aiJ h.out (hp i),h.ram⟩⟩
 rw[if_neg i];have a3:5<=o.code/\o.code<=17:=Zo;refine(div_ok h a3 ha hb).mono fun x hx2=>?_
 obtain⟨rfl,hd⟩:=hx2
 have a2:zi o.code=⟨true,true,true,true,false⟩:=by
  unfold zi;rw[if_neg Zo,if_neg Zo,if_pos a3]
 exact⟨aga Zo ha hb hd,ahv Zo (d (by rw[a2])) (.inl (hy (by rw[a2]))) hb hA hB hd⟩
open Go.RowKit
abbrev Tr:=Option (Nat×Nat)
variable {tr:Tr}
def trK (tr:Tr):Nat:=(tr.getD (0,0)).1
def trI (tr:Tr):Nat:=(tr.getD (0,0)).2
def ep (K:MK)(m:Mach)(tr:Tr)(dp:Int)(ov:Value):Array Value:=
 #[K.V.fv,K.V.av,U K.E.p.entry,U K.E.p.handler,K.V.dv,K.V.bv,F K.rb 8192 8192,K.inv,K.irqv,U m.fuel,.bool tr.isSome,U dp,Y 0,ov,U (trK tr:Int),Y (trI tr:Int),.string ⟨#[]⟩,U (m.inputs:Int),U (m.polls:Int)]
structure MachQ (w:World) (K:MK) (m:Mach) (tr:Tr) (dp:Int) (ov:Value):Prop where
 blk:w.heap[K.pm]? =some (.cells (ep K m tr dp ov) 114 (0,0))
 ram:w.heap[K.rb]? =some (.cells (m.ram.map ly).toArray 5 (0,0))
 rlen:m.ram.length=8192
 rlt:∀x∈m.ram,x<256
 out:w.ownsRow K.B 117 2 ov m.out.length (qO m.out)
 olt:∀p∈m.out,p.1<65536/\p.2<65536
 obd:m.out.length+m.fuel.toNat<=4000000
 fuel:-1<=m.fuel/\m.fuel<=4000000/\(tr=none->0<=m.fuel)
 inp:m.inputs<=K.E.inn.length
 pol:m.polls<=K.E.irq.length
 gpm:K.B<=K.pm
 grb:K.B<=K.rb
 prog:ProgIn w K.B K.V K.E.p
 inn:wV w K.B K.inv K.E.inn
 irq:dL w K.B K.irqv K.E.irq
def di:Obj->Prop
 |.cells _ t _=>t≠114/\t≠117/\t≠5
 |_=>True
structure FrmQ (B:Nat) (w w':World):Prop where
 below:Below B w w'
 kept:∀(k:Nat) (o:Obj),w.heap[k]? =some o->di o->w'.heap[k]? =some o
theorem FrmQ.refl (B:Nat)(w:World):FrmQ B w w:=⟨Below.refl _ _,fun _ _ h _=>h⟩
theorem FrmQ.trans {B:Nat}{a b c:World}(h:FrmQ B a b)(k:FrmQ B b c):FrmQ B a c:=⟨h.below.trans k.below,fun i o hi hs=>k.kept i o (h.kept i o hi hs) hs⟩
theorem FrmQ.drewN{B n:Nat}{a:World}(h:FrmQ B a w):FrmQ B a (w.drewN n):=⟨yC h.below,h.kept⟩
theorem FrmQ.alloc{B:Nat}{a:World}(h:FrmQ B a w)(hB:B<=a.heap.size)(o:Obj):FrmQ B a (w.alloc o):=⟨h.below.alloc (Jn hB h.below.size) o,fun i o' hi hs=>zB (h.kept i o' hi hs)⟩
theorem FrmQ.ofBelow{B:Nat}(hb:N w w')(hB:B<=w.heap.size):FrmQ B w w':=⟨hb.mono hB,fun i o hi _=>zH hb hi (lt_of_block hi)⟩
theorem FrmQ.set{B:Nat}{a:World}(h:FrmQ B a w){b:Nat}{cs:Array Value}{t:TypeId}(hb:O w b cs t)(hB:B<=b)(ht:¬di (I cs t))(u:Value):FrmQ B a (w.setCell ⟨b,i,none⟩ u):=
 ⟨h.below.setCell hB u,fun k o hk hs=>by
   have h1:=h.kept k o hk hs;refine zR h1 ?_;rintro rfl;rw[hb] at h1
   exact ht (by rw[Nt h1];exact hs)⟩
theorem MachQ.cell {w:World}{K:MK}{m:Mach}{tr:Tr}{dp:Int}{ov:Value}(h:MachQ w K m tr dp ov){i:Nat}{v:Value}(hv:(ep K m tr dp ov)[i]? =some v):A w K.pm i v:=zA h.blk hv
section
variable {w:World} {K:MK} {m:Mach} {tr:Tr} {dp:Int} {ov:Value} (h:MachQ w K m tr dp ov)
include h
theorem MachQ.c0:A w K.pm 0 K.V.fv:=h.cell rfl
theorem MachQ.c3:A w K.pm 3 (U K.E.p.handler):=h.cell rfl
theorem MachQ.c4:A w K.pm 4 K.V.dv:=h.cell rfl
theorem MachQ.c5:A w K.pm 5 K.V.bv:=h.cell rfl
theorem MachQ.c6:A w K.pm 6 (F K.rb 8192 8192):=h.cell rfl
theorem MachQ.c7:A w K.pm 7 K.inv:=h.cell rfl
theorem MachQ.c8:A w K.pm 8 K.irqv:=h.cell rfl
theorem MachQ.c9:A w K.pm 9 (U m.fuel):=h.cell rfl
theorem MachQ.c10:A w K.pm 10 (.bool tr.isSome):=h.cell rfl
theorem MachQ.c11:A w K.pm 11 (U dp):=h.cell rfl
theorem MachQ.c13:A w K.pm 13 ov:=h.cell rfl
theorem MachQ.c14:A w K.pm 14 (U (trK tr:Int)):=h.cell rfl
theorem MachQ.c15:A w K.pm 15 (Y (trI tr:Int)):=h.cell rfl
theorem MachQ.c17:A w K.pm 17 (U (m.inputs:Int)):=h.cell rfl
theorem MachQ.c18:A w K.pm 18 (U (m.polls:Int)):=h.cell rfl
theorem MachQ.free (i:Nat):D w K.pm i:=zE h.blk
theorem MachQ.lt:K.pm<w.heap.size:=lt_of_block h.blk
theorem MachQ.size:K.B<w.heap.size:=Nat.lt_of_le_of_lt h.gpm (lt_of_block h.blk)
theorem MachQ.ne:K.rb≠K.pm:=by
 intro e;have h1:=h.blk;have h2:=h.ram;rw[e,h1] at h2;simp at h2
theorem MachQ.keep(hb:N w w'):MachQ w' K m tr dp ov:=
 ⟨zH hb h.blk (lt_of_block h.blk),zH hb h.ram (lt_of_block h.ram),h.rlen,h.rlt,p7 h.out hb (Je _),h.olt,h.obd,h.fuel,h.inp,h.pol,h.gpm,h.grb,
  h.prog.below (hb.mono (Jn h.gpm (Qd (lt_of_block h.blk)))),h.inn.below zr (hb.mono (Jn h.gpm (Qd (lt_of_block h.blk)))),h.irq.below xQ (hb.mono (Jn h.gpm (Qd (lt_of_block h.blk))))⟩
theorem MachQ.drewN (n:Nat):MachQ (w.drewN n) K m tr dp ov:=h.keep (yL _ _ _)
theorem MachQ.frm (i:Nat)(u:Value):FrmQ K.B w (w.setCell ⟨K.pm,i,none⟩ u):=(FrmQ.refl _ _).set h.blk h.gpm (by simp[di]) u
theorem MachQ.put(i:Nat)(u:Value){tr':Tr}{dp':Int}(c:(ep K m tr dp ov).setIfInBounds i u=ep K m' tr' dp' ov)(h1:m'.ram=m.ram)(h2:m'.out=m.out)(h3:m'.out.length+m'.fuel.toNat<=4000000)
 (j:-1<=m'.fuel/\m'.fuel<=4000000/\(tr'=none->0<=m'.fuel)) (g:m'.inputs<=K.E.inn.length) (d:m'.polls<=K.E.irq.length):MachQ (w.setCell ⟨K.pm,i,none⟩ u) K m' tr' dp' ov:=by
 refine⟨?_,zR (by rw[h1];exact h.ram) (by simpa using h.ne),by rw[h1];exact h.rlen,by rw[h1];exact h.rlt,?_,by rw[h2];exact h.olt,h3,j,g,d,h.gpm,h.grb,?_,?_,?_⟩
 ·rw[zD h.blk,c]
 ·rw[h2];exact ownsRow_setCell_other h.out (by intro e;exact zC h.out h.blk (.inr Zd) (by simpa using e)) _
 ·exact h.prog.below ((Below.refl _ _).setCell h.gpm _)
 ·exact h.inn.below zr ((Below.refl _ _).setCell h.gpm _)
 ·exact h.irq.below xQ ((Below.refl _ _).setCell h.gpm _)
end
theorem ew{ov:Value}(h:MachQ w K m none dp ov)(k i:Nat):G 101 #[Q K.pm,U k,Y i] w fun e w'=>e=.returned (.tuple #[])/\MachQ w' K m (some (k,i)) dp ov/\FrmQ K.B w w':=by
 have c10:=h.c10;have c14:=h.c14;have c15:=h.c15;have j:=h.free 10;have g:=h.free 14;have d:=h.free 15
 have c:=Ja (show MachQ (((w.setCell ⟨K.pm,10,none⟩ (.bool true)).setCell ⟨K.pm,14,none⟩ (U k)).setCell ⟨K.pm,15,none⟩ (Y i)) K m (some (k,i)) dp ov/\FrmQ K.B w (((w.setCell ⟨K.pm,10,none⟩ (.bool true)).setCell ⟨K.pm,14,none⟩ (U k)).setCell ⟨K.pm,15,none⟩ (Y i)) from by
  have h1:=h.put 10 (.bool true) (m':=m) (tr':=some (0,0)) (dp':=dp) rfl rfl rfl h.obd ⟨h.fuel.1,h.fuel.2.1,fun e=>by cases e⟩ h.inp h.pol;have h2:=h1.put 14 (U k) (m':=m) (tr':=some (k,0)) (dp':=dp) rfl rfl rfl h.obd ⟨h.fuel.1,h.fuel.2.1,fun e=>by cases e⟩ h.inp h.pol;have h3:=h2.put 15 (Y i) (m':=m) (tr':=some (k,i)) (dp':=dp) rfl rfl rfl h.obd ⟨h.fuel.1,h.fuel.2.1,fun e=>by cases e⟩ h.inp h.pol
  exact⟨h3,((h.frm 10 _).trans (h1.frm 14 _)).trans (h2.frm 15 _)⟩)
 have hl:=h.lt;clear h;go_enter Tryz.func101,Tryz.ntmps101;go_wp2
 go_end0
 exact⟨rfl,c.out.1,c.out.2⟩
theorem bL{ov:Value}(h:MachQ w K m none dp ov)(hf:0<m.fuel):G 102 #[Q K.pm] w fun e w'=>e=.returned (.bool true)/\MachQ w' K m.pay none dp ov/\FrmQ K.B w w':=by
 have c9:=h.c9;have c10:=h.c10;have f9:=h.free 9;have hl:=h.lt;have d:¬m.fuel<1:=Zo;have hb:=h.fuel.2.1;have c:=Ja (Jb (h.put 9 (U (m.fuel-1)) (m':=m.pay) (tr':=none) (dp':=dp) rfl rfl rfl (by have:=h.obd;show m.out.length+(m.fuel-1).toNat<=_;omega) ⟨by show -1<=m.fuel-1;omega,by show m.fuel-1<=_;omega,fun _=>by show 0<=m.fuel-1;omega⟩ h.inp h.pol) (h.frm 9 (U (m.fuel-1))));clear h;go_enter Tryz.func102,Tryz.ntmps102;go_wp2;go_ret;exact⟨rfl,c.out.1,c.out.2⟩
theorem a9{ov:Value}(h:MachQ w K m none dp ov)(hf:m.fuel<=0):G 102 #[Q K.pm] w fun e w'=>e=.returned (.bool false)/\MachQ w' K m.pay (some (7,0)) dp ov/\FrmQ K.B w w':=by
 have c9:=h.c9;have k:m.fuel<1:=Zo;have i:=h.fuel.2.2 rfl;have H:=Ja h;clear h;go_enter Tryz.func102,Tryz.ntmps102;go_wp2_with (go_at_call 101;go_must (refine(ew H.out 7 0).mono ?_;rintro e w1 ⟨rfl,h1,c⟩;have d9:=h1.c9;have j:=h1.c10;have g9:=h1.free 9;have g:=h1.lt;have d:=Ja (Jb (h1.put 9 (U (m.fuel-1)) (m':=m.pay) (tr':=some (7,0)) (dp':=dp) rfl rfl rfl (by have:=h1.obd;show m.out.length+(m.fuel-1).toNat<=_;omega) ⟨by show -1<=m.fuel-1;omega,by show m.fuel-1<=_;omega,fun e=>by cases e⟩ h1.inp h1.pol) (c.trans (h1.frm 9 (U (m.fuel-1)))));clear h1 c))
 go_ret;exact⟨rfl,d.out.1,d.out.2⟩
def PostQ (K:MK)(w:World)(R:Res Nat)(w':World):Prop:=
 match R with
 |.ok x m'=>(∃dp ov,MachQ w' K m' none dp ov)/\FrmQ K.B w w'/\x<65536
 |.trap k i m'=>(∃(dp:Int) (ov:Value) (fu:Int),MachQ w' K {m' with fuel:=fu } (some (k,i)) dp ov)/\FrmQ K.B w w'
def valQ:Res Nat->Value
 |.ok x _=> Y x
 |.trap _ _ _=> Y 0
def pn (K:MK)(w:World)(R:Res Nat)(e:Ending)(w':World):Prop:=e=.returned (valQ R)/\PostQ K w R w'
def et (K:MK)(w:World)(R:Res Nat)(e:Ending)(w':World):Prop:=e=.returned (.tuple #[])/\PostQ K w R w'
theorem pn.ok{x:Nat}{ov:Value}(h:MachQ w' K m' none dp ov)(hf:FrmQ K.B w w')(c:x<65536):pn K w (.ok x m') (.returned (Y x)) w':=⟨rfl,⟨dp,ov,h⟩,hf,c⟩
theorem pn.trap{ov:Value}(h:MachQ w' K m' (some (k,i)) dp ov)(hf:FrmQ K.B w w'):pn K w (.trap k i m') (.returned (Y 0)) w':=⟨rfl,⟨dp,ov,m'.fuel,h⟩,hf⟩
theorem et.ok{x:Nat}{ov:Value}(h:MachQ w' K m' none dp ov)(hf:FrmQ K.B w w')(c:x<65536):et K w (.ok x m') (.returned (.tuple #[])) w':=⟨rfl,⟨dp,ov,h⟩,hf,c⟩
theorem et.trap{ov:Value}(h:MachQ w' K m' (some (k,i)) dp ov)(hf:FrmQ K.B w w'):et K w (.trap k i m') (.returned (.tuple #[])) w':=⟨rfl,⟨dp,ov,m'.fuel,h⟩,hf⟩
theorem MachQ.ramCell{ov:Value}(h:MachQ w K m tr dp ov){a:Nat}(d:wo a=true):A w K.rb (a-16384) (.int .u8 (tC m a:Nat))/\tC m a<256/\D w K.rb (a-16384):=by
 have h1:=(qG a).1 d;obtain⟨x,c⟩:∃x,m.ram[a-16384]? =some x:=⟨_,Jd (by rw[h.rlen];omega)⟩
 have e:tC m a=x:=by unfold tC;rw[Jj,c];rfl
 rw[e];exact⟨zA h.ram (by simp[c,ly]),h.rlt x (Ji c),zE h.ram⟩
theorem MachQ.setR{ov:Value}(h:MachQ w K m tr dp ov)(a x:Nat)(g:x<256):MachQ (w.setCell ⟨K.rb,a-16384,none⟩ (.int .u8 (x:Int))) K (m.put a x) tr dp ov/\FrmQ K.B w (w.setCell ⟨K.rb,a-16384,none⟩ (.int .u8 (x:Int))):=by
 have c:FrmQ K.B w (w.setCell ⟨K.rb,a-16384,none⟩ (.int .u8 (x:Int))):=(FrmQ.refl _ _).set h.ram h.grb (by simp[di]) _;refine⟨⟨zR h.blk (by simpa using Ne.symm h.ne),?_,by simp[Mach.put,h.rlen],?_,ownsRow_setCell_other h.out ?_ _,h.olt,h.obd,h.fuel,h.inp,h.pol,h.gpm,h.grb,h.prog.below c.below,h.inn.below zr c.below,h.irq.below xQ c.below⟩,c⟩
 ·rw[zD h.ram];simp[Mach.put,ly,Ox]
 ·intro y d;rcases Qe d with d|rfl
  ·exact h.rlt y d
  ·exact g
 ·intro e;exact zC h.out h.ram (.inr Zd) (by simpa using e)
theorem cC{a:Nat}(c:wo a=true):G 144 #[Q K.pm,Y a] w fun e w'=>e=.returned (.bool true)/\w=w':=by
 have h1:=(qG a).1 c;have t1:¬(a:Int)<16384:=Zo;have t2:¬(24575:Int)<(a:Int):=Zo;clear c;go_enter Tryz.func144,Tryz.ntmps144;go_wp2;go_ret;exact⟨rfl,rfl⟩
theorem bW{ov:Value}(h:MachQ w K m none dp ov){a:Nat}(g:¬wo a=true):G 144 #[Q K.pm,Y a] w fun e w'=>e=.returned (.bool false)/\MachQ w' K m (some (2,a)) dp ov/\FrmQ K.B w w':=by
 have H:=Ja h;clear h
 by_cases h1:(a:Int)<16384
 ·clear g;go_enter Tryz.func144,Tryz.ntmps144;go_wp2_with (go_at_call 101;go_must (refine(ew H.out 2 a).mono ?_;rintro e w1 ⟨rfl,c,d⟩))
  go_ret;exact⟨rfl,c,d⟩
 ·have h2:(24575:Int)<(a:Int):=by rw[qG] at g;omega
  clear g;go_enter Tryz.func144,Tryz.ntmps144;go_wp2_with (go_at_call 101;go_must (refine(ew H.out 2 a).mono ?_;rintro e w1 ⟨rfl,c,d⟩))
  go_ret;exact⟨rfl,c,d⟩
def dQ (m:Mach)(a n:Nat):Res Nat:=if n=1 then abh m a else pR m a
def bn (m:Mach)(a:Nat):Nat->Nat
 |0=>0
 |1=>tC m a
 |_=>tC m a+256*tC m (j3 a)
theorem dV {a:Nat}(h:wo a=true):IntKind.u16.wrap ((a:Int)-16384)=((a-16384:Nat):Int):=by
 have:=(qG a).1 h;rw[xY];omega
theorem load_q{ov:Value}(h:MachQ w K m none dp ov){a n:Nat}(b4:a<65536)(hn:n=1∨n=2):G 125 #[Q K.pm,Y a,U n] w (pn K w (dQ m a n)):=by
 have c6:=h.c6;have hl:=h.lt;have H:=Ja h;have HN:=Ja hn;clear h hn;go_enter Tryz.func125,Tryz.ntmps125;go_wp2
 go_loopw [7,8] (fun xv kv wx=>∃k:Nat,k<=n/\xv=Y (bn m a k:Nat)/\kv=U k/\wx=w/\Hid ((1<=k->wo a=true)/\(2<=k->wo (j3 a)=true))) (fun _ kv _=>n-(intOf kv).toNat)
 case atStart=>exact⟨0,Jt _,rfl,rfl,rfl,Ja ⟨fun h=>by omega,fun h=>by omega⟩⟩
 case round=>
  obtain⟨k,hk,rfl,rfl,hw,i⟩:=hrel;subst hw
  by_cases j:k<n
  ·have a2:(k:Int)<n:=Zo;have a6:k=0∨k=1:=by have:=HN.out;omega
   have a0:=Ja j;rcases a6 with rfl|rfl
   ·have a3:IntKind.u16.wrap (a:Int)=(a:Int):=by rw[xY];omega
    have H0:bn m a 0=0:=rfl;rw[H0] at *;clear H0 j
    by_cases c:wo a=true
    ·obtain⟨cr,hr,a4⟩:=H.out.ramCell c;have a1:=dV c;have o:=(qG a).1 c;have a8:((a-16384:Nat):Int)<8192:=Zo;have d:=Ja c;have HR:=Ja hr;clear c o;go_wp2_with (go_at_call 144;go_must (refine(cC d.out).mono ?_;rintro e w1 ⟨rfl,rfl⟩))
     go_roundw
     case rel=>exact⟨1,a0.out,rfl,rfl,trivial,Ja ⟨fun _=>d.out,fun h=>by omega⟩⟩
     case measure=>have:=a0.out;simp[intOf];omega
    ·have d:=Ja c;clear c;go_wp2_with (go_at_call 144;go_must (refine(bW H.out d.out).mono ?_;rintro e w1 ⟨rfl,x,y⟩))
     go_ret
     have g:dQ m a n=.trap 2 a m:=by
      unfold dQ abh pR;rw[if_neg d.out,if_neg d.out,ite_self]
     rw[g];exact pn.trap x y
   ·obtain⟨p,hp⟩:∃p,j3 a=p:=⟨_,rfl⟩
    have t:p<65536:=by rw[<-hp];unfold j3;omega
    have a3:IntKind.u16.wrap ((a:Int)+1)=(p:Int):=by rw[xY,<-hp];unfold j3;omega
    have u:=Ja (show n=2 from by have:=HN.out;omega);have H0:bn m a 1=tC m a:=rfl;rw[H0] at *;have l:=i.out.1 Zd;have a5:=(H.out.ramCell l).2.1;clear H0 j;have HP:=Ja hp
    by_cases c:wo p=true
    ·obtain⟨cr,hr,a4⟩:=H.out.ramCell c;have a1:=dV c;have o:=(qG p).1 c;have a8:((p-16384:Nat):Int)<8192:=Zo;have d:=Ja c;have b3:IntKind.u16.wrap ((tC m p:Int)*256)=((tC m p:Nat):Int)*256:=by rw[xY];omega
     have b2:IntKind.u16.wrap ((tC m a:Int)+(tC m p:Int)*256)=((tC m a+256*tC m p:Nat):Int):=by rw[xY];omega
     clear c o l hp;go_wp2_with (go_at_call 144;go_must (refine(cC d.out).mono ?_;rintro e w1 ⟨rfl,rfl⟩))
     go_roundw
     case rel=>exact⟨2,by rw[u.out];exact Je _,by rw[show bn m a 2=tC m a+256*tC m (j3 a) from rfl,HP.out];go_num,rfl,trivial,Ja ⟨fun _=>i.out.1 Zd,fun _=>by rw[HP.out];exact d.out⟩⟩
     case measure=>have:=u.out;simp[intOf];omega
    ·have d:=Ja c;have b1:=Ja l;clear c l hp a5;go_wp2_with (go_at_call 144;go_must (refine(bW H.out d.out).mono ?_;rintro e w1 ⟨rfl,x,y⟩))
     go_ret
     have g:dQ m a n=.trap 2 p m:=by
      unfold dQ pR;rw[if_neg (by rw[u.out];decide),if_pos b1.out,HP.out,if_neg d.out]
     rw[g];exact pn.trap x y
  ·obtain rfl:k=n:=by omega
   have a2:¬(k:Int)<(k:Int):=Zo
   have g:dQ m a k=.ok (bn m a k) m:=by
    unfold dQ abh pR;rcases HN.out with rfl|rfl
    ·rw[if_pos rfl,if_pos (i.out.1 Zd)];rfl
    ·rw[if_neg Zd,if_pos (i.out.1 Zd),if_pos (i.out.2 Zd)];rfl
   have t:bn m a k<65536:=by
    rcases HN.out with rfl|rfl
    ·have:=(H.out.ramCell (i.out.1 Zd)).2.1;show tC m a<_;omega
    ·have h1:=(H.out.ramCell (i.out.1 Zd)).2.1;have h2:=(H.out.ramCell (i.out.2 Zd)).2.1;show tC m a+256*tC m (j3 a)<_;omega
   have EE:=Ja g;have b0:=Ja t;clear t j g;go_wp2;go_ret;rw[EE.out];exact pn.ok H.out (FrmQ.refl _ _) b0.out
theorem dR (a:Nat)(c:a<65536)(w:World):G 129 #[Y a] w fun e w'=>e=.returned (U (s16 a))/\w=w':=by
 by_cases h:a<32768
 ·have t1:decide ((32768:Int)<=(a:Int))=false:=decide_eq_false Zo;have t2:decide (32768<=a)=false:=decide_eq_false Zo;have e:s16 a=(a:Int):=by unfold s16;rw[if_pos h]
  rw[e];clear h e;go_enter Tryz.func129,Tryz.ntmps129;go_wp2;go_ret;refine⟨zh ?_,rfl⟩;omega
 ·have t1:decide ((32768:Int)<=(a:Int))=true:=decide_eq_true Zo;have t2:decide (32768<=a)=true:=decide_eq_true Zo;have e:s16 a=(a:Int)-65536:=by unfold s16;rw[if_neg h]
  rw[e];clear h e;go_enter Tryz.func129,Tryz.ntmps129;go_wp2;go_ret;refine⟨zh ?_,rfl⟩;omega
theorem bG (b:Bool)(w:World):G 130 #[.bool b] w fun e w'=>e=.returned (Y (iw b:Nat))/\w=w':=by
 cases b<;>go_enter Tryz.func130,Tryz.ntmps130<;>go_wp2<;>go_ret<;>exact⟨rfl,rfl⟩
theorem and15 (b:Nat)(hb:b<65536):bits .and .u16 (b:Int) 15=((b%16:Nat):Int):=by
 have h:=(bits_nat .u16 16 Zd wraps_u16 b 15 hb Zd).1;rw[show((15:Nat):Int)=15 from rfl] at h;rw[h]
 congr 1
 have:=Nat.and_two_pow_sub_one_eq_mod b 4
 simpa using this
theorem rarith_5 (a b:Nat)(c:a<65536)(hb:b<65536)(w:World):G 107 #[U 5,Y a,Y b] w fun e w'=>e=.returned (Y (yW 5 a b:Nat))/\w=w':=by
 go_enter Tryz.func107,Tryz.ntmps107;go_wp2
 all_goals go_ret
 all_goals refine⟨zh ?_,rfl⟩
 all_goals exact ar5 a b
theorem rarith_6 (a b:Nat)(c:a<65536)(hb:b<65536)(w:World):G 107 #[U 6,Y a,Y b] w fun e w'=>e=.returned (Y (yW 6 a b:Nat))/\w=w':=by
 go_enter Tryz.func107,Tryz.ntmps107;go_wp2
 all_goals go_ret
 all_goals refine⟨zh ?_,rfl⟩
 all_goals exact ar6 a b hb
theorem rarith_7 (a b:Nat)(c:a<65536)(hb:b<65536)(w:World):G 107 #[U 7,Y a,Y b] w fun e w'=>e=.returned (Y (yW 7 a b:Nat))/\w=w':=by
 go_enter Tryz.func107,Tryz.ntmps107;go_wp2
 all_goals go_ret
 all_goals refine⟨zh ?_,rfl⟩
 all_goals exact ar7 a b
theorem rarith_8 (a b:Nat)(c:a<65536)(hb:b<65536)(d:b≠0)(w:World):G 107 #[U 8,Y a,Y b] w fun e w'=>e=.returned (Y (yW 8 a b:Nat))/\w=w':=by
 have h1:((b:Int)==0)=false:=Ze;have h2:¬(b:Int)=0:=Zo;clear d;go_enter Tryz.func107,Tryz.ntmps107;go_wp2
 all_goals go_ret
 all_goals refine⟨zh ?_,rfl⟩
 all_goals exact ar8 a b c
theorem rarith_9 (a b:Nat)(c:a<65536)(hb:b<65536)(w:World):G 107 #[U 9,Y a,Y b] w fun e w'=>e=.returned (Y (yW 9 a b:Nat))/\w=w':=by
 go_enter Tryz.func107,Tryz.ntmps107;go_wp2
 all_goals go_ret
 all_goals refine⟨zh ?_,rfl⟩
 all_goals exact ar9 a b c hb
theorem au (a b:Nat)(c:a<65536)(hb:b<65536)(w:World):G 107 #[U 10,Y a,Y b] w fun e w'=>e=.returned (Y (yW 10 a b:Nat))/\w=w':=by
 go_enter Tryz.func107,Tryz.ntmps107;go_wp2
 all_goals go_ret
 all_goals refine⟨zh ?_,rfl⟩
 all_goals exact ar10 a b c hb
theorem aaq (a b:Nat)(c:a<65536)(hb:b<65536)(w:World):G 107 #[U 11,Y a,Y b] w fun e w'=>e=.returned (Y (yW 11 a b:Nat))/\w=w':=by
 go_enter Tryz.func107,Tryz.ntmps107;go_wp2
 all_goals go_ret
 all_goals refine⟨zh ?_,rfl⟩
 all_goals exact ar11 a b c hb
theorem ae (a b:Nat)(d:a<65536)(hb:b<65536)(w:World):G 107 #[U 12,Y a,Y b] w fun e w'=>e=.returned (Y (yW 12 a b:Nat))/\w=w':=by
 have c:=and15 b hb;go_enter Tryz.func107,Tryz.ntmps107;go_wp2
 all_goals go_ret
 all_goals refine⟨zh ?_,rfl⟩
 all_goals exact ar12 a b
theorem aae (a b:Nat)(d:a<65536)(hb:b<65536)(w:World):G 107 #[U 13,Y a,Y b] w fun e w'=>e=.returned (Y (yW 13 a b:Nat))/\w=w':=by
 have c:=and15 b hb;go_enter Tryz.func107,Tryz.ntmps107;go_wp2
 all_goals go_ret
 all_goals refine⟨zh ?_,rfl⟩
 all_goals exact ar13 a b
theorem aan (a b:Nat)(c:a<65536)(hb:b<65536)(w:World):G 107 #[U 15,Y a,Y b] w fun e w'=>e=.returned (Y (yW 15 a b:Nat))/\w=w':=by
 go_enter Tryz.func107,Tryz.ntmps107;go_wp2_with (go_at_call 130;go_must (refine(bG _ _).mono ?_;rintro e w' ⟨rfl,rfl⟩))
 all_goals go_ret
 all_goals refine⟨zh ?_,rfl⟩
 all_goals exact congrArg _ (ar15 a b)
theorem aV (a b:Nat)(c:a<65536)(hb:b<65536)(w:World):G 107 #[U 16,Y a,Y b] w fun e w'=>e=.returned (Y (yW 16 a b:Nat))/\w=w':=by
 go_enter Tryz.func107,Tryz.ntmps107;go_wp2_with (go_at_call 130;go_must (refine(bG _ _).mono ?_;rintro e w' ⟨rfl,rfl⟩))
 all_goals go_ret
 all_goals refine⟨zh ?_,rfl⟩
 all_goals exact rfl
theorem aT (a b:Nat)(c:a<65536)(hb:b<65536)(w:World):G 107 #[U 17,Y a,Y b] w fun e w'=>e=.returned (Y (yW 17 a b:Nat))/\w=w':=by
 have m1:True:=trivial;go_enter Tryz.func107,Tryz.ntmps107;go_wp2_with (first|(go_at_call 130;go_must (refine(bG _ _).mono ?_;rintro e w' ⟨rfl,rfl⟩))|(go_at_call 129;have d:=m1;clear m1;go_must (refine(dR a c _).mono ?_;rintro e w' ⟨rfl,rfl⟩))|(go_at_call 129;go_must (refine(dR b hb _).mono ?_;rintro e w' ⟨rfl,rfl⟩)))
 all_goals go_ret
 all_goals refine⟨zh ?_,rfl⟩
 all_goals exact rfl
theorem adC (x:Int)(h:x<0):(x-1).tdiv 2=x/2:=by
 rw[Int.tdiv_eq_ediv]
 split
 ·omega
 ·have:Int.sign 2=1:=rfl;omega
theorem ai (x:Int)(h:0<=x):x.tdiv 2=x/2:=Int.tdiv_eq_ediv_of_nonneg h
theorem aS (x:Int)(k:Nat):x/2^(k+1)=(x/2^k)/2:=by
 rw[Int.pow_succ,Int.ediv_ediv_of_nonneg (Int.pow_nonneg Zd)]
theorem dU(h:-32768<=x/\x<32768):∀k:Nat,-32768<=x/2^k/\x/2^k<32768
 |0=>by simpa using h
 |k+1=>by have:=dU h k;rw[aS];omega
theorem aX (a b:Nat)(m:a<65536)(hb:b<65536)(w:World):G 107 #[U 14,Y a,Y b] w fun e w'=>e=.returned (Y (yW 14 a b:Nat))/\w=w':=by
 have o:=and15 b hb;have hr:=aac a m;have y:=Ja hr;have hm:b%16<16:=Qj _ Zd;obtain⟨n,c⟩:∃n,b%16=n:=⟨_,rfl⟩
 rw[c] at o hm;have h:=Ja c;clear hr c;generalize u:w=W0;clear u;go_enter Tryz.func107,Tryz.ntmps107;go_wp2_with (first|(go_at_call 129;go_must (refine(dR a m _).mono ?_;rintro e w' ⟨rfl,rfl⟩)))
 have t:s16 a=s16 a/2^0:=by simp
 have H0:=Ja t;clear t
 go_loopw [7,8] (fun xv kv wx=>∃(k:Nat) (x:Int),k<=n/\xv=U x/\kv=U k/\W0=wx/\Hid (x=s16 a/2^k)) (fun _ kv _=>n-(intOf kv).toNat)
 case atStart=>exact⟨0,s16 a,Jt _,rfl,rfl,rfl,H0⟩
 case round=>
  obtain⟨k,x,hk,rfl,rfl,rfl,i⟩:=hrel;have l:-32768<=x/\x<32768:=by rw[i.out];exact dU y.out k
  obtain⟨a1,a0⟩:=l
  by_cases d:k<n
  ·have j:(k:Int)<n:=Zo;have g:=Ja d
   by_cases c:x<0
   ·have t1:decide (x<0)=true:=decide_eq_true c;have h:=Ja c;clear d c;go_wp2;go_roundw
    case rel=>
     refine⟨k+1,x/2,g.out,?_,by go_num,by trivial,Ja (by rw[aS,<-i.out])⟩;have e:=adC x h.out
     first|(rw[e];congr 1;omega)|(rw[show x-1=x-1 from rfl,e])|(congr 1<;>simp[e])
    case measure=>have:=g.out;simp[intOf];omega
   ·have t1:decide (x<0)=false:=decide_eq_false c;have h:=Ja (show 0<=x by omega);clear d c;go_wp2;go_roundw
    case rel=>
     refine⟨k+1,x/2,g.out,?_,by go_num,by trivial,Ja (by rw[aS,<-i.out])⟩;have e:=ai x h.out
     first|(rw[e];congr 1;omega)|(congr 1<;>simp[e])
    case measure=>have:=g.out;simp[intOf];omega
  ·obtain rfl:k=n:=by omega
   have j:¬(k:Int)<k:=Zo;clear d;go_wp2;go_ret;refine⟨zh ?_,rfl⟩;rw[i.out,xY]
   show _=((((s16 a/2^(b%16))%65536).toNat:Nat):Int)
   rw[h.out];omega
theorem aic (c:Int)(i:5<=c/\c<=17)(a b:Nat)(d:a<65536)(hb:b<65536)(g:c=8->b≠0)(w:World):G 107 #[U c,Y a,Y b] w fun e w'=>e=.returned (Y (yW c a b:Nat))/\w=w':=by
 have h:c=5∨c=6∨c=7∨c=8∨c=9∨c=10∨c=11∨c=12∨c=13∨c=14∨c=15∨c=16∨c=17:=Zo;rcases h with rfl|rfl|rfl|rfl|rfl|rfl|rfl|rfl|rfl|rfl|rfl|rfl|rfl
 ·exact rarith_5 a b d hb w
 ·exact rarith_6 a b d hb w
 ·exact rarith_7 a b d hb w
 ·exact rarith_8 a b d hb (g rfl) w
 ·exact rarith_9 a b d hb w
 ·exact au a b d hb w
 ·exact aaq a b d hb w
 ·exact ae a b d hb w
 ·exact aae a b d hb w
 ·exact aX a b d hb w
 ·exact aan a b d hb w
 ·exact aV a b d hb w
 ·exact aT a b d hb w
def grp (nx:Int)(n:Nat)(P:Nat)(x:Int)(Q:Nat):List IOp:=[⟨1,nx,0,0,n,[]⟩,⟨25,-1,nx,0,P,[]⟩,⟨25,-1,x,0,Q,[]⟩]
def aeD (nx v:Int):List IOp:=if 0<=v then grp nx (v%65536).toNat 254 v 255 else []
def bf (nx v:Int):Int:=if 0<=v then nx+1 else nx
def afc (nx:Int)(ac:Nat)(o:IOp):List IOp:=if lx o=true then grp nx (ac%65536) 253 o.a 252 else []
def aeA (nx:Int)(o:IOp):Int:=if lx o=true then nx+1 else nx
def afl (ac:Nat)(o:IOp):Nat:=if lx o=true then ac+1 else ac
def df:Int->List Int->List IOp
 |_,[]=> []
 |nx,v::vs=>aeD nx v++df (bf nx v) vs
def gw:Int->List Int->Int
 |nx,[]=>nx
 |nx,v::vs=>gw (bf nx v) vs
def ajG (nx:Int)(ac:Nat)(o:IOp):List IOp:=afc nx ac o++o::aeD (aeA nx o) o.res
def ajF (nx:Int)(o:IOp):Int:=bf (aeA nx o) o.res
def aeU:Int->Nat->List IOp->List IOp
 |_,_,[]=> []
 |nx,ac,o::os=>ajG nx ac o++aeU (ajF nx o) (afl ac o) os
def agP:Int->List IOp->Int
 |nx,[]=>nx
 |nx,o::os=>agP (ajF nx o) os
def i7:Nat->List IOp->Nat
 |ac,[]=>ac
 |ac,o::os=>i7 (afl ac o) os
def ahf (nx:Int)(ac:Nat)(b:IBlk):IBlk:=⟨b.params,df nx b.params++aeU (gw nx b.params) ac b.ops,b.term⟩
def ag3 (nx:Int)(b:IBlk):Int:=agP (gw nx b.params) b.ops
def m7:Int->Nat->List IBlk->List IBlk
 |_,_,[]=> []
 |nx,ac,b::bs=>ahf nx ac b::m7 (ag3 nx b) (i7 ac b.ops) bs
def vt (p:IProg)(n:Nat):IProg:= {p with funcs:=p.funcs.set n (m7 (aaG (p.funcs.getD n [])) 0 (p.funcs.getD n []))}
theorem afg (nx v:Int):nx<=bf nx v:=by unfold bf;split<;>omega
theorem agy (nx:Int)(o:IOp):nx<=aeA nx o:=by unfold aeA;split<;>omega
theorem aeZ:∀(vs:List Int) (nx:Int),nx<=gw nx vs
 | [],nx=>Og _
 |v::vs,nx=>Int.le_trans (afg nx v) (aeZ vs _)
theorem ahw (nx:Int)(o:IOp):nx<=ajF nx o:=Int.le_trans (agy nx o) (afg _ _)
theorem afM:∀(os:List IOp) (nx:Int),nx<=agP nx os
 | [],nx=>Og _
 |o::os,nx=>Int.le_trans (ahw nx o) (afM os _)
theorem agB (nx:Int)(b:IBlk):nx<=ag3 nx b:=Int.le_trans (aeZ _ _) (afM _ _)
theorem afy:∀(bs:List IBlk) (nx:Int) (ac i:Nat) (b:IBlk),bs[i]? =some b->∃nx':Int,nx<=nx'/\(m7 nx ac bs)[i]? =some (ahf nx' (i7 ac ((bs.take i).flatMap (·.ops))) b)
 | [],nx,ac,i,b,h=>by simp at h
 |x::bs,nx,ac,0,b,h=>by simp at h;subst h;exact⟨nx,Og _,rfl⟩
 |x::bs,nx,ac,i+1,b,h=>by
  obtain⟨nx',h1,h2⟩:=afy bs (ag3 nx x) (i7 ac x.ops) i b (by simpa using h);refine⟨nx',Int.le_trans (agB nx x) h1,?_⟩
  have e:∀(l l':List IOp) (ac:Nat),i7 ac (l++l')=i7 (i7 ac l) l':=by
   intro l
   induction l with
   |nil=>intro l' ac;rfl
   |cons o l ih=>intro l' ac;exact ih l' _
  rw[Qo,Qa,e]
  simpa[m7] using h2
theorem ai8{E:IEnv}{n P Q:Nat}{v:Int->Nat}(h:MG T m)(g:0<=nx)(c:x≠nx)(i:n<65536)(hp:aeV T (P,n) (Q,v x))(d:Q≠254/\Q≠253):
 match iq E call (grp nx n P x Q) v m with
 |.ok v' m'=>v'=iY v nx n/\MG T m'
 |.trap _ _ m'=>aeC T m'.out:=by
 have e1:oV E call ⟨1,nx,0,0,n,[]⟩ v m.pay=.ok n m.pay:=rfl;have s1:setV v nx n=iY v nx n:=by unfold setV;rw[if_pos g]
 have v1:iY v nx n nx=n:=by unfold iY;rw[if_pos rfl]
 have v2:iY v nx n x=v x:=by unfold iY;rw[if_neg c]
 have e2:∀m:Mach,oV E call ⟨25,-1,nx,0,P,[]⟩ (iY v nx n) m=.ok 0 {m with out:=m.out++ [(P,n)]}:=fun m=>by
  show Res.ok 0 {m with out:=m.out++ [(P,iY v nx n nx)]}=_
  rw[v1]
 have e3:∀m:Mach,oV E call ⟨25,-1,x,0,Q,[]⟩ (iY v nx n) m=.ok 0 {m with out:=m.out++ [(Q,v x)]}:=fun m=>by
  show Res.ok 0 {m with out:=m.out++ [(Q,iY v nx n x)]}=_
  rw[v2]
 have s2:∀u:Int->Nat,setV u (-1) 0=u:=fun u=>by unfold setV;rw[if_neg Zd]
 unfold grp;unfold iq
 by_cases f1:m.fuel<=0
 ·rw[if_pos f1];exact h.out.1
 rw[if_neg f1,e1];simp only;unfold iq
 by_cases f2:m.pay.fuel<=0
 ·rw[if_pos f2];exact h.out.1
 rw[if_neg f2];simp only[s1,e2,s2];unfold iq
 by_cases f3:m.pay.pay.fuel<=0
 ·rw[if_pos f3];exact agK h.out _
 ·rw[if_neg f3];simp only[e3,s2];unfold iq;exact⟨rfl,aiW h.out hp d,h.ram⟩
def afV (T:RepF)(call:ae1):Prop:=∀g args m,(∀a∈args,a<65536)->MG T m->aeJ T aje (call g args m)
def OpP (o:IOp):Prop:=(1<=o.code/\o.code<=27)/\(o.code=25->o.n≠254/\o.n≠253)/\o.n<65536
def resG (E:IEnv)(o:IOp)(A B:Rg):Rg:=if o.code=1 then agu o.n else if o.code=2 then agu (((E.p.data.getD o.a.toNat ⟨0,0,0⟩).addr+o.n)%65536) else afL o.code A B
theorem aiQ{E:IEnv}(y:ajC E)(g:afV T call)(ho:OpP o){v:Int->Nat}(hv:∀x,v x<65536)(h:MG T m){A B:Rg}(hA:A.ok)(hB:B.ok)
 (j:(zi o.code).a=true->A.has (v o.a)) (w:(zi o.code).b=true->B.has (v o.b)):
 aeJ T (fun x=>x<65536/\(resG E o A B).has x) (oV E call o v m):=by
 have d:o.code=26∨o.code=27->∀x,x<65536->(resG E o A B).has x:=fun c x j=>by
  unfold resG;rw[if_neg Zo,if_neg Zo];have:afL o.code A B=vu:=by rcases c with c|c<;>rw[c]<;>rfl
  rw[this];exact i5 j
 unfold oV
 by_cases t:o.code=26
 ·rw[if_pos t];exact(g o.a (o.args.map v) m (fun a ha=>by obtain⟨x,_,rfl⟩:=Nu.1 ha;exact hv x) h).mono fun x j=>⟨j,d (.inl t) x j⟩
 rw[if_neg t]
 by_cases l:o.code=27
 ·rw[if_pos l];unfold tY;have u:=d (.inr l) 0 Zd
  split
  ·split
   ·have c:=g E.p.handler [] {m with polls:=m.polls+1 } (fun a ha=>by cases ha) ⟨h.out,h.ram⟩
    cases hr:call E.p.handler [] {m with polls:=m.polls+1 } with
    |ok x m'=>rw[hr] at c;exact⟨⟨by decide,u⟩,c.2⟩
    |trap k i m'=>rw[hr] at c;exact c
   ·exact⟨⟨by decide,u⟩,⟨h.out,h.ram⟩⟩
  ·exact⟨⟨by decide,u⟩,h⟩
 rw[if_neg l];exact plain_in y h (by have:=ho.1;omega) ho.2.1 (hv _) (hv _) hA hB j w ho.2.2
theorem afo{v:Int->Nat}(hv:∀x,v x<65536){r:Nat}(hr:r<65536):∀x,iY v y r x<65536:=fun x=>by
 unfold iY
 split
 ·exact hr
 ·exact hv x
theorem ag9{v:Int->Nat}(hv:∀x,v x<65536){r:Nat}(hr:r<65536):∀x,setV v y r x<65536:=by
 unfold setV
 split
 ·exact afo hv hr
 ·exact hv
def aeO (T:RepF)(P:(Int->Nat)->Prop):Res (Int->Nat)->Prop
 |.ok v m=>(∀x,v x<65536)/\P v/\MG T m
 |.trap _ _ m=>aeC T m.out
theorem afN{E:IEnv}{P Q:(Int->Nat)->Prop}{l l':List IOp}{v:Int->Nat}(h1:aeO T P (iq E call l v m))(h2:∀v' m',(∀x,v' x<65536)->P v'->MG T m'->aeO T Q (iq E call l' v' m')):aeO T Q (iq E call (l++l') v m):=by
 rw[abD]
 cases h:iq E call l v m with
 |ok v' m'=>rw[h] at h1;exact h2 v' m' h1.1 h1.2.1 h1.2.2
 |trap k i m'=>rw[h] at h1;exact h1
theorem ahk{E:IEnv}(d:ajC E)(c:afV T call):∀(os:List IOp) (v:Int->Nat) (m:Mach),(∀x,v x<65536)->MG T m->(∀o∈os,OpP o)->aeO T (fun _=>True) (iq E call os v m)
 | [],v,m,hv,h,_=>⟨hv,trivial,h⟩
 |o::os,v,m,hv,h,ho=>by
  unfold iq
  split
  ·exact h.out.1
  ·have hs:=aiQ d c (ho o (.head _)) hv h.pay mc mc (fun _=>i5 (hv _)) (fun _=>i5 (hv _))
   cases hr:oV E call o v m.pay with
   |ok x m'=>rw[hr] at hs;exact ahk d c os _ m' (ag9 hv hs.1.1) hs.2 fun o' ho'=>ho o' (.tail _ ho')
   |trap k i m'=>rw[hr] at hs;exact hs
def DI (t:Slv)(N:Nat)(D:Int->Prop)(v:Int->Nat):Prop:=∀x,D x->(0<=x/\x.toNat<N)/\t.knw x=true/\(t.get x).has (v x)
structure RepOk (T:RepF) (t:Slv) (N:Nat):Prop where
 eq:T.R=afa t
 ok:OkS N t
 n:N<=65536
theorem RepOk.get{N:Nat}(h:RepOk T t N)(c:0<=x/\x.toNat<N)(hk:t.knw x=true):(x%65536).toNat=x.toNat/\x.toNat<T.R.length/\T.R.getD x.toNat ⟨0,0⟩=t.get x:=by
 have:=h.n;have h1:=agL h.ok c.2;rw[show((x.toNat:Nat):Int)=x by omega,if_pos hk] at h1;refine⟨by omega,by rw[h.eq,fill_len h.ok];exact c.2,?_⟩;rw[h.eq,Jj,h1];rfl
theorem di_upd{N:Nat}{D:Int->Prop}{v:Int->Nat}(h:DI t N D v)(c:(N:Int)<=nx)(r:Nat):DI t N D (iY v nx r):=fun x hx=>by
 have:=h x hx;refine⟨this.1,this.2.1,?_⟩;unfold iY;rw[if_neg (by have:=this.1;omega)];exact this.2.2
theorem aju{N:Nat}(j:RepOk T t N){E:IEnv}{D:Int->Prop}(d:(N:Int)<=nx){v:Int->Nat}(hv:∀x,v x<65536)(h:MG T m)(c:DI t N D v)(g:0<=x->D x):
 aeO T (DI t N D) (iq E call (aeD nx x) v m):=by
 unfold aeD
 split
 ·rename_i o
  obtain⟨h1,h2,h3⟩:=c x (g o);obtain⟨e1,e2,e3⟩:=j.get h1 h2
  have:=ai8 (T:=T) (E:=E) (call:=call) (nx:=nx) (x:=x) (n:=(x%65536).toNat) (P:=254) (Q:=255) (v:=v) h Zo Zo Zo
   ⟨fun _=>⟨by show(x%65536).toNat<_;omega,rfl,by show(T.R.getD (x%65536).toNat ⟨0,0⟩).has (v x);rw[e1,e3];exact h3⟩,fun e=>absurd (show(254:Nat)=253 from e) Zd⟩ ⟨by decide,by decide⟩
  cases hr:iq E call (grp nx (x%65536).toNat 254 x 255) v m with
  |ok v' m'=>rw[hr] at this;obtain⟨rfl,l⟩:=this;exact⟨afo hv Zo,di_upd c d _,l⟩
  |trap k i m'=>rw[hr] at this;exact this
 ·exact⟨hv,c,h⟩
theorem run_acc{N:Nat}{E:IEnv}{D:Int->Prop}(d:(N:Int)<=nx){v:Int->Nat}(hv:∀x,v x<65536)(h:MG T m)(c:DI t N D v)
 (g:lx o=true->D o.a/\aeV T (253,ac%65536) (252,v o.a)):aeO T (DI t N D) (iq E call (afc nx ac o) v m):=by
 unfold afc
 split
 ·rename_i l
  obtain⟨h1,h2⟩:=g l;have h3:=(c o.a h1).1;have:=ai8 (T:=T) (E:=E) (call:=call) (nx:=nx) (x:=o.a) (n:=ac%65536) (P:=253) (Q:=252) (v:=v) h Zo Zo Zo h2 ⟨by decide,by decide⟩
  cases hr:iq E call (grp nx (ac%65536) 253 o.a 252) v m with
  |ok v' m'=>rw[hr] at this;obtain⟨rfl,j⟩:=this;exact⟨afo hv Zo,di_upd c d _,j⟩
  |trap k i m'=>rw[hr] at this;exact this
 ·exact⟨hv,c,h⟩
theorem aij(h:(zi o.code).a=true):o.a∈rR o:=by
 unfold rR;rw[if_pos h];simp
theorem mem_b(h:(zi o.code).b=true):o.b∈rR o:=by
 unfold rR;rw[if_pos h];simp
theorem run_op{N:Nat}(hT:RepOk T t N){p:IProg}{E:IEnv}(hp:E.p.data=p.data)(hE:ajC E)(j:afV T call){D:Int->Prop}(a0:(N:Int)<=nx)(ho:OpP o)
 (hf:ajA p o t) (hr:0<=o.res->o.res.toNat<N) (g:∀x∈rR o,D x) (a1:lx o=true->((0<=o.a/\o.a.toNat<N)/\t.knw o.a=true)->∀w,(t.get o.a).has w->aeV T (253,ac%65536) (252,w)) {v:Int->Nat} (hv:∀x,v x<65536)  (h:MG T m) (l:DI t N D v):
 aeO T (DI t N (fun x=>D x∨(x=o.res/\0<=o.res))) (iq E call (ajG nx ac o) v m):=by
 unfold ajG;refine afN (run_acc a0 hv h l fun ha=>⟨g _ (aij (aiy ha)),a1 ha ⟨(l _ (g _ (aij (aiy ha)))).1,(l _ (g _ (aij (aiy ha)))).2.1⟩ _ (l _ (g _ (aij (aiy ha)))).2.2⟩) fun v1 m1 hv1 hD1 h1=>?_
 rw[aco]
 split
 ·exact h1.out.1
 ·have hs:=aiQ hE j ho hv1 h1.pay (hT.ok.get o.a) (hT.ok.get o.b) (fun e=>(hD1 _ (g _ (aij e))).2.2) (fun e=>(hD1 _ (g _ (mem_b e))).2.2);have hg:resG E o (t.get o.a) (t.get o.b)=afO p t o:=by unfold resG afO;rw[hp]
  rw[hg] at hs
  cases u:oV E call o v1 m1.pay with
  |trap k i m'=>rw[u] at hs;exact hs
  |ok x m'=>
   rw[u] at hs
   have a2:DI t N (fun x=>D x∨(x=o.res/\0<=o.res)) (setV v1 o.res x):=fun y c=>by
    unfold setV
    by_cases d:0<=o.res
    ·rw[if_pos d];unfold iY
     by_cases e:y=o.res
     ·rw[if_pos e];obtain⟨k1,k2⟩:=hf d;rw[e];exact⟨⟨d,hr d⟩,k1,k2.has hs.1.2⟩
     ·rw[if_neg e];rcases c with c|c
      ·exact hD1 y c
      ·exact absurd c.1 e
    ·rw[if_neg d];rcases c with c|c
     ·exact hD1 y c
     ·exact absurd c.2 d
   exact aju hT (Int.le_trans a0 (agy nx o)) (ag9 hv1 hs.1.1) hs.2 a2 fun d=> .inr ⟨rfl,d⟩
theorem aeO.mono{P Q:(Int->Nat)->Prop}{r:Res (Int->Nat)}(h:aeO T P r)(c:∀v,P v->Q v):aeO T Q r:=by
 cases r with
 |ok v m=>exact⟨h.1,c v h.2.1,h.2.2⟩
 |trap k i m=>exact h
structure TrcIn (T:RepF) (t:Slv) (N:Nat) (p:IProg) (D:Int->Prop) (ac:Nat) (os:List IOp):Prop where
 op:∀o∈os,OpP o/\ajA p o t/\(0<=o.res->o.res.toNat<N)
 use:∀(k:Nat) o,os[k]? =some o->∀x∈rR o,D x∨∃j o',j<k/\os[j]? =some o'/\o'.res=x/\0<=x
 acc:∀(k:Nat) o,os[k]? =some o->lx o=true->((0<=o.a/\o.a.toNat<N)/\t.knw o.a=true)->∀w,(t.get o.a).has w->aeV T (253,i7 ac (os.take k)%65536) (252,w)
theorem aji{N:Nat}(hT:RepOk T t N){p:IProg}{E:IEnv}(hp:E.p.data=p.data)(hE:ajC E)(d:afV T call):∀(os:List IOp) (D:Int->Prop) (nx:Int) (ac:Nat) (v:Int->Nat) (m:Mach),(N:Int)<=nx->TrcIn T t N p D ac os->(∀x,v x<65536)->MG T m->DI t N D v->
 aeO T (DI t N (fun x=>D x∨∃o∈os,o.res=x/\0<=x)) (iq E call (aeU nx ac os) v m)
 | [],D,nx,ac,v,m,hnx,hO,hv,h,hD=>⟨hv,(fun x hx=>by
  rcases hx with hx|⟨o,ho,_⟩
  ·exact hD x hx
  ·cases ho),h⟩
 |o::os,D,nx,ac,v,m,hnx,hO,hv,h,hD=>by
  unfold aeU;obtain⟨h1,h2,h3⟩:=hO.op o (.head _);refine afN (run_op hT hp hE d hnx h1 h2 h3 (fun x hx=>?_) (fun ha hk w hw=>hO.acc 0 o rfl ha hk w hw) hv h hD) fun v1 m1 hv1 hD1 hm1=>?_
  ·rcases hO.use 0 o rfl x hx with u|⟨j,_,y,_⟩
   ·exact u
   ·exact absurd y (Nat.not_lt_zero _)
  ·refine(aji hT hp hE d os _ (ajF nx o) (afl ac o) v1 m1 (Int.le_trans hnx (ahw nx o)) ⟨fun o' c=>hO.op o' (.tail _ c),fun k o' hk x hx=>?_,fun k o' hk ha hkn w hw=>?_⟩ hv1 hm1 hD1).mono fun v2 hv2 x hx=>hv2 x ?_
   ·rcases hO.use (k+1) o' (by simpa using hk) x hx with u|⟨j,o2,y,l,g,i⟩
    ·exact .inl (.inl u)
    ·cases j with
     |zero=>simp at l;subst l;exact .inl (.inr ⟨g.symm,by omega⟩)
     |succ j=>exact .inr ⟨j,o2,by omega,by simpa using l,g,i⟩
   ·exact hO.acc (k+1) o' (by simpa using hk) ha hkn w hw
   ·rcases hx with hx|⟨o',c,g,i⟩
    ·exact .inl (.inl hx)
    ·rcases Jq.1 c with rfl|c
     ·exact .inl (.inr ⟨g.symm,by omega⟩)
     ·exact .inr ⟨o',c,g,i⟩
theorem ah8{N:Nat}(hT:RepOk T t N){E:IEnv}:∀(ps:List Int) (D:Int->Prop) (nx:Int) (v:Int->Nat) (m:Mach),(N:Int)<=nx->(∀x∈ps,D x)->(∀x,v x<65536)->MG T m->DI t N D v->
 aeO T (DI t N D) (iq E call (df nx ps) v m)
 | [],D,nx,v,m,hnx,hp,hv,h,hD=>⟨hv,hD,h⟩
 |x::ps,D,nx,v,m,hnx,hp,hv,h,hD=>by
  unfold df;exact afN (aju hT hnx hv h hD fun _=>hp x (.head _)) fun v1 m1 hv1 hD1 hm1=>ah8 hT ps D (bf nx x) v1 m1 (Int.le_trans hnx (afg nx x)) (fun y hy=>hp y (.tail _ hy)) hv1 hm1 hD1
theorem ae3:∀(ps:List Int) (xs:List Nat) (v:Int->Nat),(∀x,v x<65536)->(∀a∈xs,a<65536)->∀x,r7 ps xs v x<65536
 | [],_,v,hv,_=>hv
 |_::_,[],v,hv,_=>hv
 |p::ps,a::xs,v,hv,ha=>ae3 ps xs _ (afo hv (ha a (.head _))) fun b hb=>ha b (.tail _ hb)
theorem ajj{N:Nat}{D:Int->Prop}:∀(ps:List Int) (xs:List Nat) (v:Int->Nat),ps.length=xs.length->(∀(j:Nat) x a,ps[j]? =some x->xs[j]? =some a->(0<=x/\x.toNat<N)/\t.knw x=true/\(t.get x).has a)->DI t N D v->DI t N (fun x=>D x∨x∈ps) (r7 ps xs v)
 | [],[],v,_,_,hD=>fun x hx=>by
   rcases hx with hx|hx
   ·exact hD x hx
   ·cases hx
 |p::ps,[],v,hl,_,_=>by simp at hl
 | [],a::xs,v,hl,_,_=>by simp at hl
 |p::ps,a::xs,v,hl,hj,hD=>fun x hx=>by
  have h1:DI t N (fun x=>D x∨x=p) (iY v p a):=fun y c=>by
   unfold iY
   by_cases e:y=p
   ·rw[if_pos e,e];exact hj 0 p a rfl rfl
   ·rw[if_neg e];rcases c with c|c
    ·exact hD y c
    ·exact absurd c e
  refine ajj ps xs _ (by simpa using hl) (fun j y b c hb=>hj (j+1) y b (by simpa using c) (by simpa using hb)) h1 x ?_;rcases hx with hx|hx
  ·exact .inl (.inl hx)
  ·rcases Jq.1 hx with rfl|hx
   ·exact .inl (.inr rfl)
   ·exact .inr hx
theorem ahK{V:List Nat}(h:aiT bl i k x)(l:Walk (GE (zy bl)) (fun c=>c∈V∨c=i) 0 i):
 ((∃c∈V,agf (xz bl c) x)∨x∈(xz bl i).params)∨∃j o,j<k/\(xz bl i).ops[j]? =some o/\o.res=x/\0<=x:=by
 rcases h with(h|h)|⟨c,h1,h2,h3,m⟩
 ·exact .inl (.inr (by simpa using h))
 ·exact .inr h
 ·by_cases e:c∈V
  ·exact .inl (.inl ⟨c,e,m⟩)
  ·exact absurd (l.imp fun d g=>by
    rcases g with g|g
    ·rintro rfl;exact e g
    ·rintro rfl;exact h1 g) h3
structure TrFn (T:RepF) (t:Slv) (p:IProg) (bl:List IBlk):Prop where
 st:StF p bl
 rep:RepOk T t (aaG bl).toNat
 cnt:0<=aaG bl
 fix:∀i:Nat,i<bl.length->aib p bl (xz bl i) t
 rng:∀i:Nat,i<bl.length->(∀x∈(xz bl i).params,0<=x/\x.toNat<(aaG bl).toNat)/\∀o∈(xz bl i).ops,0<=o.res->o.res.toNat<(aaG bl).toNat
 ent:∀x∈(xz bl (0:Nat)).params,t.knw x=true/\t.get x=vu
 ops:∀i:Nat,i<bl.length->∀o∈(xz bl i).ops,OpP o
 acc:∀(i k:Nat) o,i<bl.length->(xz bl i).ops[k]? =some o->lx o=true->((0<=o.a/\o.a.toNat<(aaG bl).toNat)/\t.knw o.a=true)->∀w,(t.get o.a).has w->aeV T (253,i7 (i7 0 ((bl.take i).flatMap (·.ops))) ((xz bl i).ops.take k)%65536) (252,w)
theorem afE{p:IProg}(g:TrFn T t p bl){E:IEnv}(hp:E.p.data=p.data)(hE:ajC E)(a5:afV T call):∀(n i:Nat) (V:List Nat) (args:List Nat) (v:Int->Nat) (m:Mach),i<bl.length->
 Walk (GE (zy bl)) (fun c=>c∈V∨c=i) 0 i->DI t (aaG bl).toNat (fun x=>(∃c∈V,agf (xz bl c) x)∨x∈(xz bl i).params) (r7 (xz bl i).params args v)->(∀x,r7 (xz bl i).params args v x<65536)->MG T m->
 aeJ T aje (tJ E call (m7 (aaG bl) 0 bl) n (i:Int) args v m)
 |0,i,V,args,v,m,hi,hw,hD1,hv1,h=>h.out.1
 |n+1,i,V,args,v,m,hi,hw,hD1,hv1,h=>by
  obtain⟨b,hb⟩:∃b,bl[i]? =some b:=⟨_,Jd hi⟩
  obtain⟨nx,c5,c2⟩:=afy bl (aaG bl) 0 i b hb;have d:xz bl (i:Int)=b:=z6 hb;have c3:xz (m7 (aaG bl) 0 bl) (i:Int)=ahf nx (i7 0 ((bl.take i).flatMap (·.ops))) b:=z6 c2;have hN:((aaG bl).toNat:Int)<=nx:=by have:=g.cnt;omega
  have b0:=g.fix i hi;have b3:=g.rng i hi;have b4:=g.ops i hi;have c1:=g.st.use i;have b6:=g.st.ends i hi;have a0:=g.st.trm i hi;have c4:=g.acc i;rw[d] at hD1 hv1 b0 b3 b4 b6 a0;unfold tJ;rw[c3]
  show aeJ T aje (match iq E call (df nx b.params++aeU (gw nx b.params) (i7 0 ((bl.take i).flatMap (·.ops))) b.ops) (r7 b.params args v) m with
   |.trap k i m'=> .trap k i m'
   |.ok v2 m2=>
    if m2.fuel<=0 then .trap 7 0 m2
    else if b.term.kind=4 then .ok (if b.term.a=-1 then 0 else v2 b.term.a) m2.pay
    else if b.term.kind=5 then .trap 1 0 m2.pay
    else tJ E call (m7 (aaG bl) 0 bl) n (wK b.term (v2 b.term.a)).block ((wK b.term (v2 b.term.a)).args.map v2) v2 m2.pay)
  have u:=afN (ah8 (E:=E) (call:=call) g.rep b.params _ nx _ m hN (fun x l=> .inr l) hv1 h hD1) fun v1 m1 hw1 hD2 hm1=>
   aji g.rep hp hE a5 b.ops _ (gw nx b.params) (i7 0 ((bl.take i).flatMap (·.ops))) v1 m1 (Int.le_trans hN (aeZ _ _))
    ⟨fun o ho=>⟨b4 o ho,b0.1 o ho,b3.2 o ho⟩,fun k o hk x l=>by
      have:=ahK (c1 k o hi (by rw[d];exact hk) x l) hw;rw[d] at this
      exact this,fun k o hk hak hkn w hww=>by
      have:=c4 k o hi (by rw[d];exact hk) hak hkn w hww;rw[d] at this
      exact this⟩ hw1 hm1 hD2
  cases hr:iq E call (df nx b.params++aeU (gw nx b.params) (i7 0 ((bl.take i).flatMap (·.ops))) b.ops) (r7 b.params args v) m with
  |trap k i' m'=>rw[hr] at u;exact u
  |ok v2 m2=>
   rw[hr] at u;obtain⟨a8,b8,a2⟩:=u;simp only
   by_cases h1:m2.fuel<=0
   ·rw[if_pos h1];exact a2.out.1
   rw[if_neg h1]
   by_cases h4:b.term.kind=4
   ·rw[if_pos h4];refine⟨?_,a2.pay⟩
    show(if b.term.a=-1 then 0 else v2 b.term.a)<65536
    split
    ·decide
    ·exact a8 _
   rw[if_neg h4]
   by_cases h5:b.term.kind=5
   ·rw[if_pos h5];exact a2.out.1
   rw[if_neg h5];obtain⟨e,he⟩:∃e,wK b.term (v2 b.term.a)=e:=⟨_,rfl⟩
   have a3:e∈b.term.to:=by rw[<-he];exact lL (acV a0) h4 h5 _
   rw[he]
   have b1:uM bl e=true:=by
    unfold mb at a0;rw[Jm,Oe] at a0;exact a0.1 e a3
   unfold uM at b1;simp only[Jm,decide_eq_true_eq] at b1;obtain⟨⟨c8,c7⟩,b7⟩:=b1;have a4:((e.block.toNat:Nat):Int)=e.block:=Zo;rw[<-a4];rw[<-a4] at b7;refine afE g hp hE a5 n e.block.toNat (i::V) (e.args.map v2) v2 m2.pay Zo ?_ (ajj _ _ _ (by rw[Nr];exact b7.symm) ?_ ?_) (ae3 _ _ _ a8 fun a ha'=>by obtain⟨x,_,rfl⟩:=Nu.1 ha';exact a8 x) a2.pay
   ·refine .snoc (hw.imp fun c hc=>?_) (b:=i) ?_ (.inr rfl)
    ·rcases hc with hc|rfl
     ·exact .inl (.tail _ hc)
     ·exact .inl (.head _)
    ·show e.block.toNat∈succ (zy bl) i
     rw[ahU hi,d];exact Oj (f:=fun e:IEdge=>e.block.toNat) a3
   ·intro j x a l b2;rw[Jr,Oz] at b2;obtain⟨y,hy,rfl⟩:=b2
    have hz:(x,y)∈(xz bl (e.block.toNat:Int)).params.zip e.args:=by
     refine Ji (i:=j) ?_;exact List.getElem?_zip_eq_some.2 ⟨l,hy⟩
    rw[a4] at hz l;have b5:=b0.2 e a3 (x,y) hz
    have b9:y∈mE b.term:=by
     unfold mE;refine Qf _ ?_;exact List.mem_flatten.2 ⟨e.args,Oj (f:=fun e:IEdge=>e.args) a3,Ji hy⟩
    have a6:=ahK (b6 y b9) hw;rw[d] at a6
    have c0:=b8 y (by
     rcases a6 with a6|⟨j',o,_,h6,h7,h8⟩
     ·exact .inl a6
     ·exact .inr ⟨o,Ji h6,h7,h8⟩)
    refine⟨?_,b5.1,b5.2.has c0.2.2⟩;have:=(g.rng e.block.toNat Zo).1 x (by rw[a4];exact Ji l);exact this
   ·intro x l;obtain⟨c,hc,a1⟩:=l;refine b8 x ?_;rcases Jq.1 hc with rfl|hc
    ·rw[d] at a1;rcases a1 with a1|⟨o,ho,h6,h7⟩
     ·exact .inl (.inr a1)
     ·exact .inr ⟨o,ho,h6,h7⟩
    ·exact .inl (.inl ⟨c,hc,a1⟩)
theorem afT{E:IEnv}(l:ajC E)(g:afV T call)(ho:∀b∈bl,∀o∈b.ops,OpP o):∀(n:Nat) (i:Int) (args:List Nat) (v:Int->Nat) (m:Mach),(∀a∈args,a<65536)->(∀x,v x<65536)->MG T m->
 aeJ T aje (tJ E call bl n i args v m)
 |0,i,args,v,m,ha,hv,h=>h.out.1
 |n+1,i,args,v,m,ha,hv,h=>by
  have hob:∀o∈(xz bl i).ops,OpP o:=fun o hoo=>by
   unfold xz at hoo;rw[Jj] at hoo
   cases e:bl[i.toNat]? with
   |none=>rw[e] at hoo;cases hoo
   |some b=>rw[e] at hoo;exact ho b (Ji e) o hoo
  have c:=ahk l g (xz bl i).ops _ m (ae3 (xz bl i).params args v hv ha) h hob;unfold tJ
  cases hr:iq E call (xz bl i).ops (r7 (xz bl i).params args v) m with
  |trap k i' m'=>rw[hr] at c;exact c
  |ok v2 m2=>
   rw[hr] at c;obtain⟨j,_,d⟩:=c;simp only
   split
   ·exact d.out.1
   ·split
    ·refine⟨?_,d.pay⟩
     show(if _ then 0 else v2 _)<65536
     split
     ·decide
     ·exact j _
    ·split
     ·exact d.out.1
     ·exact afT l g ho n _ _ v2 m2.pay (fun a ha'=>by obtain⟨x,_,rfl⟩:=Nu.1 ha';exact j x) j d.pay
theorem afC{p:IProg}{f:Nat}(hf:f<p.funcs.length)(hF:p.funcs.getD f []≠ []->TrFn T t p (p.funcs.getD f []))(ho:∀bl∈p.funcs,∀b∈bl,∀o∈b.ops,OpP o){I Q:List Nat}(k:∀x∈I,x<65536):∀r,afV T (xW ⟨vt p f,I,Q⟩ r)
 |0=>fun g args m ha h=>h.out.1
 |r+1=>fun g args m ha h=>by
  have ih:=afC hf hF ho (I:=I) (Q:=Q) k r;have l:ajC ⟨vt p f,I,Q⟩:=k;rw[callR_sc]
  split
  ·exact h.out.1
  ·rename_i j
   by_cases e:g.toNat=f
   ·have hg:(vt p f).funcs.getD g.toNat []=m7 (aaG (p.funcs.getD f [])) 0 (p.funcs.getD f []):=by
     show(p.funcs.set f _).getD g.toNat []=_
     rw[e,Jj,Nn hf];rfl
    have u:p.funcs.getD f []≠ []:=fun h=>j (by
     show((vt p f).funcs.getD g.toNat []).isEmpty=true
     rw[hg,h];rfl)
    have hF:=hF u
    show aeJ T aje (tJ ⟨vt p f,I,Q⟩ (xW ⟨vt p f,I,Q⟩ r) ((vt p f).funcs.getD g.toNat []) (m.fuel.toNat+1) ((0:Nat):Int) args (fun _=>0) m)
    rw[hg]
    have hl:0<(p.funcs.getD f []).length:=by
     cases d:p.funcs.getD f [] with
     |nil=>exact absurd d u
     |cons b bs=>exact Nat.succ_pos _
    have i:=ae3 (xz (p.funcs.getD f []) (0:Nat)).params args (fun _=>0) (fun _=>by decide) ha;refine afE hF rfl l ih _ 0 [] args _ m hl (.refl (.inr rfl)) (fun x d=>?_) i h;rcases d with⟨c,w,_⟩|d
    ·cases w
    ·obtain⟨h1,h2⟩:=hF.ent x d;exact⟨(hF.rng 0 hl).1 x d,h1,by rw[h2];exact i5 (i x)⟩
   ·have hg:(vt p f).funcs.getD g.toNat []=p.funcs.getD g.toNat []:=by
     show(p.funcs.set f _).getD g.toNat []=_
     rw[Jj,Ns (fun h=>e h.symm),<-Jj]
    show aeJ T aje (tJ ⟨vt p f,I,Q⟩ (xW ⟨vt p f,I,Q⟩ r) ((vt p f).funcs.getD g.toNat []) (m.fuel.toNat+1) 0 args (fun _=>0) m)
    rw[hg];refine afT l ih (fun b hb=>?_) _ 0 args _ m ha (fun _=>by decide) h;rw[Jj] at hb
    cases d:p.funcs[g.toNat]? with
    |none=>rw[d] at hb;cases hb
    |some bl=>rw[d] at hb;exact ho bl (Ji d) b hb
theorem ram_lt (s:ByteArray):∀x∈v7 s,x<256:=fun x hx=>by
 unfold v7 at hx;obtain⟨k,_,rfl⟩:=Nu.1 hx;exact UInt8.toNat_lt _
theorem agp{p:IProg}{f:Nat}(hf:f<p.funcs.length)(l:p.funcs.getD f []≠ []->TrFn T t p (p.funcs.getD f []))(ho:∀bl∈p.funcs,∀b∈bl,∀o∈b.ops,OpP o){I Q:List Nat}(j:∀x∈I,x<65536)(g:Int){args:List Nat}(d:∀a∈args,a<65536)(ram:ByteArray)(fuel:Int):
 aeC T (bQ ⟨vt p f,I,Q⟩ g args ram fuel).out:=by
 have c:∀(r:Nat) (L:List Nat),(∀x∈L,x<256)->aeC T (adO (xW ⟨vt p f,I,Q⟩ r g args ⟨L,fuel,[],0,0⟩)).out:=fun r L hL=>by
  have h:=afC hf l ho (I:=I) (Q:=Q) j r g args ⟨L,fuel,[],0,0⟩ d ⟨good_nil T,hL⟩
  cases hr:xW ⟨vt p f,I,Q⟩ r g args ⟨L,fuel,[],0,0⟩ with
  |ok x m=>rw[hr] at h;exact h.2.out.1
  |trap k i m=>rw[hr] at h;exact h
 unfold bQ;exact c 100 (v7 ram) (ram_lt ram)
def agN (o:IOp):IOp×Value:=(o,L)
abbrev ajJ:=List (IOp×Value)×Int×Nat
def tqI (S:ajJ):Int ⊕ (IOp×Value)->ajJ
 |.inl v=>(S.1++(aeD S.2.1 v).map agN,bf S.2.1 v,S.2.2)
 |.inr q=>(S.1++(afc S.2.1 S.2.2 q.1).map agN++ [q]++(aeD (aeA S.2.1 q.1) q.1.res).map agN,bf (aeA S.2.1 q.1) q.1.res,afl S.2.2 q.1)
def tqS (ps:List Int)(qs:List (IOp×Value))(nx:Int)(ac j:Nat):ajJ:=((ps.map Sum.inl++qs.map Sum.inr).take j).foldl tqI ([],nx,ac)
theorem tqS_par{ps:List Int}{v:Int}(h:ps[j]? =some v):tqS ps qs nx ac (j+1)=tqI (tqS ps qs nx ac j) (.inl v):=by
 have hl:=(Jh.1 h).1;unfold tqS;rw[Nh,Np (by rw[Nr];exact hl),Jr,h,List.foldl_append];rfl
theorem tqS_op{ps:List Int}{q:IOp×Value}(c:ps.length<=j)(h:qs[j-ps.length]? =some q):tqS ps qs nx ac (j+1)=tqI (tqS ps qs nx ac j) (.inr q):=by
 unfold tqS;rw[Nh,Nc (by rw[Nr];exact c),Nr,Jr,h,List.foldl_append];rfl
theorem ahT:∀(ps:List Int) (S:ajJ),(ps.map Sum.inl).foldl tqI S=(S.1++(df S.2.1 ps).map agN,gw S.2.1 ps,S.2.2)
 | [],S=>by obtain⟨a,b,c⟩:=S;simp[df,gw]
 |v::ps,S=>by
  rw[Ql,Qk,ahT ps];obtain⟨a,b,c⟩:=S;simp[tqI,df,gw]
theorem ah0 (l:List IOp):(l.map agN).map (·.1)=l:=by
 rw[List.map_map];exact List.map_id _
theorem ajb:∀(qs:List (IOp×Value)) (S:ajJ),(((qs.map Sum.inr).foldl tqI S).1.map (·.1)=S.1.map (·.1)++aeU S.2.1 S.2.2 (qs.map (·.1)))/\((qs.map Sum.inr).foldl tqI S).2=(agP S.2.1 (qs.map (·.1)),i7 S.2.2 (qs.map (·.1)))
 | [],S=>by obtain⟨a,b,c⟩:=S;simp[aeU,agP,i7]
 |q::qs,S=>by
  rw[Ql,Qk];obtain⟨h1,h2⟩:=ajb qs (tqI S (.inr q));obtain⟨a,b,c⟩:=S;refine⟨h1.trans ?_,h2.trans rfl⟩;simp only[tqI,Js,ah0,Ql,List.map_nil,aeU,ajG,ajF];simp
theorem tqS_full{ps:List Int}{n:Nat}(c:n=ps.length+qs.length):(tqS ps qs nx ac n).1.map (·.1)=df nx ps++aeU (gw nx ps) ac (qs.map (·.1))/\(tqS ps qs nx ac n).2=(agP (gw nx ps) (qs.map (·.1)),i7 ac (qs.map (·.1))):=by
 subst c;unfold tqS;rw[Oy (by rw[Jk,Nr,Nr];omega),List.foldl_append,ahT];obtain⟨h1,h2⟩:=ajb qs (([]:List (IOp×Value))++(df nx ps).map agN,gw nx ps,ac);refine⟨h1.trans ?_,h2⟩;rw[Op,ah0]
theorem ag0 (nx v:Int):(aeD nx v).length<=3/\nx<=bf nx v/\bf nx v<=nx+1:=by
 unfold aeD bf
 split
 ·exact⟨Je _,by omega,by omega⟩
 ·exact⟨Jt _,by omega,by omega⟩
theorem ag8 (nx:Int)(ac:Nat)(o:IOp):(afc nx ac o).length<=3/\(nx<=aeA nx o/\aeA nx o<=nx+1)/\afl ac o<=ac+1:=by
 unfold afc aeA afl
 split
 ·exact⟨Je _,by omega,by omega⟩
 ·exact⟨Jt _,by omega,by omega⟩
theorem tqI_len (S:ajJ)(x:Int ⊕ (IOp×Value)):(tqI S x).1.length<=S.1.length+7/\(S.2.1<=(tqI S x).2.1/\(tqI S x).2.1<=S.2.1+2)/\(tqI S x).2.2<=S.2.2+1:=by
 obtain⟨a,b,c⟩:=S
 cases x with
 |inl v=>
  have h:=ag0 b v;refine⟨?_,⟨h.2.1,?_⟩,?_⟩
  ·show(a++(aeD b v).map agN).length<=a.length+7
   rw[Jk,Nr];omega
  ·show bf b v<=b+2
   omega
  ·show c<=c+1
   omega
 |inr q=>
  have h:=ag8 b c q.1;have h2:=ag0 (aeA b q.1) q.1.res;refine⟨?_,⟨?_,?_⟩,h.2.2⟩
  ·show(a++(afc b c q.1).map agN++ [q]++(aeD (aeA b q.1) q.1.res).map agN).length<=a.length+7
   simp only[Jk,Nr,Ju];omega
  ·show b<=bf (aeA b q.1) q.1.res
   omega
  ·show bf (aeA b q.1) q.1.res<=b+2
   omega
theorem ajd:∀(l:List (Int ⊕ (IOp×Value))) (S:ajJ),(l.foldl tqI S).1.length<=S.1.length+l.length*7/\(S.2.1<=(l.foldl tqI S).2.1/\(l.foldl tqI S).2.1<=S.2.1+l.length*2)/\(l.foldl tqI S).2.2<=S.2.2+l.length
 | [],S=>⟨by simp,⟨Og _,by simp⟩,by simp⟩
 |x::l,S=>by
  have h1:=ajd l (tqI S x);have h2:=tqI_len S x;rw[Qk,Nq];refine⟨?_,⟨?_,?_⟩,?_⟩<;>omega
theorem tqS_len (ps:List Int)(qs:List (IOp×Value))(nx:Int)(ac j:Nat):(tqS ps qs nx ac j).1.length<=j*7/\(nx<=(tqS ps qs nx ac j).2.1/\(tqS ps qs nx ac j).2.1<=nx+j*2)/\(tqS ps qs nx ac j).2.2<=ac+j:=by
 unfold tqS;have h:=ajd ((ps.map Sum.inl++qs.map Sum.inr).take j) ([],nx,ac);have hl:((ps.map Sum.inl++qs.map Sum.inr).take j).length<=j:=by rw[Oc];omega
 have h1:(([]:List (IOp×Value)),nx,ac).1.length=0:=rfl;have h2:(([]:List (IOp×Value)),nx,ac).2.1=nx:=rfl;have h3:(([]:List (IOp×Value)),nx,ac).2.2=ac:=rfl;rw[h1,h2,h3] at h;refine⟨?_,⟨h.2.1.1,?_⟩,?_⟩<;>omega
theorem grp_args (nx:Int)(n P:Nat)(x:Int)(Q:Nat):∀o∈grp nx n P x Q,o.args=[]:=by
 intro o ho;simp only[grp,Jq,List.not_mem_nil,or_false] at ho;rcases ho with rfl|rfl|rfl<;>rfl
theorem agh{α β:Type}(f:α->List β){l:List α}(hk:k<l.length)(a:α):((l.set k a).flatMap f).Perm (f a++(l.eraseIdx k).flatMap f):=by
 have h:=aef f (l:=l.set k a) (k:=k) (b:=a) (by rw[Nn hk]);rw[List.eraseIdx_set_eq] at h;exact h
section
variable {w:World} {p1 o5:Nat} {pc:List Value} {BX:List (Nat×List Value×TypeId)} {wx:World}
theorem RwMid.addO{L M:List (IOp×Value)}{ov:Value}(h:RwMid w p1 o5 pc BX (tt ov L::X) wx)(d:N wx w1)(hg:w1.grownBy w9 ov.ownBlock)
 (g:w9.ownsRow (p1+1+1) 76 6 c (L.length+M.length) (L.flatMap zU++M.flatMap zU)) (i:c.ownBlock=ov.ownBlock∨c.ownBlock=some w1.heap.size):RwMid w p1 o5 pc BX (tt c (L++M)::X) w9:=by
 refine h.grow (r':=tt c (L++M)) (Uq _) d hg ?_ fun k e=>?_
 ·show w9.ownsRow _ _ 6 c (L++M).length ((L++M).flatMap zU)
  rw[Jk,Nx];exact g
 ·have e:c.ownBlock=some k:=e;rcases i with h1|h1
  ·exact .inl (h1.symm.trans e)
  ·rw[h1] at e;cases e;exact .inr d.size
theorem RwMid.nils:∀(l:List IOp) {RS:List Row},(∀o∈l,o.args=[])->RwMid w p1 o5 pc BX RS wx->RwMid w p1 o5 pc BX (wI (l.map agN)++RS) wx
 | [],_,_,h=>h
 |o::l,RS,ha,h=>by
  have h1:=RwMid.nils l (fun x hx=>ha x (.tail _ hx)) h;refine h1.nil (r:=zP (L) o.args) ?_ rfl;rw[ha o (.head _)];exact Jv _ _ _ _
theorem RwMid.addG{L:List (IOp×Value)}{ov:Value}{n P Q:Nat}(h:RwMid w p1 o5 pc BX (tt ov L::(wI L++X)) wx)(g:N wx w1)(hg:w1.grownBy w9 ov.ownBlock)
 (d:w9.ownsRow (p1+1+1) 76 6 c (L.length+3) (L.flatMap zU++ [U 1,U nx,U 0,U 0,Y n,.slice none 0 0,U 25,U (-1),U nx,U 0,Y P,.slice none 0 0,U 25,U (-1),U x,U 0,Y Q,.slice none 0 0])) (i:c.ownBlock=ov.ownBlock∨c.ownBlock=some w1.heap.size):
 RwMid w p1 o5 pc BX (tt c (L++(grp nx n P x Q).map agN)::(wI (L++(grp nx n P x Q).map agN)++X)) w9:=by
 have h1:=h.addO (M:=(grp nx n P x Q).map agN) g hg d i;refine(RwMid.nils (grp nx n P x Q) (grp_args _ _ _ _ _) h1).perm ?_
 classical
 refine Jp.2 fun y=>?_
 simp only[wI,Js,Nb,Nf];omega
theorem RwMid.add1{L:List (IOp×Value)}{ov:Value}{q:IOp×Value}(h:RwMid w p1 o5 pc BX (tt ov L::(wI L++(wI (q::qs)++X))) wx)(g:N wx w1)(hg:w1.grownBy w9 ov.ownBlock)
 (d:w9.ownsRow (p1+1+1) 76 6 c (L.length+1) (L.flatMap zU++zU q)) (i:c.ownBlock=ov.ownBlock∨c.ownBlock=some w1.heap.size):
 RwMid w p1 o5 pc BX (tt c (L++ [q])::(wI (L++ [q])++(wI qs++X))) w9:=by
 refine(h.addO (M:=[q]) g hg (by rw[Qa,List.flatMap_nil,Ua];exact d) i).perm ?_
 classical
 refine Jp.2 fun y=>?_
 simp only[wI,Js,Ql,List.map_nil,Nb,Nf,List.count_nil];omega
end
theorem yM.three{b n m:Nat}{xs:List Value}{e:TypeId}(h:O w b xs.toArray e)(d:xs.length=m*n)(c:∀u∈xs,u.oneCell'=true):yM w n (F b m m) m xs:=
 ⟨_,_,rfl,d,c,.inr ⟨_,rfl,Oi (cs:=xs.toArray) h⟩⟩
def aeL (t:PT)(n:Nat):List Row:=wY t.fv t.funcs::zP t.av t.args::vK t.dv t.data::v8 t.bv t.banks::(t.funcs.eraseIdx n).flatMap FT.rows
theorem wrapV (v:Int):IntKind.u16.wrap v=((v%65536).toNat:Int):=by rw[xY];omega
theorem aig{V:PV}{p:IProg}(hp:ProgIn w w.heap.size V p)(hs:SmallP p){n:Nat}(hn:p.funcs[n]? =some bl)(hC:0<=aaG bl/\aaG bl<=65536):
 Calls Tryz.prog 21 #[yH V p,U n] w (ajB w (vt p n)):=by
 obtain⟨fa,fc,l4,h9,u1⟩:=hp.funcs.form;obtain⟨aa,ac,m4,u9,u7⟩:=hp.args.form;obtain⟨da,dc,l7,u4,u3⟩:=hp.data.form;obtain⟨ba,bc,m0,b6,u5⟩:=hp.banks.form;obtain⟨p1,t8⟩:∃p1,w.heap.size=p1:=⟨_,rfl⟩
 have l:∀W,N w W->Calls Tryz.prog 18 #[.agg #[.slice fa p.funcs.length fc,.slice aa p.args.length ac,U p.entry,U p.handler,.slice da p.data.length dc,.slice ba p.banks.length bc]] W _:=fun W hb=>by
  have h:=uJ ((hp.below hb).mono hb.size) hs;unfold yH at h;rw[l4,m4,l7,m0] at h;exact h
 unfold yH;rw[l4,m4,l7,m0];have q6:N w ((w.alloc (I #[.slice fa p.funcs.length fc,.slice aa p.args.length ac,U p.entry,U p.handler,.slice da p.data.length dc,.slice ba p.banks.length bc] 29)).alloc (I #[.slice none 0 0,.slice none 0 0,U 0,U 0,.slice none 0 0,.slice none 0 0] 29)):=((Below.refl _ _).alloc (Je _) _).alloc Zs _;have B5:=hs.fn.1;have t5:=Ja l;have x6:=Ja q6;have HP:=Ja (Jb (hs.fn.2 bl (Ji hn)).1 (Jb (hp.p64.funcs bl (Ji hn)) (Jb hn hC)));obtain⟨C,n8⟩:∃C,aaG bl=C:=⟨_,rfl⟩
 have w0:=hC;rw[n8] at w0;have s9:=Ja n8;clear l q6 hp hs l4 m4 l7 m0 h9 u1 u9 u7 u4 u3 b6 u5 hn hC n8;go_enter Tryz.func21,Tryz.ntmps21;go_upto_region 2 with(go_at_call 18;go_must (refine(t5.out _ x6.out).mono ?_;rintro e w2 ⟨t,o1,d5,aa2,ac2,f7,f6,ba2,bc2,rfl,hV,ht,hr,hb⟩;have HT:=Ja (Jb hV (Jb ht (Jb hr hb)));clear hV ht hr hb))
 have d3:t.entry=p.entry/\t.handler=p.handler:=by rw[<-HT.out.2.1];exact⟨rfl,rfl⟩
 have g8:(zW t).toArray=#[.slice o1 p.funcs.length d5,.slice aa2 p.args.length ac2,U p.entry,U p.handler,.slice f7 p.data.length f6,.slice ba2 p.banks.length bc2]:=by
  unfold zW;rw[HT.out.1.1,HT.out.1.2.1,HT.out.1.2.2.1,HT.out.1.2.2.2,d3.1,d3.2]
 obtain⟨o5,k6⟩:∃o5,w2.heap.size=o5:=⟨_,rfl⟩
 have hm:RwMid w p1 o5 (zW t) [] t.rows (w2.alloc (I (zW t).toArray 29)):=RwMid.start t8 k6 HT.out.2.2.1 HT.out.2.2.2;rw[g8] at hm;have j2:p.funcs=t.funcs.map FT.fn:=by rw[<-HT.out.2.1];rfl
 have A2:t.funcs.length=p.funcs.length:=by rw[j2,Nr]
 have HC:=Ja g8;generalize v6:w2.alloc (I #[.slice o1 p.funcs.length d5,.slice aa2 p.args.length ac2,U p.entry,U p.handler,.slice f7 p.data.length f6,.slice ba2 p.banks.length bc2] 29)=W3 at *;rw[k6]
 obtain⟨F,hF,n6⟩:∃F,t.funcs[n]? =some F/\F.fn=bl:=by
  have h:=HP.out.2.2.1;rw[j2,Jr] at h
  cases e:t.funcs[n]? with
  |none=>rw[e] at h;cases h
  |some F=>rw[e] at h;exact⟨F,rfl,Nt h⟩
 have q7:wY t.fv t.funcs∈t.rows:=.head _;obtain⟨fg,B7,s3,h9,u2,y3,q3⟩:=hm.getS (f:=fun x:FT=> [x.bv]) (n:=1) Zd (fun _=>rfl) (r:=wY t.fv t.funcs) q7 ⟨rfl,rfl,Qh⟩ hF
 have w7:o1=some ⟨fg,0,none⟩:=by
  have h:t.fv=_:=s3;rw[HT.out.1.1] at h
  injection h
 subst w7
 have k7:RwMid w p1 o5 (zW t) [] (F.rows++aeL t n) W3:=hm.perm (by
  have h:=aef FT.rows hF;refine(List.Perm.cons _ (List.Perm.cons _ (List.Perm.cons _ (List.Perm.cons _ h)))).trans ?_
  classical
  refine Jp.2 fun y=>?_
  simp only[aeL,Nb,Nf]
  omega)
 obtain⟨m,i1⟩:∃m,F.blks.length=m:=⟨_,rfl⟩
 obtain⟨bga,bgc,s4⟩:=zG (k7.rows.own (zd F.bv F.blks) (.head _));have e5:F.bv=.slice bga m bgc:=by rw[<-i1];exact s4
 have f0:A W3 fg n (.slice bga m bgc):=by have h:=h9 0 _ rfl;rw[Nk] at h;rw[<-e5];exact h
 have b2:=hm.ho;rw[HC.out] at b2;have o0:A W3 o5 0 (.slice (some ⟨fg,0,none⟩) p.funcs.length d5):=zA (i:=0) b2 rfl;have ol:=lt_of_block b2;have A6:(n:Int)<(p.funcs.length:Int):=by have:=(Jh.1 HP.out.2.2.1).1;omega
 have k9:=k7.box [F.bv] 39;rw[e5] at k9;have A7:m<=2000000:=by have h:=HP.out.1.1;rw[<-n6] at h;unfold FT.fn at h;rw[Nr,i1] at h;exact h
 have g0:=Ja k9;have HF:=Ja (Jb hF (Jb n6 (Jb i1 (Jb e5 q3))));clear v6 hm k7 q7 s3 h9 u2 q3 s4 e5 b2 k9 k6 d3 g8 j2 hF n6 i1;go_upto_region 3 with fail;obtain⟨g6,h6⟩:∃g,W3.heap.size=g:=⟨_,rfl⟩
 rw[h6] at g0 ⊢;clear h6 o0 f0 ol;generalize W3.alloc (I #[.slice bga m bgc] 39)=W4 at *;have c9:=(g0.out.bx _ (.head _)).1;have q0:A W4 g6 0 (.slice bga m bgc):=zA (i:=0) c9 rfl;have ql:=lt_of_block c9;have n7:=jr (w:=W4) (FT.in (B:=p1+1+1) (f:=F) (fun r hr=>g0.out.rows.own r (Jz _ hr)) (by rw[HF.out.2.1];exact HP.out.2.1)) (Je _) (by rw[HF.out.2.1];exact HP.out.1);rw[HF.out.2.1,s9.out,HF.out.2.2.2.1] at n7;have x5:=Ja n7;clear n7 c9;go_upto_region 4 with(go_at_call 17;go_must (refine x5.out.mono ?_;rintro e w5 ⟨rfl,q5⟩))
 have x2:=Ja (g0.out.below q5);clear q5 q0 ql g0;go_wp2
 go_loopw [7,8,9] (fun nv cv iv wx=>∃(i:Nat) (nx:Int) (ac:Nat) (ds:List BT) (G:List Row),i<=m/\nv=U nx/\cv=U ac/\iv=U i/\Hid (ds.length=i/\m7 C 0 bl=ds.map BT.blk++m7 nx ac ((F.blks.drop i).map BT.blk)/\(C<=nx/\nx<=C+i*8000000)/\ac<=i*4000000/\RwMid w p1 o5 (zW t) [(g6,[F.bv],39)] (zd F.bv (ds++F.blks.drop i)::((ds++F.blks.drop i).flatMap BT.rows++(aeL t n++G))) wx)) (fun _ _ iv _=>m-(intOf iv).toNat)
 case atStart=>
  refine⟨0,C,0,[],[],Jt _,rfl,rfl,rfl,Ja ⟨rfl,?_,⟨Og _,by omega⟩,Je _,?_⟩⟩
  ·rw[<-HF.out.2.1];rfl
  ·have h:=x2.out;rw[<-HF.out.2.2.2.1] at h;rw[Ua];exact h
 case round=>
  obtain⟨i,nx,ac,ds,G,hi,rfl,rfl,rfl,HK⟩:=hrel;have c9:=(HK.out.2.2.2.2.bx _ (.head _)).1;have q0:A wr g6 0 (.slice bga m bgc):=by rw[<-HF.out.2.2.2.1];exact zA (i:=0) c9 rfl
  have ql:=lt_of_block c9
  by_cases b1:i<m
  ·have t2:(i:Int)<(m:Int):=Zo;have s7:=Ja b1;obtain⟨b,hb⟩:∃b,F.blks[i]? =some b:=⟨_,Jd (by rw[HF.out.2.2.1];exact b1)⟩
   obtain⟨dr,l9⟩:∃dr,F.blks.drop (i+1)=dr:=⟨_,rfl⟩
   have e3:F.blks.drop i=b::dr:=by
    obtain⟨l2,rfl⟩:=Jh.1 hb;rw[<-l9];exact Qn l2
   have l8:=HK.out.1;have l1:=HK.out.2.2.2.2;rw[e3] at l1;have m2:(ds++b::dr)[i]? =some b:=by rw[Nc Zo,l8,Qy];rfl
   have d9:RwMid w p1 o5 (zW t) [(g6,[F.bv],39)] (zd F.bv (ds++b::dr)::(b.rows++(ds.flatMap BT.rows++dr.flatMap BT.rows++(aeL t n++G)))) wr:=l1.perm (by
    classical
    refine Jp.2 fun y=>?_
    simp only[Nx,Qa,Nb,Nf]
    omega)
   obtain⟨bg,bgc3,o3,b6,u6,t3,q4⟩:=d9.getS (f:=zz) (n:=5) Zd (fun _=>rfl) (r:=zd F.bv (ds++b::dr)) (.head _) ⟨rfl,rfl,rfl⟩ m2
   have w8:bga=some ⟨bg,0,none⟩:=by
    have h:F.bv=_:=o3;rw[HF.out.2.2.2.1] at h
    injection h
   subst w8;obtain⟨pa,f1,i2⟩:=d9.formI (v:=b.pv) (xs:=b.params) (.tail _ (.head _));obtain⟨oa,oc,s1⟩:=zG (d9.rows.own (tt b.ov b.ops) (.tail _ (.tail _ (.head _))));obtain⟨ta,tc,s0⟩:=zG (d9.rows.own (xg b.tv b.tos) (.tail _ (.tail _ (.tail _ (.head _)))));have e4:b.ov=.slice oa b.ops.length oc:=s1;have h5:b.tv=.slice ta b.tos.length tc:=s0;have c0:A wr bg (i*5) (.slice pa b.params.length f1):=by rw[<-i2];exact b6 0 _ rfl
   have c1:A wr bg (i*5+1) (.slice oa b.ops.length oc):=by rw[<-e4];exact b6 1 _ rfl
   have c2:A wr bg (i*5+2) (U b.kind):=b6 2 _ rfl;have c3:A wr bg (i*5+3) (U b.a):=b6 3 _ rfl;have c4:A wr bg (i*5+4) (.slice ta b.tos.length tc):=by rw[<-h5];exact b6 4 _ rfl
   have d4:(zz b).toArray=#[.slice pa b.params.length f1,.slice oa b.ops.length oc,U b.kind,U b.a,.slice ta b.tos.length tc]:=by unfold zz;rw[i2,e4,h5]
   have l0:=d9.box (zz b) 84;rw[d4] at l0;have m1:=HP.out.1.2 b.blk (by rw[<-HF.out.2.1];exact Nu.2 ⟨b,Ji hb,rfl⟩);have m3:=HP.out.2.1 b.blk (by rw[<-HF.out.2.1];exact Nu.2 ⟨b,Ji hb,rfl⟩);have A3:b.params.length<=2000000:=m1.1;have A5:b.ops.length<=2000000:=by have h:=m1.2.1;unfold BT.blk at h;simp only[Nr] at h;exact h
   have y2:=HK.out.2.2.1;have y6:=HK.out.2.2.2.1;have i8:=Ja l0;have a1:=Ja (Jb d4 (Jb i2 (Jb e4 (Jb m3 (Jb e3 (Jb l9 (Jb l8 (Jb hb (Jb m2 q4)))))))));clear l1 d9 l0 b6 u6 q4 o3 i2 s1 e4 s0 h5 d4 m1 m3 hb e3 l9 l8 c9 b1 m2 t3;go_upto_region 9 with fail;obtain⟨b10,r6⟩:∃g,wr.heap.size=g:=⟨_,rfl⟩
   rw[r6] at i8 ⊢;clear r6 c0 c1 c2 c3 c4 q0 ql;generalize wr.alloc (I #[.slice pa b.params.length f1,.slice oa b.ops.length oc,U b.kind,U b.a,.slice ta b.tos.length tc] 84)=Y at *;have a5:=(i8.out.bx _ (.head _)).1;rw[a1.out.1] at a5;have y0:A Y b10 0 (.slice pa b.params.length f1):=zA (i:=0) a5 rfl;have yl:=lt_of_block a5;have wneg:IntKind.i64.wrap (-(b.params.length:Int))=-(b.params.length:Int):=Om _ Zo
   have p5:=(i8.out.nil (r:=tt (.slice none 0 0) []) (Jv _ _ _ _) rfl).perm (RS':=tt (.slice none 0 0) []::(wI []++(wI b.ops++(tt b.ov b.ops::zP b.pv b.params::xg b.tv b.tos::(ve b.tos++(zd F.bv (ds++b::dr)::(ds.flatMap BT.rows++dr.flatMap BT.rows++(aeL t n++G)))))))) (by
    classical
    refine Jp.2 fun y=>?_
    simp only[BT.rows,wI,List.map_nil,Nb,Nf,List.count_nil]
    omega)
   have x1:=Ja p5;clear a5 p5 i8;go_wp2;clear y0 yl
   go_loopw [7,8,11,12] (fun nv cv ov kv wx=>∃(j:Nat) (L:List (IOp×Value)) (nx1:Int) (ac1:Nat) (ra:Option Addr) (rc:Nat),j<=b.params.length+b.ops.length/\nv=U nx1/\cv=U ac1/\ov=.slice ra L.length rc/\kv=U ((j:Int)-(b.params.length:Int))/\Hid (tqS b.params b.ops nx ac j=(L,nx1,ac1)/\RwMid w p1 o5 (zW t) [(b10,zz b,84),(g6,[F.bv],39)] (tt (.slice ra L.length rc) L::(wI L++(wI (b.ops.drop (j-b.params.length))++(tt b.ov b.ops::zP b.pv b.params::xg b.tv b.tos::(ve b.tos++(zd F.bv (ds++b::dr)::(ds.flatMap BT.rows++dr.flatMap BT.rows++(aeL t n++G)))))))) wx)) (fun _ _ _ kv _=>b.params.length+b.ops.length-(intOf kv+b.params.length).toNat)
   case atStart=>exact⟨0,[],nx,ac,none,0,Jt _,rfl,rfl,rfl,by congr 1;omega,Ja ⟨rfl,by rw[Nat.zero_sub];exact x1.out⟩⟩
   case round=>
    obtain⟨j,L,nx1,ac1,ra,rc,hj,rfl,rfl,rfl,rfl,HJ⟩:=hrel;have c8:=tqS_len b.params b.ops nx ac j;rw[HJ.out.1] at c8;have B2:L.length<=j*7:=c8.1;have A8:nx<=nx1/\nx1<=nx+j*2:=c8.2.1;have B0:ac1<=ac+j:=c8.2.2;have a5:=(HJ.out.2.bx _ (.head _)).1;rw[a1.out.1] at a5;have y0:A wr b10 0 (.slice pa b.params.length f1):=zA (i:=0) a5 rfl;have y1:A wr b10 1 (.slice oa b.ops.length oc):=zA (i:=1) a5 rfl;have yl:=lt_of_block a5;obtain⟨ii,l3,g5,g4,g3⟩:=info_parts Tryz.info_irop;have wk:IntKind.i64.wrap ((j:Int)-(b.params.length:Int)+1)=((j+1:Nat):Int)-(b.params.length:Int):=by rw[Om _ Zo];omega
    clear c8 a5
    by_cases b1:j<b.params.length+b.ops.length
    ·have dk:decide ((j:Int)-(b.params.length:Int)<(b.ops.length:Int))=true:=decide_eq_true Zo;have e6:=Ja b1
     go_upto_if 48 with fail
     go_cut [7,8,11,13] (fun nv cv ov vv wx=>∃(L1:List (IOp×Value)) (nx2 v1:Int) (ac2:Nat) (b9:Option Addr) (b8:Nat),nv=U nx2/\cv=U ac2/\ov=.slice b9 L1.length b8/\vv=U v1/\Hid ((L1.length<=L.length+4/\(nx<=nx2/\nx2<=nx1+1))/\tqS b.params b.ops nx ac (j+1)=(L1++(aeD nx2 v1).map agN,bf nx2 v1,ac2)/\RwMid w p1 o5 (zW t) [(b10,zz b,84),(g6,[F.bv],39)] (tt (.slice b9 L1.length b8) L1::(wI L1++(wI (b.ops.drop (j+1-b.params.length))++(tt b.ov b.ops::zP b.pv b.params::xg b.tv b.tos::(ve b.tos++(zd F.bv (ds++b::dr)::(ds.flatMap BT.rows++dr.flatMap BT.rows++(aeL t n++G)))))))) wx))
     case first=>
      by_cases h8:j<b.params.length
      ·obtain⟨v,hv⟩:∃v,b.params[j]? =some v:=⟨_,Jd h8⟩
       obtain⟨pg,A1,o2,a6,A4,x8,_⟩:=HJ.out.2.getI (v:=b.pv) (xs:=b.params) Zs hv
       have w4:pa=some ⟨pg,0,none⟩:=by
        rw[a1.out.2.1] at o2
        injection o2
       subst w4;have d0:decide ((j:Int)-(b.params.length:Int)<0)=true:=decide_eq_true Zo;have wj:IntKind.i64.wrap ((j:Int)-(b.params.length:Int)+(b.params.length:Int))=(j:Int):=by rw[Om _ Zo];omega
       have B4:(j:Int)<(b.params.length:Int):=Zo;have c5:=tqS_par (qs:=b.ops) (nx:=nx) (ac:=ac) hv;rw[HJ.out.1] at c5;have f8:=Ja c5;have s8:=Ja h8;clear hv h8 o2 c5 b1;go_wp2;go_meet
       exact⟨L,nx1,v,ac1,ra,rc,rfl,rfl,rfl,rfl,Ja ⟨⟨by omega,by omega⟩,f8.out,by
        have h:=HJ.out.2;have e1:j-b.params.length=0:=by have:=s8.out;omega
        have e2:j+1-b.params.length=0:=by have:=s8.out;omega
        rw[e1] at h;rw[e2]
        exact h⟩⟩
      ·have h0:b.params.length<=j:=Zo;obtain⟨k,hk⟩:∃k,j-b.params.length=k:=⟨_,rfl⟩
       have p8:k<b.ops.length:=Zo;have ek:(j:Int)-(b.params.length:Int)=(k:Int):=Zo;obtain⟨q,hq⟩:∃q,b.ops[k]? =some q:=⟨_,Jd p8⟩
       have p0:b.ops.drop k=q::b.ops.drop (k+1):=by
        obtain⟨l2,rfl⟩:=Jh.1 hq;exact Qn l2
       have c5:=tqS_op (nx:=nx) (ac:=ac) h0 (q:=q) (by rw[hk];exact hq);rw[HJ.out.1] at c5;obtain⟨og,oc2,s2,c7,u0,x9,_⟩:=HJ.out.2.getS (f:=zU) (n:=6) Zd (fun _=>rfl) (r:=tt b.ov b.ops) Zs ⟨rfl,rfl,rfl⟩ hq
       have w6:oa=some ⟨og,0,none⟩:=by
        have h:b.ov=_:=s2;rw[a1.out.2.2.1] at h
        injection h
       subst w6;have h7:=HJ.out.2;rw[hk,p0] at h7;obtain⟨xa,xc,o4⟩:=h7.formI (v:=q.2) (xs:=q.1.args) (by simp[wI]);obtain⟨o,av⟩:=q;have o4:av=.slice xa o.args.length xc:=o4;subst o4;have k0:A wr og (k*6) (U o.code):=c7 0 _ rfl;have k1:A wr og (k*6+1) (U o.res):=c7 1 _ rfl;have k2:A wr og (k*6+2) (U o.a):=c7 2 _ rfl;have k3:A wr og (k*6+3) (U o.b):=c7 3 _ rfl;have k4:A wr og (k*6+4) (.int .u16 (o.n:Int)):=c7 4 _ rfl;have k5:A wr og (k*6+5) (.slice xa o.args.length xc):=c7 5 _ rfl;have d0:decide ((k:Int)<0)=false:=decide_eq_false Zo;have B3:(k:Int)<(b.ops.length:Int):=Zo;have g9:=h7.box (zU (o,.slice xa o.args.length xc)) 76;have s5:(zU (o,.slice xa o.args.length xc)).toArray=#[U o.code,U o.res,U o.a,U o.b,.int .u16 (o.n:Int),.slice xa o.args.length xc]:=rfl;rw[s5] at g9;have f8:=Ja (Jb c5 (Jb hk h0));have x4:=Ja ek.symm;have b4:=Ja g9;rw[ek];rw[ek] at dk wk;clear hq p0 c5 s2 c7 u0 h7 g9 s5 h8 h0 p8 ek b1 hk;go_upto_region 17 with fail;obtain⟨a3,q9⟩:∃g,wr.heap.size=g:=⟨_,rfl⟩
       rw[q9] at b4 ⊢;clear q9 k0 k1 k2 k3 k4 k5 y0 y1 yl;generalize wr.alloc (I #[U o.code,U o.res,U o.a,U o.b,.int .u16 (o.n:Int),.slice xa o.args.length xc] 76)=Z at *;have a0:=(b4.out.bx _ (.head _)).1;have z0:A Z a3 0 (U o.code):=zA (i:=0) a0 rfl;have z2:A Z a3 2 (U o.a):=zA (i:=2) a0 rfl;have zl:=lt_of_block a0;have p3:=b4.out.lt;clear a0
       go_cut [70] (fun s wx=>s=.bool (lx o)/\wx=Z)
       case first=>
        obtain⟨g1,d1⟩:∃g,decide (18<=o.code)=g:=⟨_,rfl⟩
        obtain⟨g2,d2⟩:∃g,decide (o.code<=21)=g:=⟨_,rfl⟩
        have HG:=Ja (show(g1 && g2)=lx o by rw[<-d1,<-d2];rfl);cases g1
        all_goals (
         go_wp2;go_meet
         exact⟨by rw[<-HG.out];rfl,rfl⟩)
       case rest=>
        obtain⟨rfl,o9⟩:=hcut;rw[o9];clear o9
        go_upto_if 70 with fail
        go_cut [7,8,11] (fun nv cv ov wx=>∃(L2:List (IOp×Value)) (d8:Option Addr) (d7:Nat),nv=U (aeA nx1 o)/\cv=U (afl ac1 o:Int)/\ov=.slice d8 L2.length d7/\Hid (L2=L++(afc nx1 ac1 o).map agN/\RwMid w p1 o5 (zW t) ((a3,zU (o,.slice xa o.args.length xc),76):: [(b10,zz b,84),(g6,[F.bv],39)]) (tt (.slice d8 L2.length d7) L2::(wI L2++(wI ((o,.slice xa o.args.length xc)::b.ops.drop (k+1))++(tt b.ov b.ops::zP b.pv b.params::xg b.tv b.tos::(ve b.tos++(zd F.bv (ds++b::dr)::(ds.flatMap BT.rows++dr.flatMap BT.rows++(aeL t n++G)))))))) wx))
        case first=>
         by_cases a2:lx o=true
         ·rw[a2];have w1:IntKind.u16.wrap (ac1:Int)=((ac1%65536:Nat):Int):=by rw[xY];omega
          have w2':IntKind.i64.wrap (nx1+1)=nx1+1:=Om _ Zo;have w3:IntKind.i64.wrap ((ac1:Int)+1)=(ac1:Int)+1:=Om _ Zo;have l:Z.ownsRow (p1+1+1) 76 6 (.slice ra L.length rc) L.length (L.flatMap zU):=b4.out.rows.own (tt (.slice ra L.length rc) L) (.head _);have eA:afc nx1 ac1 o=grp nx1 (ac1%65536) 253 o.a 252:=if_pos a2;have eN:aeA nx1 o=nx1+1:=if_pos a2;have eC:afl ac1 o=ac1+1:=if_pos a2;have HE:=Ja (Jb eA (Jb eN eC));have f9:=Ja l;clear eA eN eC l;go_wp2_with (at_builtin;go_must (refine zK _ rfl (.tmp 71) (.tmp 81) 77 rfl (p1+1+1) 76 ii (.agg #[U 0,U 0,U 0,U 0,.int .u16 0,.slice none 0 0]) 6 64 Tryz.underlying77 l3 g5 g4 g3 rfl Zd (.slice ra L.length rc) L.length (L.flatMap zU) rfl (f9.out.alloc _) (.slice (some ⟨Z.heap.size,0,none⟩) 3 3) 3 [U 1,U nx1,U 0,U 0,.int .u16 ((ac1%65536:Nat):Int),.slice none 0 0,U 25,U (-1),U nx1,U 0,.int .u16 253,.slice none 0 0,U 25,U (-1),U o.a,U 0,.int .u16 252,.slice none 0 0] rfl (yM.three (zI rfl) rfl (by simp[Value.oneCell'])) (by unfold maxLen;omega) Zo Zt ?_;intro v9 w9 c d a4;obtain⟨e9,e7,rfl⟩:=zG c;have HA:=Ja (Jb c (Jb d a4));clear c d a4))
          go_meet;have hA:=b4.out.addG (nx:=nx1) (x:=o.a) (n:=ac1%65536) (P:=253) (Q:=252) ((Below.refl _ _).alloc (Je _) _) HA.out.2.1 HA.out.1 HA.out.2.2
          exact⟨L++(grp nx1 (ac1%65536) 253 o.a 252).map agN,e9,e7,by rw[HE.out.2.1],by rw[HE.out.2.2];simp,by rw[Jk];rfl,Ja ⟨by rw[HE.out.1],by
           have e:(L++(grp nx1 (ac1%65536) 253 o.a 252).map agN).length=L.length+3:=by rw[Jk];rfl
           rw[e]
           exact hA⟩⟩
         ·have a2:lx o=false:=by simpa using a2
          rw[a2];have eA:afc nx1 ac1 o=[]:=if_neg (by rw[a2];decide);have eN:aeA nx1 o=nx1:=if_neg (by rw[a2];decide);have eC:afl ac1 o=ac1:=if_neg (by rw[a2];decide);have HE:=Ja (Jb eA (Jb eN eC));clear eA eN eC;go_wp2;go_meet;exact⟨L,ra,rc,by rw[HE.out.2.1],by rw[HE.out.2.2],rfl,Ja ⟨by rw[HE.out.1,List.map_nil,Ua],b4.out⟩⟩
        case rest=>
         obtain⟨L2,d8,d7,rfl,rfl,rfl,e0⟩:=hcut;have u8:=ag8 nx1 ac1 o;have B6:L2.length<=L.length+3:=by rw[e0.out.1,Jk,Nr];omega
         have a0:=(e0.out.2.bx _ (.head _)).1;have z0:A wc a3 0 (U o.code):=zA (i:=0) a0 rfl;have z1:A wc a3 1 (U o.res):=zA (i:=1) a0 rfl;have z2:A wc a3 2 (U o.a):=zA (i:=2) a0 rfl;have z3:A wc a3 3 (U o.b):=zA (i:=3) a0 rfl;have z4:A wc a3 4 (.int .u16 (o.n:Int)):=zA (i:=4) a0 rfl;have z5:A wc a3 5 (.slice xa o.args.length xc):=zA (i:=5) a0 rfl;have zl:=lt_of_block a0;have p3:=e0.out.2.lt;have l:wc.ownsRow (p1+1+1) 76 6 (.slice d8 L2.length d7) L2.length (L2.flatMap zU):=e0.out.2.rows.own (tt (.slice d8 L2.length d7) L2) (.head _);have f9:=Ja l;have B8:=Ja a0;obtain⟨NX,i0⟩:∃z,aeA nx1 o=z:=⟨_,rfl⟩
         obtain⟨AC,n9⟩:∃z,afl ac1 o=z:=⟨_,rfl⟩
         rw[i0,n9];rw[i0] at u8;have s6:=Ja (Jb i0 n9);clear l a0 i0 n9;go_upto_region 22 with(at_builtin;go_must (refine zK _ rfl (.tmp 87) (.tmp 89) 77 rfl (p1+1+1) 76 ii (.agg #[U 0,U 0,U 0,U 0,.int .u16 0,.slice none 0 0]) 6 64 Tryz.underlying77 l3 g5 g4 g3 rfl Zd (.slice d8 L2.length d7) L2.length (L2.flatMap zU) rfl (f9.out.alloc _) (.slice (some ⟨wc.heap.size,0,none⟩) 1 1) 1 [U o.code,U o.res,U o.a,U o.b,.int .u16 (o.n:Int),.slice xa o.args.length xc] rfl (yM.three (zI rfl) rfl (by simp[Value.oneCell'])) (by unfold maxLen;omega) Zo Zt ?_;intro v9 w9 c d a4;obtain⟨e9,e7,rfl⟩:=zG c;have HA:=Ja (Jb c (Jb d a4));clear c d a4))
         have hA:=e0.out.2.add1 (q:=(o,.slice xa o.args.length xc)) ((Below.refl _ _).alloc (Je _) _) HA.out.2.1 HA.out.1 HA.out.2.2;have j0:=(hA.bx _ (.head _)).1;have z1:A w9 a3 1 (U o.res):=zA (i:=1) j0 rfl;have A0:=lt_of_block j0;have x7:=Ja hA;clear hA j0 z0 z2 z3 z4 z5 zl;go_wp2;rw[x4.out];go_meet;have e1:j+1-b.params.length=k+1:=by have:=f8.out.2.1;have:=f8.out.2.2;omega
         have e2:(L2++ [(o,Value.slice xa o.args.length xc)]).length=L2.length+1:=by rw[Jk];rfl
         refine⟨L2++ [(o,.slice xa o.args.length xc)],NX,o.res,AC,e9,e7,rfl,rfl,by rw[e2],rfl,Ja ⟨⟨by omega,by omega,by omega⟩,?_,?_⟩⟩
         ·rw[f8.out.1,e0.out.1,<-s6.out.1,<-s6.out.2];rfl
         ·rw[e1,e2];exact x7.out.few (B1:=[(a3,zU (o,.slice xa o.args.length xc),76)]) rfl
     case rest=>
      obtain⟨L1,nx2,v1,ac2,b9,b8,rfl,rfl,rfl,rfl,d6⟩:=hcut;have A9:=d6.out.1;have p3:=d6.out.2.2.lt;have wn:IntKind.i64.wrap (nx2+1)=nx2+1:=Om _ Zo;clear y0 y1 yl
      by_cases b5:0<=v1
      ·have d0:decide (0<=v1)=true:=decide_eq_true b5;have wv:=wrapV v1;have l:wc.ownsRow (p1+1+1) 76 6 (.slice b9 L1.length b8) L1.length (L1.flatMap zU):=d6.out.2.2.rows.own (tt (.slice b9 L1.length b8) L1) (.head _);have f9:=Ja l;have eA:aeD nx2 v1=grp nx2 (v1%65536).toNat 254 v1 255:=if_pos b5;have eN:bf nx2 v1=nx2+1:=if_pos b5;have HE:=Ja (Jb eA eN);obtain⟨vn,j1⟩:∃vn,(v1%65536).toNat=vn:=⟨_,rfl⟩
       rw[j1] at wv;have x0:=Ja j1;clear l b5 eA eN j1;go_wp2_with (at_builtin;go_must (refine zK _ rfl (.tmp 95) (.tmp 104) 77 rfl (p1+1+1) 76 ii (.agg #[U 0,U 0,U 0,U 0,.int .u16 0,.slice none 0 0]) 6 64 Tryz.underlying77 l3 g5 g4 g3 rfl Zd (.slice b9 L1.length b8) L1.length (L1.flatMap zU) rfl (f9.out.alloc _) (.slice (some ⟨wc.heap.size,0,none⟩) 3 3) 3 [U 1,U nx2,U 0,U 0,.int .u16 (vn:Int),.slice none 0 0,U 25,U (-1),U nx2,U 0,.int .u16 254,.slice none 0 0,U 25,U (-1),U v1,U 0,.int .u16 255,.slice none 0 0] rfl (yM.three (zI rfl) rfl (by simp[Value.oneCell'])) (by unfold maxLen;omega) Zo Zt ?_;intro v9 w9 c d a4;obtain⟨e9,e7,rfl⟩:=zG c;have HA:=Ja (Jb c (Jb d a4));clear c d a4))
       go_roundw
       case rel=>
        have hA:=d6.out.2.2.addG (nx:=nx2) (x:=v1) (n:=vn) (P:=254) (Q:=255) ((Below.refl _ _).alloc (Je _) _) HA.out.2.1 HA.out.1 HA.out.2.2;have e:(L1++(grp nx2 vn 254 v1 255).map agN).length=L1.length+3:=by rw[Jk];rfl
        refine⟨j+1,L1++(grp nx2 vn 254 v1 255).map agN,nx2+1,ac2,e9,e7,e6.out,rfl,rfl,by rw[e],rfl,Ja ⟨?_,?_⟩⟩
        ·rw[d6.out.2.1,HE.out.1,HE.out.2,x0.out]
        ·rw[e];exact hA
       case measure=>have:=e6.out;simp[intOf];omega
      ·have d0:decide (0<=v1)=false:=decide_eq_false b5;have eA:aeD nx2 v1=[]:=if_neg b5;have eN:bf nx2 v1=nx2:=if_neg b5;have HE:=Ja (Jb eA eN);clear b5 eA eN;go_wp2;go_roundw
       case rel=>
        refine⟨j+1,L1,nx2,ac2,b9,b8,e6.out,rfl,rfl,rfl,rfl,Ja ⟨?_,d6.out.2.2⟩⟩;rw[d6.out.2.1,HE.out.1,HE.out.2,List.map_nil,Ua]
       case measure=>have:=e6.out;simp[intOf];omega
    ·obtain rfl:j=b.params.length+b.ops.length:=by omega
     have dk:decide ((((b.params.length+b.ops.length:Nat)):Int)-(b.params.length:Int)<(b.ops.length:Int))=false:=decide_eq_false Zo;have h4:=tqS_full (ps:=b.params) (qs:=b.ops) (nx:=nx) (ac:=ac) rfl;rw[HJ.out.1] at h4;have f5:=HJ.out.2;rw[show b.params.length+b.ops.length-b.params.length=b.ops.length by omega,List.drop_length] at f5;have l6:=(f5.bx _ (.tail _ (.head _))).1;have q0:A wr g6 0 (.slice (some ⟨bg,0,none⟩) m bgc):=by rw[<-HF.out.2.2.2.1];exact zA (i:=0) l6 rfl
     have ql:=lt_of_block l6;obtain⟨f3,f2,y5⟩:=f5.readS (f:=zz) (n:=5) Zd (fun _=>rfl) (r:=zd F.bv (ds++b::dr)) Zs ⟨rfl,rfl,rfl⟩ a1.out.2.2.2.2.2.2.2.2.2 a1.out.2.2.2.2.2.2.2.2.1;have z1:=f3 1 _ rfl;have zf:=f2 1 Zd
     have b3:=f5.putS (f:=zz) (n:=5) (fun _=>rfl) (r:=zd F.bv (ds++b::dr)) (rs:=tt (.slice ra L.length rc) L::(wI L++(tt b.ov b.ops::zP b.pv b.params::xg b.tv b.tos::(ve b.tos++(ds.flatMap BT.rows++dr.flatMap BT.rows++(aeL t n++G)))))) (j:=1) (a:= {b with ops:=L,ov:=.slice ra L.length rc }) (u:=.slice ra L.length rc) (by
      classical
      refine Jp.2 fun y=>?_
      simp only[wI,List.map_nil,Nb,Nf,List.count_nil]
      omega) ⟨rfl,rfl,rfl⟩ a1.out.2.2.2.2.2.2.2.2.2 a1.out.2.2.2.2.2.2.2.2.1 Zd rfl
     have t4:=Ja b3;have o6:=Ja h4;clear f5 l6 f3 f2 b3 h4 b1 wk hj y0;have t6:A wr bg (i*5+1) (.slice (some ⟨bg,0,none⟩) 0 0)∨True:=.inr trivial;clear t6;go_wp2;go_roundw
     case rel=>
      refine⟨i+1,nx1,ac1,ds++ [{b with ops:=L,ov:=.slice ra L.length rc }],tt b.ov b.ops::G,s7.out,rfl,rfl,by go_num,Ja ⟨by rw[Jk,a1.out.2.2.2.2.2.2.1];rfl,?_,⟨by omega,by omega⟩,by omega,?_⟩⟩
      ·rw[HK.out.2.1,a1.out.2.2.2.2.1,a1.out.2.2.2.2.2.1,Js,Nv]
       congr 1
       have h1:=o6.out.1;have h2:=o6.out.2;have h1:L.map (·.1)=_:=h1;have h2:(nx1,ac1)=(agP (gw nx b.params) (b.ops.map (·.1)),i7 ac (b.ops.map (·.1))):=h2;have e1:nx1=ag3 nx b.blk:=congrArg Prod.fst h2;have e2:ac1=i7 ac b.blk.ops:=congrArg Prod.snd h2;rw[e1,e2]
       show ahf nx ac b.blk::m7 _ _ _=_::m7 _ _ _
       congr 1
       show ahf nx ac b.blk=⟨b.params,L.map (·.1),⟨b.kind,b.a,b.tos.map (·.1)⟩⟩
       rw[h1];rfl
      ·have e:(ds++b::dr).set i {b with ops:=L,ov:=.slice ra L.length rc }=ds++ [{b with ops:=L,ov:=.slice ra L.length rc }]++dr:=by
        rw[Uj _ _ (by rw[a1.out.2.2.2.2.2.2.1];exact Je _),a1.out.2.2.2.2.2.2.1,Qy,Jf,Nv];rfl
       have h:=t4.out;rw[e] at h;rw[a1.out.2.2.2.2.2.1];refine(h.few (B1:=[(b10,zz b,84)]) rfl).perm ?_;refine List.Perm.cons _ ?_
       classical
       refine Jp.2 fun y=>?_
       simp only[BT.rows,Nx,Qa,List.flatMap_nil,Ua,Nb,Nf];omega
     case measure=>have:=s7.out;simp[intOf];omega
  ·obtain rfl:i=m:=by omega
   have t2:¬(i:Int)<(i:Int):=Zo;have f4:=HK.out.2.2.2.2;rw[<-HF.out.2.2.1,List.drop_length,Ua] at f4;have a8:=HK.out.2.1;rw[<-HF.out.2.2.1,List.drop_length,List.map_nil] at a8;have a8:m7 C 0 bl=ds.map BT.blk:=by rw[a8];exact Ua _
   have q2:wY t.fv t.funcs∈zd F.bv ds::(ds.flatMap BT.rows++(aeL t n++G)):=by simp[aeL]
   obtain⟨f3,f2,y4⟩:=f4.readS (f:=fun x:FT=> [x.bv]) (n:=1) Zd (fun _=>rfl) (r:=wY t.fv t.funcs) q2 ⟨rfl,rfl,Qh⟩ HF.out.2.2.2.2 HF.out.1;have z0:=f3 0 _ rfl;have zf:=f2 0 Zd;rw[Nk,Uk] at z0 zf;have b2:=f4.ho;rw[HC.out] at b2;have o0:A wr o5 0 (.slice (some ⟨fg,0,none⟩) p.funcs.length d5):=zA (i:=0) b2 rfl;have ol:=lt_of_block b2
   have b3:=f4.putS (f:=fun x:FT=> [x.bv]) (n:=1) (fun _=>rfl) (r:=wY t.fv t.funcs) (rs:=zd F.bv ds::(ds.flatMap BT.rows++(zP t.av t.args::vK t.dv t.data::v8 t.bv t.banks::(t.funcs.eraseIdx n).flatMap FT.rows++G))) (j:=0) (a:=⟨ds,F.bv⟩) (u:=F.bv) (by
    classical
    refine Jp.2 fun y=>?_
    simp only[aeL,Nb,Nf]
    omega) ⟨rfl,rfl,Qh⟩ HF.out.2.2.2.2 HF.out.1 Zd rfl
   rw[Nk,Uk] at b3
   have l5:(⟨t.fv,39,1,(t.funcs.set n ⟨ds,F.bv⟩).length,(t.funcs.set n ⟨ds,F.bv⟩).flatMap fun x=> [x.bv]⟩:Row)=wY t.fv (t.funcs.set n ⟨ds,F.bv⟩):=by
    unfold wY;rw[<-Qh]
   obtain⟨W7,m5⟩:∃W7,wr.setCell ⟨fg,n,none⟩ (.slice bga i bgc)=W7:=⟨_,rfl⟩
   have b7:RwMid w p1 o5 (zW t) [(g6,[F.bv],39)] (wY t.fv (t.funcs.set n ⟨ds,F.bv⟩)::zd F.bv ds::(ds.flatMap BT.rows++(zP t.av t.args::vK t.dv t.data::v8 t.bv t.banks::(t.funcs.eraseIdx n).flatMap FT.rows++G))) W7:=by
    rw[<-l5,<-m5,<-HF.out.2.2.2.1];exact b3
   have a6:=b7.ho;rw[HC.out] at a6;have b0:=b7.hr;have n0:A W7 o5 0 (.slice (some ⟨fg,0,none⟩) p.funcs.length d5):=zA (i:=0) a6 rfl;have n1:A W7 o5 1 (.slice aa2 p.args.length ac2):=zA (i:=1) a6 rfl;have n2:A W7 o5 2 (U p.entry):=zA (i:=2) a6 rfl;have n3:A W7 o5 3 (U p.handler):=zA (i:=3) a6 rfl;have n4:A W7 o5 4 (.slice f7 p.data.length f6):=zA (i:=4) a6 rfl;have n5:A W7 o5 5 (.slice ba2 p.banks.length bc2):=zA (i:=5) a6 rfl;have nl:=lt_of_block a6;have r0:A W7 (p1+1) 0 (.slice none 0 0):=zA (i:=0) b0 rfl;have r1:A W7 (p1+1) 1 (.slice none 0 0):=zA (i:=1) b0 rfl;have r2:A W7 (p1+1) 2 (U 0):=zA (i:=2) b0 rfl;have r3:A W7 (p1+1) 3 (U 0):=zA (i:=3) b0 rfl;have r4:A W7 (p1+1) 4 (.slice none 0 0):=zA (i:=4) b0 rfl;have r5:A W7 (p1+1) 5 (.slice none 0 0):=zA (i:=5) b0 rfl;have rf:∀i,D W7 (p1+1) i:=fun i=>zE b0
   have rl:=lt_of_block b0;have d3:t.entry=p.entry/\t.handler=p.handler:=by rw[<-HT.out.2.1];exact⟨rfl,rfl⟩
   have q1:p.funcs.getD n []=bl:=by rw[Jj,HP.out.2.2.1];rfl
   have p4:n<t.funcs.length:=(Jh.1 HF.out.1).1
   have x3:=Ja (b7.ret (t:= {t with funcs:=t.funcs.set n ⟨ds,F.bv⟩}) (p:=vt p n) ⟨G,by
    have h:=agh FT.rows p4 ⟨ds,F.bv⟩;refine List.Perm.trans ?_ ((List.Perm.cons (wY t.fv (t.funcs.set n ⟨ds,F.bv⟩)) (List.Perm.cons (zP t.av t.args) (List.Perm.cons (vK t.dv t.data) (List.Perm.cons (v8 t.bv t.banks) h.symm)))).append_right G)
    classical
    refine Jp.2 fun y=>?_
    simp only[FT.rows,Nb,Nf]
    omega⟩ rfl (v0:=.slice (some ⟨fg,0,none⟩) p.funcs.length d5) (v1:=.slice aa2 p.args.length ac2) (v2:=U p.entry) (v3:=U p.handler) (v4:=.slice f7 p.data.length f6) (v5:=.slice ba2 p.banks.length bc2) HC.out (by
    show(⟨(t.funcs.set n ⟨ds,F.bv⟩).map FT.fn,t.args,t.entry,t.handler,t.data,t.banks⟩:IProg)=vt p n
    unfold vt;rw[q1,s9.out,a8,Ox];have e:t.prog=p:=HT.out.2.1
    rw[<-e];rfl))
   have t7:=q0;clear f4 a8 q2 f3 f2 b2 b3 b7 a6 b0 b1 l5 d3 q1 p4 t7;go_upto_region 28 with fail
   try rw[m5]
   clear m5 z0 zf o0 ol q0 ql;go_wp2;refine bodyPost_ret (v:=.agg #[.slice (some ⟨fg,0,none⟩) p.funcs.length d5,.slice aa2 p.args.length ac2,U p.entry,U p.handler,.slice f7 p.data.length f6,.slice ba2 p.banks.length bc2]) ?_ rfl ?_
   ·rw[zM rfl];go_simp
   ·exact x3.out
end Go.Proofs.YtoahcpkibpomcaaGreat
