/- Part of a proof. -/
import Derived.Test.YtojclalkfhoooaaGRFun1
set_option linter.all false
set_option maxHeartbeats 1000000
set_option maxRecDepth 100000
namespace Go.Proofs.Ytojclalkfhoooaa
open Go.RowKit
variable {w w' w0:World}{o:IOp}{c i k on r vb x:Nat}{m m':Mach}{K:MK}{dp g j oa ob:Int}{d:wO}{bl:List IBlk}
theorem ev_len{B:Nat}{o:Option Addr}{l:List (Nat×Nat)}(h:vM w B (.slice o l.length c) l):l.length<=9223372036854775807:=by
 obtain⟨_,_,_,h1,h2⟩:=h.form;omega
abbrev Tr:=Option (Nat×Nat)
variable {tr:Tr}
def trK (tr:Tr):Nat:=(tr.getD (0,0)).1
def trI (tr:Tr):Nat:=(tr.getD (0,0)).2
def ep (K:MK)(m:Mach)(tr:Tr)(dp:Int)(ov:Value):Array Value:=
 #[K.V.fv,K.V.av,A K.E.p.entry,A K.E.p.handler,K.V.dv,K.V.bv,N K.rb 8192 8192,K.inv,K.irqv,A m.fuel,.bool tr.isSome,A dp,I 0,ov,A (trK tr:Int),I (trI tr:Int),.string ⟨#[]⟩,A (m.inputs:Int),A (m.polls:Int)]
structure MachQ (w:World) (K:MK) (m:Mach) (tr:Tr) (dp:Int) (ov:Value):Prop where
 blk:w.heap[K.pm]? =some (.cells (ep K m tr dp ov) 150 (0,0))
 ram:w.heap[K.rb]? =some (.cells (m.ram.map wz).toArray 5 (0,0))
 rlen:m.ram.length=8192
 rlt:∀x∈m.ram,x<256
 out:w.ownsRow K.B 87 2 ov m.out.length (qO m.out)
 olt:∀p∈m.out,p.1<65536/\p.2<65536
 obd:m.out.length+m.fuel.toNat<=4000000
 fuel:-1<=m.fuel/\m.fuel<=4000000/\(tr=none->0<=m.fuel)
 inp:m.inputs<=K.E.inn.length
 pol:m.polls<=K.E.irq.length
 gpm:K.B<=K.pm
 grb:K.B<=K.rb
 prog:ProgIn w K.B K.V K.E.p
 inn:wV w K.B K.inv K.E.inn
 irq:dL w K.B K.irqv K.E.irq
def di:Obj->Prop
 |.cells _ t _=>t≠150/\t≠87/\t≠5
 |_=>True
structure FrmQ (B:Nat) (w w':World):Prop where
 below:Below B w w'
 kept:∀(k:Nat) (o:Obj),w.heap[k]? =some o->di o->w'.heap[k]? =some o
theorem FrmQ.refl (B:Nat)(w:World):FrmQ B w w:=⟨Below.refl _ _,fun _ _ h _=>h⟩
theorem FrmQ.trans {B:Nat}{a b c:World}(h:FrmQ B a b)(k:FrmQ B b c):FrmQ B a c:=⟨h.below.trans k.below,fun i o hi hs=>k.kept i o (h.kept i o hi hs) hs⟩
theorem FrmQ.drewN{B n:Nat}{a:World}(h:FrmQ B a w):FrmQ B a (w.drewN n):=⟨yC h.below,h.kept⟩
theorem FrmQ.alloc{B:Nat}{a:World}(h:FrmQ B a w)(hB:B<=a.heap.size)(o:Obj):FrmQ B a (w.alloc o):=⟨h.below.alloc (Jn hB h.below.size) o,fun i o' hi hs=>zB (h.kept i o' hi hs)⟩
theorem FrmQ.ofBelow{B:Nat}(hb:F w w')(hB:B<=w.heap.size):FrmQ B w w':=⟨hb.mono hB,fun i o hi _=>zH hb hi (lt_of_block hi)⟩
theorem FrmQ.set{B:Nat}{a:World}(h:FrmQ B a w){b:Nat}{cs:Array Value}{t:TypeId}(hb:L w b cs t)(hB:B<=b)(c:¬di (U cs t))(u:Value):FrmQ B a (w.setCell ⟨b,i,none⟩ u):=
 ⟨h.below.setCell hB u,fun k o hk hs=>by
   have h1:=h.kept k o hk hs;refine zR h1 ?_;rintro rfl;rw[hb] at h1
   exact c (by rw[Nt h1];exact hs)⟩
theorem MachQ.cell {w:World}{K:MK}{m:Mach}{tr:Tr}{dp:Int}{ov:Value}(h:MachQ w K m tr dp ov){i:Nat}{v:Value}(hv:(ep K m tr dp ov)[i]? =some v):G w K.pm i v:=zA h.blk hv
section
variable {w:World} {K:MK} {m:Mach} {tr:Tr} {dp:Int} {ov:Value} (h:MachQ w K m tr dp ov)
include h
theorem MachQ.c0:G w K.pm 0 K.V.fv:=h.cell rfl
theorem MachQ.c3:G w K.pm 3 (A K.E.p.handler):=h.cell rfl
theorem MachQ.c4:G w K.pm 4 K.V.dv:=h.cell rfl
theorem MachQ.c5:G w K.pm 5 K.V.bv:=h.cell rfl
theorem MachQ.c6:G w K.pm 6 (N K.rb 8192 8192):=h.cell rfl
theorem MachQ.c7:G w K.pm 7 K.inv:=h.cell rfl
theorem MachQ.c8:G w K.pm 8 K.irqv:=h.cell rfl
theorem MachQ.c9:G w K.pm 9 (A m.fuel):=h.cell rfl
theorem MachQ.c10:G w K.pm 10 (.bool tr.isSome):=h.cell rfl
theorem MachQ.c11:G w K.pm 11 (A dp):=h.cell rfl
theorem MachQ.c13:G w K.pm 13 ov:=h.cell rfl
theorem MachQ.c14:G w K.pm 14 (A (trK tr:Int)):=h.cell rfl
theorem MachQ.c15:G w K.pm 15 (I (trI tr:Int)):=h.cell rfl
theorem MachQ.c17:G w K.pm 17 (A (m.inputs:Int)):=h.cell rfl
theorem MachQ.c18:G w K.pm 18 (A (m.polls:Int)):=h.cell rfl
theorem MachQ.free (i:Nat):T w K.pm i:=zE h.blk
theorem MachQ.lt:K.pm<w.heap.size:=lt_of_block h.blk
theorem MachQ.size:K.B<w.heap.size:=Nat.lt_of_le_of_lt h.gpm (lt_of_block h.blk)
theorem MachQ.ne:K.rb≠K.pm:=by
 intro e;have h1:=h.blk;have h2:=h.ram;rw[e,h1] at h2;simp at h2
theorem MachQ.keep(hb:F w w'):MachQ w' K m tr dp ov:=
 ⟨zH hb h.blk (lt_of_block h.blk),zH hb h.ram (lt_of_block h.ram),h.rlen,h.rlt,p7 h.out hb (Je _),h.olt,h.obd,h.fuel,h.inp,h.pol,h.gpm,h.grb,
  h.prog.below (hb.mono (Jn h.gpm (Qd (lt_of_block h.blk)))),h.inn.below zr (hb.mono (Jn h.gpm (Qd (lt_of_block h.blk)))),h.irq.below xQ (hb.mono (Jn h.gpm (Qd (lt_of_block h.blk))))⟩
theorem MachQ.drewN (n:Nat):MachQ (w.drewN n) K m tr dp ov:=h.keep (yL _ _ _)
theorem MachQ.frm (i:Nat)(u:Value):FrmQ K.B w (w.setCell ⟨K.pm,i,none⟩ u):=(FrmQ.refl _ _).set h.blk h.gpm (by simp[di]) u
theorem MachQ.put(i:Nat)(u:Value){tr':Tr}{dp':Int}(c:(ep K m tr dp ov).setIfInBounds i u=ep K m' tr' dp' ov)(h1:m'.ram=m.ram)(h2:m'.out=m.out)(h3:m'.out.length+m'.fuel.toNat<=4000000)
 (j:-1<=m'.fuel/\m'.fuel<=4000000/\(tr'=none->0<=m'.fuel)) (g:m'.inputs<=K.E.inn.length) (d:m'.polls<=K.E.irq.length):MachQ (w.setCell ⟨K.pm,i,none⟩ u) K m' tr' dp' ov:=by
 refine⟨?_,zR (by rw[h1];exact h.ram) (by simpa using h.ne),by rw[h1];exact h.rlen,by rw[h1];exact h.rlt,?_,by rw[h2];exact h.olt,h3,j,g,d,h.gpm,h.grb,?_,?_,?_⟩
 ·rw[zD h.blk,c]
 ·rw[h2];exact ownsRow_setCell_other h.out (by intro e;exact zC h.out h.blk (.inr Zd) (by simpa using e)) _
 ·exact h.prog.below ((Below.refl _ _).setCell h.gpm _)
 ·exact h.inn.below zr ((Below.refl _ _).setCell h.gpm _)
 ·exact h.irq.below xQ ((Below.refl _ _).setCell h.gpm _)
end
theorem ew{ov:Value}(h:MachQ w K m none dp ov)(k i:Nat):Y 112 #[Q K.pm,A k,I i] w fun e w'=>e=.returned (.tuple #[])/\MachQ w' K m (some (k,i)) dp ov/\FrmQ K.B w w':=by
 have c10:=h.c10;have c14:=h.c14;have c15:=h.c15;have j:=h.free 10;have g:=h.free 14;have d:=h.free 15
 have c:=Ja (show MachQ (((w.setCell ⟨K.pm,10,none⟩ (.bool true)).setCell ⟨K.pm,14,none⟩ (A k)).setCell ⟨K.pm,15,none⟩ (I i)) K m (some (k,i)) dp ov/\FrmQ K.B w (((w.setCell ⟨K.pm,10,none⟩ (.bool true)).setCell ⟨K.pm,14,none⟩ (A k)).setCell ⟨K.pm,15,none⟩ (I i)) from by
  have h1:=h.put 10 (.bool true) (m':=m) (tr':=some (0,0)) (dp':=dp) rfl rfl rfl h.obd ⟨h.fuel.1,h.fuel.2.1,fun e=>by cases e⟩ h.inp h.pol;have h2:=h1.put 14 (A k) (m':=m) (tr':=some (k,0)) (dp':=dp) rfl rfl rfl h.obd ⟨h.fuel.1,h.fuel.2.1,fun e=>by cases e⟩ h.inp h.pol;have h3:=h2.put 15 (I i) (m':=m) (tr':=some (k,i)) (dp':=dp) rfl rfl rfl h.obd ⟨h.fuel.1,h.fuel.2.1,fun e=>by cases e⟩ h.inp h.pol
  exact⟨h3,((h.frm 10 _).trans (h1.frm 14 _)).trans (h2.frm 15 _)⟩)
 have hl:=h.lt;clear h;go_enter Try.func112,Try.ntmps112;go_wp2
 go_end0
 exact⟨rfl,c.out.1,c.out.2⟩
theorem bL{ov:Value}(h:MachQ w K m none dp ov)(hf:0<m.fuel):Y 113 #[Q K.pm] w fun e w'=>e=.returned (.bool true)/\MachQ w' K m.pay none dp ov/\FrmQ K.B w w':=by
 have c9:=h.c9;have c10:=h.c10;have f9:=h.free 9;have hl:=h.lt;have d:¬m.fuel<1:=Zo;have hb:=h.fuel.2.1;have c:=Ja (Jb (h.put 9 (A (m.fuel-1)) (m':=m.pay) (tr':=none) (dp':=dp) rfl rfl rfl (by have:=h.obd;show m.out.length+(m.fuel-1).toNat<=_;omega) ⟨by show -1<=m.fuel-1;omega,by show m.fuel-1<=_;omega,fun _=>by show 0<=m.fuel-1;omega⟩ h.inp h.pol) (h.frm 9 (A (m.fuel-1))));clear h;go_enter Try.func113,Try.ntmps113;go_wp2;go_ret;exact⟨rfl,c.out.1,c.out.2⟩
theorem a9{ov:Value}(h:MachQ w K m none dp ov)(hf:m.fuel<=0):Y 113 #[Q K.pm] w fun e w'=>e=.returned (.bool false)/\MachQ w' K m.pay (some (7,0)) dp ov/\FrmQ K.B w w':=by
 have c9:=h.c9;have k:m.fuel<1:=Zo;have i:=h.fuel.2.2 rfl;have H:=Ja h;clear h;go_enter Try.func113,Try.ntmps113;go_wp2_with (go_at_call 112;go_must (refine(ew H.out 7 0).mono ?_;rintro e w1 ⟨rfl,h1,c⟩;have d9:=h1.c9;have j:=h1.c10;have g9:=h1.free 9;have g:=h1.lt;have d:=Ja (Jb (h1.put 9 (A (m.fuel-1)) (m':=m.pay) (tr':=some (7,0)) (dp':=dp) rfl rfl rfl (by have:=h1.obd;show m.out.length+(m.fuel-1).toNat<=_;omega) ⟨by show -1<=m.fuel-1;omega,by show m.fuel-1<=_;omega,fun e=>by cases e⟩ h1.inp h1.pol) (c.trans (h1.frm 9 (A (m.fuel-1)))));clear h1 c))
 go_ret;exact⟨rfl,d.out.1,d.out.2⟩
def PostQ (K:MK)(w:World)(R:Res Nat)(w':World):Prop:=
 match R with
 |.ok x m'=>(∃dp ov,MachQ w' K m' none dp ov)/\FrmQ K.B w w'/\x<65536
 |.trap k i m'=>(∃(dp:Int) (ov:Value) (fu:Int),MachQ w' K {m' with fuel:=fu } (some (k,i)) dp ov)/\FrmQ K.B w w'
def valQ:Res Nat->Value
 |.ok x _=> I x
 |.trap _ _ _=> I 0
def vh (K:MK)(w:World)(R:Res Nat)(e:Ending)(w':World):Prop:=e=.returned (valQ R)/\PostQ K w R w'
def et (K:MK)(w:World)(R:Res Nat)(e:Ending)(w':World):Prop:=e=.returned (.tuple #[])/\PostQ K w R w'
theorem vh.ok{ov:Value}(h:MachQ w' K m' none dp ov)(hf:FrmQ K.B w w')(c:x<65536):vh K w (.ok x m') (.returned (I x)) w':=⟨rfl,⟨dp,ov,h⟩,hf,c⟩
theorem vh.trap{ov:Value}(h:MachQ w' K m' (some (k,i)) dp ov)(hf:FrmQ K.B w w'):vh K w (.trap k i m') (.returned (I 0)) w':=⟨rfl,⟨dp,ov,m'.fuel,h⟩,hf⟩
theorem et.ok{ov:Value}(h:MachQ w' K m' none dp ov)(hf:FrmQ K.B w w')(c:x<65536):et K w (.ok x m') (.returned (.tuple #[])) w':=⟨rfl,⟨dp,ov,h⟩,hf,c⟩
theorem et.trap{ov:Value}(h:MachQ w' K m' (some (k,i)) dp ov)(hf:FrmQ K.B w w'):et K w (.trap k i m') (.returned (.tuple #[])) w':=⟨rfl,⟨dp,ov,m'.fuel,h⟩,hf⟩
theorem MachQ.ramCell{ov:Value}(h:MachQ w K m tr dp ov){a:Nat}(d:wo a=true):G w K.rb (a-16384) (.int .u8 (tC m a:Nat))/\tC m a<256/\T w K.rb (a-16384):=by
 have h1:=(qG a).1 d;obtain⟨x,c⟩:∃x,m.ram[a-16384]? =some x:=⟨_,Jd (by rw[h.rlen];omega)⟩
 have e:tC m a=x:=by unfold tC;rw[Jj,c];rfl
 rw[e];exact⟨zA h.ram (by simp[c,wz]),h.rlt x (Ji c),zE h.ram⟩
theorem MachQ.setR{ov:Value}(h:MachQ w K m tr dp ov)(a x:Nat)(g:x<256):MachQ (w.setCell ⟨K.rb,a-16384,none⟩ (.int .u8 (x:Int))) K (m.put a x) tr dp ov/\FrmQ K.B w (w.setCell ⟨K.rb,a-16384,none⟩ (.int .u8 (x:Int))):=by
 have c:FrmQ K.B w (w.setCell ⟨K.rb,a-16384,none⟩ (.int .u8 (x:Int))):=(FrmQ.refl _ _).set h.ram h.grb (by simp[di]) _;refine⟨⟨zR h.blk (by simpa using Ne.symm h.ne),?_,by simp[Mach.put,h.rlen],?_,ownsRow_setCell_other h.out ?_ _,h.olt,h.obd,h.fuel,h.inp,h.pol,h.gpm,h.grb,h.prog.below c.below,h.inn.below zr c.below,h.irq.below xQ c.below⟩,c⟩
 ·rw[zD h.ram];simp[Mach.put,wz,Ox]
 ·intro y d;rcases Qe d with d|rfl
  ·exact h.rlt y d
  ·exact g
 ·intro e;exact zC h.out h.ram (.inr Zd) (by simpa using e)
theorem cC{a:Nat}(c:wo a=true):Y 130 #[Q K.pm,I a] w fun e w'=>e=.returned (.bool true)/\w=w':=by
 have h1:=(qG a).1 c;have t1:¬(a:Int)<16384:=Zo;have t2:¬(24575:Int)<(a:Int):=Zo;clear c;go_enter Try.func130,Try.ntmps130;go_wp2;go_ret;exact⟨rfl,rfl⟩
theorem bW{ov:Value}(h:MachQ w K m none dp ov){a:Nat}(g:¬wo a=true):Y 130 #[Q K.pm,I a] w fun e w'=>e=.returned (.bool false)/\MachQ w' K m (some (2,a)) dp ov/\FrmQ K.B w w':=by
 have H:=Ja h;clear h
 by_cases h1:(a:Int)<16384
 ·clear g;go_enter Try.func130,Try.ntmps130;go_wp2_with (go_at_call 112;go_must (refine(ew H.out 2 a).mono ?_;rintro e w1 ⟨rfl,c,d⟩))
  go_ret;exact⟨rfl,c,d⟩
 ·have h2:(24575:Int)<(a:Int):=by rw[qG] at g;omega
  clear g;go_enter Try.func130,Try.ntmps130;go_wp2_with (go_at_call 112;go_must (refine(ew H.out 2 a).mono ?_;rintro e w1 ⟨rfl,c,d⟩))
  go_ret;exact⟨rfl,c,d⟩
def dQ (m:Mach)(a n:Nat):Res Nat:=if n=1 then abh m a else pR m a
def bn (m:Mach)(a:Nat):Nat->Nat
 |0=>0
 |1=>tC m a
 |_=>tC m a+256*tC m (yg a)
theorem dV {a:Nat}(h:wo a=true):IntKind.u16.wrap ((a:Int)-16384)=((a-16384:Nat):Int):=by
 have:=(qG a).1 h;rw[xY];omega
theorem load_q{ov:Value}(h:MachQ w K m none dp ov){a n:Nat}(b4:a<65536)(hn:n=1∨n=2):Y 124 #[Q K.pm,I a,A n] w (vh K w (dQ m a n)):=by
 have c6:=h.c6;have hl:=h.lt;have H:=Ja h;have HN:=Ja hn;clear h hn;go_enter Try.func124,Try.ntmps124;go_wp2
 go_loopw [7,8] (fun xv kv wx=>∃k:Nat,k<=n/\xv=I (bn m a k:Nat)/\kv=A k/\wx=w/\Hid ((1<=k->wo a=true)/\(2<=k->wo (yg a)=true))) (fun _ kv _=>n-(intOf kv).toNat)
 case atStart=>exact⟨0,Jt _,rfl,rfl,rfl,Ja ⟨fun h=>by omega,fun h=>by omega⟩⟩
 case round=>
  obtain⟨k,hk,rfl,rfl,hw,i⟩:=hrel;subst hw
  by_cases j:k<n
  ·have a2:(k:Int)<n:=Zo;have a6:k=0∨k=1:=by have:=HN.out;omega
   have a0:=Ja j;rcases a6 with rfl|rfl
   ·have a3:IntKind.u16.wrap (a:Int)=(a:Int):=by rw[xY];omega
    have y:bn m a 0=0:=rfl;rw[y] at *;clear y j
    by_cases c:wo a=true
    ·obtain⟨cr,hr,a4⟩:=H.out.ramCell c;have a1:=dV c;have o:=(qG a).1 c;have a7:((a-16384:Nat):Int)<8192:=Zo;have d:=Ja c;have HR:=Ja hr;clear c o;go_wp2_with (go_at_call 130;go_must (refine(cC d.out).mono ?_;rintro e w1 ⟨rfl,rfl⟩))
     go_roundw
     case rel=>exact⟨1,a0.out,rfl,rfl,trivial,Ja ⟨fun _=>d.out,fun h=>by omega⟩⟩
     case measure=>have:=a0.out;simp[intOf];omega
    ·have d:=Ja c;clear c;go_wp2_with (go_at_call 130;go_must (refine(bW H.out d.out).mono ?_;rintro e w1 ⟨rfl,u,x⟩))
     go_ret
     have g:dQ m a n=.trap 2 a m:=by
      unfold dQ abh pR;rw[if_neg d.out,if_neg d.out,ite_self]
     rw[g];exact vh.trap u x
   ·obtain⟨p,hp⟩:∃p,yg a=p:=⟨_,rfl⟩
    have r:p<65536:=by rw[<-hp];unfold yg;omega
    have a3:IntKind.u16.wrap ((a:Int)+1)=(p:Int):=by rw[xY,<-hp];unfold yg;omega
    have t:=Ja (show n=2 from by have:=HN.out;omega);have y:bn m a 1=tC m a:=rfl;rw[y] at *;have l:=i.out.1 Zd;have a5:=(H.out.ramCell l).2.1;clear y j;have HP:=Ja hp
    by_cases c:wo p=true
    ·obtain⟨cr,hr,a4⟩:=H.out.ramCell c;have a1:=dV c;have o:=(qG p).1 c;have a7:((p-16384:Nat):Int)<8192:=Zo;have d:=Ja c;have b3:IntKind.u16.wrap ((tC m p:Int)*256)=((tC m p:Nat):Int)*256:=by rw[xY];omega
     have b2:IntKind.u16.wrap ((tC m a:Int)+(tC m p:Int)*256)=((tC m a+256*tC m p:Nat):Int):=by rw[xY];omega
     clear c o l hp;go_wp2_with (go_at_call 130;go_must (refine(cC d.out).mono ?_;rintro e w1 ⟨rfl,rfl⟩))
     go_roundw
     case rel=>exact⟨2,by rw[t.out];exact Je _,by rw[show bn m a 2=tC m a+256*tC m (yg a) from rfl,HP.out];go_num,rfl,trivial,Ja ⟨fun _=>i.out.1 Zd,fun _=>by rw[HP.out];exact d.out⟩⟩
     case measure=>have:=t.out;simp[intOf];omega
    ·have d:=Ja c;have b1:=Ja l;clear c l hp a5;go_wp2_with (go_at_call 130;go_must (refine(bW H.out d.out).mono ?_;rintro e w1 ⟨rfl,u,x⟩))
     go_ret
     have g:dQ m a n=.trap 2 p m:=by
      unfold dQ pR;rw[if_neg (by rw[t.out];decide),if_pos b1.out,HP.out,if_neg d.out]
     rw[g];exact vh.trap u x
  ·obtain rfl:k=n:=by omega
   have a2:¬(k:Int)<(k:Int):=Zo
   have g:dQ m a k=.ok (bn m a k) m:=by
    unfold dQ abh pR;rcases HN.out with rfl|rfl
    ·rw[if_pos rfl,if_pos (i.out.1 Zd)];rfl
    ·rw[if_neg Zd,if_pos (i.out.1 Zd),if_pos (i.out.2 Zd)];rfl
   have r:bn m a k<65536:=by
    rcases HN.out with rfl|rfl
    ·have:=(H.out.ramCell (i.out.1 Zd)).2.1;show tC m a<_;omega
    ·have h1:=(H.out.ramCell (i.out.1 Zd)).2.1;have h2:=(H.out.ramCell (i.out.2 Zd)).2.1;show tC m a+256*tC m (yg a)<_;omega
   have EE:=Ja g;have b0:=Ja r;clear r j g;go_wp2;go_ret;rw[EE.out];exact vh.ok H.out (FrmQ.refl _ _) b0.out
def aa0 (m:Mach)(a n x:Nat):Res Nat:=if n=1 then td m a x else sK m a x
def stN (m:Mach)(a x:Nat):Nat->Mach
 |0=>m
 |1=>m.put a (x%256)
 |_=>(m.put a (x%256)).put (yg a) (x/256)
theorem wrapU8 (n:Int):IntKind.u8.wrap n=n%256:=by rw[IntKind.wrap_u8]
theorem aY{ov:Value}(h:MachQ w K m none dp ov){a n:Nat}(b8:a<65536)(hx:x<65536)(hn:n=1∨n=2):Y 125 #[Q K.pm,I a,A n,I x] w (et K w (aa0 m a n x)):=by
 have hl:=h.lt;have H:=Ja h;have HN:=Ja hn;clear h hn;go_enter Try.func125,Try.ntmps125;go_wp2
 go_loopw [8] (fun kv wx=>∃k:Nat,k<=n/\kv=A k/\wx=w/\Hid ((1<=k->wo a=true)/\(2<=k->wo (yg a)=true))) (fun kv _=>n-(intOf kv).toNat)
 case atStart=>exact⟨0,Jt _,rfl,rfl,Ja ⟨fun h=>by omega,fun h=>by omega⟩⟩
 case round=>
  obtain⟨k,hk,rfl,hw,HK⟩:=hrel;subst hw
  by_cases d:k<n
  ·have b0:(k:Int)<n:=Zo;have b2:k=0∨k=1:=by have:=HN.out;omega
   have t:=Ja d;rcases b2 with rfl|rfl
   ·have a1:IntKind.u16.wrap (a:Int)=(a:Int):=by rw[xY];omega
    clear d
    by_cases g:wo a=true
    ·have c:=Ja g;clear g;go_wp2_with (go_at_call 130;go_must (refine(cC c.out).mono ?_;rintro e w1 ⟨rfl,rfl⟩))
     go_roundw
     case rel=>exact⟨1,t.out,rfl,trivial,Ja ⟨fun _=>c.out,fun h=>by omega⟩⟩
     case measure=>have:=t.out;simp[intOf];omega
    ·have c:=Ja g;clear g;go_wp2_with (go_at_call 130;go_must (refine(bW H.out c.out).mono ?_;rintro e w1 ⟨rfl,a3,a4⟩))
     go_end0
     have i:aa0 m a n x=.trap 2 a m:=by
      unfold aa0 td sK;rw[if_neg c.out,if_neg c.out,ite_self]
     rw[i];exact et.trap a3 a4
   ·obtain⟨p,hp⟩:∃p,yg a=p:=⟨_,rfl⟩
    have a1:IntKind.u16.wrap ((a:Int)+1)=(p:Int):=by rw[xY,<-hp];unfold yg;omega
    have l:=Ja (show n=2 from by have:=HN.out;omega);have HP:=Ja hp;clear d hp
    by_cases g:wo p=true
    ·have c:=Ja g;clear g;go_wp2_with (go_at_call 130;go_must (refine(cC c.out).mono ?_;rintro e w1 ⟨rfl,rfl⟩))
     go_roundw
     case rel=>exact⟨2,by rw[l.out];exact Je _,rfl,trivial,Ja ⟨fun _=>HK.out.1 Zd,fun _=>by rw[HP.out];exact c.out⟩⟩
     case measure=>have:=l.out;simp[intOf];omega
    ·have c:=Ja g;clear g;go_wp2_with (go_at_call 130;go_must (refine(bW H.out c.out).mono ?_;rintro e w1 ⟨rfl,a3,a4⟩))
     go_end0
     have i:aa0 m a n x=.trap 2 p m:=by
      unfold aa0 sK;rw[if_neg (by rw[l.out];decide),if_pos (HK.out.1 Zd),HP.out,if_neg c.out]
     rw[i];exact et.trap a3 a4
  ·obtain rfl:k=n:=by omega
   have b0:¬(k:Int)<(k:Int):=Zo;have u:=HK.out.1 (by have:=HN.out;omega)
   have i:aa0 m a k x=.ok 0 (stN m a x k):=by
    unfold aa0 td sK;rcases HN.out with rfl|rfl
    ·rw[if_pos rfl,if_pos u];rfl
    ·rw[if_neg Zd,if_pos u,if_pos (HK.out.2 Zd)];rfl
   have EE:=Ja i;have a5:=Ja u;clear d i u;go_wp2
   go_loopw [10] (fun jv wx=>∃j:Nat,j<=k/\jv=A j/\Hid (MachQ wx K (stN m a x j) none dp ov/\FrmQ K.B wr wx)) (fun jv _=>k-(intOf jv).toNat)
   case atStart=>exact⟨0,Jt _,rfl,Ja ⟨H.out,FrmQ.refl _ _⟩⟩
   case round=>
    obtain⟨j,hj,rfl,o⟩:=hrel
    by_cases d:j<k
    ·have a6:(j:Int)<k:=Zo;have b3:j=0∨j=1:=by have:=HN.out;omega
     have t:=Ja d;have c6:=o.out.1.c6;have b6:=o.out.1.lt;have b5:=lt_of_block o.out.1.ram;rcases b3 with rfl|rfl
     ·have a1:IntKind.u16.wrap (a:Int)=(a:Int):=by rw[xY];omega
      have a7:=dV a5.out;have a2:=(qG a).1 a5.out;obtain⟨cr,hr,b1⟩:=o.out.1.ramCell a5.out;have b4:((a-16384:Nat):Int)<8192:=Zo;have hb:IntKind.u8.wrap (x:Int)=((x%256:Nat):Int):=by rw[wrapU8];omega
      have HS:=Ja (o.out.1.setR a (x%256) (Qj _ Zd));have a0:x%256<256:=Qj _ Zd;obtain⟨y,hy⟩:∃y,x%256=y:=⟨_,rfl⟩
      rw[hy] at hb HS a0;have HY:=Ja hy;clear d a2 hy;go_wp2;go_roundw
      case rel=>exact⟨1,t.out,rfl,Ja ⟨by rw[show stN m a x 1=(stN m a x 0).put a y from by rw[<-HY.out];rfl];exact HS.out.1,o.out.2.trans HS.out.2⟩⟩
      case measure=>have:=t.out;simp[intOf];omega
     ·have l:=Ja (show k=2 from by have:=HN.out;omega);have r:=HK.out.2 (by have:=l.out;omega);obtain⟨p,hp⟩:∃p,yg a=p:=⟨_,rfl⟩
      have a1:IntKind.u16.wrap ((a:Int)+1)=(p:Int):=by rw[xY,<-hp];unfold yg;omega
      have HP:=Ja hp;rw[hp] at r;have a7:=dV r;have a2:=(qG p).1 r;obtain⟨cr,hr,b1⟩:=o.out.1.ramCell r;have b4:((p-16384:Nat):Int)<8192:=Zo;obtain⟨y,hy⟩:∃y,x/256=y:=⟨_,rfl⟩
      have a0:y<256:=Zo;have b7:(x:Int)/256=(y:Int):=Zo;have hb:IntKind.u8.wrap (y:Int)=(y:Int):=by rw[wrapU8];omega
      have HS:=Ja (o.out.1.setR p y a0);have HY:=Ja hy;clear d a2 hy hp r;go_wp2;go_roundw
      case rel=>exact⟨2,by rw[l.out];exact Je _,rfl,Ja ⟨by rw[show stN m a x 2=(stN m a x 1).put p y from by rw[<-HY.out,<-HP.out];rfl];exact HS.out.1,o.out.2.trans HS.out.2⟩⟩
      case measure=>have:=l.out;simp[intOf];omega
    ·obtain rfl:j=k:=by omega
     have a6:¬(j:Int)<(j:Int):=Zo;clear d;go_wp2
     go_end0
     rw[EE.out];exact et.ok o.out.1 o.out.2 Zd
def aI (E:IEnv)(m:Mach)(bank a n:Nat):Res Nat:=if n=1 then nX E m bank a else im E m bank a
def aay (E:IEnv)(bank a:Nat):Nat->Nat
 |0=>0
 |1=>tS E bank a
 |_=>tS E bank a+256*tS E bank (yg a)
theorem dt {s:ByteArray}{a:Nat}(h:a<s.size):s[a]=s.data.getD a 0:=by
 have c:a<s.data.size:=h;rw[Array.getD_eq_getD_getElem?,Array.getElem?_eq_getElem c];rfl
theorem rom_q{ov:Value}(h:MachQ w K m none dp ov)(a5:∀s∈K.E.p.banks,s.size=4096){bank a n:Nat}(c8:bank<65536)(d0:a<65536)(hn:n=1∨n=2):Y 126 #[Q K.pm,I bank,I a,A n] w (vh K w (aI K.E m bank a n)):=by
 have c5:=h.c5;have x:=h.prog.banks;obtain⟨ba,bc,a4,c9,c7⟩:=x.form;rw[a4] at c5 x;have hl:=h.lt;have H:=Ja h;have HN:=Ja hn
 have a2:∀p,sJ K.E bank p=true->∃(s:ByteArray) (b o:Nat),ba=some ⟨b,o,none⟩/\G w b (o+bank) (.string s)/\s.size=4096/\tS K.E bank p=(s.data.getD p 0).toNat:=by
  intro p hr;obtain⟨h1,h2⟩:=(iH _ _ _).1 hr;obtain⟨s,hs⟩:∃s,K.E.p.banks[bank]? =some s:=⟨_,Jd h1⟩
  obtain⟨b,o,b7,_,g,_⟩:=x.get hs;rw[Nk] at g;exact⟨s,b,o,b7,g,a5 s (Ji hs),by unfold tS;rw[Jj,hs];rfl⟩
 have HG:=Ja a2;have a7:=Ja (show ∀p,¬sJ K.E bank p=true->(K.E.p.banks.length:Int)<=(bank:Int)∨((bank:Int)<K.E.p.banks.length/\(4095:Int)<(p:Int)) from fun p hp=>by rw[iH] at hp;omega);have a6:=Ja (show ∀p,sJ K.E bank p=true->¬(K.E.p.banks.length:Int)<=(bank:Int)/\(bank:Int)<K.E.p.banks.length/\¬(4095:Int)<(p:Int)/\p<4096/\(p:Int)<4096 from fun p hp=>by rw[iH] at hp;omega);have c2:IntKind.i64.wrap (bank:Int)=(bank:Int):=by rw[IntKind.wrap_i64];omega
 clear h hn x a5 a2 a4;go_enter Try.func126,Try.ntmps126;go_wp2
 go_loopw [9,10] (fun xv kv wx=>∃k:Nat,k<=n/\xv=I (aay K.E bank a k:Nat)/\kv=A k/\wx=w/\Hid ((1<=k->sJ K.E bank a=true)/\(2<=k->sJ K.E bank (yg a)=true))) (fun _ kv _=>n-(intOf kv).toNat)
 case atStart=>exact⟨0,Jt _,rfl,rfl,rfl,Ja ⟨fun h=>by omega,fun h=>by omega⟩⟩
 case round=>
  obtain⟨k,hk,rfl,rfl,hw,HK⟩:=hrel;subst hw
  by_cases u:k<n
  ·have b1:(k:Int)<n:=Zo;have b5:k=0∨k=1:=by have:=HN.out;omega
   have b0:=Ja u;rcases b5 with rfl|rfl
   ·have b3:IntKind.u16.wrap (a:Int)=(a:Int):=by rw[xY];omega
    have H0:aay K.E bank a 0=0:=rfl;rw[H0] at *;clear H0 u
    by_cases c:sJ K.E bank a=true
    ·obtain⟨s,b,o,rfl,g,r,l⟩:=HG.out a c;obtain⟨y1,y2,y3,y4,y5⟩:=a6.out a c;have a3:a<s.size:=Zo;have b2:(a:Int)<s.size:=Zo
     have b6:IntKind.u16.wrap ((s[a].toNat:Nat):Int)=((tS K.E bank a:Nat):Int):=by
      rw[xY,l,dt a3];have:=(s.data.getD a 0).toNat_lt;omega
     have hrl:=p9 K.E bank a;have c0:IntKind.u16.wrap ((tS K.E bank a:Nat):Int)=((tS K.E bank a:Nat):Int):=by rw[xY];omega
     have t:=Ja c;have b8:=Ja (Jb r l);clear c r l y4 y5;go_wp2;go_roundw
     case rel=>exact⟨1,b0.out,rfl,rfl,trivial,Ja ⟨fun _=>t.out,fun h=>by omega⟩⟩
     case measure=>have:=b0.out;simp[intOf];omega
    ·have t:=Ja c
     have d:aI K.E m bank a n=.trap 2 a m:=by
      unfold aI nX im;rw[if_neg c,if_neg c,ite_self]
     have EE:=Ja d;have a0:=a7.out a c;clear c d;rcases a0 with y1|⟨y1,y2⟩
     ·go_wp2_with (go_at_call 112;go_must (refine(ew H.out 2 a).mono ?_;rintro e w1 ⟨rfl,i,j⟩))
      go_ret;rw[EE.out];exact vh.trap i j
     ·have y3:¬(K.E.p.banks.length:Int)<=(bank:Int):=Zo;go_wp2_with (go_at_call 112;go_must (refine(ew H.out 2 a).mono ?_;rintro e w1 ⟨rfl,i,j⟩))
      go_ret;rw[EE.out];exact vh.trap i j
   ·obtain⟨p,hp⟩:∃p,yg a=p:=⟨_,rfl⟩
    have y:p<65536:=by rw[<-hp];unfold yg;omega
    have b3:IntKind.u16.wrap ((a:Int)+1)=(p:Int):=by rw[xY,<-hp];unfold yg;omega
    have a1:=Ja (show n=2 from by have:=HN.out;omega);have H0:aay K.E bank a 1=tS K.E bank a:=rfl;rw[H0] at *;have b4:=p9 K.E bank a;have HP:=Ja hp;clear H0 u
    by_cases c:sJ K.E bank p=true
    ·obtain⟨s,b,o,rfl,g,r,l⟩:=HG.out p c;obtain⟨y1,y2,y3,y4,y5⟩:=a6.out p c;have a3:p<s.size:=Zo;have b2:(p:Int)<s.size:=Zo
     have b6:IntKind.u16.wrap ((s[p].toNat:Nat):Int)=((tS K.E bank p:Nat):Int):=by
      rw[xY,l,dt a3];have:=(s.data.getD p 0).toNat_lt;omega
     have hrl:=p9 K.E bank p;have c4:IntKind.u16.wrap ((tS K.E bank p:Int)*256)=((tS K.E bank p:Nat):Int)*256:=by rw[xY];omega
     have c3:IntKind.u16.wrap ((tS K.E bank a:Int)+(tS K.E bank p:Int)*256)=((tS K.E bank a+256*tS K.E bank p:Nat):Int):=by rw[xY];omega
     have t:=Ja c;have b8:=Ja (Jb r l);clear c r l y4 y5 hp;go_wp2;go_roundw
     case rel=>exact⟨2,by rw[a1.out];exact Je _,by rw[show aay K.E bank a 2=tS K.E bank a+256*tS K.E bank (yg a) from rfl,HP.out];go_num,rfl,trivial,Ja ⟨fun _=>HK.out.1 Zd,fun _=>by rw[HP.out];exact t.out⟩⟩
     case measure=>have:=a1.out;simp[intOf];omega
    ·have t:=Ja c
     have d:aI K.E m bank a n=.trap 2 p m:=by
      unfold aI im;rw[if_neg (by rw[a1.out];decide),if_pos (HK.out.1 Zd),HP.out,if_neg c]
     have EE:=Ja d;have a0:=a7.out p c;clear c d hp b4;rcases a0 with y1|⟨y1,y2⟩
     ·go_wp2_with (go_at_call 112;go_must (refine(ew H.out 2 p).mono ?_;rintro e w1 ⟨rfl,i,j⟩))
      go_ret;rw[EE.out];exact vh.trap i j
     ·have y3:¬(K.E.p.banks.length:Int)<=(bank:Int):=Zo;go_wp2_with (go_at_call 112;go_must (refine(ew H.out 2 p).mono ?_;rintro e w1 ⟨rfl,i,j⟩))
      go_ret;rw[EE.out];exact vh.trap i j
  ·obtain rfl:k=n:=by omega
   have b1:¬(k:Int)<(k:Int):=Zo
   have d:aI K.E m bank a k=.ok (aay K.E bank a k) m:=by
    unfold aI nX im;rcases HN.out with rfl|rfl
    ·rw[if_pos rfl,if_pos (HK.out.1 Zd)];rfl
    ·rw[if_neg Zd,if_pos (HK.out.1 Zd),if_pos (HK.out.2 Zd)];rfl
   have y:aay K.E bank a k<65536:=by
    have h1:=p9 K.E bank a;have h2:=p9 K.E bank (yg a);rcases HN.out with rfl|rfl
    ·show tS K.E bank a<_;omega
    ·show tS K.E bank a+256*tS K.E bank (yg a)<_;omega
   have EE:=Ja d;have b9:=Ja y;clear y u d;go_wp2;go_ret;rw[EE.out];exact vh.ok H.out (FrmQ.refl _ _) b9.out
theorem dR (a:Nat)(c:a<65536)(w:World):Y 55 #[I a] w fun e w'=>e=.returned (A (s16 a))/\w=w':=by
 by_cases h:a<32768
 ·have t1:decide ((32768:Int)<=(a:Int))=false:=decide_eq_false Zo;have t2:decide (32768<=a)=false:=decide_eq_false Zo;have e:s16 a=(a:Int):=by unfold s16;rw[if_pos h]
  rw[e];clear h e;go_enter Try.func55,Try.ntmps55;go_wp2;go_ret;refine⟨zh ?_,rfl⟩;omega
 ·have t1:decide ((32768:Int)<=(a:Int))=true:=decide_eq_true Zo;have t2:decide (32768<=a)=true:=decide_eq_true Zo;have e:s16 a=(a:Int)-65536:=by unfold s16;rw[if_neg h]
  rw[e];clear h e;go_enter Try.func55,Try.ntmps55;go_wp2;go_ret;refine⟨zh ?_,rfl⟩;omega
theorem bG (b:Bool)(w:World):Y 56 #[.bool b] w fun e w'=>e=.returned (I (iw b:Nat))/\w=w':=by
 cases b<;>go_enter Try.func56,Try.ntmps56<;>go_wp2<;>go_ret<;>exact⟨rfl,rfl⟩
theorem and15 (b:Nat)(hb:b<65536):bits .and .u16 (b:Int) 15=((b%16:Nat):Int):=by
 have h:=(bits_nat .u16 16 Zd wraps_u16 b 15 hb Zd).1;rw[show((15:Nat):Int)=15 from rfl] at h;rw[h]
 congr 1
 have:=Nat.and_two_pow_sub_one_eq_mod b 4
 simpa using this
theorem rarith_5 (a b:Nat)(c:a<65536)(hb:b<65536)(w:World):Y 35 #[A 5,I a,I b] w fun e w'=>e=.returned (I (yW 5 a b:Nat))/\w=w':=by
 go_enter Try.func35,Try.ntmps35;go_wp2
 all_goals go_ret
 all_goals refine⟨zh ?_,rfl⟩
 all_goals exact ar5 a b
theorem rarith_6 (a b:Nat)(c:a<65536)(hb:b<65536)(w:World):Y 35 #[A 6,I a,I b] w fun e w'=>e=.returned (I (yW 6 a b:Nat))/\w=w':=by
 go_enter Try.func35,Try.ntmps35;go_wp2
 all_goals go_ret
 all_goals refine⟨zh ?_,rfl⟩
 all_goals exact ar6 a b hb
theorem rarith_7 (a b:Nat)(c:a<65536)(hb:b<65536)(w:World):Y 35 #[A 7,I a,I b] w fun e w'=>e=.returned (I (yW 7 a b:Nat))/\w=w':=by
 go_enter Try.func35,Try.ntmps35;go_wp2
 all_goals go_ret
 all_goals refine⟨zh ?_,rfl⟩
 all_goals exact ar7 a b
theorem rarith_8 (a b:Nat)(c:a<65536)(hb:b<65536)(d:b≠0)(w:World):Y 35 #[A 8,I a,I b] w fun e w'=>e=.returned (I (yW 8 a b:Nat))/\w=w':=by
 have h1:((b:Int)==0)=false:=Ze;have h2:¬(b:Int)=0:=Zo;clear d;go_enter Try.func35,Try.ntmps35;go_wp2
 all_goals go_ret
 all_goals refine⟨zh ?_,rfl⟩
 all_goals exact ar8 a b c
theorem rarith_9 (a b:Nat)(c:a<65536)(hb:b<65536)(w:World):Y 35 #[A 9,I a,I b] w fun e w'=>e=.returned (I (yW 9 a b:Nat))/\w=w':=by
 go_enter Try.func35,Try.ntmps35;go_wp2
 all_goals go_ret
 all_goals refine⟨zh ?_,rfl⟩
 all_goals exact ar9 a b c hb
theorem au (a b:Nat)(c:a<65536)(hb:b<65536)(w:World):Y 35 #[A 10,I a,I b] w fun e w'=>e=.returned (I (yW 10 a b:Nat))/\w=w':=by
 go_enter Try.func35,Try.ntmps35;go_wp2
 all_goals go_ret
 all_goals refine⟨zh ?_,rfl⟩
 all_goals exact ar10 a b c hb
theorem aaq (a b:Nat)(c:a<65536)(hb:b<65536)(w:World):Y 35 #[A 11,I a,I b] w fun e w'=>e=.returned (I (yW 11 a b:Nat))/\w=w':=by
 go_enter Try.func35,Try.ntmps35;go_wp2
 all_goals go_ret
 all_goals refine⟨zh ?_,rfl⟩
 all_goals exact ar11 a b c hb
theorem ae (a b:Nat)(d:a<65536)(hb:b<65536)(w:World):Y 35 #[A 12,I a,I b] w fun e w'=>e=.returned (I (yW 12 a b:Nat))/\w=w':=by
 have c:=and15 b hb;go_enter Try.func35,Try.ntmps35;go_wp2
 all_goals go_ret
 all_goals refine⟨zh ?_,rfl⟩
 all_goals exact ar12 a b
theorem aae (a b:Nat)(d:a<65536)(hb:b<65536)(w:World):Y 35 #[A 13,I a,I b] w fun e w'=>e=.returned (I (yW 13 a b:Nat))/\w=w':=by
 have c:=and15 b hb;go_enter Try.func35,Try.ntmps35;go_wp2
 all_goals go_ret
 all_goals refine⟨zh ?_,rfl⟩
 all_goals exact ar13 a b
theorem aan (a b:Nat)(c:a<65536)(hb:b<65536)(w:World):Y 35 #[A 15,I a,I b] w fun e w'=>e=.returned (I (yW 15 a b:Nat))/\w=w':=by
 go_enter Try.func35,Try.ntmps35;go_wp2_with (go_at_call 56;go_must (refine(bG _ _).mono ?_;rintro e w' ⟨rfl,rfl⟩))
 all_goals go_ret
 all_goals refine⟨zh ?_,rfl⟩
 all_goals exact congrArg _ (ar15 a b)
theorem aV (a b:Nat)(c:a<65536)(hb:b<65536)(w:World):Y 35 #[A 16,I a,I b] w fun e w'=>e=.returned (I (yW 16 a b:Nat))/\w=w':=by
 go_enter Try.func35,Try.ntmps35;go_wp2_with (go_at_call 56;go_must (refine(bG _ _).mono ?_;rintro e w' ⟨rfl,rfl⟩))
 all_goals go_ret
 all_goals refine⟨zh ?_,rfl⟩
 all_goals exact rfl
theorem aT (a b:Nat)(c:a<65536)(hb:b<65536)(w:World):Y 35 #[A 17,I a,I b] w fun e w'=>e=.returned (I (yW 17 a b:Nat))/\w=w':=by
 have m1:True:=trivial;go_enter Try.func35,Try.ntmps35;go_wp2_with (first|(go_at_call 56;go_must (refine(bG _ _).mono ?_;rintro e w' ⟨rfl,rfl⟩))|(go_at_call 55;have d:=m1;clear m1;go_must (refine(dR a c _).mono ?_;rintro e w' ⟨rfl,rfl⟩))|(go_at_call 55;go_must (refine(dR b hb _).mono ?_;rintro e w' ⟨rfl,rfl⟩)))
 all_goals go_ret
 all_goals refine⟨zh ?_,rfl⟩
 all_goals exact rfl
theorem adC (x:Int)(h:x<0):(x-1).tdiv 2=x/2:=by
 rw[Int.tdiv_eq_ediv]
 split
 ·omega
 ·have:Int.sign 2=1:=rfl;omega
theorem ai (x:Int)(h:0<=x):x.tdiv 2=x/2:=Int.tdiv_eq_ediv_of_nonneg h
theorem aS (x:Int)(k:Nat):x/2^(k+1)=(x/2^k)/2:=by
 rw[Int.pow_succ,Int.ediv_ediv_of_nonneg (Int.pow_nonneg Zd)]
theorem dU {x:Int}(h:-32768<=x/\x<32768):∀k:Nat,-32768<=x/2^k/\x/2^k<32768
 |0=>by simpa using h
 |k+1=>by have:=dU h k;rw[aS];omega
theorem aX (a b:Nat)(m:a<65536)(hb:b<65536)(w:World):Y 35 #[A 14,I a,I b] w fun e w'=>e=.returned (I (yW 14 a b:Nat))/\w=w':=by
 have o:=and15 b hb;have hr:=aac a m;have u:=Ja hr;have hm:b%16<16:=Qj _ Zd;obtain⟨n,c⟩:∃n,b%16=n:=⟨_,rfl⟩
 rw[c] at o hm;have h:=Ja c;clear hr c;generalize t:w=W0;clear t;go_enter Try.func35,Try.ntmps35;go_wp2_with (first|(go_at_call 55;go_must (refine(dR a m _).mono ?_;rintro e w' ⟨rfl,rfl⟩)))
 have r:s16 a=s16 a/2^0:=by simp
 have y:=Ja r;clear r
 go_loopw [7,8] (fun xv kv wx=>∃(k:Nat) (x:Int),k<=n/\xv=A x/\kv=A k/\W0=wx/\Hid (x=s16 a/2^k)) (fun _ kv _=>n-(intOf kv).toNat)
 case atStart=>exact⟨0,s16 a,Jt _,rfl,rfl,rfl,y⟩
 case round=>
  obtain⟨k,x,hk,rfl,rfl,rfl,i⟩:=hrel;have l:-32768<=x/\x<32768:=by rw[i.out];exact dU u.out k
  obtain⟨a1,a0⟩:=l
  by_cases d:k<n
  ·have j:(k:Int)<n:=Zo;have g:=Ja d
   by_cases c:x<0
   ·have t1:decide (x<0)=true:=decide_eq_true c;have h:=Ja c;clear d c;go_wp2;go_roundw
    case rel=>
     refine⟨k+1,x/2,g.out,?_,by go_num,by trivial,Ja (by rw[aS,<-i.out])⟩;have e:=adC x h.out
     first|(rw[e];congr 1;omega)|(rw[show x-1=x-1 from rfl,e])|(congr 1<;>simp[e])
    case measure=>have:=g.out;simp[intOf];omega
   ·have t1:decide (x<0)=false:=decide_eq_false c;have h:=Ja (show 0<=x by omega);clear d c;go_wp2;go_roundw
    case rel=>
     refine⟨k+1,x/2,g.out,?_,by go_num,by trivial,Ja (by rw[aS,<-i.out])⟩;have e:=ai x h.out
     first|(rw[e];congr 1;omega)|(congr 1<;>simp[e])
    case measure=>have:=g.out;simp[intOf];omega
  ·obtain rfl:k=n:=by omega
   have j:¬(k:Int)<k:=Zo;clear d;go_wp2;go_ret;refine⟨zh ?_,rfl⟩;rw[i.out,xY]
   show _=((((s16 a/2^(b%16))%65536).toNat:Nat):Int)
   rw[h.out];omega
theorem bq (c:Int)(i:5<=c/\c<=17)(a b:Nat)(d:a<65536)(hb:b<65536)(g:c=8->b≠0)(w:World):Y 35 #[A c,I a,I b] w fun e w'=>e=.returned (I (yW c a b:Nat))/\w=w':=by
 have h:c=5∨c=6∨c=7∨c=8∨c=9∨c=10∨c=11∨c=12∨c=13∨c=14∨c=15∨c=16∨c=17:=Zo;rcases h with rfl|rfl|rfl|rfl|rfl|rfl|rfl|rfl|rfl|rfl|rfl|rfl|rfl
 ·exact rarith_5 a b d hb w
 ·exact rarith_6 a b d hb w
 ·exact rarith_7 a b d hb w
 ·exact rarith_8 a b d hb (g rfl) w
 ·exact rarith_9 a b d hb w
 ·exact au a b d hb w
 ·exact aaq a b d hb w
 ·exact ae a b d hb w
 ·exact aae a b d hb w
 ·exact aX a b d hb w
 ·exact aan a b d hb w
 ·exact aV a b d hb w
 ·exact aT a b d hb w
def dA (w:World)(vb n:Nat)(v:Int->Nat):Prop:=L w vb ((List.range n).map fun i:Nat=>vL (v (i:Int))).toArray 39/\∀x,v x<65536
theorem dA.below{n:Nat}{v:Int->Nat}(h:dA w vb n v)(hb:L w' vb ((List.range n).map fun i:Nat=>vL (v (i:Int))).toArray 39):dA w' vb n v:=⟨hb,h.2⟩
theorem dA.kept{K:Nat}{n:Nat}{v:Int->Nat}(h:dA w vb n v)(hf:FrmQ K w w'):dA w' vb n v:=⟨hf.kept _ _ h.1 (by simp[di]),h.2⟩
theorem dA.cell {w:World}{vb n:Nat}{v:Int->Nat}(h:dA w vb n v){k:Nat}(hk:k<n):G w vb k (I (v (k:Int):Nat)):=zA h.1 (by simp[hk,vL])
theorem dA.free{n:Nat}{v:Int->Nat}(h:dA w vb n v)(k:Nat):T w vb k:=zE h.1
theorem dA.set{n:Nat}{v:Int->Nat}(h:dA w vb n v)(hr:r<65536):dA (w.setCell ⟨vb,k,none⟩ (I r)) vb n (iY v k r):=by
 refine⟨?_,fun x=>by unfold iY;split;exact hr;exact h.2 x⟩;rw[zD h.1]
 congr 2
 rw[Jc]
 congr 1
 apply Oq;intro i;rw[Ov,Jr,Jr]
 by_cases hi:i<n
 ·rw[Oh hi]
  by_cases hk:k=i
  ·subst hk;simp[hi,iY,vL]
  ·have:¬(i:Int)=(k:Int):=Zo;simp[hk,iY,this]
 ·have c:(List.range n)[i]? =none:=Of (by simpa using hi);rw[c]
  by_cases hk:k=i
  ·subst hk;simp[hi]
  ·simp[hk]
theorem qstep_1{ov:Value}(h:MachQ w K m none dp ov)(a1:on<65536)(ab:Option Addr)(an ac:Nat){n:Nat}{v:Int->Nat}(hv:dA w vb n v)(a2:Int):
 Y 114 #[Q K.pm,.agg #[A 1,A g,A oa,A ob,I on,.slice ab an ac],N vb n n,A a2] w (vh K w (.ok on m)):=by
 have a7:=hv.2 oa;have a6:=hv.2 ob;have l:=zI (W:=w) (o:=U #[A 1,A g,A oa,A ob,I on,.slice ab an ac] 77) rfl;have x:F w (w.alloc (U #[A 1,A g,A oa,A ob,I on,.slice ab an ac] 77)):=(Below.refl _ _).alloc (Je _) _;have H:=Ja h;have y:=Ja hv;have k:=Ja (Jb l x);clear h hv l x;generalize u:v oa=xa at *;generalize t:v ob=xb at *;have HX:=Ja (Jb u t);clear u t;go_enter Try.func114,Try.ntmps114;go_upto_region 4 with(go_at_call 54;go_must (refine(aaK 1 _).mono ?_;rintro e w1 ⟨he,d⟩;obtain rfl:e=.returned (.agg #[.bool true,.bool true,.bool false,.bool false,.bool true]):=he))
 have j:F w (w1.alloc (U #[.bool true,.bool true,.bool false,.bool false,.bool true] 111)):=(k.out.2.trans (d.mono k.out.2.size)).alloc (Jn k.out.2.size d.size) _;have c:=zB (o:=(U #[.bool true,.bool true,.bool false,.bool false,.bool true] 111)) (zH d k.out.1 (lt_of_block k.out.1));have i:=zI (W:=w1) (o:=(U #[.bool true,.bool true,.bool false,.bool false,.bool true] 111)) rfl;have b0:w1.heap.size≠w.heap.size:=by have:=d.size;simp at this;omega
 generalize w1.alloc (U #[.bool true,.bool true,.bool false,.bool false,.bool true] 111)=W2 at *;generalize w1.heap.size=bs at *;have r:=H.out.keep j;have a0:=y.out.below (zH j y.out.1 (lt_of_block y.out.1));have p0:=K0 c;have p2:=K2 c;have p3:=K3 c;have p4:=K4 c;have p5:=K5 c;have s2:=K2 i;have s3:=K3 i;have a5:=lt_of_block c;have a4:=lt_of_block i;have HM:=Ja r;have HF:=Ja (FrmQ.ofBelow j (Qd H.out.size));have a3:=r.lt;clear j c i d k r a0;go_wp2;go_ret;exact vh.ok HM.out HF.out a1
theorem qstep_3{ov:Value}(h:MachQ w K m none dp ov)(b1:on<65536)(ab:Option Addr)(an ac:Nat){n:Nat}{v:Int->Nat}(hv:dA w vb n v)(b0:0<=oa/\oa.toNat<n)(a1:Int):
 Y 114 #[Q K.pm,.agg #[A 3,A g,A oa,A ob,I on,.slice ab an ac],N vb n n,A a1] w (vh K w (.ok ((65536-v oa)%65536) m)):=by
 have a7:=hv.2 oa;have a6:=hv.2 ob;obtain⟨ka,rfl⟩:∃ka:Nat,oa=(ka:Int):=⟨oa.toNat,by omega⟩
 have a0:ka<n:=Zo;have b2:(ka:Int)<(n:Int):=Zo;have r:=zI (W:=w) (o:=U #[A 3,A g,A ka,A ob,I on,.slice ab an ac] 77) rfl;have y:F w (w.alloc (U #[A 3,A g,A ka,A ob,I on,.slice ab an ac] 77)):=(Below.refl _ _).alloc (Je _) _;have H:=Ja h;have HV:=Ja hv;have k:=Ja (Jb r y);clear h hv r y;generalize x:v (ka:Int)=xa at *;generalize u:v ob=xb at *;have HX:=Ja (Jb x u);clear x u;go_enter Try.func114,Try.ntmps114;go_upto_region 4 with(go_at_call 54;go_must (refine(aaK 3 _).mono ?_;rintro e w1 ⟨he,d⟩;obtain rfl:e=.returned (.agg #[.bool true,.bool true,.bool true,.bool false,.bool false]):=he))
 have j:F w (w1.alloc (U #[.bool true,.bool true,.bool true,.bool false,.bool false] 111)):=(k.out.2.trans (d.mono k.out.2.size)).alloc (Jn k.out.2.size d.size) _;have c:=zB (o:=(U #[.bool true,.bool true,.bool true,.bool false,.bool false] 111)) (zH d k.out.1 (lt_of_block k.out.1));have i:=zI (W:=w1) (o:=(U #[.bool true,.bool true,.bool true,.bool false,.bool false] 111)) rfl;have b3:w1.heap.size≠w.heap.size:=by have:=d.size;simp at this;omega
 generalize w1.alloc (U #[.bool true,.bool true,.bool true,.bool false,.bool false] 111)=W2 at *;generalize w1.heap.size=bs at *;have t:=H.out.keep j;have l:=HV.out.below (zH j HV.out.1 (lt_of_block HV.out.1));have p0:=K0 c;have p2:=K2 c;have p3:=K3 c;have p4:=K4 c;have p5:=K5 c;have s2:=K2 i;have s3:=K3 i;have a5:=lt_of_block c;have a4:=lt_of_block i;have ca:G W2 vb ka (I xa):=by rw[<-HX.out.1];exact l.cell a0
 have a2:=lt_of_block l.1;have HM:=Ja t;have HF:=Ja (FrmQ.ofBelow j (Qd H.out.size));have a3:=t.lt;clear j c i d k t l;have hw:IntKind.u16.wrap (-(xa:Int))=(((65536-xa)%65536:Nat):Int):=by rw[xY];omega
 go_wp2;go_ret;exact vh.ok HM.out HF.out (Qj _ Zd)
theorem qstep_4{ov:Value}(h:MachQ w K m none dp ov)(b1:on<65536)(ab:Option Addr)(an ac:Nat){n:Nat}{v:Int->Nat}(hv:dA w vb n v)(b0:0<=oa/\oa.toNat<n)(a1:Int):
 Y 114 #[Q K.pm,.agg #[A 4,A g,A oa,A ob,I on,.slice ab an ac],N vb n n,A a1] w (vh K w (.ok (65535-v oa) m)):=by
 have a7:=hv.2 oa;have a6:=hv.2 ob;obtain⟨ka,rfl⟩:∃ka:Nat,oa=(ka:Int):=⟨oa.toNat,by omega⟩
 have a0:ka<n:=Zo;have b2:(ka:Int)<(n:Int):=Zo;have r:=zI (W:=w) (o:=U #[A 4,A g,A ka,A ob,I on,.slice ab an ac] 77) rfl;have y:F w (w.alloc (U #[A 4,A g,A ka,A ob,I on,.slice ab an ac] 77)):=(Below.refl _ _).alloc (Je _) _;have H:=Ja h;have HV:=Ja hv;have k:=Ja (Jb r y);clear h hv r y;generalize x:v (ka:Int)=xa at *;generalize u:v ob=xb at *;have HX:=Ja (Jb x u);clear x u;go_enter Try.func114,Try.ntmps114;go_upto_region 4 with(go_at_call 54;go_must (refine(aaK 4 _).mono ?_;rintro e w1 ⟨he,d⟩;obtain rfl:e=.returned (.agg #[.bool true,.bool true,.bool true,.bool false,.bool false]):=he))
 have j:F w (w1.alloc (U #[.bool true,.bool true,.bool true,.bool false,.bool false] 111)):=(k.out.2.trans (d.mono k.out.2.size)).alloc (Jn k.out.2.size d.size) _;have c:=zB (o:=(U #[.bool true,.bool true,.bool true,.bool false,.bool false] 111)) (zH d k.out.1 (lt_of_block k.out.1));have i:=zI (W:=w1) (o:=(U #[.bool true,.bool true,.bool true,.bool false,.bool false] 111)) rfl;have b3:w1.heap.size≠w.heap.size:=by have:=d.size;simp at this;omega
 generalize w1.alloc (U #[.bool true,.bool true,.bool true,.bool false,.bool false] 111)=W2 at *;generalize w1.heap.size=bs at *;have t:=H.out.keep j;have l:=HV.out.below (zH j HV.out.1 (lt_of_block HV.out.1));have p0:=K0 c;have p2:=K2 c;have p3:=K3 c;have p4:=K4 c;have p5:=K5 c;have s2:=K2 i;have s3:=K3 i;have a5:=lt_of_block c;have a4:=lt_of_block i;have ca:G W2 vb ka (I xa):=by rw[<-HX.out.1];exact l.cell a0
 have a2:=lt_of_block l.1;have HM:=Ja t;have HF:=Ja (FrmQ.ofBelow j (Qd H.out.size));have a3:=t.lt;clear j c i d k t l;have hw:IntKind.u16.wrap (65535-(xa:Int))=((65535-xa:Nat):Int):=by rw[xY];omega
 go_wp2;go_ret;exact vh.ok HM.out HF.out Zo
theorem qstep_18{ov:Value}(h:MachQ w K m none dp ov)(b9:on<65536)(ab:Option Addr)(an ac:Nat){n:Nat}{v:Int->Nat}(hv:dA w vb n v)(b8:0<=oa/\oa.toNat<n)(b2:Int):
 Y 114 #[Q K.pm,.agg #[A 18,A g,A oa,A ob,I on,.slice ab an ac],N vb n n,A b2] w (vh K w (dQ m (v oa) 2)):=by
 have b0:=hv.2 oa;have b7:=hv.2 ob;obtain⟨ka,rfl⟩:∃ka:Nat,oa=(ka:Int):=⟨oa.toNat,by omega⟩
 have a6:ka<n:=Zo;have c0:(ka:Int)<(n:Int):=Zo;have u:=zI (W:=w) (o:=U #[A 18,A g,A ka,A ob,I on,.slice ab an ac] 77) rfl;have a4:F w (w.alloc (U #[A 18,A g,A ka,A ob,I on,.slice ab an ac] 77)):=(Below.refl _ _).alloc (Je _) _;have H:=Ja h;have HV:=Ja hv;have r:=Ja (Jb u a4);clear h hv u a4;generalize a3:v (ka:Int)=xa at *;generalize a2:v ob=xb at *;have HX:=Ja (Jb a3 a2);clear a3 a2;go_enter Try.func114,Try.ntmps114;go_upto_region 4 with(go_at_call 54;go_must (refine(aaK 18 _).mono ?_;rintro e w1 ⟨he,d⟩;obtain rfl:e=.returned (.agg #[.bool true,.bool true,.bool true,.bool false,.bool false]):=he))
 have l:F w (w1.alloc (U #[.bool true,.bool true,.bool true,.bool false,.bool false] 111)):=(r.out.2.trans (d.mono r.out.2.size)).alloc (Jn r.out.2.size d.size) _;have c:=zB (o:=(U #[.bool true,.bool true,.bool true,.bool false,.bool false] 111)) (zH d r.out.1 (lt_of_block r.out.1));have j:=zI (W:=w1) (o:=(U #[.bool true,.bool true,.bool true,.bool false,.bool false] 111)) rfl;have c2:w1.heap.size≠w.heap.size:=by have:=d.size;simp at this;omega
 generalize w1.alloc (U #[.bool true,.bool true,.bool true,.bool false,.bool false] 111)=W2 at *;generalize w1.heap.size=bs at *;have a1:=H.out.keep l;have t:=HV.out.below (zH l HV.out.1 (lt_of_block HV.out.1));have p0:=K0 c;have p2:=K2 c;have p3:=K3 c;have p4:=K4 c;have p5:=K5 c;have s2:=K2 j;have s3:=K3 j;have b6:=lt_of_block c;have b5:=lt_of_block j;have ca:G W2 vb ka (I xa):=by rw[<-HX.out.1];exact t.cell a6
 have b3:=lt_of_block t.1;have HM:=Ja a1;have HF:=Ja (FrmQ.ofBelow l (Qd H.out.size));have b4:=a1.lt;clear l c j d r a1 t;obtain⟨R,hR⟩:∃R,dQ m xa 2=R:=⟨_,rfl⟩
 have hc:=load_q HM.out b0 (n:=2) (.inr rfl);have EE:=Ja hR;rw[show dQ m xa 2=R from hR] at hc
 cases R with
 |ok x m'=>
  have HC:=Ja hc;clear hc hR;go_wp2_with (go_at_call 124;go_must (refine HC.out.mono ?_;rintro e w3 ⟨he,⟨a5,ov3,y⟩,a0,a7⟩;obtain rfl:e=.returned (I x):=he))
  go_ret;rw[EE.out]
  exact vh.ok y (HF.out.trans a0) a7
 |trap k i m'=>
  have HC:=Ja hc;clear hc hR;go_wp2_with (go_at_call 124;go_must (refine HC.out.mono ?_;rintro e w3 ⟨he,⟨a5,ov3,b1,y⟩,a0⟩;obtain rfl:e=.returned (I 0):=he))
  go_ret;rw[EE.out];exact⟨rfl,⟨a5,ov3,b1,y⟩,HF.out.trans a0⟩
theorem qstep_19{ov:Value}(h:MachQ w K m none dp ov)(b9:on<65536)(ab:Option Addr)(an ac:Nat){n:Nat}{v:Int->Nat}(hv:dA w vb n v)(b8:0<=oa/\oa.toNat<n)(b2:Int):
 Y 114 #[Q K.pm,.agg #[A 19,A g,A oa,A ob,I on,.slice ab an ac],N vb n n,A b2] w (vh K w (dQ m (v oa) 1)):=by
 have b0:=hv.2 oa;have b7:=hv.2 ob;obtain⟨ka,rfl⟩:∃ka:Nat,oa=(ka:Int):=⟨oa.toNat,by omega⟩
 have a6:ka<n:=Zo;have c0:(ka:Int)<(n:Int):=Zo;have u:=zI (W:=w) (o:=U #[A 19,A g,A ka,A ob,I on,.slice ab an ac] 77) rfl;have a4:F w (w.alloc (U #[A 19,A g,A ka,A ob,I on,.slice ab an ac] 77)):=(Below.refl _ _).alloc (Je _) _;have H:=Ja h;have HV:=Ja hv;have r:=Ja (Jb u a4);clear h hv u a4;generalize a3:v (ka:Int)=xa at *;generalize a2:v ob=xb at *;have HX:=Ja (Jb a3 a2);clear a3 a2;go_enter Try.func114,Try.ntmps114;go_upto_region 4 with(go_at_call 54;go_must (refine(aaK 19 _).mono ?_;rintro e w1 ⟨he,d⟩;obtain rfl:e=.returned (.agg #[.bool true,.bool true,.bool true,.bool false,.bool false]):=he))
 have l:F w (w1.alloc (U #[.bool true,.bool true,.bool true,.bool false,.bool false] 111)):=(r.out.2.trans (d.mono r.out.2.size)).alloc (Jn r.out.2.size d.size) _;have c:=zB (o:=(U #[.bool true,.bool true,.bool true,.bool false,.bool false] 111)) (zH d r.out.1 (lt_of_block r.out.1));have j:=zI (W:=w1) (o:=(U #[.bool true,.bool true,.bool true,.bool false,.bool false] 111)) rfl;have c2:w1.heap.size≠w.heap.size:=by have:=d.size;simp at this;omega
 generalize w1.alloc (U #[.bool true,.bool true,.bool true,.bool false,.bool false] 111)=W2 at *;generalize w1.heap.size=bs at *;have a1:=H.out.keep l;have t:=HV.out.below (zH l HV.out.1 (lt_of_block HV.out.1));have p0:=K0 c;have p2:=K2 c;have p3:=K3 c;have p4:=K4 c;have p5:=K5 c;have s2:=K2 j;have s3:=K3 j;have b6:=lt_of_block c;have b5:=lt_of_block j;have ca:G W2 vb ka (I xa):=by rw[<-HX.out.1];exact t.cell a6
 have b3:=lt_of_block t.1;have HM:=Ja a1;have HF:=Ja (FrmQ.ofBelow l (Qd H.out.size));have b4:=a1.lt;clear l c j d r a1 t;obtain⟨R,hR⟩:∃R,dQ m xa 1=R:=⟨_,rfl⟩
 have hc:=load_q HM.out b0 (n:=1) (.inl rfl);have EE:=Ja hR;rw[show dQ m xa 1=R from hR] at hc
 cases R with
 |ok x m'=>
  have HC:=Ja hc;clear hc hR;go_wp2_with (go_at_call 124;go_must (refine HC.out.mono ?_;rintro e w3 ⟨he,⟨a5,ov3,y⟩,a0,a7⟩;obtain rfl:e=.returned (I x):=he))
  go_ret;rw[EE.out]
  exact vh.ok y (HF.out.trans a0) a7
 |trap k i m'=>
  have HC:=Ja hc;clear hc hR;go_wp2_with (go_at_call 124;go_must (refine HC.out.mono ?_;rintro e w3 ⟨he,⟨a5,ov3,b1,y⟩,a0⟩;obtain rfl:e=.returned (I 0):=he))
  go_ret;rw[EE.out];exact⟨rfl,⟨a5,ov3,b1,y⟩,HF.out.trans a0⟩
theorem dk{a n:Nat}(h:aa0 m a n x=.ok r m'):r=0:=by
 unfold aa0 td sK at h
 split at h
 ·split at h
  ·cases h;rfl
  ·cases h
 ·split at h
  ·split at h
   ·cases h;rfl
   ·cases h
  ·cases h
theorem qstep_20{ov:Value}(h:MachQ w K m none dp ov)(c3:on<65536)(ab:Option Addr)(an ac:Nat){n:Nat}{v:Int->Nat}(hv:dA w vb n v)(c2:0<=oa/\oa.toNat<n)(c0:0<=ob/\ob.toNat<n)(b4:Int):
 Y 114 #[Q K.pm,.agg #[A 20,A g,A oa,A ob,I on,.slice ab an ac],N vb n n,A b4] w (vh K w (aa0 m (v oa) 2 (v ob))):=by
 have b2:=hv.2 oa;have b1:=hv.2 ob;obtain⟨ka,rfl⟩:∃ka:Nat,oa=(ka:Int):=⟨oa.toNat,by omega⟩
 have a7:ka<n:=Zo;have c5:(ka:Int)<(n:Int):=Zo;obtain⟨kb,rfl⟩:∃kb:Nat,ob=(kb:Int):=⟨ob.toNat,by omega⟩
 have a6:kb<n:=Zo;have c4:(kb:Int)<(n:Int):=Zo;have u:=zI (W:=w) (o:=U #[A 20,A g,A ka,A kb,I on,.slice ab an ac] 77) rfl;have a4:F w (w.alloc (U #[A 20,A g,A ka,A kb,I on,.slice ab an ac] 77)):=(Below.refl _ _).alloc (Je _) _;have H:=Ja h;have HV:=Ja hv;have t:=Ja (Jb u a4);clear h hv u a4;generalize a3:v (ka:Int)=xa at *;generalize a2:v (kb:Int)=xb at *;have HX:=Ja (Jb a3 a2);clear a3 a2;go_enter Try.func114,Try.ntmps114;go_upto_region 4 with(go_at_call 54;go_must (refine(aaK 20 _).mono ?_;rintro e w1 ⟨he,d⟩;obtain rfl:e=.returned (.agg #[.bool true,.bool false,.bool true,.bool true,.bool false]):=he))
 have r:F w (w1.alloc (U #[.bool true,.bool false,.bool true,.bool true,.bool false] 111)):=(t.out.2.trans (d.mono t.out.2.size)).alloc (Jn t.out.2.size d.size) _;have c:=zB (o:=(U #[.bool true,.bool false,.bool true,.bool true,.bool false] 111)) (zH d t.out.1 (lt_of_block t.out.1));have l:=zI (W:=w1) (o:=(U #[.bool true,.bool false,.bool true,.bool true,.bool false] 111)) rfl;have c7:w1.heap.size≠w.heap.size:=by have:=d.size;simp at this;omega
 generalize w1.alloc (U #[.bool true,.bool false,.bool true,.bool true,.bool false] 111)=W2 at *;generalize w1.heap.size=bs at *;have a1:=H.out.keep r;have j:=HV.out.below (zH r HV.out.1 (lt_of_block HV.out.1));have p0:=K0 c;have p2:=K2 c;have p3:=K3 c;have p4:=K4 c;have p5:=K5 c;have s2:=K2 l;have s3:=K3 l;have b8:=lt_of_block c;have b7:=lt_of_block l;have ca:G W2 vb ka (I xa):=by rw[<-HX.out.1];exact j.cell a7
 have cb:G W2 vb kb (I xb):=by rw[<-HX.out.2];exact j.cell a6
 have b5:=lt_of_block j.1;have HM:=Ja a1;have HF:=Ja (FrmQ.ofBelow r (Qd H.out.size));have b6:=a1.lt;clear r c l d t a1 j;obtain⟨R,hR⟩:∃R,aa0 m xa 2 xb=R:=⟨_,rfl⟩
 have hc:=aY HM.out b2 b1 (n:=2) (.inr rfl);have EE:=Ja hR;rw[show aa0 m xa 2 xb=R from hR] at hc
 cases R with
 |ok x m'=>
  have HC:=Ja hc;have b0:x=0:=by exact dk EE.out
  clear hc hR;subst b0;go_wp2_with (go_at_call 125;go_must (refine HC.out.mono ?_;rintro e w3 ⟨he,⟨a5,ov3,y⟩,a0,b9⟩;subst he))
  go_ret;rw[EE.out]
  exact vh.ok (x:=0) y (HF.out.trans a0) Zd
 |trap k i m'=>
  have HC:=Ja hc;clear hc hR;go_wp2_with (go_at_call 125;go_must (refine HC.out.mono ?_;rintro e w3 ⟨he,⟨a5,ov3,b3,y⟩,a0⟩;subst he))
  go_ret;rw[EE.out];exact⟨rfl,⟨a5,ov3,b3,y⟩,HF.out.trans a0⟩
theorem qstep_21{ov:Value}(h:MachQ w K m none dp ov)(c3:on<65536)(ab:Option Addr)(an ac:Nat){n:Nat}{v:Int->Nat}(hv:dA w vb n v)(c2:0<=oa/\oa.toNat<n)(c0:0<=ob/\ob.toNat<n)(b4:Int):
 Y 114 #[Q K.pm,.agg #[A 21,A g,A oa,A ob,I on,.slice ab an ac],N vb n n,A b4] w (vh K w (aa0 m (v oa) 1 (v ob))):=by
 have b2:=hv.2 oa;have b1:=hv.2 ob;obtain⟨ka,rfl⟩:∃ka:Nat,oa=(ka:Int):=⟨oa.toNat,by omega⟩
 have a7:ka<n:=Zo;have c5:(ka:Int)<(n:Int):=Zo;obtain⟨kb,rfl⟩:∃kb:Nat,ob=(kb:Int):=⟨ob.toNat,by omega⟩
 have a6:kb<n:=Zo;have c4:(kb:Int)<(n:Int):=Zo;have u:=zI (W:=w) (o:=U #[A 21,A g,A ka,A kb,I on,.slice ab an ac] 77) rfl;have a4:F w (w.alloc (U #[A 21,A g,A ka,A kb,I on,.slice ab an ac] 77)):=(Below.refl _ _).alloc (Je _) _;have H:=Ja h;have HV:=Ja hv;have t:=Ja (Jb u a4);clear h hv u a4;generalize a3:v (ka:Int)=xa at *;generalize a2:v (kb:Int)=xb at *;have HX:=Ja (Jb a3 a2);clear a3 a2;go_enter Try.func114,Try.ntmps114;go_upto_region 4 with(go_at_call 54;go_must (refine(aaK 21 _).mono ?_;rintro e w1 ⟨he,d⟩;obtain rfl:e=.returned (.agg #[.bool true,.bool false,.bool true,.bool true,.bool false]):=he))
 have r:F w (w1.alloc (U #[.bool true,.bool false,.bool true,.bool true,.bool false] 111)):=(t.out.2.trans (d.mono t.out.2.size)).alloc (Jn t.out.2.size d.size) _;have c:=zB (o:=(U #[.bool true,.bool false,.bool true,.bool true,.bool false] 111)) (zH d t.out.1 (lt_of_block t.out.1));have l:=zI (W:=w1) (o:=(U #[.bool true,.bool false,.bool true,.bool true,.bool false] 111)) rfl;have c7:w1.heap.size≠w.heap.size:=by have:=d.size;simp at this;omega
 generalize w1.alloc (U #[.bool true,.bool false,.bool true,.bool true,.bool false] 111)=W2 at *;generalize w1.heap.size=bs at *;have a1:=H.out.keep r;have j:=HV.out.below (zH r HV.out.1 (lt_of_block HV.out.1));have p0:=K0 c;have p2:=K2 c;have p3:=K3 c;have p4:=K4 c;have p5:=K5 c;have s2:=K2 l;have s3:=K3 l;have b8:=lt_of_block c;have b7:=lt_of_block l;have ca:G W2 vb ka (I xa):=by rw[<-HX.out.1];exact j.cell a7
 have cb:G W2 vb kb (I xb):=by rw[<-HX.out.2];exact j.cell a6
 have b5:=lt_of_block j.1;have HM:=Ja a1;have HF:=Ja (FrmQ.ofBelow r (Qd H.out.size));have b6:=a1.lt;clear r c l d t a1 j;obtain⟨R,hR⟩:∃R,aa0 m xa 1 xb=R:=⟨_,rfl⟩
 have hc:=aY HM.out b2 b1 (n:=1) (.inl rfl);have EE:=Ja hR;rw[show aa0 m xa 1 xb=R from hR] at hc
 cases R with
 |ok x m'=>
  have HC:=Ja hc;have b0:x=0:=by exact dk EE.out
  clear hc hR;subst b0;go_wp2_with (go_at_call 125;go_must (refine HC.out.mono ?_;rintro e w3 ⟨he,⟨a5,ov3,y⟩,a0,b9⟩;subst he))
  go_ret;rw[EE.out]
  exact vh.ok (x:=0) y (HF.out.trans a0) Zd
 |trap k i m'=>
  have HC:=Ja hc;clear hc hR;go_wp2_with (go_at_call 125;go_must (refine HC.out.mono ?_;rintro e w3 ⟨he,⟨a5,ov3,b3,y⟩,a0⟩;subst he))
  go_ret;rw[EE.out];exact⟨rfl,⟨a5,ov3,b3,y⟩,HF.out.trans a0⟩
theorem qstep_22{ov:Value}(h:MachQ w K m none dp ov)(b1:on<65536)(ab:Option Addr)(an ac:Nat){n:Nat}{v:Int->Nat}(hv:dA w vb n v)(c0:0<=oa/\oa.toNat<n)(b4:Int)(b2:Hid (∀s∈K.E.p.banks,s.size=4096)):
 Y 114 #[Q K.pm,.agg #[A 22,A g,A oa,A ob,I on,.slice ab an ac],N vb n n,A b4] w (vh K w (aI K.E m on (v oa) 2)):=by
 have b0:=hv.2 oa;have b9:=hv.2 ob;obtain⟨ka,rfl⟩:∃ka:Nat,oa=(ka:Int):=⟨oa.toNat,by omega⟩
 have a6:ka<n:=Zo;have c2:(ka:Int)<(n:Int):=Zo;have u:=zI (W:=w) (o:=U #[A 22,A g,A ka,A ob,I on,.slice ab an ac] 77) rfl;have a4:F w (w.alloc (U #[A 22,A g,A ka,A ob,I on,.slice ab an ac] 77)):=(Below.refl _ _).alloc (Je _) _;have H:=Ja h;have HV:=Ja hv;have r:=Ja (Jb u a4);clear h hv u a4;generalize a3:v (ka:Int)=xa at *;generalize a2:v ob=xb at *;have HX:=Ja (Jb a3 a2);clear a3 a2;go_enter Try.func114,Try.ntmps114;go_upto_region 4 with(go_at_call 54;go_must (refine(aaK 22 _).mono ?_;rintro e w1 ⟨he,d⟩;obtain rfl:e=.returned (.agg #[.bool true,.bool true,.bool true,.bool false,.bool true]):=he))
 have l:F w (w1.alloc (U #[.bool true,.bool true,.bool true,.bool false,.bool true] 111)):=(r.out.2.trans (d.mono r.out.2.size)).alloc (Jn r.out.2.size d.size) _;have c:=zB (o:=(U #[.bool true,.bool true,.bool true,.bool false,.bool true] 111)) (zH d r.out.1 (lt_of_block r.out.1));have j:=zI (W:=w1) (o:=(U #[.bool true,.bool true,.bool true,.bool false,.bool true] 111)) rfl;have c3:w1.heap.size≠w.heap.size:=by have:=d.size;simp at this;omega
 generalize w1.alloc (U #[.bool true,.bool true,.bool true,.bool false,.bool true] 111)=W2 at *;generalize w1.heap.size=bs at *;have a1:=H.out.keep l;have t:=HV.out.below (zH l HV.out.1 (lt_of_block HV.out.1));have p0:=K0 c;have p2:=K2 c;have p3:=K3 c;have p4:=K4 c;have p5:=K5 c;have s2:=K2 j;have s3:=K3 j;have b8:=lt_of_block c;have b7:=lt_of_block j;have ca:G W2 vb ka (I xa):=by rw[<-HX.out.1];exact t.cell a6
 have b5:=lt_of_block t.1;have HM:=Ja a1;have HF:=Ja (FrmQ.ofBelow l (Qd H.out.size));have b6:=a1.lt;clear l c j d r a1 t;obtain⟨R,hR⟩:∃R,aI K.E m on xa 2=R:=⟨_,rfl⟩
 have hc:=rom_q HM.out b2.out b1 b0 (n:=2) (.inr rfl);have EE:=Ja hR;rw[show aI K.E m on xa 2=R from hR] at hc
 cases R with
 |ok x m'=>
  have HC:=Ja hc;clear hc hR;go_wp2_with (go_at_call 126;go_must (refine HC.out.mono ?_;rintro e w3 ⟨he,⟨a5,ov3,y⟩,a0,a7⟩;obtain rfl:e=.returned (I x):=he))
  go_ret;rw[EE.out]
  exact vh.ok y (HF.out.trans a0) a7
 |trap k i m'=>
  have HC:=Ja hc;clear hc hR;go_wp2_with (go_at_call 126;go_must (refine HC.out.mono ?_;rintro e w3 ⟨he,⟨a5,ov3,b3,y⟩,a0⟩;obtain rfl:e=.returned (I 0):=he))
  go_ret;rw[EE.out];exact⟨rfl,⟨a5,ov3,b3,y⟩,HF.out.trans a0⟩
theorem qstep_23{ov:Value}(h:MachQ w K m none dp ov)(b1:on<65536)(ab:Option Addr)(an ac:Nat){n:Nat}{v:Int->Nat}(hv:dA w vb n v)(c0:0<=oa/\oa.toNat<n)(b4:Int)(b2:Hid (∀s∈K.E.p.banks,s.size=4096)):
 Y 114 #[Q K.pm,.agg #[A 23,A g,A oa,A ob,I on,.slice ab an ac],N vb n n,A b4] w (vh K w (aI K.E m on (v oa) 1)):=by
 have b0:=hv.2 oa;have b9:=hv.2 ob;obtain⟨ka,rfl⟩:∃ka:Nat,oa=(ka:Int):=⟨oa.toNat,by omega⟩
 have a6:ka<n:=Zo;have c2:(ka:Int)<(n:Int):=Zo;have u:=zI (W:=w) (o:=U #[A 23,A g,A ka,A ob,I on,.slice ab an ac] 77) rfl;have a4:F w (w.alloc (U #[A 23,A g,A ka,A ob,I on,.slice ab an ac] 77)):=(Below.refl _ _).alloc (Je _) _;have H:=Ja h;have HV:=Ja hv;have r:=Ja (Jb u a4);clear h hv u a4;generalize a3:v (ka:Int)=xa at *;generalize a2:v ob=xb at *;have HX:=Ja (Jb a3 a2);clear a3 a2;go_enter Try.func114,Try.ntmps114;go_upto_region 4 with(go_at_call 54;go_must (refine(aaK 23 _).mono ?_;rintro e w1 ⟨he,d⟩;obtain rfl:e=.returned (.agg #[.bool true,.bool true,.bool true,.bool false,.bool true]):=he))
 have l:F w (w1.alloc (U #[.bool true,.bool true,.bool true,.bool false,.bool true] 111)):=(r.out.2.trans (d.mono r.out.2.size)).alloc (Jn r.out.2.size d.size) _;have c:=zB (o:=(U #[.bool true,.bool true,.bool true,.bool false,.bool true] 111)) (zH d r.out.1 (lt_of_block r.out.1));have j:=zI (W:=w1) (o:=(U #[.bool true,.bool true,.bool true,.bool false,.bool true] 111)) rfl;have c3:w1.heap.size≠w.heap.size:=by have:=d.size;simp at this;omega
 generalize w1.alloc (U #[.bool true,.bool true,.bool true,.bool false,.bool true] 111)=W2 at *;generalize w1.heap.size=bs at *;have a1:=H.out.keep l;have t:=HV.out.below (zH l HV.out.1 (lt_of_block HV.out.1));have p0:=K0 c;have p2:=K2 c;have p3:=K3 c;have p4:=K4 c;have p5:=K5 c;have s2:=K2 j;have s3:=K3 j;have b8:=lt_of_block c;have b7:=lt_of_block j;have ca:G W2 vb ka (I xa):=by rw[<-HX.out.1];exact t.cell a6
 have b5:=lt_of_block t.1;have HM:=Ja a1;have HF:=Ja (FrmQ.ofBelow l (Qd H.out.size));have b6:=a1.lt;clear l c j d r a1 t;obtain⟨R,hR⟩:∃R,aI K.E m on xa 1=R:=⟨_,rfl⟩
 have hc:=rom_q HM.out b2.out b1 b0 (n:=1) (.inl rfl);have EE:=Ja hR;rw[show aI K.E m on xa 1=R from hR] at hc
 cases R with
 |ok x m'=>
  have HC:=Ja hc;clear hc hR;go_wp2_with (go_at_call 126;go_must (refine HC.out.mono ?_;rintro e w3 ⟨he,⟨a5,ov3,y⟩,a0,a7⟩;obtain rfl:e=.returned (I x):=he))
  go_ret;rw[EE.out]
  exact vh.ok y (HF.out.trans a0) a7
 |trap k i m'=>
  have HC:=Ja hc;clear hc hR;go_wp2_with (go_at_call 126;go_must (refine HC.out.mono ?_;rintro e w3 ⟨he,⟨a5,ov3,b3,y⟩,a0⟩;obtain rfl:e=.returned (I 0):=he))
  go_ret;rw[EE.out];exact⟨rfl,⟨a5,ov3,b3,y⟩,HF.out.trans a0⟩
theorem qstep_ar{ov:Value}(h:MachQ w K m none dp ov){oc:Int}(d0:on<65536)(ab:Option Addr)(an ac:Nat){n:Nat}{v:Int->Nat}(hv:dA w vb n v)(c9:0<=oa/\oa.toNat<n)(c8:0<=ob/\ob.toNat<n)(b1:Int)(x:5<=oc/\oc<=17):
 Y 114 #[Q K.pm,.agg #[A oc,A g,A oa,A ob,I on,.slice ab an ac],N vb n n,A b1] w (vh K w (iy m oc (v oa) (v ob))):=by
 have a2:=hv.2 oa;have a1:=hv.2 ob;obtain⟨ka,rfl⟩:∃ka:Nat,oa=(ka:Int):=⟨oa.toNat,by omega⟩
 have a6:ka<n:=Zo;have d2:(ka:Int)<(n:Int):=Zo;obtain⟨kb,rfl⟩:∃kb:Nat,ob=(kb:Int):=⟨ob.toNat,by omega⟩
 have a5:kb<n:=Zo;have d1:(kb:Int)<(n:Int):=Zo;have r:=zI (W:=w) (o:=U #[A oc,A g,A ka,A kb,I on,.slice ab an ac] 77) rfl;have a3:F w (w.alloc (U #[A oc,A g,A ka,A kb,I on,.slice ab an ac] 77)):=(Below.refl _ _).alloc (Je _) _;have H:=Ja h;have HV:=Ja hv;have l:=Ja (Jb r a3);clear h hv r a3;generalize a0:v (ka:Int)=xa at *;generalize y:v (kb:Int)=xb at *;have HX:=Ja (Jb a0 y);clear a0 y;go_enter Try.func114,Try.ntmps114;go_upto_region 4 with(go_at_call 54;go_must (refine(aao oc x _).mono ?_;rintro e w1 ⟨he,d⟩;obtain rfl:e=.returned (.agg #[.bool true,.bool true,.bool true,.bool true,.bool false]):=he))
 have k:F w (w1.alloc (U #[.bool true,.bool true,.bool true,.bool true,.bool false] 111)):=(l.out.2.trans (d.mono l.out.2.size)).alloc (Jn l.out.2.size d.size) _;have c:=zB (o:=(U #[.bool true,.bool true,.bool true,.bool true,.bool false] 111)) (zH d l.out.1 (lt_of_block l.out.1));have j:=zI (W:=w1) (o:=(U #[.bool true,.bool true,.bool true,.bool true,.bool false] 111)) rfl;have d3:w1.heap.size≠w.heap.size:=by have:=d.size;simp at this;omega
 generalize w1.alloc (U #[.bool true,.bool true,.bool true,.bool true,.bool false] 111)=W2 at *;generalize w1.heap.size=bs at *;have t:=H.out.keep k;have i:=HV.out.below (zH k HV.out.1 (lt_of_block HV.out.1));have p0:=K0 c;have p2:=K2 c;have p3:=K3 c;have p4:=K4 c;have p5:=K5 c;have s2:=K2 j;have s3:=K3 j;have c7:=lt_of_block c;have c5:=lt_of_block j;have ca:G W2 vb ka (I xa):=by rw[<-HX.out.1];exact i.cell a6
 have cb:G W2 vb kb (I xb):=by rw[<-HX.out.2];exact i.cell a5
 have c3:=lt_of_block i.1;have HM:=Ja t;have HF:=Ja (FrmQ.ofBelow k (Qd H.out.size));have c4:=t.lt;clear k c j d l t i;have t1:(oc==1)=false:=Ze;have t2:(oc==2)=false:=Ze;have t3:(oc==3)=false:=Ze;have t4:(oc==4)=false:=Ze;have c2:(oc==18)=false:=Ze;have c0:(oc==19)=false:=Ze;have b9:(oc==20)=false:=Ze;have b8:(oc==21)=false:=Ze;have b7:(oc==22)=false:=Ze;have b6:(oc==23)=false:=Ze;have b5:(oc==24)=false:=Ze;have b4:(oc==25)=false:=Ze;have b3:(oc==26)=false:=Ze;have b2:(oc==27)=false:=Ze
 by_cases h8:oc=8/\xb=0
 ·obtain⟨u,a4⟩:=h8;have EE:=Ja (show iy m oc xa xb=.trap 4 0 m by unfold iy;rw[if_pos ⟨u,a4⟩]);have t8:(oc==8)=true:=by rw[beq_iff_eq];exact u
  have tb:((xb:Int)==0)=true:=by rw[beq_iff_eq];omega
  clear x u a4;go_wp2_with (go_at_call 112;go_must (refine(ew HM.out 4 0).mono ?_;rintro e w3 ⟨rfl,a7,b0⟩))
  go_ret;rw[EE.out];exact vh.trap a7 (HF.out.trans b0)
 ·have EE:=Ja (show iy m oc xa xb=.ok (yW oc xa xb) m by unfold iy;rw[if_neg h8]);have HC:=Ja (fun W=>bq oc x xa xb a2 a1 (fun e=>by omega) W)
  have hq:(oc==8)=false∨((oc==8)=true/\((xb:Int)==0)=false):=by
   by_cases e:oc=8
   ·right;exact⟨by rw[beq_iff_eq];exact e,by rw[beq_eq_false_iff_ne];omega⟩
   ·left;rw[beq_eq_false_iff_ne];exact e
  clear x h8;rcases hq with t8|⟨t8,tb⟩
  all_goals go_wp2_with (go_at_call 35;go_must (refine(HC.out _).mono ?_;rintro e w' ⟨rfl,rfl⟩))
  all_goals go_ret
  all_goals rw[EE.out]
  all_goals exact vh.ok HM.out HF.out (jz _ _ _ a2 a1)
theorem qstep_2{ov:Value}(h:MachQ w K m none dp ov)(b4:on<65536)(ab:Option Addr)(an ac:Nat){n:Nat}{v:Int->Nat}(hv:dA w vb n v)(a6:Int)(a4:0<=oa/\oa.toNat<K.E.p.data.length):
 Y 114 #[Q K.pm,.agg #[A 2,A g,A oa,A ob,I on,.slice ab an ac],N vb n n,A a6] w (vh K w (.ok ((((K.E.p.data.getD oa.toNat ⟨0,0,0⟩).addr)+on)%65536) m)):=by
 have b3:=hv.2 oa;have b2:=hv.2 ob;have u:=zI (W:=w) (o:=U #[A 2,A g,A oa,A ob,I on,.slice ab an ac] 77) rfl;have a3:F w (w.alloc (U #[A 2,A g,A oa,A ob,I on,.slice ab an ac] 77)):=(Below.refl _ _).alloc (Je _) _;have H:=Ja h;have HV:=Ja hv;have r:=Ja (Jb u a3);clear h hv u a3;generalize t:v oa=xa at *;generalize a1:v ob=xb at *;have HX:=Ja (Jb t a1);clear t a1;go_enter Try.func114,Try.ntmps114;go_upto_region 4 with(go_at_call 54;go_must (refine(aaK 2 _).mono ?_;rintro e w1 ⟨he,d⟩;obtain rfl:e=.returned (.agg #[.bool true,.bool true,.bool false,.bool false,.bool true]):=he))
 have l:F w (w1.alloc (U #[.bool true,.bool true,.bool false,.bool false,.bool true] 111)):=(r.out.2.trans (d.mono r.out.2.size)).alloc (Jn r.out.2.size d.size) _;have c:=zB (o:=(U #[.bool true,.bool true,.bool false,.bool false,.bool true] 111)) (zH d r.out.1 (lt_of_block r.out.1));have j:=zI (W:=w1) (o:=(U #[.bool true,.bool true,.bool false,.bool false,.bool true] 111)) rfl;have b7:w1.heap.size≠w.heap.size:=by have:=d.size;simp at this;omega
 generalize w1.alloc (U #[.bool true,.bool true,.bool false,.bool false,.bool true] 111)=W2 at *;generalize w1.heap.size=bs at *;have a0:=H.out.keep l;have a5:=HV.out.below (zH l HV.out.1 (lt_of_block HV.out.1));have p0:=K0 c;have p2:=K2 c;have p3:=K3 c;have p4:=K4 c;have p5:=K5 c;have s2:=K2 j;have s3:=K3 j;have b1:=lt_of_block c;have b0:=lt_of_block j;have HM:=Ja a0;have HF:=Ja (FrmQ.ofBelow l (Qd H.out.size));have a7:=a0.lt;clear l c j d r a0 a5;obtain⟨k,rfl⟩:∃k:Nat,oa=(k:Int):=⟨oa.toNat,by omega⟩
 have a2:k<K.E.p.data.length:=Zo;have b5:(k:Int)<K.E.p.data.length:=Zo;have i:=HM.out.prog.data;obtain⟨da,dc,y,_,_⟩:=i.form;rw[y] at i;obtain⟨x,hx⟩:∃x,K.E.p.data[k]? =some x:=⟨_,Jd a2⟩
 obtain⟨b,oo,rfl,_,_,b6,_,_,t,_⟩:=i.get hx;have c4:=HM.out.c4;rw[y] at c4;have EE:=Ja (show(K.E.p.data.getD ((k:Nat):Int).toNat ⟨0,0,0⟩).addr=x.addr by rw[Ni,Jj,hx];rfl);clear a4 a2 i y hx;go_upto_region 16 with fail;go_quiet (fail);go_wp2;go_ret;rw[EE.out];have e:Ending.returned (I (IntKind.u16.wrap ((x.addr:Int)+(on:Int))))=.returned (I (((x.addr+on)%65536:Nat):Int)):=zh (by rw[xY];omega);exact e ▸ vh.ok (HM.out.drewN _) HF.out.drewN Zo
theorem qstep_24{ov:Value}(h:MachQ w K m none dp ov)(d0:on<65536)(ab:Option Addr)(an ac:Nat){n:Nat}{v:Int->Nat}(hv:dA w vb n v)(b3:Int):
 Y 114 #[Q K.pm,.agg #[A 24,A j,A oa,A ob,I on,.slice ab an ac],N vb n n,A b3] w (vh K w (uq K.E m)):=by
 have c9:=hv.2 oa;have c8:=hv.2 ob;have a0:=zI (W:=w) (o:=U #[A 24,A j,A oa,A ob,I on,.slice ab an ac] 77) rfl;have a5:F w (w.alloc (U #[A 24,A j,A oa,A ob,I on,.slice ab an ac] 77)):=(Below.refl _ _).alloc (Je _) _;have H:=Ja h;have HV:=Ja hv;have y:=Ja (Jb a0 a5);clear h hv a0 a5;generalize a3:v oa=xa at *;generalize a2:v ob=xb at *;have HX:=Ja (Jb a3 a2);clear a3 a2;go_enter Try.func114,Try.ntmps114;go_upto_region 4 with(go_at_call 54;go_must (refine(aaK 24 _).mono ?_;rintro e w1 ⟨he,i⟩;obtain rfl:e=.returned (.agg #[.bool true,.bool true,.bool false,.bool false,.bool true]):=he))
 have t:F w (w1.alloc (U #[.bool true,.bool true,.bool false,.bool false,.bool true] 111)):=(y.out.2.trans (i.mono y.out.2.size)).alloc (Jn y.out.2.size i.size) _;have c:=zB (o:=(U #[.bool true,.bool true,.bool false,.bool false,.bool true] 111)) (zH i y.out.1 (lt_of_block y.out.1));have r:=zI (W:=w1) (o:=(U #[.bool true,.bool true,.bool false,.bool false,.bool true] 111)) rfl;have d3:w1.heap.size≠w.heap.size:=by have:=i.size;simp at this;omega
 generalize w1.alloc (U #[.bool true,.bool true,.bool false,.bool false,.bool true] 111)=W2 at *;generalize w1.heap.size=bs at *;have a1:=H.out.keep t;have b0:=HV.out.below (zH t HV.out.1 (lt_of_block HV.out.1));have p0:=K0 c;have p2:=K2 c;have p3:=K3 c;have p4:=K4 c;have p5:=K5 c;have s2:=K2 r;have s3:=K3 r;have c4:=lt_of_block c;have c3:=lt_of_block r;have u:=Ja a1;have HF:=Ja (FrmQ.ofBelow t (Qd H.out.size));have c2:=a1.lt;clear t c r i y a1 b0;have c7:=u.out.c7;have c17:=u.out.c17;have g:=u.out.inn;obtain⟨ia,ic,k,d2,d1⟩:=g.form;rw[k] at c7 g;have b1:=u.out.inp
 by_cases d:m.inputs<K.E.inn.length
 ·obtain⟨x,hx⟩:∃x,K.E.inn[m.inputs]? =some x:=⟨_,Jd d⟩
  obtain⟨b,o,rfl,a4,l,a7⟩:=g.get hx;rw[Nk] at l;have EE:=Ja (show uq K.E m=.ok x {m with inputs:=m.inputs+1 } by unfold uq;rw[if_pos d,Jj,hx];rfl);have hJ:(m.inputs:Int)<K.E.inn.length:=Zo;have b4:=Ja d;have b7:=Ja a4;have a6:K.E.inn.length<=9223372036854775807:=Zo;have b5:=Ja k;clear g d hx b1 k a4;go_upto_region 34 with fail
  go_cut [123] (fun v wx=>v=.bool true/\∃n,wx=W2.drewN n)
  case first=>
   go_quiet (fail);go_wp2;go_meet;exact⟨rfl,_,rfl⟩
  case rest=>
   obtain⟨rfl,n2,rfl⟩:=hcut;have hm:=u.out.drewN n2;have h1:=hm.put 17 (A ((m.inputs:Int)+1)) (m':= {m with inputs:=m.inputs+1 }) (tr':=none) (dp':=dp) rfl rfl rfl hm.obd hm.fuel b4.out hm.pol;have hF:FrmQ K.B W2 ((W2.drewN n2).setCell ⟨K.pm,17,none⟩ (A ((m.inputs:Int)+1))):=(FrmQ.refl _ _).drewN.trans (hm.frm 17 _);have d7:(W2.drewN n2).cell? ⟨K.pm,7,none⟩=_:=c7;have d5:(W2.drewN n2).cell? ⟨K.pm,17,none⟩=_:=c17;have c0:T (W2.drewN n2) K.pm 17:=hm.free 17;have b9:=hm.lt;have e7:=h1.c7;rw[b5.out] at e7;have d4:=h1.c17;have b8:=h1.lt;have b2:=(hF.below.cell (p:=⟨b,o+m.inputs,none⟩) b7.out).trans l;have c5:IntKind.i64.wrap (((m.inputs+1:Nat):Int)-1)=(m.inputs:Int):=by rw[show(((m.inputs+1:Nat):Int)-1)=(m.inputs:Int) by omega];exact Om _ Zo
   have H1:=Ja h1;have b6:=Ja (HF.out.trans hF);clear h1 hF c7 c17 hm;go_upto_region 36 with fail;go_quiet (fail);go_wp2;go_ret;rw[EE.out];exact vh.ok (H1.out.drewN _) b6.out.drewN a7
 ·have EE:=Ja (show uq K.E m=.ok 0 m by unfold uq;rw[if_neg d]);have hJ:¬(m.inputs:Int)<K.E.inn.length:=Zo;have a6:K.E.inn.length<=9223372036854775807:=Zo;clear d g k;go_upto_region 34 with fail
  go_cut [123] (fun v wx=>v=.bool false/\∃n,wx=W2.drewN n)
  case first=>
   go_quiet (fail);go_wp2;go_meet;exact⟨rfl,_,rfl⟩
  case rest=>
   obtain⟨rfl,n2,rfl⟩:=hcut;go_wp2;go_ret;rw[EE.out];exact vh.ok (x:=0) (u.out.drewN _) HF.out.drewN Zd
theorem MachQ.setO{w2:World}{ov c:Value}{o:Obj}{p:Nat}(h:MachQ w K m none dp ov)(hg:(w.alloc o).grownBy w2 ov.ownBlock)
 (d:w2.ownsRow K.B 87 2 c (m.out.length+1) (qO m.out++ [vL p,vL x])) (hp:p<65536) (l:x<65536) (hb:m.out.length+1+m.fuel.toNat<=4000000):
 MachQ (w2.setCell ⟨K.pm,13,none⟩ c) K {m with out:=m.out++ [(p,x)]} none dp c/\FrmQ K.B w (w2.setCell ⟨K.pm,13,none⟩ c):=by
 have n1:=zC h.out h.blk (.inr Zd);have n2:=zC h.out h.ram (.inr Zd);have b2:=zL hg (zB h.blk) n1;have r2:=zL hg (zB h.ram) n2;have hB:=h.size
 have j:FrmQ K.B w w2:=by
  refine⟨((Below.refl _ _).alloc (Qd hB) o).grown hg Zt (fun k hk=>(h.out.lt k hk).1),fun k o' hk hs=>?_⟩;refine zL hg (zB hk) ?_;intro e;obtain⟨_,h2⟩:=h.out;rcases h2 with⟨hv,_⟩|⟨g,cap,cur,hv,_,r,_⟩
  ·rw[hv] at e;simp[Value.ownBlock] at e
  ·rw[hv] at e;simp only[Value.ownBlock,Option.some.injEq] at e;subst e;rw[r] at hk;have:=Nt hk;subst this;exact hs.2.1 rfl
 have i:FrmQ K.B w (w2.setCell ⟨K.pm,13,none⟩ c):=j.set b2 h.gpm (by simp[di]) _;refine⟨⟨?_,zR r2 (by simpa using h.ne),h.rlen,h.rlt,?_,?_,?_,h.fuel,h.inp,h.pol,h.gpm,h.grb,h.prog.below i.below,h.inn.below zr i.below,h.irq.below xQ i.below⟩,i⟩
 ·rw[zD b2];rfl
 ·have e1:(m.out++ [(p,x)]).length=m.out.length+1:=by simp
  show(w2.setCell ⟨K.pm,13,none⟩ c).ownsRow K.B 87 2 c (m.out++ [(p,x)]).length (qO (m.out++ [(p,x)]))
  rw[e1,kF];exact ownsRow_setCell_other d (by intro e;exact zC d b2 (.inr Zd) (by simpa using e)) _
 ·intro q hq;rcases Jl.1 hq with hq|hq
  ·exact h.olt q hq
  ·simp at hq;subst hq;exact⟨hp,l⟩
 ·show(m.out++ [(p,x)]).length+m.fuel.toNat<=4000000
  simp;omega
theorem qstep_25{ov:Value}(h:MachQ w K m none dp ov)(b7:on<65536)(ab:Option Addr)(an ac:Nat){n:Nat}{v:Int->Nat}(hv:dA w vb n v)(d0:0<=oa/\oa.toNat<n)(c2:Int)(b8:m.out.length+1+m.fuel.toNat<=4000000):
 Y 114 #[Q K.pm,.agg #[A 25,A j,A oa,A ob,I on,.slice ab an ac],N vb n n,A c2] w (vh K w (adS m on (v oa))):=by
 have b6:=hv.2 oa;have c9:=hv.2 ob;obtain⟨ka,rfl⟩:∃ka:Nat,oa=(ka:Int):=⟨oa.toNat,by omega⟩
 have b2:ka<n:=Zo;have d2:(ka:Int)<(n:Int):=Zo;have a0:=zI (W:=w) (o:=U #[A 25,A j,A ka,A ob,I on,.slice ab an ac] 77) rfl;have a6:F w (w.alloc (U #[A 25,A j,A ka,A ob,I on,.slice ab an ac] 77)):=(Below.refl _ _).alloc (Je _) _;have H:=Ja h;have HV:=Ja hv;have u:=Ja (Jb a0 a6);clear h hv a0 a6;generalize a5:v (ka:Int)=xa at *;generalize a4:v ob=xb at *;have HX:=Ja (Jb a5 a4);clear a5 a4;go_enter Try.func114,Try.ntmps114;go_upto_region 4 with(go_at_call 54;go_must (refine(aaK 25 _).mono ?_;rintro e w1 ⟨he,i⟩;obtain rfl:e=.returned (.agg #[.bool true,.bool false,.bool true,.bool false,.bool true]):=he))
 have l:F w (w1.alloc (U #[.bool true,.bool false,.bool true,.bool false,.bool true] 111)):=(u.out.2.trans (i.mono u.out.2.size)).alloc (Jn u.out.2.size i.size) _;have c:=zB (o:=(U #[.bool true,.bool false,.bool true,.bool false,.bool true] 111)) (zH i u.out.1 (lt_of_block u.out.1));have k:=zI (W:=w1) (o:=(U #[.bool true,.bool false,.bool true,.bool false,.bool true] 111)) rfl;have d5:w1.heap.size≠w.heap.size:=by have:=i.size;simp at this;omega
 generalize w1.alloc (U #[.bool true,.bool false,.bool true,.bool false,.bool true] 111)=W2 at *;generalize w1.heap.size=bs at *;have a1:=H.out.keep l;have y:=HV.out.below (zH l HV.out.1 (lt_of_block HV.out.1));have p0:=K0 c;have p2:=K2 c;have p3:=K3 c;have p4:=K4 c;have p5:=K5 c;have s2:=K2 k;have s3:=K3 k;have c8:=lt_of_block c;have c7:=lt_of_block k;have ca:G W2 vb ka (I xa):=by rw[<-HX.out.1];exact y.cell b2
 have c5:=lt_of_block y.1;have r:=Ja a1;have HF:=Ja (FrmQ.ofBelow l (Qd H.out.size));have a3:=a1.lt;clear l c k i u a1 y;obtain⟨ii,b9,b1,b0,a7⟩:=info_parts Try.info_event;have c13:=r.out.c13;have c0:=r.out.free 13;have d:=r.out.out;have nb:=zC d r.out.blk (.inr Zd);obtain⟨oa',oc',rfl⟩:=zG d;have b5:=Ja d;have d1:m.out.length<=4000000:=Zo;have b4:∀o,G (W2.alloc o) K.pm 13 (.slice oa' m.out.length oc'):=fun o=>(Oo (w:=W2) (Below.heap_alloc _ _ _ a3)).trans c13
 have b3:∀o,T (W2.alloc o) K.pm 13:=fun o=>(Qm (w:=W2) (Below.heap_alloc _ _ _ a3)).trans c0
 have d4:K.B<W2.heap.size:=r.out.size;clear d;go_upto_region 38 with fail
 go_region_law (first|(refine step_append_lies _ (by rfl) (.tmp 153) (.tmp 158) _ (by rfl) K.B 87 ii (.agg #[I 0,I 0]) 2 4 Try.underlying53 b9 b1 b0 a7 rfl Zo (.slice oa' m.out.length oc') m.out.length (qO m.out) (by rfl) ((b5.out.alloc _).drew) ⟨W2.heap.size,0,none⟩ 1 1 [I on,I xa] (by rfl) (by rfl) (Oi (cs:=#[I on,I xa]) (t:=87) (fr:=(0,0)) (heap_alloc_new W2 _)) (by simp[Value.oneCell']) Zo (by unfold maxLen;omega) Zo Zt (W2.heap.size+1) Zs ?_;intro gg c4 w3 a2 g d3 c3;have d7:=(g.cell_far ⟨K.pm,13,none⟩ Zt (Ne.symm nb)).trans (b4 _);have d6:=(g.frozen_far ⟨K.pm,13,none⟩ Zt (Ne.symm nb)).trans (b3 _)))
 all_goals go_wp2_with fail
 all_goals go_ret
 all_goals (
  have hO:=r.out.setO (p:=on) (x:=xa) (xN g) (by simpa[vL] using a2) b7 b6 b8
  exact vh.ok (x:=0) hO.1 (HF.out.trans hO.2) Zd)
theorem bK{S n:Nat}{ty:TypeId}{sz:Nat}{av:Value}{xs:List Value}(h:w.ownsRow S ty sz av n xs){b:Nat}{o:Nat}{n':Nat}(e:av=.slice (some ⟨b,o,none⟩) n' c):S<=b:=by
 obtain⟨_,h2⟩:=h;rcases h2 with⟨hv,_⟩|⟨g,cap,cur,hv,hg,d,_⟩
 ·rw[hv] at e;cases e
 ·rw[hv] at e;cases e;exact hg
def zeroR:Res Nat->Res Nat
 |.ok _ m'=> .ok 0 m'
 |.trap k i m'=> .trap k i m'
def cX (K:MK)(r:Nat):Prop:=
 ∀(w:World) (m:Mach) (dp:Int) (ov av:Value) (f:Int) (args:List Nat),MachQ w K m none dp ov->0<=f->f.toNat<K.E.p.funcs.length->wV w w.heap.size av args->(args.length:Int)=K.E.p.args.getD f.toNat 0->(∀b o n c,av=.slice (some ⟨b,o,none⟩) n c->args≠ []->b≠K.pm)->
  Y 85 #[Q K.pm,A f,av,A (101-(r:Int))] w (vh K w (xW K.E r f args m))
theorem poll_q{ov:Value}(h:MachQ w K m none dp ov)(a7:OkProg K.E.p)(hr:r<=100)(hC:cX K r):
 Y 127 #[Q K.pm,A (100-(r:Int))] w (et K w (tY K.E (xW K.E r) m)):=by
 have c8:=h.c8;have c18:=h.c18;have t:=h.irq;obtain⟨ia,ic,a2,d2,d1⟩:=t.form;rw[a2] at c8 t;have b6:=h.pol;have b5:=h.lt;have H:=Ja h;have c0:=Ja a7;have HC:=Ja hC;clear h a7 hC
 by_cases l:m.polls<K.E.irq.length
 ·obtain⟨x,hx⟩:∃x,K.E.irq[m.polls]? =some x:=⟨_,Jd l⟩
  obtain⟨b,o,rfl,b0,j,c9⟩:=t.get hx;rw[Nk] at j;have hg:K.E.irq.getD m.polls 0=x:=by rw[Jj,hx];rfl
  have hJ:¬(K.E.irq.length:Int)<=(m.polls:Int):=Zo;have d4:(m.polls:Int)<K.E.irq.length:=Zo;have b3:K.E.irq.length<=9223372036854775807:=Zo;have u:=Ja l;have d5:=Ja b0;have HG:=Ja hg;clear t l hx b6 a2 b0 hg;go_enter Try.func127,Try.ntmps127;go_upto_region 0 with fail
  go_cut [16] (fun v wx=>v=.bool false/\∃n,wx=w.drewN n)
  case first=>
   go_quiet (fail);go_wp2;go_meet;exact⟨rfl,_,rfl⟩
  case rest=>
   obtain⟨rfl,n,rfl⟩:=hcut;have H1:=Ja (H.out.drewN n);have c2:=Ja ((FrmQ.refl K.B w).drewN (n:=n));have d8:(w.drewN n).cell? ⟨K.pm,8,none⟩=_:=c8;have b2:(w.drewN n).cell? ⟨K.pm,18,none⟩=_:=c18;have dc:(w.drewN n).cell? ⟨b,o+m.polls,none⟩=_:=j;have c7:=H1.out.lt;clear c8 c18 j b5;generalize w.drewN n=W1 at *;go_upto_region 1 with fail
   go_cut [4] (fun v wx=>v=.int .u8 (x:Int)/\∃n,wx=W1.drewN n)
   case first=>
    go_quiet (fail);go_wp2;go_meet;exact⟨rfl,_,rfl⟩
   case rest=>
    obtain⟨rfl,n2,rfl⟩:=hcut;have hm:=H1.out.drewN n2;have h2:=hm.put 18 (A ((m.polls:Int)+1)) (m':= {m with polls:=m.polls+1 }) (tr':=none) (dp':=dp) rfl rfl rfl hm.obd hm.fuel hm.inp u.out;have b9:(W1.drewN n2).cell? ⟨K.pm,18,none⟩=_:=b2;have b4:T (W1.drewN n2) K.pm 18:=hm.free 18;have c5:=hm.lt;have a0:=Ja (c2.out.trans ((FrmQ.refl _ _).drewN.trans (hm.frm 18 (A ((m.polls:Int)+1)))));have H2:=Ja h2;clear h2 hm d8 b2 dc;go_upto_region 3 with fail;generalize b7:(W1.drewN n2).setCell ⟨K.pm,18,none⟩ (A ((m.polls:Int)+1))=W2 at *;have f3:=H2.out.c3;have c4:=H2.out.lt;have a5:(x≠0/\K.E.p.handler≠-1)∨(x=0)∨(x≠0/\K.E.p.handler=-1):=Zo;clear b7 b9 b4;rcases a5 with⟨g,hh⟩|g|⟨g,hh⟩
    ·obtain⟨g1,g2,g3⟩:=c0.out.hnd hh;have hX:((x:Int)==0)=false:=Ze;have d:=HC.out W2 {m with polls:=m.polls+1 } dp ov (O) K.E.p.handler [] H2.out g1 g2 yN.nil (by rw[g3];rfl) (by intro b o n c e;cases e);obtain⟨R,hR⟩:∃R,xW K.E r K.E.p.handler [] {m with polls:=m.polls+1 }=R:=⟨_,rfl⟩
     rw[hR] at d;have hd:(100-(r:Int))+1=101-(r:Int):=Zo;have EE:=Ja (show tY K.E (xW K.E r) m=zeroR R by unfold tY;rw[if_pos u.out,HG.out,if_pos ⟨g,hh⟩,hR];cases R<;>rfl);have a6:(x:Int)≠0:=Zo;clear g hh hR g2 g3
     cases R with
     |ok y m'=>
      have a4:=Ja d;clear d;go_wp2_with (go_at_call 85;go_must (refine a4.out.mono ?_;rintro e w3 ⟨he,⟨b1,ov3,a1⟩,a3,d0⟩;obtain rfl:e=.returned (I y):=he))
      go_end0
      rw[EE.out]
      exact et.ok (x:=0) a1 (a0.out.trans a3) Zd
     |trap k i m'=>
      have a4:=Ja d;clear d;go_wp2_with (go_at_call 85;go_must (refine a4.out.mono ?_;rintro e w3 ⟨he,⟨b1,ov3,b8,a1⟩,a3⟩;obtain rfl:e=.returned (I 0):=he))
      go_end0
      rw[EE.out];exact⟨rfl,⟨b1,ov3,b8,a1⟩,a0.out.trans a3⟩
    ·have hX:((x:Int)==0)=true:=by rw[beq_iff_eq];omega
     have EE:=Ja (show tY K.E (xW K.E r) m=.ok 0 {m with polls:=m.polls+1 } by unfold tY;rw[if_pos u.out,HG.out,if_neg (by rintro⟨h,_⟩;exact h g)]);have a6:(x:Int)=0:=Zo;clear g;go_wp2
     go_end0
     rw[EE.out];exact et.ok (x:=0) H2.out a0.out Zd
    ·have hX:((x:Int)==0)=false:=Ze;have EE:=Ja (show tY K.E (xW K.E r) m=.ok 0 {m with polls:=m.polls+1 } by unfold tY;rw[if_pos u.out,HG.out,if_neg (by rintro⟨_,h⟩;exact h hh)]);have a6:(x:Int)≠0:=Zo;have d3:¬(0:Int)<=K.E.p.handler:=Zo;clear g;go_wp2
     go_end0
     rw[EE.out];exact et.ok (x:=0) H2.out a0.out Zd
 ·have EE:=Ja (show tY K.E (xW K.E r) m=.ok 0 m by unfold tY;rw[if_neg l]);have hJ:(K.E.irq.length:Int)<=(m.polls:Int):=Zo;have b3:K.E.irq.length<=9223372036854775807:=Zo;clear l t a2;go_enter Try.func127,Try.ntmps127;go_upto_region 0 with fail
  go_cut [16] (fun v wx=>v=.bool true/\∃n,wx=w.drewN n)
  case first=>
   go_quiet (fail);go_wp2;go_meet;exact⟨rfl,_,rfl⟩
  case rest=>
   obtain⟨rfl,n,rfl⟩:=hcut;go_wp2
   go_end0
   rw[EE.out];exact et.ok (x:=0) (H.out.drewN n) (FrmQ.refl _ _).drewN Zd
theorem qstep_27{ov:Value}(h:MachQ w K m none dp ov)(b8:on<65536)(ab:Option Addr)(an ac:Nat){n:Nat}{v:Int->Nat}(hv:dA w vb n v)(b0:Hid (OkProg K.E.p))(hr:r<=100)(hC:Hid (cX K r)):
 Y 114 #[Q K.pm,.agg #[A 27,A g,A oa,A ob,I on,.slice ab an ac],N vb n n,A (100-(r:Int))] w (vh K w (tY K.E (xW K.E r) m)):=by
 have b7:=hv.2 oa;have b6:=hv.2 ob;have u:=zI (W:=w) (o:=U #[A 27,A g,A oa,A ob,I on,.slice ab an ac] 77) rfl;have a4:F w (w.alloc (U #[A 27,A g,A oa,A ob,I on,.slice ab an ac] 77)):=(Below.refl _ _).alloc (Je _) _;have H:=Ja h;have HV:=Ja hv;have t:=Ja (Jb u a4);clear h hv u a4;generalize a3:v oa=xa at *;generalize a2:v ob=xb at *;have HX:=Ja (Jb a3 a2);clear a3 a2;go_enter Try.func114,Try.ntmps114;go_upto_region 4 with(go_at_call 54;go_must (refine(aaK 27 _).mono ?_;rintro e w1 ⟨he,d⟩;obtain rfl:e=.returned (.agg #[.bool true,.bool false,.bool false,.bool false,.bool false]):=he))
 have l:F w (w1.alloc (U #[.bool true,.bool false,.bool false,.bool false,.bool false] 111)):=(t.out.2.trans (d.mono t.out.2.size)).alloc (Jn t.out.2.size d.size) _;have c:=zB (o:=(U #[.bool true,.bool false,.bool false,.bool false,.bool false] 111)) (zH d t.out.1 (lt_of_block t.out.1));have j:=zI (W:=w1) (o:=(U #[.bool true,.bool false,.bool false,.bool false,.bool false] 111)) rfl;have b9:w1.heap.size≠w.heap.size:=by have:=d.size;simp at this;omega
 generalize w1.alloc (U #[.bool true,.bool false,.bool false,.bool false,.bool false] 111)=W2 at *;generalize w1.heap.size=bs at *;have a1:=H.out.keep l;have a7:=HV.out.below (zH l HV.out.1 (lt_of_block HV.out.1));have p0:=K0 c;have p2:=K2 c;have p3:=K3 c;have p4:=K4 c;have p5:=K5 c;have s2:=K2 j;have s3:=K3 j;have b4:=lt_of_block c;have b3:=lt_of_block j;have HM:=Ja a1;have HF:=Ja (FrmQ.ofBelow l (Qd H.out.size));have b2:=a1.lt;clear l c j d t a1 a7;obtain⟨R,hR⟩:∃R,tY K.E (xW K.E r) m=R:=⟨_,rfl⟩
 have hc:=poll_q HM.out b0.out hr hC.out;have EE:=Ja hR;rw[show tY K.E (xW K.E r) m=R from hR] at hc
 cases R with
 |ok x m'=>
  have HC:=Ja hc;have a6:x=0:=by exact lU EE.out
  clear hc hR;subst a6;go_wp2_with (go_at_call 127;go_must (refine HC.out.mono ?_;rintro e w3 ⟨he,⟨a5,ov3,y⟩,a0,b5⟩;subst he))
  go_ret;rw[EE.out]
  exact vh.ok (x:=0) y (HF.out.trans a0) Zd
 |trap k i m'=>
  have HC:=Ja hc;clear hc hR;go_wp2_with (go_at_call 127;go_must (refine HC.out.mono ?_;rintro e w3 ⟨he,⟨a5,ov3,b1,y⟩,a0⟩;subst he))
  go_ret;rw[EE.out];exact⟨rfl,⟨a5,ov3,b1,y⟩,HF.out.trans a0⟩
theorem qstep_26{ov:Value}(h:MachQ w K m none dp ov){a1:Int}(g2:on<65536)(ab:Option Addr)(ac:Nat){n:Nat}{v:Int->Nat}(hv:dA w vb n v){xs:List Int}(a6:zY w w.heap.size (.slice ab xs.length ac) xs)(a7:∀x∈xs,0<=x/\x.toNat<n)(d7:xs.length<=65536)(hr:r<=100)(hC:cX K r)(c2:0<=oa/\oa.toNat<K.E.p.funcs.length/\(xs.length:Int)=K.E.p.args.getD oa.toNat 0):
 Y 114 #[Q K.pm,.agg #[A 26,A a1,A oa,A ob,I on,.slice ab xs.length ac],N vb n n,A (100-(r:Int))] w (vh K w (xW K.E r oa (xs.map v) m)):=by
 have g1:=hv.2 oa;have g0:=hv.2 ob;have b0:=zI (W:=w) (o:=U #[A 26,A a1,A oa,A ob,I on,.slice ab xs.length ac] 77) rfl;have c3:F w (w.alloc (U #[A 26,A a1,A oa,A ob,I on,.slice ab xs.length ac] 77)):=(Below.refl _ _).alloc (Je _) _;have H:=Ja h;have HV:=Ja hv;have H0:=Ja (Jb b0 c3);clear h hv b0 c3;go_enter Try.func114,Try.ntmps114;go_upto_region 4 with(go_at_call 54;go_must (refine(aaK 26 _).mono ?_;rintro e w1 ⟨he,a0⟩;obtain rfl:e=.returned (.agg #[.bool true,.bool false,.bool false,.bool false,.bool false]):=he))
 have l:F w (w1.alloc (U #[.bool true,.bool false,.bool false,.bool false,.bool false] 111)):=(H0.out.2.trans (a0.mono H0.out.2.size)).alloc (Jn H0.out.2.size a0.size) _;have g:=zB (o:=(U #[.bool true,.bool false,.bool false,.bool false,.bool false] 111)) (zH a0 H0.out.1 (lt_of_block H0.out.1));have a5:=zI (W:=w1) (o:=(U #[.bool true,.bool false,.bool false,.bool false,.bool false] 111)) rfl;have g6:w1.heap.size≠w.heap.size:=by have:=a0.size;simp at this;omega
 generalize w1.alloc (U #[.bool true,.bool false,.bool false,.bool false,.bool false] 111)=W2 at *;generalize w1.heap.size=bs at *;have b5:=H.out.keep l;have c0:=HV.out.below (zH l HV.out.1 (lt_of_block HV.out.1));have p0:=K0 g;have p2:=K2 g;have p3:=K3 g;have p4:=K4 g;have p5:=K5 g;have s2:=K2 a5;have s3:=K3 a5;have b9:=lt_of_block g;have f8:=lt_of_block a5;have HM:=Ja b5;have HF:=Ja (FrmQ.ofBelow l (Qd H.out.size));have f6:=b5.lt;have e3:=Ja (a6.below zO l);have e4:=Ja l.size;have c7:=Ja c0;have HC:=Ja hC;have b7:=Ja c2;have HU:=Ja a7;obtain⟨_,_,ef,g5,f2⟩:=a6.form;cases ef;clear l g a5 a0 H0 b5 c0;have e9:xs.length<=65536:=d7;have f4:=e4.out;clear a6 hC c2 a7;go_wp2
 go_loopw [12,13] (fun rv kv wx=>∃k:Nat,k<=xs.length/\kv=A k/\Hid (wx.ownsRow W2.heap.size 39 1 rv k ((uT v xs k).map vL)/\F W2 wx)) (fun _ kv _=>xs.length-(intOf kv).toNat)
 case atStart=>exact⟨0,Jt _,rfl,Ja ⟨Jv _ _ _ _,Below.refl _ _⟩⟩
 case round=>
  obtain⟨k,hk,rfl,j⟩:=hrel;obtain⟨ra,rc,rfl⟩:=zG j.out.1;have b6:FrmQ K.B W2 wr:=FrmQ.ofBelow j.out.2 (Qd HM.out.size);have d5:=zV j.out.2 b9 p5;have d2:=zV j.out.2 b9 p2;have e7:=j.out.2.size;have e5:w.heap.size<wr.heap.size:=Zo
  by_cases a4:k<xs.length
  ·have d6:(k:Int)<xs.length:=Zo;have c9:=Ja a4;obtain⟨x,hx⟩:∃x,xs[k]? =some x:=⟨_,Jd a4⟩
   obtain⟨b,o,rfl,hb,b4,e6⟩:=e3.out.get hx;rw[Nk] at b4;have cx:=zV j.out.2 (show b<W2.heap.size by omega) b4;have f7:b<wr.heap.size:=Zo;have d9:=HU.out x (Ji hx);have e2:=Ja (qH (v:=v) hx);have g4:=pA (v:=v) (show k<=xs.length by omega);obtain⟨kx,rfl⟩:∃kx:Nat,x=(kx:Int):=⟨x.toNat,by omega⟩
   have b2:kx<n:=Zo;have f0:(kx:Int)<(n:Int):=Zo;have a2:=c7.out.kept b6;have cv:=a2.cell b2;have f5:=lt_of_block a2.1;have f9:=a2.2 (kx:Int);obtain⟨ii,e0,d4,d3,d1⟩:=info_parts Try.info_u16;clear hx b4 a4 a2 d9 hb b2;generalize v (kx:Int)=vx at *;go_wp2_with (at_builtin;go_must (refine wpList_append_lies _ rfl (.tmp 172) (.tmp 181) 36 rfl W2.heap.size 39 ii (I 0) 1 2 Try.underlying36 e0 d4 d3 d1 rfl Zd _ k ((uT v xs k).map vL) rfl (j.out.1.alloc _) ⟨wr.heap.size,0,none⟩ 1 1 [I vx] rfl rfl (Oi (cs:=#[I vx]) (zI Zs)) (by simp[Value.oneCell']) Zd (by unfold maxLen;omega) Zo Zt (wr.heap.size+1) Zs ?_;intro gq f3 w6 a3 u f1 e8;have c8:=Ja (Jb a3 u);clear a3 u))
   go_roundw
   case rel=>
    refine⟨k+1,c9.out,by go_num,Ja ⟨?_,(j.out.2.alloc Zo _).grown c8.out.2 Zt (fun k hk=>(j.out.1.lt k hk).1)⟩⟩;rw[e2.out,Js];exact c8.out.1
   case measure=>have:=c9.out;simp[intOf];omega
  ·obtain rfl:k=xs.length:=by omega
   have d6:¬(xs.length:Int)<xs.length:=Zo;have t:=j.out.1;rw[r8] at t;have c4:=HM.out.keep j.out.2;have d:=HC.out wr m dp ov (.slice ra xs.length rc) oa (xs.map v) c4 b7.out.1 b7.out.2.1 (ms t Zs (fun y hy=>by obtain⟨z,_,rfl⟩:=Nu.1 hy;exact c7.out.2 z)) (by simpa using b7.out.2.2) (fun b o n c e _=>by have:=bK t e;have:=HM.out.lt;omega);have d0:=Ja (HF.out.trans b6);have g3:(100-(r:Int))+1=101-(r:Int):=Zo;obtain⟨R,hR⟩:∃R,xW K.E r oa (xs.map v) m=R:=⟨_,rfl⟩
   rw[hR] at d;have EE:=Ja hR;clear t c4 a4 hR b6
   cases R with
   |ok x m'=>
    have b8:=Ja d;clear d;go_wp2_with (go_at_call 85;go_must (refine b8.out.mono ?_;rintro e w3 ⟨he,⟨c5,ov3,b1⟩,b3,d8⟩;obtain rfl:e=.returned (I x):=he))
    go_ret;rw[EE.out]
    exact vh.ok b1 (d0.out.trans b3) d8
   |trap k i m'=>
    have b8:=Ja d;clear d;go_wp2_with (go_at_call 85;go_must (refine b8.out.mono ?_;rintro e w3 ⟨he,⟨c5,ov3,e1,b1⟩,b3⟩;obtain rfl:e=.returned (I 0):=he))
    go_ret;rw[EE.out];exact⟨rfl,⟨c5,ov3,e1,b1⟩,d0.out.trans b3⟩
def cS (n:Nat)(o:IOp):Prop:=∀x∈rR o,0<=x/\x.toNat<n
theorem cS.a{n:Nat}(h:cS n o)(hs:(zi o.code).a=true):0<=o.a/\o.a.toNat<n:=h _ (by unfold rR;rw[hs];simp)
theorem cS.b{n:Nat}(h:cS n o)(hs:(zi o.code).b=true):0<=o.b/\o.b.toNat<n:=h _ (by unfold rR;rw[hs];simp)
theorem cS.args{n:Nat}(h:cS n o):∀x∈o.args,0<=x/\x.toNat<n:=fun x hx=>h x (by unfold rR;simp[hx])
theorem step_q{ov:Value}(h:MachQ w K m none dp ov)(i:OkProg K.E.p)(ho:OkOp K.E.p o)(hb:I64 o.code/\I64 o.res/\I64 o.a/\I64 o.b/\o.n<65536){av:Value}(j:zY w w.heap.size av o.args)
 {n:Nat} {v:Int->Nat} (hv:dA w vb n v) (g:cS n o)  (hr:r<=100) (u:cX K r) (l:m.out.length+1+m.fuel.toNat<=4000000):
 Y 114 #[Q K.pm,aam o av,N vb n n,A (100-(r:Int))] w (vh K w (oV K.E (xW K.E r) o v m)):=by
 obtain⟨code,res,oa,ob,on,xs⟩:=o;obtain⟨⟨a2,a1⟩,h2,k⟩:=ho;obtain⟨_,a3,a0,y,c⟩:=hb;obtain⟨aa,ac,d,_,_⟩:=j.form;simp only at *;unfold aam;have t:code=1∨code=2∨code=3∨code=4∨(5<=code/\code<=17)∨code=18∨code=19∨code=20∨code=21∨code=22∨code=23∨code=24∨code=25∨code=26∨code=27:=Zo;rcases t with rfl|rfl|rfl|rfl|x|rfl|rfl|rfl|rfl|rfl|rfl|rfl|rfl|rfl|rfl
 ·subst d;exact qstep_1 h c _ _ _ hv _
 ·subst d;exact qstep_2 h c _ _ _ hv _ (h2 rfl)
 ·subst d;exact qstep_3 h c _ _ _ hv (g.a rfl) _
 ·subst d;exact qstep_4 h c _ _ _ hv (g.a rfl) _
 ·subst d
  have e:oV K.E (xW K.E r) ⟨code,res,oa,ob,on,xs⟩ v m=iy m code (v oa) (v ob):=by
   unfold oV mU;simp only;rw[if_neg Zo,if_neg Zo,if_neg Zo,if_neg Zo,if_neg Zo,if_neg Zo,if_neg Zo,if_neg Zo,if_neg Zo,if_neg Zo,if_neg Zo,if_neg Zo,if_neg Zo,if_neg Zo]
  rw[e]
  have hs:(zi code).a=true/\(zi code).b=true:=by
   rcases rJ code with⟨h,e⟩|⟨h,e⟩|⟨h,e⟩|⟨h,e⟩|⟨h,e⟩|⟨h,e⟩|⟨h,e⟩|⟨h,e⟩
   all_goals first|omega|(rw[e];exact⟨rfl,rfl⟩)
  exact qstep_ar h c _ _ _ hv (g.a hs.1) (g.b hs.2) _ x
 ·subst d;exact qstep_18 h c _ _ _ hv (g.a rfl) _
 ·subst d;exact qstep_19 h c _ _ _ hv (g.a rfl) _
 ·subst d;exact qstep_20 h c _ _ _ hv (g.a rfl) (g.b rfl) _
 ·subst d;exact qstep_21 h c _ _ _ hv (g.a rfl) (g.b rfl) _
 ·subst d;exact qstep_22 h c _ _ _ hv (g.a rfl) _ (Ja i.bank)
 ·subst d;exact qstep_23 h c _ _ _ hv (g.a rfl) _ (Ja i.bank)
 ·subst d;exact qstep_24 h c _ _ _ hv _
 ·subst d;exact qstep_25 h c _ _ _ hv (g.a rfl) _ l
 ·subst d;exact qstep_26 h c _ _ hv j g.args (by have:=i.argle oa.toNat;have:=(k rfl).2.2;omega) hr u (k rfl)
 ·subst d;exact qstep_27 h c _ _ _ hv (Ja i) hr (Ja u)
def aq (N:Nat)(b:IBlk):Prop:=(∀x∈b.params,0<=x/\x.toNat<N)/\(∀o∈b.ops,cS N o/\(0<=o.res->o.res.toNat<N))/\∀x∈mE b.term,0<=x/\x.toNat<N
structure UseProg (p:IProg):Prop where
 sz:∀bl∈p.funcs,vZ bl
 cnt:∀bl∈p.funcs,0<=aaG bl/\aaG bl<=65536
 blk:∀bl∈p.funcs,∀b∈bl,aq (aaG bl).toNat b
theorem FrmQ.setNew{B:Nat}{a:World}(h:FrmQ B a w){b:Nat}(hb:a.heap.size<=b)(hB:B<=a.heap.size)(u:Value):FrmQ B a (w.setCell ⟨b,i,none⟩ u):=
 ⟨h.below.setCell (Jn hB hb) u,fun k o hk hs=>zR (h.kept k o hk hs) (by have:=lt_of_block hk;show k≠b;omega)⟩
theorem MachQ.setV{ov:Value}(h:MachQ w K m tr dp ov){n:Nat}{v:Int->Nat}(hv:dA w vb n v)(hB:K.B<=vb)(i:Nat)(u:Value):MachQ (w.setCell ⟨vb,i,none⟩ u) K m tr dp ov:=by
 have n1:K.pm≠vb:=by rintro e;have:=h.blk;rw[e,hv.1] at this;simp at this
 have n2:K.rb≠vb:=by rintro e;have:=h.ram;rw[e,hv.1] at this;simp at this
 have hb:Below K.B w (w.setCell ⟨vb,i,none⟩ u):=(Below.refl _ _).setCell hB _;refine⟨zR h.blk n1,zR h.ram n2,h.rlen,h.rlt,ownsRow_setCell_other h.out ?_ _,h.olt,h.obd,h.fuel,h.inp,h.pol,h.gpm,h.grb,h.prog.below hb,h.inn.below zr hb,h.irq.below xQ hb⟩;intro e;exact zC h.out hv.1 (.inr Zd) (by simpa using e)
structure CStQ (K:MK) (w0 w:World) (m:Mach) (vb N:Nat) (v:Int->Nat):Prop where
 mach:∃dp ov,MachQ w K m none dp ov
 frm:FrmQ K.B w0 w
 row:dA w vb N v
 new:w0.heap.size<=vb
 gb:K.B<w0.heap.size
theorem CStQ.alloc{N:Nat}{v:Int->Nat}(h:CStQ K w0 w m vb N v)(o:Obj):CStQ K w0 (w.alloc o) m vb N v:=by
 obtain⟨dp,ov,hm⟩:=h.mach;exact⟨⟨dp,ov,hm.keep ((Below.refl _ _).alloc (Je _) o)⟩,h.frm.trans ((FrmQ.refl _ _).alloc (Qd hm.size) o),h.row.kept ((FrmQ.refl K.B w).alloc (Qd hm.size) o),h.new,h.gb⟩
theorem CStQ.step {K:MK}{w0 w w':World}{m m':Mach}{vb N:Nat}{v:Int->Nat}{dp:Int}{ov:Value}(h:CStQ K w0 w m vb N v)(d:MachQ w' K m' none dp ov)(c:FrmQ K.B w w'):CStQ K w0 w' m' vb N v:=
 ⟨⟨dp,ov,d⟩,h.frm.trans c,h.row.kept c,h.new,h.gb⟩
theorem CStQ.keep{N:Nat}{v:Int->Nat}(h:CStQ K w0 w m vb N v)(hb:F w w'):CStQ K w0 w' m vb N v:=by
 obtain⟨dp,ov,hm⟩:=h.mach;exact h.step (hm.keep hb) (FrmQ.ofBelow hb (Qd hm.size))
theorem CStQ.set{N:Nat}{v:Int->Nat}(h:CStQ K w0 w m vb N v)(hr:r<65536):CStQ K w0 (w.setCell ⟨vb,k,none⟩ (I r)) m vb N (iY v k r):=by
 obtain⟨dp,ov,hm⟩:=h.mach;have:=h.new;have:=h.gb;exact⟨⟨dp,ov,hm.setV h.row Zo _ _⟩,h.frm.setNew h.new Zo _,h.row.set hr,h.new,h.gb⟩
theorem dA.made{N:Nat}{b:Nat}(hb:L w b (madeCells #[I 0] N) 39):dA w b N (fun _=>0):=by
 refine⟨?_,fun _=>by show 0<65536;omega⟩;rw[hb,yA]
 congr 3
 apply Oq;intro i
 by_cases hi:i<N
 ·simp[hi,vL]
 ·simp[hi]
def ez (t:ITerm)(a:Nat):Nat:=if t.kind=2/\a=0 then 1 else if t.kind=3 then min a (t.to.length-1) else 0
theorem cT (t:ITerm)(a:Nat):wK t a=t.to.getD (ez t a) ⟨0,[]⟩:=by
 unfold wK ez
 split
 ·rfl
 ·split<;>rfl
theorem taken_q (w:World)(t:ITerm)(ta:Option Addr)(tc:Nat)(a:Nat)(l:a<65536)(hl:1<=t.to.length/\t.to.length<=2000000)(hk:t.kind=1∨t.kind=2∨t.kind=3):
 Y 115 #[.agg #[A t.kind,A t.a,.slice ta t.to.length tc],I a] w (dq w (ez t a:Nat)):=by
 have d:=(Below.refl w.heap.size w).alloc (Je _) (U #[A t.kind,A t.a,.slice ta t.to.length tc] 47);have c:=Ja d;clear d;generalize hq:ez t a=q;unfold ez at hq;generalize t.to.length=n at *;rcases hk with hk|hk|hk
 ·rw[if_neg Zo,if_neg Zo] at hq;subst hq;rw[hk] at c ⊢;go_enter Try.func115,Try.ntmps115;go_wp2;go_ret;exact⟨rfl,c.out⟩
 ·by_cases h:a=0
  ·subst h;rw[if_pos ⟨hk,rfl⟩] at hq;subst hq;rw[hk] at c ⊢;go_enter Try.func115,Try.ntmps115;go_wp2;go_ret;exact⟨rfl,c.out⟩
  ·rw[if_neg Zo,if_neg Zo] at hq;subst hq;have k:((a:Int)==0)=false:=Ze;have i:¬(a:Int)=0:=Zo;rw[hk] at c ⊢;go_enter Try.func115,Try.ntmps115;go_wp2;go_ret;exact⟨rfl,c.out⟩
 ·rw[if_neg Zo,if_pos hk] at hq;have j:IntKind.i64.wrap (a:Int)=(a:Int):=Om _ Zo
  have g:∀(ts:Array TypeId) (t:TypeId) (W:World),(Builtin.min_ ts t #[A a,A ((n:Int)-1)]).run Try.prog W=.ok (A q) W:=fun ts t W=>by
   rw[run_min_int2];have:(q:Int)=if(n:Int)-1<(a:Int) then(n:Int)-1 else(a:Int):=by split<;>omega
   rw[this]
  have m:=Ja hq;rw[hk] at c ⊢;clear hq;go_enter Try.func115,Try.ntmps115;go_wp2;go_ret;exact⟨rfl,c.out⟩
theorem bR{d':wO}{v i k:Int}(h:rB d v i k=some d'):(0<=v/\v<=65535)/\∀x,(d'.1 x).isSome=true->(d.1 x).isSome=true∨x=v:=by
 unfold rB at h
 split at h
 ·cases h
 ·rename_i c
  cases h;refine⟨by omega,fun x hx=>?_⟩
  change (lS d.1 v i x).isSome=true at hx
  unfold lS at hx
  by_cases e:x=v
  ·exact .inr e
  ·rw[if_neg e] at hx;exact .inl hx
theorem cL {i:Int}:∀(l:List Int) (d d':wO),vJ i l d=some d'->(∀v∈l,0<=v/\v<=65535)/\∀x,(d'.1 x).isSome=true->(d.1 x).isSome=true∨x∈l
 | [],d,d',h=>by cases h;exact⟨(fun v hv=>by cases hv),fun x hx=> .inl hx⟩
 |v::l,d,d',h=>by
  unfold vJ at h
  cases h1:rB d v i (-1) with
  |none=>rw[h1] at h;cases h
  |some d1=>
   rw[h1,Nw] at h;obtain⟨k1,k2⟩:=bR h1;obtain⟨k3,k4⟩:=cL l d1 d' h;refine⟨fun x hx=>?_,fun x hx=>?_⟩
   ·rcases Jq.1 hx with rfl|hx
    ·exact k1
    ·exact k3 x hx
   ·rcases k4 x hx with h2|h2
    ·rcases k2 x h2 with h3|rfl
     ·exact .inl h3
     ·exact .inr (List.mem_cons_self ..)
    ·exact .inr (List.mem_cons_of_mem _ h2)
theorem bN {p:IProg}{i:Int}:∀(l:List IOp) (k:Int) (d d':wO),sS p i l k d=some d'->(∀o∈l,-1<=o.res/\o.res<=65535)/\∀x,(d'.1 x).isSome=true->(d.1 x).isSome=true∨∃o∈l,o.res=x/\0<=x
 | [],k,d,d',h=>by cases h;exact⟨(fun v hv=>by cases hv),fun x hx=> .inl hx⟩
 |o::l,k,d,d',h=>by
  rw[dG] at h
  cases h1:ug p i k o d with
  |none=>rw[h1] at h;cases h
  |some d1=>
   rw[h1,Nw] at h;obtain⟨k3,k4⟩:=bN l (k+1) d1 d' h
   have hs:(-1<=o.res/\o.res<=65535)/\∀x,(d1.1 x).isSome=true->(d.1 x).isSome=true∨(o.res=x/\0<=x):=by
    unfold ug at h1
    split at h1
    ·rename_i hf
     have:=ct hf
     split at h1
     ·rename_i c
      obtain⟨k1,k2⟩:=bR h1;refine⟨by omega,fun x hx=>?_⟩;rcases k2 x hx with h3|rfl
      ·exact .inl h3
      ·exact .inr ⟨rfl,c⟩
     ·cases h1;exact⟨by omega,fun x hx=> .inl hx⟩
    ·cases h1
   refine⟨fun x hx=>?_,fun x hx=>?_⟩
   ·rcases Jq.1 hx with rfl|hx
    ·exact hs.1
    ·exact k3 x hx
   ·rcases k4 x hx with h2|⟨o',h2,h3⟩
    ·rcases hs.2 x h2 with h3|h3
     ·exact .inl h3
     ·exact .inr ⟨o,List.mem_cons_self ..,h3⟩
    ·exact .inr ⟨o',List.mem_cons_of_mem _ h2,h3⟩
def DefdIn (l:List IBlk)(x:Int):Prop:=∃b∈l,x∈b.params∨∃o∈b.ops,o.res=x/\0<=x
def bC (l:List IBlk):Prop:=∀b∈l,(∀v∈b.params,0<=v/\v<=65535)/\∀o∈b.ops,-1<=o.res/\o.res<=65535
theorem cP{p:IProg}:∀(l:List IBlk) (i:Int) (d d':wO),uH p bl l i d=some d'->bC l/\∀x,(d'.1 x).isSome=true->(d.1 x).isSome=true∨DefdIn l x
 | [],i,d,d',h=>by cases h;exact⟨(fun v hv=>by cases hv),fun x hx=> .inl hx⟩
 |b::l,i,d,d',h=>by
  unfold uH at h
  cases h1:pS p bl i b d with
  |none=>rw[h1] at h;cases h
  |some d1=>
   rw[h1,Nw] at h;obtain⟨_,d2,h2,h3⟩:=nF h1;obtain⟨k1,k2⟩:=cL _ _ _ h2;obtain⟨k3,k4⟩:=bN _ _ _ _ h3;obtain⟨k5,k6⟩:=cP l (i+1) d1 d' h;refine⟨fun x hx=>?_,fun x hx=>?_⟩
   ·rcases Jq.1 hx with rfl|hx
    ·exact⟨k1,k3⟩
    ·exact k5 x hx
   ·rcases k6 x hx with j|⟨b',j,c⟩
    ·rcases k4 x j with c|c
     ·rcases k2 x c with g|g
      ·exact .inl g
      ·exact .inr ⟨b,List.mem_cons_self ..,.inl g⟩
     ·exact .inr ⟨b,List.mem_cons_self ..,.inr c⟩
    ·exact .inr ⟨b',List.mem_cons_of_mem _ j,c⟩
theorem ak {N:Int}(l:List Int):∀(n:Int),n<=N->(∀v∈l,cG v<=N)->qK n l<=N:=by
 induction l with
 |nil=>intro n h _;exact h
 |cons x l ih=>
  intro n h hl;have e:qK n (x::l)=qK (max n (cG x)) l:=rfl;rw[e];have:=hl x (List.mem_cons_self ..);exact ih _ Zo (fun v hv=>hl v (List.mem_cons_of_mem _ hv))
theorem aaf {N:Int}(l:List IOp):∀(n:Int),n<=N->(∀o∈l,cG o.res<=N)->o8 n l<=N:=by
 induction l with
 |nil=>intro n h _;exact h
 |cons x l ih=>
  intro n h hl;have e:o8 n (x::l)=o8 (max n (cG x.res)) l:=rfl;rw[e];have:=hl x (List.mem_cons_self ..);exact ih _ Zo (fun v hv=>hl v (List.mem_cons_of_mem _ hv))
theorem count_le {N:Int}(l:List IBlk):∀(n:Int),n<=N->(∀b∈l,(∀v∈b.params,cG v<=N)/\∀o∈b.ops,cG o.res<=N)->l.foldl iL n<=N:=by
 induction l with
 |nil=>intro n h _;exact h
 |cons x l ih=>
  intro n h hl;rw[Qk];have h1:=hl x (List.mem_cons_self ..);exact ih _ (aaf _ _ (ak _ _ h h1.1) h1.2) (fun b hb=>hl b (List.mem_cons_of_mem _ hb))
theorem bD(h:bC bl):0<=aaG bl/\aaG bl<=65536:=by
 refine⟨bO bl,count_le bl 0 Zo fun b hb=>⟨fun v hv=>?_,fun o ho=>?_⟩⟩
 ·have:=(h b hb).1 v hv;rw[aaY Zo Zo];omega
 ·have:=(h b hb).2 o ho;rw[aaY Zo Zo];omega
theorem dY(h:bC bl){x:Int}(c:DefdIn bl x):0<=x/\x.toNat<(aaG bl).toNat:=by
 obtain⟨b,hb,h1⟩:=c;have hg:=(dr bl 0).2 b hb;have hs:=h b hb;have e:bl.foldl iL 0=aaG bl:=rfl;rw[e] at hg;rcases h1 with h1|⟨o,ho,rfl,d⟩
 ·have:=hg.1 x h1;have:=hs.1 x h1;rw[aaY Zo Zo] at *;omega
 ·have:=hg.2 o ho;have:=hs.2 o ho;rw[aaY Zo Zo] at *;omega
theorem dd{g:List (List Nat)}{i k v:Int}(h:yy d g i k v=true):(d.1 v).isSome=true:=by
 cases h1:d.1 v with
 |none=>rw[dC h1] at h;cases h
 |some b=>rfl
theorem dw{p:IProg}{n:Nat}(i:p.funcs[n]? =some bl)(h:yi p n=true):(0<=aaG bl/\aaG bl<=65536)/\∀b∈bl,aq (aaG bl).toNat b:=by
 cases bl with
 |nil=>exact⟨⟨by decide,by decide⟩,fun b hb=>by cases hb⟩
 |cons b0 bs=>
  obtain⟨_,d,m,hr⟩:=tF i h;obtain⟨k1,k2⟩:=cP (b0::bs) 0 _ d (show uH p (b0::bs) (b0::bs) 0 _=some d from m)
  have g:∀x,(d.1 x).isSome=true->0<=x/\x.toNat<(aaG (b0::bs)).toNat:=fun x hx=>by
   rcases k2 x hx with h1|h1
   ·cases h1
   ·exact dY k1 h1
  refine⟨bD k1,fun b hb=>?_⟩;obtain⟨j,l⟩:=Ny hb;unfold iM at hr;rw[Jm] at hr;have c:=(cB _ 0).1 hr.2 j b l;unfold aaC at c;rw[Jm] at c;refine⟨fun x hx=>dY k1 ⟨b,hb,.inl hx⟩,fun o ho=>⟨fun x hx=>?_,fun h0=>(dY k1 ⟨b,hb,.inr ⟨o,ho,rfl,h0⟩⟩).2⟩,fun x hx=>?_⟩
  ·obtain⟨k,hk⟩:=Ny ho;exact g x (dd (Oe.1 ((dF _ 0).1 c.1 k o hk) x hx))
  ·exact g x (dd (Oe.1 c.2 x hx))
theorem aM {p:IProg}(h:vC p=0)(hs:∀f∈p.funcs,vZ f):UseProg p:=by
 obtain⟨_,hf⟩:=rz h
 have c:∀bl∈p.funcs,(0<=aaG bl/\aaG bl<=65536)/\∀b∈bl,aq (aaG bl).toNat b:=fun bl hb=>by
  obtain⟨n,d⟩:=Ny hb;exact dw d (hf n (Jh.1 d).1)
 exact⟨hs,fun bl hb=>(c bl hb).1,fun bl hb=>(c bl hb).2⟩
def dM (s:ByteArray)(k:Nat):List Nat:=(List.range 8192).map fun j=>if j<k then(s.data.getD j 0).toNat else 0
theorem aD (n:Nat)(f:Nat->Nat)(h:∀i,f i=0):(List.range n).map f=List.replicate n 0:=by
 apply Oq;intro i
 by_cases hi:i<n
 ·simp[hi,h]
 ·simp[hi]
theorem ac8 (s:ByteArray):dM s 0=List.replicate 8192 0:=aD _ _ (fun i=>by rw[if_neg (Nat.not_lt_zero _)])
theorem aad (s:ByteArray)(k:Nat):(dM s k).length=8192:=by simp[dM]
theorem aab(s:ByteArray)(h:k<8192):(dM s k).set k (s.data.getD k 0).toNat=dM s (k+1):=by
 unfold dM;apply Oq;intro i;rw[Ov,Jr,Jr]
 by_cases hi:i<8192
 ·rw[Oh hi]
  by_cases hk:k=i
  ·subst hk;simp[hi]
  ·have:i<k+1↔i<k:=Zo;simp[hk,this]
 ·have c:(List.range 8192)[i]? =none:=Of (by simpa using hi);rw[c]
  by_cases hk:k=i
  ·subst hk;omega
  ·simp[hk]
theorem dm(s:ByteArray)(h:k=s.size∨k=8192):dM s k=v7 s:=by
 unfold dM v7;refine Up fun j hj=>?_
 have c:=Ol.1 hj
 split
 ·rfl
 ·rcases h with rfl|rfl
  ·have:s.data.getD j 0=0:=by
    rw[Array.getD_eq_getD_getElem?,Array.getElem?_eq_none (by show s.size<=j;omega)];rfl
   rw[this];rfl
  ·omega
def RetRam (w:World)(s:ByteArray)(e:Ending)(w':World):Prop:=∃b:Nat,e=.returned (N b 8192 8192)/\w.heap.size<=b/\L w' b ((v7 s).map wz).toArray 5/\F w w'
theorem ram_q (w:World)(s:ByteArray)(hs:s.size<=9223372036854775807):Y 84 #[.string s] w (RetRam w s):=by
 have o:=mk_ram;obtain⟨Z,hZ⟩:∃Z,madeCells #[Value.int .u8 0] 8192=Z:=⟨_,rfl⟩
 rw[hZ] at o;have j:Z=((dM s 0).map wz).toArray:=by rw[<-hZ,yA,ac8,List.map_replicate];rfl
 have HZ:=Ja j;clear hZ j;go_enter Try.func84,Try.ntmps84;go_upto_region 2 with fail;have u:F w (w.alloc (U Z 5)):=(Below.refl _ _).alloc (Je _) _;have l:L (w.alloc (U Z 5)) w.heap.size ((dM s 0).map wz).toArray 5:=by rw[<-HZ.out];exact zI rfl
 generalize w.alloc (U Z 5)=W1 at *;generalize a0:w.heap.size=b0 at *;have g:=Ja (Jb u (Jb l a0));clear u l o;go_wp2
 go_loopw [4] (fun kv wx=>∃k:Nat,k<=8192/\k<=s.size/\kv=A k/\Hid (L wx b0 ((dM s k).map wz).toArray 5/\Below b0 w wx)) (fun kv _=>8192-(intOf kv).toNat)
 case atStart=>exact⟨0,by omega,by omega,rfl,Ja ⟨g.out.2.1,g.out.1⟩⟩
 case round=>
  obtain⟨k,hk,a5,rfl,d⟩:=hrel
  by_cases h1:k<s.size
  ·have a2:(k:Int)<s.size:=Zo
   by_cases h2:k<8192
   ·have a1:(k:Int)<8192:=Zo;have H2:=Ja (Jb h1 h2);obtain⟨y,x⟩:∃y,(s.data.getD k 0).toNat=y:=⟨_,rfl⟩
    have a4:((s[k].toNat:Nat):Int)=(y:Int):=by rw[dt h1,x]
    obtain⟨c0,t⟩:∃c,((dM s k).map wz)[k]? =some c:=⟨_,Jd (by rw[Nr,aad];exact h2)⟩
    have cc:G wr b0 k c0:=zA d.out.1 (by simpa using t);have cf:=zE (i:=k) d.out.1;have cl:=lt_of_block d.out.1;have m:=zD (i:=k) d.out.1 (.int .u8 (y:Int))
    have h:L (wr.setCell ⟨b0,k,none⟩ (.int .u8 (y:Int))) b0 ((dM s (k+1)).map wz).toArray 5:=by
     rw[m,<-aab s h2,x,Ox];simp[wz]
    have a3:=Ja (Jb h (d.out.2.setCell (p:=⟨b0,k,none⟩) (Je _) (.int .u8 (y:Int))));clear m h t h2 x;go_wp2;go_roundw
    case rel=>exact⟨k+1,by have:=H2.out;omega,by have:=H2.out;omega,by go_num,a3⟩
    case measure=>have:=H2.out;simp[intOf];omega
   ·obtain rfl:k=8192:=by omega
    have a1:¬((8192:Nat):Int)<8192:=Zo;have r:=dm s (k:=8192) (.inr rfl);have HF:=Ja r;clear h2 r;go_wp2;go_ret;exact⟨b0,rfl,by rw[g.out.2.2];exact Je _,by rw[<-HF.out];exact d.out.1,by rw[g.out.2.2];exact d.out.2⟩
  ·obtain rfl:k=s.size:=by omega
   have a2:¬(s.size:Int)<s.size:=Zo;have HF:=Ja (dm s (k:=s.size) (.inl rfl));clear h1;go_wp2;go_ret;exact⟨b0,rfl,by rw[g.out.2.2];exact Je _,by rw[<-HF.out];exact d.out.1,by rw[g.out.2.2];exact d.out.2⟩
end Go.Proofs.Ytojclalkfhoooaa
