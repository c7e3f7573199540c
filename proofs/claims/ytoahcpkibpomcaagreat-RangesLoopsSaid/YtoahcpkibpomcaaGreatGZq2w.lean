/- Part of a proof. -/
import Derived.Test.YtoahcpkibpomcaaGreatGZt1w
set_option linter.all false
set_option maxHeartbeats 1000000
set_option maxRecDepth 100000
namespace Go.Proofs.YtoahcpkibpomcaaGreat
variable {w w':World}{xs:List Int}{ac i k on vb y:Nat}{c dp g nx oa ob x:Int}{K:MK}{m:Mach}{o:IOp}{bl:List IBlk}
theorem jM {p:IProg}(h:vC p=0)(m:∀blocks∈p.funcs,∀b∈blocks,b.params.length<=65536):OkProg p:=by
 obtain⟨h0,l⟩:=rz h;obtain⟨_,w,k,_,hh,j⟩:=se h0
 have t:∀i,0<=p.args.getD i 0/\p.args.getD i 0<=8:=by
  intro i;rw[Jj]
  cases y:p.args[i]? with
  |none=>simp
  |some x=>
   have:=Oe.1 k x (Ji y);unfold tX at this;simp only[Jm,decide_eq_true_eq] at this;exact this
 refine⟨fun blocks hb b hbb=>?_,fun i b bs hi=>?_,fun g=>?_,?_,fun i=>?_,w⟩
 ·obtain⟨n,g⟩:=Ny hb;have u:=(Jh.1 g).1;have hF:=l n u
  match blocks,hbb,g with
  |b0::bs,hbb,g=>
   obtain⟨_,d,hs,_⟩:=tF g hF;obtain⟨k1,k2⟩:=rV _ _ _ _ hs b hbb;exact⟨fun o ho=>ahl (k1 o ho),acV k2,m _ hb b hbb⟩
 ·exact(tF hi (l i (Jh.1 hi).1)).1
 ·have:=hh g;unfold yw at this;simp only[Jm,decide_eq_true_eq,beq_iff_eq] at this;obtain⟨a,b,c⟩:=this;exact⟨a,by omega,c⟩
 ·intro s hs;unfold lf at j;rw[Jm] at j;have:=j.1;unfold mh at this
  simpa using Oe.1 this s hs
 ·have:=t i;omega
open Go.RowKit
theorem iH (E:IEnv)(bank a:Nat):sJ E bank a=true↔bank<E.p.banks.length/\a<4096:=by unfold sJ;rw[Jm,decide_eq_true_eq,decide_eq_true_eq]
theorem Tryz.info_u16:(Tryz.prog.info? 43).map (fun i=>(i.zero,i.size,i.bytes))=some (some (Y 0),1,2):=by kernel_rfl
theorem ms{S:Nat}{av:Value}{n:Nat}{xs:List Nat}(h:w.ownsRow S 43 1 av n (xs.map vL))(j:xs.length=n)(i:∀x∈xs,x<65536):wV w w.heap.size av xs:=by
 subst j;obtain⟨a,c,rfl⟩:=zG h;have hl:=zm h;refine⟨a,c,rfl,hl.1,by omega,fun k x hk=>?_⟩;have l:=(Jh.1 hk).1;obtain⟨g,m,e,hg,d⟩:=h.form Zo;cases e;refine⟨g,0,rfl,d,?_,i x (Ji hk)⟩;rw[Nk,Ng];exact(h.cellAt k Zo).trans (by rw[Jr,hk];rfl)
def uT (v:Int->Nat)(xs:List Int)(k:Nat):List Nat:=(xs.take k).map v
theorem qH{v:Int->Nat}(h:xs[k]? =some x):uT v xs (k+1)=uT v xs k++ [v x]:=by unfold uT;rw[Nh,h,Js];rfl
theorem pA{v:Int->Nat}(h:k<=xs.length):(uT v xs k).length=k:=by unfold uT;rw[Nr,Oc];omega
theorem r8{v:Int->Nat}:uT v xs xs.length=xs.map v:=by unfold uT;rw[Nl]
theorem af0{B b:Nat}{l:List (IEdge×Value)}{e:TypeId}(h:O w b (l.flatMap za).toArray e)(hb:b<B)(h64:∀q∈l,I64 q.1.block/\zY w B q.2 q.1.args)(hl:l.length<=1000000):
 wH w B (F b l.length l.length) (l.map (·.1)):=by
 refine⟨_,l.length,by rw[Nr],by rw[Nr];exact Je _,by omega,fun k o hk=>?_⟩;rw[Jr,Oz] at hk;obtain⟨q,c,rfl⟩:=hk;have d:=fun j v (hj:(za q)[j]? =some v)=>oW (f:=za) (n:=2) (fun _=>rfl) h c hj
 obtain⟨h1,h2⟩:=h64 q (Ji c);exact⟨b,0,rfl,hb,d 0 _ rfl,h1,q.2,d 1 _ rfl,h2⟩
structure BlkLit where
 b:IBlk
 pv:Value
 ov:Value
 tv:Value
def aba (q:BlkLit):List Value:=[q.pv,q.ov,.int .i64 q.b.term.kind,.int .i64 q.b.term.a,q.tv]
def ac6 (w:World)(B:Nat)(q:BlkLit):Prop:=(I64 q.b.term.kind/\I64 q.b.term.a)/\zY w B q.pv q.b.params/\mN w B q.ov q.b.ops/\wH w B q.tv q.b.term.to
theorem blks_lit{B b:Nat}{l:List BlkLit}{e:TypeId}(h:O w b (l.flatMap aba).toArray e)(hb:b<B)(h64:∀q∈l,ac6 w B q)(hl:l.length<=1000000):
 wX w B (F b l.length l.length) (l.map (·.b)):=by
 refine⟨_,l.length,by rw[Nr],by rw[Nr];exact Je _,by omega,fun k o hk=>?_⟩;rw[Jr,Oz] at hk;obtain⟨q,d,rfl⟩:=hk;have c:=fun j v (hj:(aba q)[j]? =some v)=>oW (f:=aba) (n:=5) (fun _=>rfl) h d hj
 obtain⟨h1,h2,h3,g⟩:=h64 q (Ji d);exact⟨b,0,rfl,hb,c 2 _ rfl,c 3 _ rfl,h1,q.pv,q.ov,q.tv,c 0 _ rfl,c 1 _ rfl,c 4 _ rfl,h2,h3,g⟩
def aa0 (m:Mach)(a n x:Nat):Res Nat:=if n=1 then td m a x else sK m a x
def stN (m:Mach)(a x:Nat):Nat->Mach
 |0=>m
 |1=>m.put a (x%256)
 |_=>(m.put a (x%256)).put (j3 a) (x/256)
theorem wrapU8 (n:Int):IntKind.u8.wrap n=n%256:=by rw[IntKind.wrap_u8]
theorem aY{ov:Value}(h:MachQ w K m none dp ov){a n x:Nat}(b9:a<65536)(hx:x<65536)(hn:n=1∨n=2):G 126 #[Q K.pm,Y a,U n,Y x] w (et K w (aa0 m a n x)):=by
 have hl:=h.lt;have H:=Ja h;have HN:=Ja hn;clear h hn;go_enter Tryz.func126,Tryz.ntmps126;go_wp2
 go_loopw [8] (fun kv wx=>∃k:Nat,k<=n/\kv=U k/\wx=w/\Hid ((1<=k->wo a=true)/\(2<=k->wo (j3 a)=true))) (fun kv _=>n-(intOf kv).toNat)
 case atStart=>exact⟨0,Jt _,rfl,rfl,Ja ⟨fun h=>by omega,fun h=>by omega⟩⟩
 case round=>
  obtain⟨k,hk,rfl,hw,HK⟩:=hrel;subst hw
  by_cases d:k<n
  ·have b1:(k:Int)<n:=Zo;have b3:k=0∨k=1:=by have:=HN.out;omega
   have u:=Ja d;rcases b3 with rfl|rfl
   ·have a2:IntKind.u16.wrap (a:Int)=(a:Int):=by rw[xY];omega
    clear d
    by_cases g:wo a=true
    ·have c:=Ja g;clear g;go_wp2_with (go_at_call 144;go_must (refine(cC c.out).mono ?_;rintro e w1 ⟨rfl,rfl⟩))
     go_roundw
     case rel=>exact⟨1,u.out,rfl,trivial,Ja ⟨fun _=>c.out,fun h=>by omega⟩⟩
     case measure=>have:=u.out;simp[intOf];omega
    ·have c:=Ja g;clear g;go_wp2_with (go_at_call 144;go_must (refine(bW H.out c.out).mono ?_;rintro e w1 ⟨rfl,a4,a5⟩))
     go_end0
     have i:aa0 m a n x=.trap 2 a m:=by
      unfold aa0 td sK;rw[if_neg c.out,if_neg c.out,ite_self]
     rw[i];exact et.trap a4 a5
   ·obtain⟨p,hp⟩:∃p,j3 a=p:=⟨_,rfl⟩
    have a2:IntKind.u16.wrap ((a:Int)+1)=(p:Int):=by rw[xY,<-hp];unfold j3;omega
    have l:=Ja (show n=2 from by have:=HN.out;omega);have HP:=Ja hp;clear d hp
    by_cases g:wo p=true
    ·have c:=Ja g;clear g;go_wp2_with (go_at_call 144;go_must (refine(cC c.out).mono ?_;rintro e w1 ⟨rfl,rfl⟩))
     go_roundw
     case rel=>exact⟨2,by rw[l.out];exact Je _,rfl,trivial,Ja ⟨fun _=>HK.out.1 Zd,fun _=>by rw[HP.out];exact c.out⟩⟩
     case measure=>have:=l.out;simp[intOf];omega
    ·have c:=Ja g;clear g;go_wp2_with (go_at_call 144;go_must (refine(bW H.out c.out).mono ?_;rintro e w1 ⟨rfl,a4,a5⟩))
     go_end0
     have i:aa0 m a n x=.trap 2 p m:=by
      unfold aa0 sK;rw[if_neg (by rw[l.out];decide),if_pos (HK.out.1 Zd),HP.out,if_neg c.out]
     rw[i];exact et.trap a4 a5
  ·obtain rfl:k=n:=by omega
   have b1:¬(k:Int)<(k:Int):=Zo;have a0:=HK.out.1 (by have:=HN.out;omega)
   have i:aa0 m a k x=.ok 0 (stN m a x k):=by
    unfold aa0 td sK;rcases HN.out with rfl|rfl
    ·rw[if_pos rfl,if_pos a0];rfl
    ·rw[if_neg Zd,if_pos a0,if_pos (HK.out.2 Zd)];rfl
   have EE:=Ja i;have a6:=Ja a0;clear d i a0;go_wp2
   go_loopw [10] (fun jv wx=>∃j:Nat,j<=k/\jv=U j/\Hid (MachQ wx K (stN m a x j) none dp ov/\FrmQ K.B wr wx)) (fun jv _=>k-(intOf jv).toNat)
   case atStart=>exact⟨0,Jt _,rfl,Ja ⟨H.out,FrmQ.refl _ _⟩⟩
   case round=>
    obtain⟨j,hj,rfl,o⟩:=hrel
    by_cases d:j<k
    ·have a8:(j:Int)<k:=Zo;have b4:j=0∨j=1:=by have:=HN.out;omega
     have u:=Ja d;have c6:=o.out.1.c6;have b7:=o.out.1.lt;have b6:=lt_of_block o.out.1.ram;rcases b4 with rfl|rfl
     ·have a2:IntKind.u16.wrap (a:Int)=(a:Int):=by rw[xY];omega
      have b0:=dV a6.out;have a3:=(qG a).1 a6.out;obtain⟨cr,hr,b2⟩:=o.out.1.ramCell a6.out;have b5:((a-16384:Nat):Int)<8192:=Zo;have hb:IntKind.u8.wrap (x:Int)=((x%256:Nat):Int):=by rw[wrapU8];omega
      have HS:=Ja (o.out.1.setR a (x%256) (Qj _ Zd));have a1:x%256<256:=Qj _ Zd;obtain⟨y,hy⟩:∃y,x%256=y:=⟨_,rfl⟩
      rw[hy] at hb HS a1;have HY:=Ja hy;clear d a3 hy;go_wp2;go_roundw
      case rel=>exact⟨1,u.out,rfl,Ja ⟨by rw[show stN m a x 1=(stN m a x 0).put a y from by rw[<-HY.out];rfl];exact HS.out.1,o.out.2.trans HS.out.2⟩⟩
      case measure=>have:=u.out;simp[intOf];omega
     ·have l:=Ja (show k=2 from by have:=HN.out;omega);have t:=HK.out.2 (by have:=l.out;omega);obtain⟨p,hp⟩:∃p,j3 a=p:=⟨_,rfl⟩
      have a2:IntKind.u16.wrap ((a:Int)+1)=(p:Int):=by rw[xY,<-hp];unfold j3;omega
      have HP:=Ja hp;rw[hp] at t;have b0:=dV t;have a3:=(qG p).1 t;obtain⟨cr,hr,b2⟩:=o.out.1.ramCell t;have b5:((p-16384:Nat):Int)<8192:=Zo;obtain⟨y,hy⟩:∃y,x/256=y:=⟨_,rfl⟩
      have a1:y<256:=Zo;have b8:(x:Int)/256=(y:Int):=Zo;have hb:IntKind.u8.wrap (y:Int)=(y:Int):=by rw[wrapU8];omega
      have HS:=Ja (o.out.1.setR p y a1);have HY:=Ja hy;clear d a3 hy hp t;go_wp2;go_roundw
      case rel=>exact⟨2,by rw[l.out];exact Je _,rfl,Ja ⟨by rw[show stN m a x 2=(stN m a x 1).put p y from by rw[<-HY.out,<-HP.out];rfl];exact HS.out.1,o.out.2.trans HS.out.2⟩⟩
      case measure=>have:=l.out;simp[intOf];omega
    ·obtain rfl:j=k:=by omega
     have a8:¬(j:Int)<(j:Int):=Zo;clear d;go_wp2
     go_end0
     rw[EE.out];exact et.ok o.out.1 o.out.2 Zd
def aI (E:IEnv)(m:Mach)(bank a n:Nat):Res Nat:=if n=1 then nX E m bank a else im E m bank a
def aay (E:IEnv)(bank a:Nat):Nat->Nat
 |0=>0
 |1=>tS E bank a
 |_=>tS E bank a+256*tS E bank (j3 a)
theorem dt {s:ByteArray}{a:Nat}(h:a<s.size):s[a]=s.data.getD a 0:=by
 have c:a<s.data.size:=h;rw[Array.getD_eq_getD_getElem?,Array.getElem?_eq_getElem c];rfl
theorem rom_q{ov:Value}(h:MachQ w K m none dp ov)(a6:∀s∈K.E.p.banks,s.size=4096){bank a n:Nat}(c8:bank<65536)(d0:a<65536)(hn:n=1∨n=2):G 127 #[Q K.pm,Y bank,Y a,U n] w (pn K w (aI K.E m bank a n)):=by
 have c5:=h.c5;have y:=h.prog.banks;obtain⟨ba,bc,a5,c9,c7⟩:=y.form;rw[a5] at c5 y;have hl:=h.lt;have H:=Ja h;have HN:=Ja hn
 have a3:∀p,sJ K.E bank p=true->∃(s:ByteArray) (b o:Nat),ba=some ⟨b,o,none⟩/\A w b (o+bank) (.string s)/\s.size=4096/\tS K.E bank p=(s.data.getD p 0).toNat:=by
  intro p hr;obtain⟨h1,h2⟩:=(iH _ _ _).1 hr;obtain⟨s,hs⟩:∃s,K.E.p.banks[bank]? =some s:=⟨_,Jd h1⟩
  obtain⟨b,o,b8,_,g,_⟩:=y.get hs;rw[Nk] at g;exact⟨s,b,o,b8,g,a6 s (Ji hs),by unfold tS;rw[Jj,hs];rfl⟩
 have HG:=Ja a3;have b0:=Ja (show ∀p,¬sJ K.E bank p=true->(K.E.p.banks.length:Int)<=(bank:Int)∨((bank:Int)<K.E.p.banks.length/\(4095:Int)<(p:Int)) from fun p hp=>by rw[iH] at hp;omega);have a8:=Ja (show ∀p,sJ K.E bank p=true->¬(K.E.p.banks.length:Int)<=(bank:Int)/\(bank:Int)<K.E.p.banks.length/\¬(4095:Int)<(p:Int)/\p<4096/\(p:Int)<4096 from fun p hp=>by rw[iH] at hp;omega);have c2:IntKind.i64.wrap (bank:Int)=(bank:Int):=by rw[IntKind.wrap_i64];omega
 clear h hn y a6 a3 a5;go_enter Tryz.func127,Tryz.ntmps127;go_wp2
 go_loopw [9,10] (fun xv kv wx=>∃k:Nat,k<=n/\xv=Y (aay K.E bank a k:Nat)/\kv=U k/\wx=w/\Hid ((1<=k->sJ K.E bank a=true)/\(2<=k->sJ K.E bank (j3 a)=true))) (fun _ kv _=>n-(intOf kv).toNat)
 case atStart=>exact⟨0,Jt _,rfl,rfl,rfl,Ja ⟨fun h=>by omega,fun h=>by omega⟩⟩
 case round=>
  obtain⟨k,hk,rfl,rfl,hw,HK⟩:=hrel;subst hw
  by_cases x:k<n
  ·have b2:(k:Int)<n:=Zo;have b6:k=0∨k=1:=by have:=HN.out;omega
   have b1:=Ja x;rcases b6 with rfl|rfl
   ·have b4:IntKind.u16.wrap (a:Int)=(a:Int):=by rw[xY];omega
    have H0:aay K.E bank a 0=0:=rfl;rw[H0] at *;clear H0 x
    by_cases c:sJ K.E bank a=true
    ·obtain⟨s,b,o,rfl,g,t,l⟩:=HG.out a c;obtain⟨y1,y2,y3,y4,y5⟩:=a8.out a c;have a4:a<s.size:=Zo;have b3:(a:Int)<s.size:=Zo
     have b7:IntKind.u16.wrap ((s[a].toNat:Nat):Int)=((tS K.E bank a:Nat):Int):=by
      rw[xY,l,dt a4];have:=(s.data.getD a 0).toNat_lt;omega
     have hrl:=p9 K.E bank a;have c1:IntKind.u16.wrap ((tS K.E bank a:Nat):Int)=((tS K.E bank a:Nat):Int):=by rw[xY];omega
     have u:=Ja c;have b9:=Ja (Jb t l);clear c t l y4 y5;go_wp2;go_roundw
     case rel=>exact⟨1,b1.out,rfl,rfl,trivial,Ja ⟨fun _=>u.out,fun h=>by omega⟩⟩
     case measure=>have:=b1.out;simp[intOf];omega
    ·have u:=Ja c
     have d:aI K.E m bank a n=.trap 2 a m:=by
      unfold aI nX im;rw[if_neg c,if_neg c,ite_self]
     have EE:=Ja d;have a1:=b0.out a c;clear c d;rcases a1 with y1|⟨y1,y2⟩
     ·go_wp2_with (go_at_call 101;go_must (refine(ew H.out 2 a).mono ?_;rintro e w1 ⟨rfl,i,j⟩))
      go_ret;rw[EE.out];exact pn.trap i j
     ·have y3:¬(K.E.p.banks.length:Int)<=(bank:Int):=Zo;go_wp2_with (go_at_call 101;go_must (refine(ew H.out 2 a).mono ?_;rintro e w1 ⟨rfl,i,j⟩))
      go_ret;rw[EE.out];exact pn.trap i j
   ·obtain⟨p,hp⟩:∃p,j3 a=p:=⟨_,rfl⟩
    have a0:p<65536:=by rw[<-hp];unfold j3;omega
    have b4:IntKind.u16.wrap ((a:Int)+1)=(p:Int):=by rw[xY,<-hp];unfold j3;omega
    have a2:=Ja (show n=2 from by have:=HN.out;omega);have H0:aay K.E bank a 1=tS K.E bank a:=rfl;rw[H0] at *;have b5:=p9 K.E bank a;have HP:=Ja hp;clear H0 x
    by_cases c:sJ K.E bank p=true
    ·obtain⟨s,b,o,rfl,g,t,l⟩:=HG.out p c;obtain⟨y1,y2,y3,y4,y5⟩:=a8.out p c;have a4:p<s.size:=Zo;have b3:(p:Int)<s.size:=Zo
     have b7:IntKind.u16.wrap ((s[p].toNat:Nat):Int)=((tS K.E bank p:Nat):Int):=by
      rw[xY,l,dt a4];have:=(s.data.getD p 0).toNat_lt;omega
     have hrl:=p9 K.E bank p;have c4:IntKind.u16.wrap ((tS K.E bank p:Int)*256)=((tS K.E bank p:Nat):Int)*256:=by rw[xY];omega
     have c3:IntKind.u16.wrap ((tS K.E bank a:Int)+(tS K.E bank p:Int)*256)=((tS K.E bank a+256*tS K.E bank p:Nat):Int):=by rw[xY];omega
     have u:=Ja c;have b9:=Ja (Jb t l);clear c t l y4 y5 hp;go_wp2;go_roundw
     case rel=>exact⟨2,by rw[a2.out];exact Je _,by rw[show aay K.E bank a 2=tS K.E bank a+256*tS K.E bank (j3 a) from rfl,HP.out];go_num,rfl,trivial,Ja ⟨fun _=>HK.out.1 Zd,fun _=>by rw[HP.out];exact u.out⟩⟩
     case measure=>have:=a2.out;simp[intOf];omega
    ·have u:=Ja c
     have d:aI K.E m bank a n=.trap 2 p m:=by
      unfold aI im;rw[if_neg (by rw[a2.out];decide),if_pos (HK.out.1 Zd),HP.out,if_neg c]
     have EE:=Ja d;have a1:=b0.out p c;clear c d hp b5;rcases a1 with y1|⟨y1,y2⟩
     ·go_wp2_with (go_at_call 101;go_must (refine(ew H.out 2 p).mono ?_;rintro e w1 ⟨rfl,i,j⟩))
      go_ret;rw[EE.out];exact pn.trap i j
     ·have y3:¬(K.E.p.banks.length:Int)<=(bank:Int):=Zo;go_wp2_with (go_at_call 101;go_must (refine(ew H.out 2 p).mono ?_;rintro e w1 ⟨rfl,i,j⟩))
      go_ret;rw[EE.out];exact pn.trap i j
  ·obtain rfl:k=n:=by omega
   have b2:¬(k:Int)<(k:Int):=Zo
   have d:aI K.E m bank a k=.ok (aay K.E bank a k) m:=by
    unfold aI nX im;rcases HN.out with rfl|rfl
    ·rw[if_pos rfl,if_pos (HK.out.1 Zd)];rfl
    ·rw[if_neg Zd,if_pos (HK.out.1 Zd),if_pos (HK.out.2 Zd)];rfl
   have a0:aay K.E bank a k<65536:=by
    have h1:=p9 K.E bank a;have h2:=p9 K.E bank (j3 a);rcases HN.out with rfl|rfl
    ·show tS K.E bank a<_;omega
    ·show tS K.E bank a+256*tS K.E bank (j3 a)<_;omega
   have EE:=Ja d;have c0:=Ja a0;clear a0 x d;go_wp2;go_ret;rw[EE.out];exact pn.ok H.out (FrmQ.refl _ _) c0.out
def dA (w:World)(vb n:Nat)(v:Int->Nat):Prop:=O w vb ((List.range n).map fun i:Nat=>vL (v (i:Int))).toArray 43/\∀x,v x<65536
theorem dA.below{n:Nat}{v:Int->Nat}(h:dA w vb n v)(hb:O w' vb ((List.range n).map fun i:Nat=>vL (v (i:Int))).toArray 43):dA w' vb n v:=⟨hb,h.2⟩
theorem dA.kept{K:Nat}{n:Nat}{v:Int->Nat}(h:dA w vb n v)(hf:FrmQ K w w'):dA w' vb n v:=⟨hf.kept _ _ h.1 (by simp[di]),h.2⟩
theorem dA.cell {w:World}{vb n:Nat}{v:Int->Nat}(h:dA w vb n v){k:Nat}(hk:k<n):A w vb k (Y (v (k:Int):Nat)):=zA h.1 (by simp[hk,vL])
theorem dA.free{n:Nat}{v:Int->Nat}(h:dA w vb n v)(k:Nat):D w vb k:=zE h.1
theorem dA.set{n:Nat}{v:Int->Nat}(h:dA w vb n v){r:Nat}(hr:r<65536):dA (w.setCell ⟨vb,k,none⟩ (Y r)) vb n (iY v k r):=by
 refine⟨?_,fun x=>by unfold iY;split;exact hr;exact h.2 x⟩;rw[zD h.1]
 congr 2
 rw[Jc]
 congr 1
 apply Oq;intro i;rw[Ov,Jr,Jr]
 by_cases hi:i<n
 ·rw[Oh hi]
  by_cases hk:k=i
  ·subst hk;simp[hi,iY,vL]
  ·have:¬(i:Int)=(k:Int):=Zo;simp[hk,iY,this]
 ·have c:(List.range n)[i]? =none:=Of (by simpa using hi);rw[c]
  by_cases hk:k=i
  ·subst hk;simp[hi]
  ·simp[hk]
theorem qstep_1{ov:Value}(h:MachQ w K m none dp ov)(a1:on<65536)(ab:Option Addr)(an ac:Nat){n:Nat}{v:Int->Nat}(hv:dA w vb n v)(a2:Int):
 G 103 #[Q K.pm,.agg #[U 1,U g,U oa,U ob,Y on,.slice ab an ac],F vb n n,U a2] w (pn K w (.ok on m)):=by
 have a8:=hv.2 oa;have a6:=hv.2 ob;have l:=zI (W:=w) (o:=I #[U 1,U g,U oa,U ob,Y on,.slice ab an ac] 76) rfl;have y:N w (w.alloc (I #[U 1,U g,U oa,U ob,Y on,.slice ab an ac] 76)):=(Below.refl _ _).alloc (Je _) _;have H:=Ja h;have HV:=Ja hv;have k:=Ja (Jb l y);clear h hv l y;generalize x:v oa=xa at *;generalize u:v ob=xb at *;have HX:=Ja (Jb x u);clear x u;go_enter Tryz.func103,Tryz.ntmps103;go_upto_region 4 with(go_at_call 52;go_must (refine(aaK 1 _).mono ?_;rintro e w1 ⟨he,d⟩;obtain rfl:e=.returned (.agg #[.bool true,.bool true,.bool false,.bool false,.bool true]):=he))
 have j:N w (w1.alloc (I #[.bool true,.bool true,.bool false,.bool false,.bool true] 120)):=(k.out.2.trans (d.mono k.out.2.size)).alloc (Jn k.out.2.size d.size) _;have c:=zB (o:=(I #[.bool true,.bool true,.bool false,.bool false,.bool true] 120)) (zH d k.out.1 (lt_of_block k.out.1));have i:=zI (W:=w1) (o:=(I #[.bool true,.bool true,.bool false,.bool false,.bool true] 120)) rfl;have b0:w1.heap.size≠w.heap.size:=by have:=d.size;simp at this;omega
 generalize w1.alloc (I #[.bool true,.bool true,.bool false,.bool false,.bool true] 120)=W2 at *;generalize w1.heap.size=bs at *;have t:=H.out.keep j;have a0:=HV.out.below (zH j HV.out.1 (lt_of_block HV.out.1));have p0:=K0 c;have p2:=K2 c;have p3:=K3 c;have p4:=K4 c;have p5:=K5 c;have s2:=K2 i;have s3:=K3 i;have a5:=lt_of_block c;have a4:=lt_of_block i;have HM:=Ja t;have HF:=Ja (FrmQ.ofBelow j (Qd H.out.size));have a3:=t.lt;clear j c i d k t a0;go_wp2;go_ret;exact pn.ok HM.out HF.out a1
theorem qstep_3{ov:Value}(h:MachQ w K m none dp ov)(b2:on<65536)(ab:Option Addr)(an ac:Nat){n:Nat}{v:Int->Nat}(hv:dA w vb n v)(b1:0<=oa/\oa.toNat<n)(a2:Int):
 G 103 #[Q K.pm,.agg #[U 3,U g,U oa,U ob,Y on,.slice ab an ac],F vb n n,U a2] w (pn K w (.ok ((65536-v oa)%65536) m)):=by
 have b0:=hv.2 oa;have a8:=hv.2 ob;obtain⟨ka,rfl⟩:∃ka:Nat,oa=(ka:Int):=⟨oa.toNat,by omega⟩
 have a1:ka<n:=Zo;have b3:(ka:Int)<(n:Int):=Zo;have t:=zI (W:=w) (o:=I #[U 3,U g,U ka,U ob,Y on,.slice ab an ac] 76) rfl;have a0:N w (w.alloc (I #[U 3,U g,U ka,U ob,Y on,.slice ab an ac] 76)):=(Below.refl _ _).alloc (Je _) _;have H:=Ja h;have HV:=Ja hv;have k:=Ja (Jb t a0);clear h hv t a0;generalize y:v (ka:Int)=xa at *;generalize x:v ob=xb at *;have HX:=Ja (Jb y x);clear y x;go_enter Tryz.func103,Tryz.ntmps103;go_upto_region 4 with(go_at_call 52;go_must (refine(aaK 3 _).mono ?_;rintro e w1 ⟨he,d⟩;obtain rfl:e=.returned (.agg #[.bool true,.bool true,.bool true,.bool false,.bool false]):=he))
 have j:N w (w1.alloc (I #[.bool true,.bool true,.bool true,.bool false,.bool false] 120)):=(k.out.2.trans (d.mono k.out.2.size)).alloc (Jn k.out.2.size d.size) _;have c:=zB (o:=(I #[.bool true,.bool true,.bool true,.bool false,.bool false] 120)) (zH d k.out.1 (lt_of_block k.out.1));have i:=zI (W:=w1) (o:=(I #[.bool true,.bool true,.bool true,.bool false,.bool false] 120)) rfl;have b4:w1.heap.size≠w.heap.size:=by have:=d.size;simp at this;omega
 generalize w1.alloc (I #[.bool true,.bool true,.bool true,.bool false,.bool false] 120)=W2 at *;generalize w1.heap.size=bs at *;have u:=H.out.keep j;have l:=HV.out.below (zH j HV.out.1 (lt_of_block HV.out.1));have p0:=K0 c;have p2:=K2 c;have p3:=K3 c;have p4:=K4 c;have p5:=K5 c;have s2:=K2 i;have s3:=K3 i;have a6:=lt_of_block c;have a5:=lt_of_block i;have ca:A W2 vb ka (Y xa):=by rw[<-HX.out.1];exact l.cell a1
 have a3:=lt_of_block l.1;have HM:=Ja u;have HF:=Ja (FrmQ.ofBelow j (Qd H.out.size));have a4:=u.lt;clear j c i d k u l;have hw:IntKind.u16.wrap (-(xa:Int))=(((65536-xa)%65536:Nat):Int):=by rw[xY];omega
 go_wp2;go_ret;exact pn.ok HM.out HF.out (Qj _ Zd)
theorem qstep_4{ov:Value}(h:MachQ w K m none dp ov)(b2:on<65536)(ab:Option Addr)(an ac:Nat){n:Nat}{v:Int->Nat}(hv:dA w vb n v)(b1:0<=oa/\oa.toNat<n)(a2:Int):
 G 103 #[Q K.pm,.agg #[U 4,U g,U oa,U ob,Y on,.slice ab an ac],F vb n n,U a2] w (pn K w (.ok (65535-v oa) m)):=by
 have b0:=hv.2 oa;have a8:=hv.2 ob;obtain⟨ka,rfl⟩:∃ka:Nat,oa=(ka:Int):=⟨oa.toNat,by omega⟩
 have a1:ka<n:=Zo;have b3:(ka:Int)<(n:Int):=Zo;have t:=zI (W:=w) (o:=I #[U 4,U g,U ka,U ob,Y on,.slice ab an ac] 76) rfl;have a0:N w (w.alloc (I #[U 4,U g,U ka,U ob,Y on,.slice ab an ac] 76)):=(Below.refl _ _).alloc (Je _) _;have H:=Ja h;have HV:=Ja hv;have k:=Ja (Jb t a0);clear h hv t a0;generalize y:v (ka:Int)=xa at *;generalize x:v ob=xb at *;have HX:=Ja (Jb y x);clear y x;go_enter Tryz.func103,Tryz.ntmps103;go_upto_region 4 with(go_at_call 52;go_must (refine(aaK 4 _).mono ?_;rintro e w1 ⟨he,d⟩;obtain rfl:e=.returned (.agg #[.bool true,.bool true,.bool true,.bool false,.bool false]):=he))
 have j:N w (w1.alloc (I #[.bool true,.bool true,.bool true,.bool false,.bool false] 120)):=(k.out.2.trans (d.mono k.out.2.size)).alloc (Jn k.out.2.size d.size) _;have c:=zB (o:=(I #[.bool true,.bool true,.bool true,.bool false,.bool false] 120)) (zH d k.out.1 (lt_of_block k.out.1));have i:=zI (W:=w1) (o:=(I #[.bool true,.bool true,.bool true,.bool false,.bool false] 120)) rfl;have b4:w1.heap.size≠w.heap.size:=by have:=d.size;simp at this;omega
 generalize w1.alloc (I #[.bool true,.bool true,.bool true,.bool false,.bool false] 120)=W2 at *;generalize w1.heap.size=bs at *;have u:=H.out.keep j;have l:=HV.out.below (zH j HV.out.1 (lt_of_block HV.out.1));have p0:=K0 c;have p2:=K2 c;have p3:=K3 c;have p4:=K4 c;have p5:=K5 c;have s2:=K2 i;have s3:=K3 i;have a6:=lt_of_block c;have a5:=lt_of_block i;have ca:A W2 vb ka (Y xa):=by rw[<-HX.out.1];exact l.cell a1
 have a3:=lt_of_block l.1;have HM:=Ja u;have HF:=Ja (FrmQ.ofBelow j (Qd H.out.size));have a4:=u.lt;clear j c i d k u l;have hw:IntKind.u16.wrap (65535-(xa:Int))=((65535-xa:Nat):Int):=by rw[xY];omega
 go_wp2;go_ret;exact pn.ok HM.out HF.out Zo
theorem qstep_18{ov:Value}(h:MachQ w K m none dp ov)(c0:on<65536)(ab:Option Addr)(an ac:Nat){n:Nat}{v:Int->Nat}(hv:dA w vb n v)(b9:0<=oa/\oa.toNat<n)(b3:Int):
 G 103 #[Q K.pm,.agg #[U 18,U g,U oa,U ob,Y on,.slice ab an ac],F vb n n,U b3] w (pn K w (dQ m (v oa) 2)):=by
 have b1:=hv.2 oa;have b8:=hv.2 ob;obtain⟨ka,rfl⟩:∃ka:Nat,oa=(ka:Int):=⟨oa.toNat,by omega⟩
 have a8:ka<n:=Zo;have c1:(ka:Int)<(n:Int):=Zo;have y:=zI (W:=w) (o:=I #[U 18,U g,U ka,U ob,Y on,.slice ab an ac] 76) rfl;have a5:N w (w.alloc (I #[U 18,U g,U ka,U ob,Y on,.slice ab an ac] 76)):=(Below.refl _ _).alloc (Je _) _;have H:=Ja h;have HV:=Ja hv;have t:=Ja (Jb y a5);clear h hv y a5;generalize a4:v (ka:Int)=xa at *;generalize a3:v ob=xb at *;have HX:=Ja (Jb a4 a3);clear a4 a3;go_enter Tryz.func103,Tryz.ntmps103;go_upto_region 4 with(go_at_call 52;go_must (refine(aaK 18 _).mono ?_;rintro e w1 ⟨he,d⟩;obtain rfl:e=.returned (.agg #[.bool true,.bool true,.bool true,.bool false,.bool false]):=he))
 have l:N w (w1.alloc (I #[.bool true,.bool true,.bool true,.bool false,.bool false] 120)):=(t.out.2.trans (d.mono t.out.2.size)).alloc (Jn t.out.2.size d.size) _;have c:=zB (o:=(I #[.bool true,.bool true,.bool true,.bool false,.bool false] 120)) (zH d t.out.1 (lt_of_block t.out.1));have j:=zI (W:=w1) (o:=(I #[.bool true,.bool true,.bool true,.bool false,.bool false] 120)) rfl;have c2:w1.heap.size≠w.heap.size:=by have:=d.size;simp at this;omega
 generalize w1.alloc (I #[.bool true,.bool true,.bool true,.bool false,.bool false] 120)=W2 at *;generalize w1.heap.size=bs at *;have a2:=H.out.keep l;have u:=HV.out.below (zH l HV.out.1 (lt_of_block HV.out.1));have p0:=K0 c;have p2:=K2 c;have p3:=K3 c;have p4:=K4 c;have p5:=K5 c;have s2:=K2 j;have s3:=K3 j;have b7:=lt_of_block c;have b6:=lt_of_block j;have ca:A W2 vb ka (Y xa):=by rw[<-HX.out.1];exact u.cell a8
 have b4:=lt_of_block u.1;have HM:=Ja a2;have HF:=Ja (FrmQ.ofBelow l (Qd H.out.size));have b5:=a2.lt;clear l c j d t a2 u;obtain⟨R,hR⟩:∃R,dQ m xa 2=R:=⟨_,rfl⟩
 have hc:=load_q HM.out b1 (n:=2) (.inr rfl);have EE:=Ja hR;rw[show dQ m xa 2=R from hR] at hc
 cases R with
 |ok x m'=>
  have HC:=Ja hc;clear hc hR;go_wp2_with (go_at_call 125;go_must (refine HC.out.mono ?_;rintro e w3 ⟨he,⟨a6,ov3,a0⟩,a1,b0⟩;obtain rfl:e=.returned (Y x):=he))
  go_ret;rw[EE.out]
  exact pn.ok a0 (HF.out.trans a1) b0
 |trap k i m'=>
  have HC:=Ja hc;clear hc hR;go_wp2_with (go_at_call 125;go_must (refine HC.out.mono ?_;rintro e w3 ⟨he,⟨a6,ov3,b2,a0⟩,a1⟩;obtain rfl:e=.returned (Y 0):=he))
  go_ret;rw[EE.out];exact⟨rfl,⟨a6,ov3,b2,a0⟩,HF.out.trans a1⟩
theorem qstep_19{ov:Value}(h:MachQ w K m none dp ov)(c0:on<65536)(ab:Option Addr)(an ac:Nat){n:Nat}{v:Int->Nat}(hv:dA w vb n v)(b9:0<=oa/\oa.toNat<n)(b3:Int):
 G 103 #[Q K.pm,.agg #[U 19,U g,U oa,U ob,Y on,.slice ab an ac],F vb n n,U b3] w (pn K w (dQ m (v oa) 1)):=by
 have b1:=hv.2 oa;have b8:=hv.2 ob;obtain⟨ka,rfl⟩:∃ka:Nat,oa=(ka:Int):=⟨oa.toNat,by omega⟩
 have a8:ka<n:=Zo;have c1:(ka:Int)<(n:Int):=Zo;have y:=zI (W:=w) (o:=I #[U 19,U g,U ka,U ob,Y on,.slice ab an ac] 76) rfl;have a5:N w (w.alloc (I #[U 19,U g,U ka,U ob,Y on,.slice ab an ac] 76)):=(Below.refl _ _).alloc (Je _) _;have H:=Ja h;have HV:=Ja hv;have t:=Ja (Jb y a5);clear h hv y a5;generalize a4:v (ka:Int)=xa at *;generalize a3:v ob=xb at *;have HX:=Ja (Jb a4 a3);clear a4 a3;go_enter Tryz.func103,Tryz.ntmps103;go_upto_region 4 with(go_at_call 52;go_must (refine(aaK 19 _).mono ?_;rintro e w1 ⟨he,d⟩;obtain rfl:e=.returned (.agg #[.bool true,.bool true,.bool true,.bool false,.bool false]):=he))
 have l:N w (w1.alloc (I #[.bool true,.bool true,.bool true,.bool false,.bool false] 120)):=(t.out.2.trans (d.mono t.out.2.size)).alloc (Jn t.out.2.size d.size) _;have c:=zB (o:=(I #[.bool true,.bool true,.bool true,.bool false,.bool false] 120)) (zH d t.out.1 (lt_of_block t.out.1));have j:=zI (W:=w1) (o:=(I #[.bool true,.bool true,.bool true,.bool false,.bool false] 120)) rfl;have c2:w1.heap.size≠w.heap.size:=by have:=d.size;simp at this;omega
 generalize w1.alloc (I #[.bool true,.bool true,.bool true,.bool false,.bool false] 120)=W2 at *;generalize w1.heap.size=bs at *;have a2:=H.out.keep l;have u:=HV.out.below (zH l HV.out.1 (lt_of_block HV.out.1));have p0:=K0 c;have p2:=K2 c;have p3:=K3 c;have p4:=K4 c;have p5:=K5 c;have s2:=K2 j;have s3:=K3 j;have b7:=lt_of_block c;have b6:=lt_of_block j;have ca:A W2 vb ka (Y xa):=by rw[<-HX.out.1];exact u.cell a8
 have b4:=lt_of_block u.1;have HM:=Ja a2;have HF:=Ja (FrmQ.ofBelow l (Qd H.out.size));have b5:=a2.lt;clear l c j d t a2 u;obtain⟨R,hR⟩:∃R,dQ m xa 1=R:=⟨_,rfl⟩
 have hc:=load_q HM.out b1 (n:=1) (.inl rfl);have EE:=Ja hR;rw[show dQ m xa 1=R from hR] at hc
 cases R with
 |ok x m'=>
  have HC:=Ja hc;clear hc hR;go_wp2_with (go_at_call 125;go_must (refine HC.out.mono ?_;rintro e w3 ⟨he,⟨a6,ov3,a0⟩,a1,b0⟩;obtain rfl:e=.returned (Y x):=he))
  go_ret;rw[EE.out]
  exact pn.ok a0 (HF.out.trans a1) b0
 |trap k i m'=>
  have HC:=Ja hc;clear hc hR;go_wp2_with (go_at_call 125;go_must (refine HC.out.mono ?_;rintro e w3 ⟨he,⟨a6,ov3,b2,a0⟩,a1⟩;obtain rfl:e=.returned (Y 0):=he))
  go_ret;rw[EE.out];exact⟨rfl,⟨a6,ov3,b2,a0⟩,HF.out.trans a1⟩
theorem af8{m':Mach}{a n x r:Nat}(h:aa0 m a n x=.ok r m'):r=0:=by
 unfold aa0 td sK at h
 split at h
 ·split at h
  ·cases h;rfl
  ·cases h
 ·split at h
  ·split at h
   ·cases h;rfl
   ·cases h
  ·cases h
theorem qstep_20{ov:Value}(h:MachQ w K m none dp ov)(c3:on<65536)(ab:Option Addr)(an ac:Nat){n:Nat}{v:Int->Nat}(hv:dA w vb n v)(c2:0<=oa/\oa.toNat<n)(c1:0<=ob/\ob.toNat<n)(b5:Int):
 G 103 #[Q K.pm,.agg #[U 20,U g,U oa,U ob,Y on,.slice ab an ac],F vb n n,U b5] w (pn K w (aa0 m (v oa) 2 (v ob))):=by
 have b3:=hv.2 oa;have b2:=hv.2 ob;obtain⟨ka,rfl⟩:∃ka:Nat,oa=(ka:Int):=⟨oa.toNat,by omega⟩
 have b0:ka<n:=Zo;have c5:(ka:Int)<(n:Int):=Zo;obtain⟨kb,rfl⟩:∃kb:Nat,ob=(kb:Int):=⟨ob.toNat,by omega⟩
 have a8:kb<n:=Zo;have c4:(kb:Int)<(n:Int):=Zo;have y:=zI (W:=w) (o:=I #[U 20,U g,U ka,U kb,Y on,.slice ab an ac] 76) rfl;have a5:N w (w.alloc (I #[U 20,U g,U ka,U kb,Y on,.slice ab an ac] 76)):=(Below.refl _ _).alloc (Je _) _;have H:=Ja h;have HV:=Ja hv;have u:=Ja (Jb y a5);clear h hv y a5;generalize a4:v (ka:Int)=xa at *;generalize a3:v (kb:Int)=xb at *;have HX:=Ja (Jb a4 a3);clear a4 a3;go_enter Tryz.func103,Tryz.ntmps103;go_upto_region 4 with(go_at_call 52;go_must (refine(aaK 20 _).mono ?_;rintro e w1 ⟨he,d⟩;obtain rfl:e=.returned (.agg #[.bool true,.bool false,.bool true,.bool true,.bool false]):=he))
 have t:N w (w1.alloc (I #[.bool true,.bool false,.bool true,.bool true,.bool false] 120)):=(u.out.2.trans (d.mono u.out.2.size)).alloc (Jn u.out.2.size d.size) _;have c:=zB (o:=(I #[.bool true,.bool false,.bool true,.bool true,.bool false] 120)) (zH d u.out.1 (lt_of_block u.out.1));have l:=zI (W:=w1) (o:=(I #[.bool true,.bool false,.bool true,.bool true,.bool false] 120)) rfl;have c7:w1.heap.size≠w.heap.size:=by have:=d.size;simp at this;omega
 generalize w1.alloc (I #[.bool true,.bool false,.bool true,.bool true,.bool false] 120)=W2 at *;generalize w1.heap.size=bs at *;have a2:=H.out.keep t;have j:=HV.out.below (zH t HV.out.1 (lt_of_block HV.out.1));have p0:=K0 c;have p2:=K2 c;have p3:=K3 c;have p4:=K4 c;have p5:=K5 c;have s2:=K2 l;have s3:=K3 l;have b9:=lt_of_block c;have b8:=lt_of_block l;have ca:A W2 vb ka (Y xa):=by rw[<-HX.out.1];exact j.cell b0
 have cb:A W2 vb kb (Y xb):=by rw[<-HX.out.2];exact j.cell a8
 have b6:=lt_of_block j.1;have HM:=Ja a2;have HF:=Ja (FrmQ.ofBelow t (Qd H.out.size));have b7:=a2.lt;clear t c l d u a2 j;obtain⟨R,hR⟩:∃R,aa0 m xa 2 xb=R:=⟨_,rfl⟩
 have hc:=aY HM.out b3 b2 (n:=2) (.inr rfl);have EE:=Ja hR;rw[show aa0 m xa 2 xb=R from hR] at hc
 cases R with
 |ok x m'=>
  have HC:=Ja hc;have b1:x=0:=by exact af8 EE.out
  clear hc hR;subst b1;go_wp2_with (go_at_call 126;go_must (refine HC.out.mono ?_;rintro e w3 ⟨he,⟨a6,ov3,a0⟩,a1,c0⟩;subst he))
  go_ret;rw[EE.out]
  exact pn.ok (x:=0) a0 (HF.out.trans a1) Zd
 |trap k i m'=>
  have HC:=Ja hc;clear hc hR;go_wp2_with (go_at_call 126;go_must (refine HC.out.mono ?_;rintro e w3 ⟨he,⟨a6,ov3,b4,a0⟩,a1⟩;subst he))
  go_ret;rw[EE.out];exact⟨rfl,⟨a6,ov3,b4,a0⟩,HF.out.trans a1⟩
theorem qstep_21{ov:Value}(h:MachQ w K m none dp ov)(c3:on<65536)(ab:Option Addr)(an ac:Nat){n:Nat}{v:Int->Nat}(hv:dA w vb n v)(c2:0<=oa/\oa.toNat<n)(c1:0<=ob/\ob.toNat<n)(b5:Int):
 G 103 #[Q K.pm,.agg #[U 21,U g,U oa,U ob,Y on,.slice ab an ac],F vb n n,U b5] w (pn K w (aa0 m (v oa) 1 (v ob))):=by
 have b3:=hv.2 oa;have b2:=hv.2 ob;obtain⟨ka,rfl⟩:∃ka:Nat,oa=(ka:Int):=⟨oa.toNat,by omega⟩
 have b0:ka<n:=Zo;have c5:(ka:Int)<(n:Int):=Zo;obtain⟨kb,rfl⟩:∃kb:Nat,ob=(kb:Int):=⟨ob.toNat,by omega⟩
 have a8:kb<n:=Zo;have c4:(kb:Int)<(n:Int):=Zo;have y:=zI (W:=w) (o:=I #[U 21,U g,U ka,U kb,Y on,.slice ab an ac] 76) rfl;have a5:N w (w.alloc (I #[U 21,U g,U ka,U kb,Y on,.slice ab an ac] 76)):=(Below.refl _ _).alloc (Je _) _;have H:=Ja h;have HV:=Ja hv;have u:=Ja (Jb y a5);clear h hv y a5;generalize a4:v (ka:Int)=xa at *;generalize a3:v (kb:Int)=xb at *;have HX:=Ja (Jb a4 a3);clear a4 a3;go_enter Tryz.func103,Tryz.ntmps103;go_upto_region 4 with(go_at_call 52;go_must (refine(aaK 21 _).mono ?_;rintro e w1 ⟨he,d⟩;obtain rfl:e=.returned (.agg #[.bool true,.bool false,.bool true,.bool true,.bool false]):=he))
 have t:N w (w1.alloc (I #[.bool true,.bool false,.bool true,.bool true,.bool false] 120)):=(u.out.2.trans (d.mono u.out.2.size)).alloc (Jn u.out.2.size d.size) _;have c:=zB (o:=(I #[.bool true,.bool false,.bool true,.bool true,.bool false] 120)) (zH d u.out.1 (lt_of_block u.out.1));have l:=zI (W:=w1) (o:=(I #[.bool true,.bool false,.bool true,.bool true,.bool false] 120)) rfl;have c7:w1.heap.size≠w.heap.size:=by have:=d.size;simp at this;omega
 generalize w1.alloc (I #[.bool true,.bool false,.bool true,.bool true,.bool false] 120)=W2 at *;generalize w1.heap.size=bs at *;have a2:=H.out.keep t;have j:=HV.out.below (zH t HV.out.1 (lt_of_block HV.out.1));have p0:=K0 c;have p2:=K2 c;have p3:=K3 c;have p4:=K4 c;have p5:=K5 c;have s2:=K2 l;have s3:=K3 l;have b9:=lt_of_block c;have b8:=lt_of_block l;have ca:A W2 vb ka (Y xa):=by rw[<-HX.out.1];exact j.cell b0
 have cb:A W2 vb kb (Y xb):=by rw[<-HX.out.2];exact j.cell a8
 have b6:=lt_of_block j.1;have HM:=Ja a2;have HF:=Ja (FrmQ.ofBelow t (Qd H.out.size));have b7:=a2.lt;clear t c l d u a2 j;obtain⟨R,hR⟩:∃R,aa0 m xa 1 xb=R:=⟨_,rfl⟩
 have hc:=aY HM.out b3 b2 (n:=1) (.inl rfl);have EE:=Ja hR;rw[show aa0 m xa 1 xb=R from hR] at hc
 cases R with
 |ok x m'=>
  have HC:=Ja hc;have b1:x=0:=by exact af8 EE.out
  clear hc hR;subst b1;go_wp2_with (go_at_call 126;go_must (refine HC.out.mono ?_;rintro e w3 ⟨he,⟨a6,ov3,a0⟩,a1,c0⟩;subst he))
  go_ret;rw[EE.out]
  exact pn.ok (x:=0) a0 (HF.out.trans a1) Zd
 |trap k i m'=>
  have HC:=Ja hc;clear hc hR;go_wp2_with (go_at_call 126;go_must (refine HC.out.mono ?_;rintro e w3 ⟨he,⟨a6,ov3,b4,a0⟩,a1⟩;subst he))
  go_ret;rw[EE.out];exact⟨rfl,⟨a6,ov3,b4,a0⟩,HF.out.trans a1⟩
theorem qstep_22{ov:Value}(h:MachQ w K m none dp ov)(b2:on<65536)(ab:Option Addr)(an ac:Nat){n:Nat}{v:Int->Nat}(hv:dA w vb n v)(c1:0<=oa/\oa.toNat<n)(b5:Int)(b3:Hid (∀s∈K.E.p.banks,s.size=4096)):
 G 103 #[Q K.pm,.agg #[U 22,U g,U oa,U ob,Y on,.slice ab an ac],F vb n n,U b5] w (pn K w (aI K.E m on (v oa) 2)):=by
 have b1:=hv.2 oa;have c0:=hv.2 ob;obtain⟨ka,rfl⟩:∃ka:Nat,oa=(ka:Int):=⟨oa.toNat,by omega⟩
 have a8:ka<n:=Zo;have c2:(ka:Int)<(n:Int):=Zo;have y:=zI (W:=w) (o:=I #[U 22,U g,U ka,U ob,Y on,.slice ab an ac] 76) rfl;have a5:N w (w.alloc (I #[U 22,U g,U ka,U ob,Y on,.slice ab an ac] 76)):=(Below.refl _ _).alloc (Je _) _;have H:=Ja h;have HV:=Ja hv;have t:=Ja (Jb y a5);clear h hv y a5;generalize a4:v (ka:Int)=xa at *;generalize a3:v ob=xb at *;have HX:=Ja (Jb a4 a3);clear a4 a3;go_enter Tryz.func103,Tryz.ntmps103;go_upto_region 4 with(go_at_call 52;go_must (refine(aaK 22 _).mono ?_;rintro e w1 ⟨he,d⟩;obtain rfl:e=.returned (.agg #[.bool true,.bool true,.bool true,.bool false,.bool true]):=he))
 have l:N w (w1.alloc (I #[.bool true,.bool true,.bool true,.bool false,.bool true] 120)):=(t.out.2.trans (d.mono t.out.2.size)).alloc (Jn t.out.2.size d.size) _;have c:=zB (o:=(I #[.bool true,.bool true,.bool true,.bool false,.bool true] 120)) (zH d t.out.1 (lt_of_block t.out.1));have j:=zI (W:=w1) (o:=(I #[.bool true,.bool true,.bool true,.bool false,.bool true] 120)) rfl;have c3:w1.heap.size≠w.heap.size:=by have:=d.size;simp at this;omega
 generalize w1.alloc (I #[.bool true,.bool true,.bool true,.bool false,.bool true] 120)=W2 at *;generalize w1.heap.size=bs at *;have a2:=H.out.keep l;have u:=HV.out.below (zH l HV.out.1 (lt_of_block HV.out.1));have p0:=K0 c;have p2:=K2 c;have p3:=K3 c;have p4:=K4 c;have p5:=K5 c;have s2:=K2 j;have s3:=K3 j;have b9:=lt_of_block c;have b8:=lt_of_block j;have ca:A W2 vb ka (Y xa):=by rw[<-HX.out.1];exact u.cell a8
 have b6:=lt_of_block u.1;have HM:=Ja a2;have HF:=Ja (FrmQ.ofBelow l (Qd H.out.size));have b7:=a2.lt;clear l c j d t a2 u;obtain⟨R,hR⟩:∃R,aI K.E m on xa 2=R:=⟨_,rfl⟩
 have hc:=rom_q HM.out b3.out b2 b1 (n:=2) (.inr rfl);have EE:=Ja hR;rw[show aI K.E m on xa 2=R from hR] at hc
 cases R with
 |ok x m'=>
  have HC:=Ja hc;clear hc hR;go_wp2_with (go_at_call 127;go_must (refine HC.out.mono ?_;rintro e w3 ⟨he,⟨a6,ov3,a0⟩,a1,b0⟩;obtain rfl:e=.returned (Y x):=he))
  go_ret;rw[EE.out]
  exact pn.ok a0 (HF.out.trans a1) b0
 |trap k i m'=>
  have HC:=Ja hc;clear hc hR;go_wp2_with (go_at_call 127;go_must (refine HC.out.mono ?_;rintro e w3 ⟨he,⟨a6,ov3,b4,a0⟩,a1⟩;obtain rfl:e=.returned (Y 0):=he))
  go_ret;rw[EE.out];exact⟨rfl,⟨a6,ov3,b4,a0⟩,HF.out.trans a1⟩
theorem qstep_23{ov:Value}(h:MachQ w K m none dp ov)(b2:on<65536)(ab:Option Addr)(an ac:Nat){n:Nat}{v:Int->Nat}(hv:dA w vb n v)(c1:0<=oa/\oa.toNat<n)(b5:Int)(b3:Hid (∀s∈K.E.p.banks,s.size=4096)):
 G 103 #[Q K.pm,.agg #[U 23,U g,U oa,U ob,Y on,.slice ab an ac],F vb n n,U b5] w (pn K w (aI K.E m on (v oa) 1)):=by
 have b1:=hv.2 oa;have c0:=hv.2 ob;obtain⟨ka,rfl⟩:∃ka:Nat,oa=(ka:Int):=⟨oa.toNat,by omega⟩
 have a8:ka<n:=Zo;have c2:(ka:Int)<(n:Int):=Zo;have y:=zI (W:=w) (o:=I #[U 23,U g,U ka,U ob,Y on,.slice ab an ac] 76) rfl;have a5:N w (w.alloc (I #[U 23,U g,U ka,U ob,Y on,.slice ab an ac] 76)):=(Below.refl _ _).alloc (Je _) _;have H:=Ja h;have HV:=Ja hv;have t:=Ja (Jb y a5);clear h hv y a5;generalize a4:v (ka:Int)=xa at *;generalize a3:v ob=xb at *;have HX:=Ja (Jb a4 a3);clear a4 a3;go_enter Tryz.func103,Tryz.ntmps103;go_upto_region 4 with(go_at_call 52;go_must (refine(aaK 23 _).mono ?_;rintro e w1 ⟨he,d⟩;obtain rfl:e=.returned (.agg #[.bool true,.bool true,.bool true,.bool false,.bool true]):=he))
 have l:N w (w1.alloc (I #[.bool true,.bool true,.bool true,.bool false,.bool true] 120)):=(t.out.2.trans (d.mono t.out.2.size)).alloc (Jn t.out.2.size d.size) _;have c:=zB (o:=(I #[.bool true,.bool true,.bool true,.bool false,.bool true] 120)) (zH d t.out.1 (lt_of_block t.out.1));have j:=zI (W:=w1) (o:=(I #[.bool true,.bool true,.bool true,.bool false,.bool true] 120)) rfl;have c3:w1.heap.size≠w.heap.size:=by have:=d.size;simp at this;omega
 generalize w1.alloc (I #[.bool true,.bool true,.bool true,.bool false,.bool true] 120)=W2 at *;generalize w1.heap.size=bs at *;have a2:=H.out.keep l;have u:=HV.out.below (zH l HV.out.1 (lt_of_block HV.out.1));have p0:=K0 c;have p2:=K2 c;have p3:=K3 c;have p4:=K4 c;have p5:=K5 c;have s2:=K2 j;have s3:=K3 j;have b9:=lt_of_block c;have b8:=lt_of_block j;have ca:A W2 vb ka (Y xa):=by rw[<-HX.out.1];exact u.cell a8
 have b6:=lt_of_block u.1;have HM:=Ja a2;have HF:=Ja (FrmQ.ofBelow l (Qd H.out.size));have b7:=a2.lt;clear l c j d t a2 u;obtain⟨R,hR⟩:∃R,aI K.E m on xa 1=R:=⟨_,rfl⟩
 have hc:=rom_q HM.out b3.out b2 b1 (n:=1) (.inl rfl);have EE:=Ja hR;rw[show aI K.E m on xa 1=R from hR] at hc
 cases R with
 |ok x m'=>
  have HC:=Ja hc;clear hc hR;go_wp2_with (go_at_call 127;go_must (refine HC.out.mono ?_;rintro e w3 ⟨he,⟨a6,ov3,a0⟩,a1,b0⟩;obtain rfl:e=.returned (Y x):=he))
  go_ret;rw[EE.out]
  exact pn.ok a0 (HF.out.trans a1) b0
 |trap k i m'=>
  have HC:=Ja hc;clear hc hR;go_wp2_with (go_at_call 127;go_must (refine HC.out.mono ?_;rintro e w3 ⟨he,⟨a6,ov3,b4,a0⟩,a1⟩;obtain rfl:e=.returned (Y 0):=he))
  go_ret;rw[EE.out];exact⟨rfl,⟨a6,ov3,b4,a0⟩,HF.out.trans a1⟩
theorem qstep_ar{ov:Value}(h:MachQ w K m none dp ov){oc:Int}(d0:on<65536)(ab:Option Addr)(an ac:Nat){n:Nat}{v:Int->Nat}(hv:dA w vb n v)(c9:0<=oa/\oa.toNat<n)(c8:0<=ob/\ob.toNat<n)(b2:Int)(y:5<=oc/\oc<=17):
 G 103 #[Q K.pm,.agg #[U oc,U g,U oa,U ob,Y on,.slice ab an ac],F vb n n,U b2] w (pn K w (iy m oc (v oa) (v ob))):=by
 have a3:=hv.2 oa;have a2:=hv.2 ob;obtain⟨ka,rfl⟩:∃ka:Nat,oa=(ka:Int):=⟨oa.toNat,by omega⟩
 have a8:ka<n:=Zo;have d2:(ka:Int)<(n:Int):=Zo;obtain⟨kb,rfl⟩:∃kb:Nat,ob=(kb:Int):=⟨ob.toNat,by omega⟩
 have a6:kb<n:=Zo;have d1:(kb:Int)<(n:Int):=Zo;have t:=zI (W:=w) (o:=I #[U oc,U g,U ka,U kb,Y on,.slice ab an ac] 76) rfl;have a4:N w (w.alloc (I #[U oc,U g,U ka,U kb,Y on,.slice ab an ac] 76)):=(Below.refl _ _).alloc (Je _) _;have H:=Ja h;have HV:=Ja hv;have l:=Ja (Jb t a4);clear h hv t a4;generalize a1:v (ka:Int)=xa at *;generalize a0:v (kb:Int)=xb at *;have HX:=Ja (Jb a1 a0);clear a1 a0;go_enter Tryz.func103,Tryz.ntmps103;go_upto_region 4 with(go_at_call 52;go_must (refine(aao oc y _).mono ?_;rintro e w1 ⟨he,d⟩;obtain rfl:e=.returned (.agg #[.bool true,.bool true,.bool true,.bool true,.bool false]):=he))
 have k:N w (w1.alloc (I #[.bool true,.bool true,.bool true,.bool true,.bool false] 120)):=(l.out.2.trans (d.mono l.out.2.size)).alloc (Jn l.out.2.size d.size) _;have c:=zB (o:=(I #[.bool true,.bool true,.bool true,.bool true,.bool false] 120)) (zH d l.out.1 (lt_of_block l.out.1));have j:=zI (W:=w1) (o:=(I #[.bool true,.bool true,.bool true,.bool true,.bool false] 120)) rfl;have d3:w1.heap.size≠w.heap.size:=by have:=d.size;simp at this;omega
 generalize w1.alloc (I #[.bool true,.bool true,.bool true,.bool true,.bool false] 120)=W2 at *;generalize w1.heap.size=bs at *;have u:=H.out.keep k;have i:=HV.out.below (zH k HV.out.1 (lt_of_block HV.out.1));have p0:=K0 c;have p2:=K2 c;have p3:=K3 c;have p4:=K4 c;have p5:=K5 c;have s2:=K2 j;have s3:=K3 j;have c7:=lt_of_block c;have c5:=lt_of_block j;have ca:A W2 vb ka (Y xa):=by rw[<-HX.out.1];exact i.cell a8
 have cb:A W2 vb kb (Y xb):=by rw[<-HX.out.2];exact i.cell a6
 have c3:=lt_of_block i.1;have HM:=Ja u;have HF:=Ja (FrmQ.ofBelow k (Qd H.out.size));have c4:=u.lt;clear k c j d l u i;have t1:(oc==1)=false:=Ze;have t2:(oc==2)=false:=Ze;have t3:(oc==3)=false:=Ze;have t4:(oc==4)=false:=Ze;have c2:(oc==18)=false:=Ze;have c1:(oc==19)=false:=Ze;have c0:(oc==20)=false:=Ze;have b9:(oc==21)=false:=Ze;have b8:(oc==22)=false:=Ze;have b7:(oc==23)=false:=Ze;have b6:(oc==24)=false:=Ze;have b5:(oc==25)=false:=Ze;have b4:(oc==26)=false:=Ze;have b3:(oc==27)=false:=Ze
 by_cases h8:oc=8/\xb=0
 ·obtain⟨x,a5⟩:=h8;have EE:=Ja (show iy m oc xa xb=.trap 4 0 m by unfold iy;rw[if_pos ⟨x,a5⟩]);have t8:(oc==8)=true:=by rw[beq_iff_eq];exact x
  have tb:((xb:Int)==0)=true:=by rw[beq_iff_eq];omega
  clear y x a5;go_wp2_with (go_at_call 101;go_must (refine(ew HM.out 4 0).mono ?_;rintro e w3 ⟨rfl,b0,b1⟩))
  go_ret;rw[EE.out];exact pn.trap b0 (HF.out.trans b1)
 ·have EE:=Ja (show iy m oc xa xb=.ok (yW oc xa xb) m by unfold iy;rw[if_neg h8]);have HC:=Ja (fun W=>aic oc y xa xb a3 a2 (fun e=>by omega) W)
  have hq:(oc==8)=false∨((oc==8)=true/\((xb:Int)==0)=false):=by
   by_cases e:oc=8
   ·right;exact⟨by rw[beq_iff_eq];exact e,by rw[beq_eq_false_iff_ne];omega⟩
   ·left;rw[beq_eq_false_iff_ne];exact e
  clear y h8;rcases hq with t8|⟨t8,tb⟩
  all_goals go_wp2_with (go_at_call 107;go_must (refine(HC.out _).mono ?_;rintro e w' ⟨rfl,rfl⟩))
  all_goals go_ret
  all_goals rw[EE.out]
  all_goals exact pn.ok HM.out HF.out (jz _ _ _ a3 a2)
def afn:Int->List IBlk->Int
 |nx,[]=>nx
 |nx,b::bs=>afn (ag3 nx b) bs
theorem agb:∀(bs:List IBlk) (nx:Int),nx<=afn nx bs
 | [],_=>Og _
 |b::bs,nx=>Int.le_trans (agB nx b) (agb bs _)
def TrO (b:IBlk)(lo hi:Int)(l:List IOp)(o:IOp):Prop:=
 o∈b.ops∨∃(nx:Int) (n P:Nat) (x:Int) (Q:Nat),o∈grp nx n P x Q/\(∀o'∈grp nx n P x Q,o'∈l)/\(lo<=nx/\nx<hi)/\(n<65536/\P<65536/\Q<65536)/\(x∈b.params∨∃o'∈b.ops,(o'.res=x/\0<=x)∨(lx o'=true/\o'.a=x))
theorem TrO.mono{b:IBlk}{lo hi d:Int}{l l':List IOp}(h:TrO b lo hi l o)(h1:c<=lo)(h2:hi<=d)(h3:∀x∈l,x∈l'):TrO b c d l' o:=by
 rcases h with h|⟨nx,n,P,x,Q,k,j,m,i,g⟩
 ·exact .inl h
 ·exact .inr ⟨nx,n,P,x,Q,k,fun o' ho=>h3 o' (j o' ho),⟨by omega,by omega⟩,i,g⟩
theorem ag6{b:IBlk}{v:Int}(hv:v∈b.params∨∃o'∈b.ops,o'.res=v)(h:o∈aeD nx v):TrO b nx (bf nx v) (aeD nx v) o:=by
 unfold aeD at h
 by_cases c:0<=v
 ·rw[if_pos c] at h;have e1:aeD nx v=grp nx (v%65536).toNat 254 v 255:=if_pos c;have e2:bf nx v=nx+1:=if_pos c;rw[e1,e2];refine .inr ⟨nx,_,_,_,_,h,fun _ h=>h,⟨Og _,by omega⟩,⟨by omega,by decide,by decide⟩,?_⟩;rcases hv with hv|⟨o',h1,h2⟩
  ·exact .inl hv
  ·exact .inr ⟨o',h1,.inl ⟨h2,c⟩⟩
 ·rw[if_neg c] at h;cases h
theorem agw {b:IBlk}:∀(ps:List Int) (nx:Int) (o:IOp),(∀v∈ps,v∈b.params)->o∈df nx ps->TrO b nx (gw nx ps) (df nx ps) o
 | [],_,_,_,h=>by cases h
 |v::ps,nx,o,hp,h=>by
  have h1:=afg nx v;rcases Jl.1 h with h|h
  ·exact(ag6 (.inl (hp v (.head _))) h).mono (Og _) (aeZ ps _) fun x hx=>Jz _ hx
  ·exact(agw ps _ o (fun x hx=>hp x (.tail _ hx)) h).mono h1 (Og _) fun x hx=>Qf _ hx
theorem mem_trOp{b:IBlk}{q:IOp}(d:q∈b.ops)(h:o∈ajG nx ac q):TrO b nx (ajF nx q) (ajG nx ac q) o:=by
 unfold ajG at h;rcases Jl.1 h with h|h
 ·unfold afc at h
  by_cases c:lx q=true
  ·rw[if_pos c] at h;have e1:afc nx ac q=grp nx (ac%65536) 253 q.a 252:=if_pos c;have e2:aeA nx q=nx+1:=if_pos c;have h3:=afg (aeA nx q) q.res;refine .inr ⟨nx,_,_,_,_,h,fun x hx=>?_,⟨Og _,?_⟩,⟨Qj _ Zd,by decide,by decide⟩,.inr ⟨q,d,.inr ⟨c,rfl⟩⟩⟩
   ·show x∈afc nx ac q++q::aeD (aeA nx q) q.res
    rw[e1];exact Jz _ hx
   ·show nx<bf (aeA nx q) q.res
    omega
  ·rw[if_neg c] at h;cases h
 ·rcases Jq.1 h with rfl|h
  ·exact .inl d
  ·exact(ag6 (.inr ⟨q,d,rfl⟩) h).mono (agy nx q) (Og _) fun x hx=>Qf _ (.tail _ hx)
theorem ahd {b:IBlk}:∀(os:List IOp) (nx:Int) (ac:Nat) (o:IOp),(∀q∈os,q∈b.ops)->o∈aeU nx ac os->TrO b nx (agP nx os) (aeU nx ac os) o
 | [],_,_,_,_,h=>by cases h
 |q::os,nx,ac,o,hp,h=>by
  rcases Jl.1 h with h|h
  ·exact(mem_trOp (hp q (.head _)) h).mono (Og _) (afM os _) fun x hx=>Jz _ hx
  ·exact(ahd os _ _ o (fun x hx=>hp x (.tail _ hx)) h).mono (ahw nx q) (Og _) fun x hx=>Qf _ hx
theorem afm{b:IBlk}(h:o∈(ahf nx ac b).ops):TrO b nx (ag3 nx b) (ahf nx ac b).ops o:=by
 have h:o∈df nx b.params++aeU (gw nx b.params) ac b.ops:=h;rcases Jl.1 h with h|h
 ·exact(agw b.params nx o (fun _ h=>h) h).mono (Og _) (afM b.ops _) fun x hx=>Jz _ hx
 ·exact(ahd b.ops _ ac o (fun _ h=>h) h).mono (aeZ b.params nx) (Og _) fun x hx=>Qf _ hx
theorem agl:∀(bs:List IBlk) (nx:Int) (ac:Nat) (b':IBlk),b'∈m7 nx ac bs->∃(nx1:Int) (ac1:Nat) (b:IBlk),b∈bs/\b'=ahf nx1 ac1 b/\nx<=nx1/\ag3 nx1 b<=afn nx bs
 | [],_,_,_,h=>by cases h
 |b::bs,nx,ac,b',h=>by
  rcases Jq.1 h with rfl|h
  ·exact⟨nx,ac,b,.head _,rfl,Og _,agb bs _⟩
  ·obtain⟨nx1,ac1,c,h1,h2,h3,h4⟩:=agl bs _ _ b' h;exact⟨nx1,ac1,c,.tail _ h1,h2,Int.le_trans (agB nx b) h3,h4⟩
theorem agZ:∀(os:List IOp) (nx:Int) (ac:Nat),∀o∈os,o∈aeU nx ac os
 | [],_,_,_,h=>by cases h
 |q::os,nx,ac,o,h=>by
  rcases Jq.1 h with rfl|h
  ·exact Jz _ (Qf _ (.head _))
  ·exact Qf _ (agZ os _ _ o h)
theorem tr_has:∀(bs:List IBlk) (nx:Int) (ac:Nat) (b:IBlk),b∈bs->∃b'∈m7 nx ac bs,b'.params=b.params/\∀o∈b.ops,o∈b'.ops
 | [],_,_,_,h=>by cases h
 |c::bs,nx,ac,b,h=>by
  rcases Jq.1 h with rfl|h
  ·exact⟨_,.head _,rfl,fun o ho=>Qf _ (agZ _ _ _ o ho)⟩
  ·obtain⟨b',h1,h2⟩:=tr_has bs (ag3 nx c) (i7 ac c.ops) b h;exact⟨b',.tail _ h1,h2⟩
theorem afA:∀(bs:List IBlk) (nx:Int) (ac:Nat),(m7 nx ac bs).length=bs.length
 | [],_,_=>rfl
 |b::bs,nx,ac=>congrArg (·+1) (afA bs _ _)
theorem ahL (nx v:Int):(aeD nx v).length<=3:=by unfold aeD;split<;>first|exact Je _|exact Jt _
theorem agj:∀(ps:List Int) (nx:Int),(df nx ps).length<=ps.length*3
 | [],_=>Je _
 |v::ps,nx=>by
  have h1:=agj ps (bf nx v);have h2:=ahL nx v
  show(aeD nx v++df (bf nx v) ps).length<=(ps.length+1)*3
  rw[Jk];omega
theorem ahi:∀(os:List IOp) (nx:Int) (ac:Nat),(aeU nx ac os).length<=os.length*7
 | [],_,_=>Je _
 |q::os,nx,ac=>by
  have h1:=ahi os (ajF nx q) (afl ac q);have h2:=ahL (aeA nx q) q.res;have h3:(afc nx ac q).length<=3:=by unfold afc;split<;>first|exact Je _|exact Jt _
  show(afc nx ac q++q::aeD (aeA nx q) q.res++aeU (ajF nx q) (afl ac q) os).length<=(os.length+1)*7
  simp only[Jk,Nq];omega
theorem trBlk_at{bs:List IBlk}(hi:i<bs.length):(xz (m7 nx ac bs) (i:Int)).params=(xz bs (i:Int)).params:=by
 obtain⟨b,hb⟩:∃b,bs[i]? =some b:=⟨_,Jd hi⟩
 obtain⟨c,_,h⟩:=afy bs nx ac i b hb;unfold xz;rw[Ni,Jj,Jj,h,hb];rfl
theorem be{p:IProg}{n:Nat}(c:p.funcs[n]? =some bl){f:List IBlk}(h:(vt p n).funcs[i]? =some f):(i=n/\f=m7 (aaG bl) 0 bl)∨(i≠n/\p.funcs[i]? =some f):=by
 have hg:p.funcs.getD n []=bl:=by rw[Jj,c];rfl
 have h:(p.funcs.set n (m7 (aaG (p.funcs.getD n [])) 0 (p.funcs.getD n [])))[i]? =some f:=h;rw[hg] at h
 by_cases e:n=i
 ·subst e;rw[Nn (Jh.1 c).1] at h;exact .inl ⟨rfl,(Nt h).symm⟩
 ·rw[Ns e] at h;exact .inr ⟨fun x=>e x.symm,h⟩
theorem ae5 {p:IProg}{n:Nat}:(vt p n).funcs.length=p.funcs.length:=Nd
theorem afZ{p:IProg}{n:Nat}(h:ajK p o):ajK (vt p n) o:=⟨h.1,h.2.1,fun e=>by rw[ae5];exact h.2.2 e⟩
theorem okop_grp{p:IProg}{m P:Nat}{Q:Nat}:∀o∈grp nx m P x Q,ajK p o/\o.args=[]:=by
 intro o ho
 have h:(o.code=1∨o.code=25)/\o.args=[]:=by
  simp only[grp,Jq,List.not_mem_nil,or_false] at ho;rcases ho with rfl|rfl|rfl
  ·exact⟨.inl rfl,rfl⟩
  ·exact⟨.inr rfl,rfl⟩
  ·exact⟨.inr rfl,rfl⟩
 exact⟨⟨⟨by omega,by omega⟩,fun e=>by omega,fun e=>by omega⟩,h.2⟩
section
variable {p:IProg} {n:Nat} {bl:List IBlk} (hn:p.funcs[n]? =some bl)
include hn
theorem aiE (d:OkProg p):OkProg (vt p n):=by
 refine⟨fun f hf b hb=>?_,fun i b bs hi=>?_,fun h=>?_,d.bank,d.argle,by rw[ae5];exact d.alen⟩
 ·obtain⟨i,hi⟩:=Ny hf;rcases be hn hi with⟨_,rfl⟩|⟨_,h1⟩
  ·obtain⟨nx,ac,c,h1,rfl,_,_⟩:=agl _ _ _ _ hb;have h2:=d.blk bl (Ji hn) c h1;refine⟨fun o ho=>?_,⟨h2.2.1.1,h2.2.1.2.1,h2.2.1.2.2.1,h2.2.1.2.2.2.1,fun e he=>?_⟩,h2.2.2⟩
   ·rcases afm ho with h3|⟨_,_,_,_,_,h3,_⟩
    ·exact afZ (h2.1 o h3)
    ·exact(okop_grp o h3).1
   ·have h3:=h2.2.1.2.2.2.2 e he;refine⟨h3.1,by rw[afA];exact h3.2.1,?_⟩;have e1:e.block=((e.block.toNat:Nat):Int):=Zo;rw[e1,trBlk_at h3.2.1,<-e1];exact h3.2.2
  ·have h2:=d.blk f (Ji h1) b hb;exact⟨fun o ho=>afZ (h2.1 o ho),h2.2⟩
 ·rcases be hn hi with⟨rfl,h1⟩|⟨_,h1⟩
  ·cases bl with
   |nil=>cases h1
   |cons c cs=>
    injection h1 with h2 h3
    rw[h2];exact d.par i c cs hn
  ·exact d.par i b bs h1
 ·rw[ae5];exact d.hnd h
theorem ain (u:UseProg p)(hr:∀b∈bl,∀o∈b.ops,-1<=o.res)(hN:afn (aaG bl) bl<=65536)(hL:∀b∈bl,b.params.length<=15000/\b.ops.length<=15000):UseProg (vt p n):=by
 have hm:=Ji hn;have hc:=u.cnt bl hm;have hb:=u.blk bl hm;have a4:=agb bl (aaG bl)
 have a1:bC (m7 (aaG bl) 0 bl):=fun b' hb'=>by
  obtain⟨nx,ac,c,h1,rfl,h2,h3⟩:=agl _ _ _ _ hb';have d:=hb c h1;refine⟨fun v hv=>by have:=d.1 v hv;omega,fun o ho=>?_⟩;rcases afm ho with h|⟨k,m,P,x,Q,h,_,h6,_⟩
  ·have:=hr c h1 o h;have:=(d.2.1 o h).2;omega
  ·simp only[grp,Jq,List.not_mem_nil,or_false] at h;rcases h with rfl|rfl|rfl<;>(dsimp only;omega)
 have a0:=bD a1
 have a3:aaG bl<=aaG (m7 (aaG bl) 0 bl):=by
  have hg:=(agJ (m7 (aaG bl) 0 bl) 0).2;have e:(m7 (aaG bl) 0 bl).foldl iL 0=aaG (m7 (aaG bl) 0 bl):=rfl;rw[e] at hg;refine aia bl 0 a0.1 fun b hb2=>?_
  obtain⟨b',h1,h2,h3⟩:=tr_has bl (aaG bl) 0 b hb2;refine⟨fun v hv=>(hg b' h1).1 v (by rw[h2];exact hv),fun o ho=>(hg b' h1).2 o (h3 o ho)⟩
 refine⟨fun f hf=>?_,fun f hf=>?_,fun f hf b' hb'=>?_⟩
 ·obtain⟨i,hi⟩:=Ny hf;rcases be hn hi with⟨_,rfl⟩|⟨_,h1⟩
  ·have hs:=u.sz bl hm;refine⟨by rw[afA];exact hs.1,fun b' hb'=>?_⟩;obtain⟨nx,ac,c,h1,rfl,h2,h3⟩:=agl _ _ _ _ hb';have d:=hs.2 c h1;have h:=hL c h1;have h6:=agj c.params nx;have t:=ahi c.ops (gw nx c.params) ac;refine⟨d.1,?_,d.2.2⟩
   show(df nx c.params++aeU (gw nx c.params) ac c.ops).length<=_
   rw[Jk];omega
  ·exact u.sz f (Ji h1)
 ·obtain⟨i,hi⟩:=Ny hf;rcases be hn hi with⟨_,rfl⟩|⟨_,h1⟩
  ·exact a0
  ·exact u.cnt f (Ji h1)
 ·obtain⟨i,hi⟩:=Ny hf;rcases be hn hi with⟨_,rfl⟩|⟨_,h1⟩
  ·obtain⟨nx,ac,c,h1,rfl,h2,h3⟩:=agl _ _ _ _ hb';have d:=hb c h1;have w:∀x,ajk (m7 (aaG bl) 0 bl) x->0<=x/\x.toNat<(aaG (m7 (aaG bl) 0 bl)).toNat:=fun x g=>dY a1 g
   have j:∀x:Int,(0<=x/\x.toNat<(aaG bl).toNat)->0<=x/\x.toNat<(aaG (m7 (aaG bl) 0 bl)).toNat:=fun x g=>⟨g.1,by omega⟩
   refine⟨fun x g=>j x (d.1 x g),fun o ho=>⟨?_,fun h0=>(w _ ⟨_,hb',.inr ⟨o,ho,rfl,h0⟩⟩).2⟩,fun x g=>j x (d.2.2 x g)⟩;rcases afm ho with h|⟨k,m,P,x,Q,h,h8,h6,_,t⟩
   ·exact fun x g=>j x ((d.2.1 o h).1 x g)
   ·have a2:0<=k/\k.toNat<(aaG (m7 (aaG bl) 0 bl)).toNat:=w k ⟨_,hb',.inr ⟨_,h8 _ (List.mem_cons_self ..),rfl,by omega⟩⟩
    have g:0<=x/\x.toNat<(aaG (m7 (aaG bl) 0 bl)).toNat:=by
     refine j x ?_;rcases t with t|⟨q,t,⟨rfl,h9⟩|⟨h9,rfl⟩⟩
     ·exact d.1 x t
     ·exact⟨h9,(d.2.1 q t).2 h9⟩
     ·exact(d.2.1 q t).1 _ (aij (aiy h9))
    intro y l;simp only[grp,Jq,List.not_mem_nil,or_false] at h;rcases h with rfl|rfl|rfl
    ·cases l
    ·have l:y∈ [k]:=l;rw[Jo.1 l];exact a2
    ·have l:y∈ [x]:=l;rw[Jo.1 l];exact g
  ·exact u.blk f (Ji h1) b' hb'
theorem aiH (h:P64 p)(u:UseProg p)(y:afn (aaG bl) bl<=65536):P64 (vt p n):=by
 have hm:=Ji hn;have w:=u.cnt bl hm;refine⟨fun f hf b' hb'=>?_,h.args,h.data,h.banks,h.ent,h.hnd⟩;obtain⟨i,hi⟩:=Ny hf;rcases be hn hi with⟨_,rfl⟩|⟨_,h1⟩
 ·obtain⟨nx,ac,c,h1,rfl,h2,h3⟩:=agl _ _ _ _ hb';have g:=h.funcs bl hm c h1;refine⟨g.par,fun o ho=>?_,g.term,g.tos⟩;rcases afm ho with k|⟨nx1,m,P,x,Q,k,_,h6,t,j⟩
  ·exact g.ops o k
  ·have d:I64 x:=by
    rcases j with j|⟨q,j,⟨rfl,_⟩|⟨_,rfl⟩⟩
    ·exact g.par x j
    ·exact(g.ops q j).1.2.1
    ·exact(g.ops q j).1.2.2.1
   have l:I64 nx1:=⟨by omega,by omega⟩
   have z0:I64 0:=⟨by decide,by decide⟩
   have z1:I64 1:=⟨by decide,by decide⟩
   have z2:I64 25:=⟨by decide,by decide⟩
   have z3:I64 (-1):=⟨by decide,by decide⟩
   simp only[grp,Jq,List.not_mem_nil,or_false] at k;rcases k with rfl|rfl|rfl
   ·exact⟨⟨z1,l,z0,z0,t.1⟩,fun x d=>by cases d⟩
   ·exact⟨⟨z2,z3,l,z0,t.2.1⟩,fun x d=>by cases d⟩
   ·exact⟨⟨z2,z3,d,z0,t.2.2⟩,fun x d=>by cases d⟩
 ·exact h.funcs f (Ji h1) b' hb'
end
def ajE (bl:List IBlk):List Int:=(ajI bl).map aik
theorem agr:∀(l:List IObj) (k:Nat) (a:Rg) (n:Int),ae8 l k a n=-1∨∃j:Nat,j<l.length/\ae8 l k a n=((k+j:Nat):Int)/\(l.getD j ⟨0,0,0⟩).bank=-1/\(l.getD j ⟨0,0,0⟩).addr<=a.lo/\(a.hi:Int)+n<=((l.getD j ⟨0,0,0⟩).addr:Int)+(l.getD j ⟨0,0,0⟩).size
 | [],k,a,n=> .inl rfl
 |o::os,k,a,n=>by
  unfold ae8
  split
  ·rename_i h
   exact .inr ⟨0,Nat.succ_pos _,rfl,h.1,h.2.1,h.2.2⟩
  ·have:=agr os (k+1) a n;rw[show((k+1:Nat):Int)=(k:Int)+1 by omega] at this;rcases this with h|⟨j,h1,h2,h3⟩
   ·exact .inl h
   ·exact .inr ⟨j+1,Nat.succ_lt_succ h1,by rw[h2];congr 1;omega,h3⟩
theorem agI:∀(l:List IOp) (ac:Nat),i7 ac l=ac+(l.filter lx).length
 | [],ac=>rfl
 |o::l,ac=>by
  show i7 (afl ac o) l=_
  rw[agI l];unfold afl
  by_cases h:lx o=true
  ·rw[if_pos h,List.filter_cons_of_pos h,Nq];omega
  ·rw[if_neg h,List.filter_cons_of_neg h]
theorem ag5 {α:Type}(q:α->Bool):∀(l:List α) (k:Nat) (x:α),l[k]? =some x->q x=true->(l.filter q)[((l.take k).filter q).length]? =some x
 | [],k,x,h,_=>by simp at h
 |y::l,0,x,h,hq=>by
  simp at h;subst h
  rw[List.filter_cons_of_pos hq];rfl
 |y::l,k+1,x,h,hq=>by
  have ih:=ag5 q l k x (by simpa using h) hq;rw[Qo]
  by_cases c:q y=true
  ·rw[List.filter_cons_of_pos c,List.filter_cons_of_pos c,Nq];simpa using ih
  ·rw[List.filter_cons_of_neg c,List.filter_cons_of_neg c];exact ih
theorem flat_at:∀(i k:Nat) (b:IBlk) (o:IOp),bl[i]? =some b->b.ops[k]? =some o->(bl.flatMap (·.ops))[((bl.take i).flatMap (·.ops)).length+k]? =some o/\(bl.flatMap (·.ops)).take (((bl.take i).flatMap (·.ops)).length+k)=(bl.take i).flatMap (·.ops)++b.ops.take k:=by
 intro i k b o hb ho;have hi:=(Jh.1 hb).1;have hk:=(Jh.1 ho).1
 have e:bl=bl.take i++b::bl.drop (i+1):=by
  have h1:=Qi i bl
  have h2:bl.drop i=b::bl.drop (i+1):=by
   rw[Qn hi,(Jh.1 hb).2]
  rw[<-h2,h1]
 have e2:bl.flatMap (·.ops)=(bl.take i).flatMap (·.ops)++(b.ops++(bl.drop (i+1)).flatMap (·.ops)):=by
  conv=>lhs;rw[e]
  rw[Nx,Qa]
 rw[e2];constructor
 ·rw[Nc Zo,Nat.add_sub_cancel_left,Np hk];exact ho
 ·rw[List.take_length_add_append,List.take_append_of_le_length Zo]
theorem acc_at(hi:i<bl.length)(ho:(xz bl i).ops[k]? =some o)(c:lx o=true):(ajI bl)[i7 (i7 0 ((bl.take i).flatMap (·.ops))) ((xz bl i).ops.take k)]? =some o:=by
 obtain⟨b,hb⟩:∃b,bl[i]? =some b:=⟨_,Jd hi⟩
 rw[z6 hb] at ho ⊢;obtain⟨h1,h2⟩:=flat_at i k b o hb ho;have:=ag5 lx _ _ o h1 c;rw[h2,List.filter_append,Jk] at this;rw[agI,agI,Ng];exact this
def repF (p:IProg)(bl:List IBlk):RepF:=⟨vp p bl,aeH p.data (vp p bl) bl,ajE bl,p.data⟩
theorem FnS.rep{p:IProg}(h:FnS p bl):RepOk (repF p bl) (fnT p bl) (aaG bl).toNat:=⟨rfl,h.end.ok,by have:=h.cnt;omega⟩
theorem acc_pair{p:IProg}(h:FnS p bl)(hl:(ajI bl).length<=65536)(hi:i<bl.length)(ho:(xz bl i).ops[k]? =some o)(m:lx o=true)(hk:(0<=o.a/\o.a.toNat<(aaG bl).toNat)/\(fnT p bl).knw o.a=true){w:Nat}(d:((fnT p bl).get o.a).has w):
 aeV (repF p bl) (253,i7 (i7 0 ((bl.take i).flatMap (·.ops))) ((xz bl i).ops.take k)%65536) (252,w):=by
 refine⟨fun e=>absurd (show(253:Nat)=254 from e) Zd,fun _=>?_⟩;have h1:=acc_at hi ho m;obtain⟨n,g⟩:∃n,i7 (i7 0 ((bl.take i).flatMap (·.ops))) ((xz bl i).ops.take k)=n:=⟨_,rfl⟩
 rw[g] at h1 ⊢;have c:=(Jh.1 h1).1;have hm:n%65536=n:=Nat.mod_eq_of_lt Zo;obtain⟨_,_,hg⟩:=h.rep.get hk.1 hk.2;have hs:(ajE bl).getD n 0=aik o:=by unfold ajE;rw[Jj,Jr,h1];rfl
 have l:(aeH p.data (vp p bl) bl).getD n 0=ae8 p.data ((0:Nat):Int) ((fnT p bl).get o.a) (aik o):=by
  unfold aeH;rw[Jj,Jr,h1]
  show ahA p.data (vp p bl) o=_
  unfold ahA;have hg:(vp p bl).getD o.a.toNat ⟨0,0⟩=(fnT p bl).get o.a:=hg;rw[hg];rfl
 show n%65536<(aeH p.data (vp p bl) bl).length/\n%65536<(ajE bl).length/\(252:Nat)=252/\((aeH p.data (vp p bl) bl).getD (n%65536) 0=-1∨((0<=(aeH p.data (vp p bl) bl).getD (n%65536) 0/\((aeH p.data (vp p bl) bl).getD (n%65536) 0).toNat<p.data.length)/\(p.data.getD ((aeH p.data (vp p bl) bl).getD (n%65536) 0).toNat ⟨0,0,0⟩).bank=-1/\(p.data.getD ((aeH p.data (vp p bl) bl).getD (n%65536) 0).toNat ⟨0,0,0⟩).addr<=w/\(w:Int)+(ajE bl).getD (n%65536) 0<=(p.data.getD ((aeH p.data (vp p bl) bl).getD (n%65536) 0).toNat ⟨0,0,0⟩).addr+(p.data.getD ((aeH p.data (vp p bl) bl).getD (n%65536) 0).toNat ⟨0,0,0⟩).size))
 rw[hm,hs,l];refine⟨by unfold aeH;rw[Nr];exact c,by unfold ajE;rw[Nr];exact c,rfl,?_⟩;rcases agr p.data 0 ((fnT p bl).get o.a) (aik o) with h2|⟨j,h2,h3,t,x,u⟩
 ·exact .inl h2
 ·rw[h3,Ng,Ni];have:=d.1;have:=d.2;exact .inr ⟨⟨Int.natCast_nonneg _,h2⟩,t,by omega,by omega⟩
theorem FnS.tr{p:IProg}(h:FnS p bl)(hl:(ajI bl).length<=65536)(ho:∀b∈bl,∀o∈b.ops,OpP o):TrFn (repF p bl) (fnT p bl) p bl where
 st:=h.st
 rep:=h.rep
 cnt:=h.cnt.1
 fix:=fun i hi=>h.end.fix i ((h.ord i).2 hi)
 rng:=fun i hi=>⟨(h.rng i hi).1,fun o ho h0=>((h.rng i hi).2 o ho).2 h0⟩
 ent:=fun x hx=>by
  obtain⟨h1,h2⟩:=ail (n:=(aaG bl).toNat) (ps:=(xz bl (0:Nat)).params) (fun v hv=>((h.rng 0 h.pos).1 v hv).2) x hx;have:=h.end.kn x h1;exact⟨this.1,this.2 h2⟩
 ops:=fun i hi o hoo=>by
  obtain⟨b,hb⟩:∃b,bl[i]? =some b:=⟨_,Jd hi⟩
  rw[z6 hb] at hoo;exact ho b (Ji hb) o hoo
 acc:=fun i k o hi hok ha hkn w hw=>acc_pair h hl hi hok ha hkn hw
structure TrcdOk (p:IProg) (n:Nat) (bl:List IBlk):Prop where
 at_:p.funcs[n]? =some bl
 valid:vC p=0
 sized:∀f∈p.funcs,vZ f
 small:SmallP p
 cnt:0<=aaG bl/\aaG bl<=65536
 ok:OkProg (vt p n)
 use:UseProg (vt p n)
 p64:P64 (vt p n)
 fin:∀(I Q:List Nat) (g:Int) (args:List Nat) (ram:ByteArray) (fuel:Int),(∀x∈I,x<65536)->(∀a∈args,a<65536)->aeC ⟨rgsP p (n:Int),objP p (n:Int),ajE bl,p.data⟩ (bQ ⟨vt p n,I,Q⟩ g args ram fuel).out
theorem traced_q{p:IProg}{n:Nat}(h:TrcdOk p n bl){V:PV}(hp:ProgIn w w.heap.size V p):G 21 #[yH V p,U n] w (ahY w (vt p n)):=
 (aig hp h.small h.at_ h.cnt).mono fun e w' h'=>ai1 h.p64 h'
theorem trcd_of{p:IProg}(h64:P64 p)(hv:vC p=0)(k:mW p)(x:SmallP p)(j:∀f∈p.funcs,∀b∈f,∀o∈b.ops,OpP o){n:Nat}(c:p.funcs[n]? =some bl)
 (h1:afn (aaG bl) bl<=65536) (h2:∀b∈bl,b.params.length<=15000/\b.ops.length<=15000) (h3:∀b∈bl,∀o∈b.ops,-1<=o.res) (h4:(ajI bl).length<=65536):TrcdOk p n bl:=by
 have i:∀f∈p.funcs,vZ f:=fun f hf=>(k f hf).1
 have y:=jM hv (fun f hf b hb=>(k f hf).2 b hb);have d:=aM hv i;have l:=(Jh.1 c).1;have u:p.funcs.getD n []=bl:=by rw[Jj,c];rfl
 have m:=Ji c;refine⟨c,hv,i,x,d.cnt bl m,aiE c y,ain c d h3 h1 h2,aiH c h64 d h1,fun I Q g args ram fuel hI ha=>?_⟩
 by_cases w:bl=[]
 ·exact agp (t:=⟨[],[]⟩) l (fun h=>absurd (u.trans w) h) j hI g ha ram fuel
 ·have hF:=agq hv i h64 c w;have hT:=hF.tr h4 (fun b hb o ho=>j bl m b hb o ho);have h5:=agp (I:=I) (Q:=Q) (T:=repF p bl) (t:=fnT p bl) l (fun _=>by rw[u];exact hT) j hI g ha ram fuel;rw[agz hv c w,ajp hv c];exact h5
def ahm (m y:Nat)(c:Int):List IBlk:=
 [⟨[],[⟨1,0,0,0,m,[]⟩,⟨1,1,0,0,y,[]⟩,⟨1,2,0,0,1,[]⟩],⟨1,0,[⟨1,[0,1]⟩]⟩⟩,
  ⟨[3,4],[],⟨2,3,[⟨2,[]⟩,⟨3,[]⟩]⟩⟩,
  ⟨[],[⟨6,5,3,2,0,[]⟩,⟨c,6,4,1,0,[]⟩],⟨1,0,[⟨1,[5,6]⟩]⟩⟩,
  ⟨[],[],⟨4,4,[]⟩⟩]
def aeF (m y:Nat)(c:Int):IProg:=⟨[ahm m y c],[0],0,-1,[],[]⟩
def agi (c:Int):Prop:=c=5∨c=6∨c=7∨c=9∨c=10∨c=11∨c=12∨c=13∨c=14∨c=15∨c=16∨c=17
theorem lp_valid(m y:Nat)(h:agi c):vC (aeF m y c)=0:=by
 rcases h with rfl|rfl|rfl|rfl|rfl|rfl|rfl|rfl|rfl|rfl|rfl|rfl<;>(show vC _=_;kernel_rfl)
theorem lp_count(m y:Nat)(h:agi c):aaG (ahm m y c)=7:=by
 rcases h with rfl|rfl|rfl|rfl|rfl|rfl|rfl|rfl|rfl|rfl|rfl|rfl<;>(show aaG _=_;kernel_rfl)
def agx (m y:Nat)(c:Int):List IBlk:=
 [⟨[],[⟨1,0,0,0,m,[]⟩,⟨1,7,0,0,0,[]⟩,⟨25,-1,7,0,254,[]⟩,⟨25,-1,0,0,255,[]⟩,⟨1,1,0,0,y,[]⟩,⟨1,8,0,0,1,[]⟩,⟨25,-1,8,0,254,[]⟩,⟨25,-1,1,0,255,[]⟩,⟨1,2,0,0,1,[]⟩,⟨1,9,0,0,2,[]⟩,⟨25,-1,9,0,254,[]⟩,⟨25,-1,2,0,255,[]⟩],⟨1,0,[⟨1,[0,1]⟩]⟩⟩,
  ⟨[3,4],[⟨1,10,0,0,3,[]⟩,⟨25,-1,10,0,254,[]⟩,⟨25,-1,3,0,255,[]⟩,⟨1,11,0,0,4,[]⟩,⟨25,-1,11,0,254,[]⟩,⟨25,-1,4,0,255,[]⟩],⟨2,3,[⟨2,[]⟩,⟨3,[]⟩]⟩⟩,
  ⟨[],[⟨6,5,3,2,0,[]⟩,⟨1,12,0,0,5,[]⟩,⟨25,-1,12,0,254,[]⟩,⟨25,-1,5,0,255,[]⟩,⟨c,6,4,1,0,[]⟩,⟨1,13,0,0,6,[]⟩,⟨25,-1,13,0,254,[]⟩,⟨25,-1,6,0,255,[]⟩],⟨1,0,[⟨1,[5,6]⟩]⟩⟩,
  ⟨[],[],⟨4,4,[]⟩⟩]
theorem aiX(m y:Nat)(h:agi c):vt (aeF m y c) 0=⟨[agx m y c],[0],0,-1,[],[]⟩:=by
 rcases h with rfl|rfl|rfl|rfl|rfl|rfl|rfl|rfl|rfl|rfl|rfl|rfl<;>(show vt _ _=_;kernel_rfl)
theorem lp_next(m y:Nat)(h:agi c):afn (aaG (ahm m y c)) (ahm m y c)<=65536:=by
 have e:afn (aaG (ahm m y c)) (ahm m y c)=14:=by
  rcases h with rfl|rfl|rfl|rfl|rfl|rfl|rfl|rfl|rfl|rfl|rfl|rfl<;>(show afn _ _=_;kernel_rfl)
 rw[e]
 decide
def lqO (o:IOp):Prop:=o.code=1∨o.code=25∨(5<=o.code/\o.code<=17/\o.code≠8)
def lqV (o:IOp)(v:Int->Nat):Nat:=if o.code=1 then o.n else if o.code=25 then 0 else yW o.code (v o.a) (v o.b)
def aiD:List IOp->(Int->Nat)->(Int->Nat)
 | [],v=>v
 |o::os,v=>aiD os (setV v o.res (lqV o v))
theorem lq_step(E:IEnv)(call:Int->List Nat->Mach->Res Nat)(h:lqO o)(v:Int->Nat)(m:Mach):∃m',oV E call o v m=.ok (lqV o v) m'/\m'.fuel=m.fuel:=by
 unfold lqO at h;unfold oV lqV mU;rw[if_neg Zo,if_neg Zo]
 by_cases h1:o.code=1
 ·rw[if_pos h1,if_pos h1];exact⟨m,rfl,rfl⟩
 rw[if_neg h1,if_neg h1]
 iterate 10 rw[if_neg Zo]
 by_cases c:o.code=25
 ·rw[if_pos c,if_pos c];exact⟨_,rfl,rfl⟩
 rw[if_neg c,if_neg c];unfold iy;rw[if_neg Zo];exact⟨m,rfl,rfl⟩
theorem lq_ops (E:IEnv)(call:Int->List Nat->Mach->Res Nat):∀(os:List IOp) (v:Int->Nat) (m:Mach),(∀o∈os,lqO o)->(os.length:Int)<=m.fuel->∃m',iq E call os v m=.ok (aiD os v) m'/\m'.fuel=m.fuel-(os.length:Int)
 | [],v,m,_,_=>⟨m,rfl,by simp⟩
 |o::os,v,m,h,hf=>by
  rw[Nq] at hf;unfold iq;rw[if_neg Zo];obtain⟨m1,h1,h2⟩:=lq_step E call (h o (.head _)) v m.pay;have c:m.pay.fuel=m.fuel-1:=rfl;rw[h1];obtain⟨m2,h3,d⟩:=lq_ops E call os (setV v o.res (lqV o v)) m1 (fun q hq=>h q (.tail _ hq)) (by rw[h2,c];omega);exact⟨m2,h3,by rw[d,h2,c,Nq];omega⟩
theorem afQ{E:IEnv}{call:Int->List Nat->Mach->Res Nat}{at':Int}{b:IBlk}(hb:xz bl at'=b)(hs:∀o∈b.ops,lqO o)(hk:b.term.kind≠4/\b.term.kind≠5)(n:Nat)(args:List Nat)(v:Int->Nat)(m:Mach)(hf:(b.ops.length:Int)<m.fuel)
 {V:Int->Nat} (c:aiD b.ops (r7 b.params args v)=V):
 ∃m',m'.fuel=m.fuel-(b.ops.length:Int)-1/\tJ E call bl (n+1) at' args v m=tJ E call bl n (wK b.term (V b.term.a)).block ((wK b.term (V b.term.a)).args.map V) V m':=by
 obtain⟨m1,h1,h2⟩:=lq_ops E call b.ops (r7 b.params args v) m hs Zo;rw[c] at h1;refine⟨m1.pay,by show m1.fuel-1=_;rw[h2],?_⟩;rw[tJ,hb,h1]
 dsimp only
 rw[if_neg Zo,if_neg hk.1,if_neg hk.2]
theorem ah9{m:Nat}(h:agi c):∀b∈agx m y c,∀o∈b.ops,lqO o:=by
 have d:lqO ⟨c,6,4,1,0,[]⟩:=by unfold lqO;unfold agi at h;dsimp only;omega
 have h1:∀(r a b:Int) (k:Nat),lqO ⟨1,r,a,b,k,[]⟩:=fun _ _ _ _=> .inl rfl
 have h2:∀(r a b:Int) (k:Nat),lqO ⟨25,r,a,b,k,[]⟩:=fun _ _ _ _=> .inr (.inl rfl)
 have g:lqO ⟨6,5,3,2,0,[]⟩:=.inr (.inr ⟨by decide,by decide,by decide⟩);unfold agx;simp only[List.forall_mem_cons,List.not_mem_nil,false_implies,implies_true,and_true,h1,h2,g,d]
def ajy:IBlk:=⟨[3,4],[⟨1,10,0,0,3,[]⟩,⟨25,-1,10,0,254,[]⟩,⟨25,-1,3,0,255,[]⟩,⟨1,11,0,0,4,[]⟩,⟨25,-1,11,0,254,[]⟩,⟨25,-1,4,0,255,[]⟩],⟨2,3,[⟨2,[]⟩,⟨3,[]⟩]⟩⟩
def ajH (c:Int):IBlk:=⟨[],[⟨6,5,3,2,0,[]⟩,⟨1,12,0,0,5,[]⟩,⟨25,-1,12,0,254,[]⟩,⟨25,-1,5,0,255,[]⟩,⟨c,6,4,1,0,[]⟩,⟨1,13,0,0,6,[]⟩,⟨25,-1,13,0,254,[]⟩,⟨25,-1,6,0,255,[]⟩],⟨1,0,[⟨1,[5,6]⟩]⟩⟩
theorem lp_at1 (m y:Nat)(c:Int):xz (agx m y c) 1=ajy:=rfl
theorem lp_ta:ajy.term.a=3:=rfl
theorem lp_at2 (m y:Nat)(c:Int):xz (agx m y c) 2=ajH c:=rfl
theorem lp_at3 (m y:Nat)(c:Int):xz (agx m y c) 3=⟨[],[],⟨4,4,[]⟩⟩:=rfl
theorem lp_v1 (a z:Nat)(v:Int->Nat):aiD ajy.ops (r7 ajy.params [a,z] v) 3=a/\aiD ajy.ops (r7 ajy.params [a,z] v) 2=v 2:=⟨rfl,rfl⟩
theorem lp_v2 (c:Int)(v:Int->Nat):aiD (ajH c).ops (r7 (ajH c).params [] v) 5=yW 6 (v 3) (v 2)/\aiD (ajH c).ops (r7 (ajH c).params [] v) 2=v 2:=⟨rfl,rfl⟩
theorem lp_sub (k:Nat)(h:k+1<65536):yW 6 (k+1) 1=k:=by
 unfold yW;rw[if_neg Zd,if_pos rfl];omega
theorem lp_ed (a:Nat):wK ajy.term a=if a=0 then⟨3,[]⟩ else⟨2,[]⟩:=by
 unfold wK ajy
 dsimp only
 by_cases h:a=0
 ·rw[if_pos ⟨rfl,h⟩,if_pos h];rfl
 ·rw[if_neg (fun e=>h e.2),if_neg Zd,if_neg h];rfl
theorem lp_blk3 (E:IEnv)(call:Int->List Nat->Mach->Res Nat)(m y:Nat)(c:Int)(n:Nat)(v:Int->Nat)(M:Mach)(h:0<M.fuel):tJ E call (agx m y c) (n+1) 3 [] v M=.ok (v 4) M.pay:=by
 rw[tJ,lp_at3]
 show(if M.fuel<=0 then Res.trap 7 0 M else if(4:Int)=4 then Res.ok (if(4:Int)=-1 then 0 else v 4) M.pay else _)=_
 rw[if_neg Zo,if_pos rfl,if_neg Zd]
theorem aja(E:IEnv)(call:Int->List Nat->Mach->Res Nat){m:Nat}(h:agi c):∀(k n z:Nat) (v:Int->Nat) (M:Mach),k<65536->v 2=1->(k:Int)*16+10<=M.fuel->∃r M',tJ E call (agx m y c) (n+(2*k+2)) 1 [k,z] v M=.ok r M'
 |0,n,z,v,M,hk,hv,hf=>by
  obtain⟨M1,f1,h1⟩:=afQ (E:=E) (call:=call) (lp_at1 m y c) (ah9 (m:=m) (y:=y) h _ (.tail _ (.head _))) ⟨by decide,by decide⟩ (n+1) [0,z] v M (by show(6:Int)<_;omega) rfl;have i:M1.fuel=M.fuel-6-1:=f1;have e:n+(2*0+2)=n+1+1:=rfl;rw[e,h1,lp_ta,(lp_v1 0 z v).1,lp_ed,if_pos rfl]
  exact⟨_,_,lp_blk3 E call m y c n _ M1 Zo⟩
 |k+1,n,z,v,M,hk,hv,hf=>by
  obtain⟨M1,f1,h1⟩:=afQ (E:=E) (call:=call) (lp_at1 m y c) (ah9 (m:=m) (y:=y) h _ (.tail _ (.head _))) ⟨by decide,by decide⟩ (n+(2*k+2)+1) [k+1,z] v M (by show(6:Int)<_;omega) rfl;have i:M1.fuel=M.fuel-6-1:=f1;have e:n+(2*(k+1)+2)=n+(2*k+2)+1+1:=Zo;have d:=lp_v1 (k+1) z v;rw[e,h1,lp_ta,d.1,lp_ed,if_neg (Nat.succ_ne_zero k)];generalize aiD ajy.ops (r7 ajy.params [k+1,z] v)=V at d ⊢
  show ∃r M',tJ E call (agx m y c) (n+(2*k+2)+1) 2 [] V M1=.ok r M'
  obtain⟨M2,f2,h2⟩:=afQ (E:=E) (call:=call) (lp_at2 m y c) (ah9 (m:=m) (y:=y) h _ (.tail _ (.tail _ (.head _)))) ⟨by show(1:Int)≠4;decide,by show(1:Int)≠5;decide⟩ (n+(2*k+2)) [] V M1 (by show(8:Int)<_;omega) rfl;have j:M2.fuel=M1.fuel-8-1:=f2;have g:=lp_v2 c V;rw[h2];generalize aiD (ajH c).ops (r7 (ajH c).params [] V)=U at g ⊢
  show ∃r M',tJ E call (agx m y c) (n+(2*k+2)) 1 [U 5,U 6] U M2=.ok r M'
  have e5:U 5=k:=by
   rw[g.1,d.1,d.2,hv];exact lp_sub k hk
  rw[e5];exact aja E call h k n (U 6) U M2 Zo (by rw[g.2,d.2,hv]) Zo
theorem lp_v0 (m y:Nat)(c:Int)(v:Int->Nat):aiD (xz (agx m y c) 0).ops (r7 (xz (agx m y c) 0).params [] v) 0=m/\aiD (xz (agx m y c) 0).ops (r7 (xz (agx m y c) 0).params [] v) 2=1:=⟨rfl,rfl⟩
theorem lp_start(E:IEnv)(call:Int->List Nat->Mach->Res Nat){m:Nat}(h:agi c)(n:Nat)(M:Mach)(hm:m<65536)(hf:(m:Int)*16+30<=M.fuel):∃r M',tJ E call (agx m y c) (n+(2*m+2)+1) 0 [] (fun _=>0) M=.ok r M':=by
 obtain⟨M1,f1,h1⟩:=afQ (E:=E) (call:=call) (bl:=agx m y c) (at':=0) rfl (ah9 (m:=m) (y:=y) h _ (.head _)) ⟨by show(1:Int)≠4;decide,by show(1:Int)≠5;decide⟩ (n+(2*m+2)) [] (fun _=>0) M (by show(12:Int)<_;omega) rfl;have d:M1.fuel=M.fuel-12-1:=f1;have hv:=lp_v0 m y c (fun _=>0);rw[h1];generalize aiD (xz (agx m y c) 0).ops (r7 (xz (agx m y c) 0).params [] (fun _=>0))=V at hv ⊢
 show ∃r M',tJ E call (agx m y c) (n+(2*m+2)) 1 [V 0,V 1] V M1=.ok r M'
 rw[hv.1];exact aja E call h m n (V 1) V M1 hm hv.2 Zo
theorem lp_call(E:IEnv)(r:Nat){m:Nat}(h:agi c)(g:E.p.funcs.getD (0:Int).toNat []=agx m y c)(M:Mach)(hm:m<300)(hf:5000<=M.fuel):∃x M',xW E (r+1) 0 [] M=.ok x M':=by
 unfold xW;rw[g,if_neg (by show ¬(false=true);decide)];obtain⟨n,d⟩:∃n,M.fuel.toNat+1=n+(2*m+2)+1:=⟨M.fuel.toNat-(2*m+2),by omega⟩
 rw[d];exact lp_start E _ h n M Zo Zo
theorem lp_run{m:Nat}(h:agi c)(hm:m<300)(ram:ByteArray):(bQ ⟨vt (aeF m y c) 0,[],[]⟩ 0 [] ram 100000).kind=6:=by
 obtain⟨x,M',e⟩:=lp_call ⟨vt (aeF m y c) 0,[],[]⟩ 99 h (by rw[aiX m y h];rfl) ⟨v7 ram,100000,[],0,0⟩ hm (by show(5000:Int)<=100000;decide);unfold bQ;rw[e];rfl
theorem lp_sm (m y:Nat)(c:Int):SmP 100 (aeF m y c):=by
 refine⟨by show 1<=100;decide,fun f hf=>?_,by show 1<=100;decide,by show 0<=100;decide,by show 0<=100;decide⟩;rw[Jo.1 (show f∈ [ahm m y c] from hf)];refine⟨by show 4<=100;decide,fun b hb=>?_⟩;unfold ahm at hb;simp only[Jq,List.not_mem_nil,or_false] at hb;rcases hb with rfl|rfl|rfl|rfl<;>constructor<;>simp
theorem lp_ops{m:Nat}(h:agi c)(hm:m<65536)(d:y<65536):∀b∈ahm m y c,∀o∈b.ops,OpP o/\-1<=o.res/\lx o=false:=by
 have g:OpP ⟨c,6,4,1,0,[]⟩/\-1<=(6:Int)/\lx ⟨c,6,4,1,0,[]⟩=false:=by
  refine⟨⟨?_,fun e=>?_,by show(0:Nat)<65536;decide⟩,by decide,?_⟩
  ·unfold agi at h;dsimp only;omega
  ·exfalso;unfold agi at h;dsimp only at e;omega
  ·rcases h with rfl|rfl|rfl|rfl|rfl|rfl|rfl|rfl|rfl|rfl|rfl|rfl<;>rfl
 have h1:∀(r:Int) (k:Nat),0<=r->k<65536->OpP ⟨1,r,0,0,k,[]⟩/\-1<=r/\lx ⟨1,r,0,0,k,[]⟩=false:=fun r k hr hk=>⟨⟨⟨by show(1:Int)<=1;decide,by show(1:Int)<=27;decide⟩,fun e=>absurd (show(1:Int)=25 from e) Zd,hk⟩,by omega,rfl⟩
 have i:OpP ⟨6,5,3,2,0,[]⟩/\-1<=(5:Int)/\lx ⟨6,5,3,2,0,[]⟩=false:=⟨⟨⟨by decide,by decide⟩,fun e=>absurd (show(6:Int)=25 from e) Zd,by decide⟩,by decide,rfl⟩
 unfold ahm;intro b hb o ho;simp only[Jq,List.not_mem_nil,or_false] at hb;rcases hb with rfl|rfl|rfl|rfl<;>simp only[Jq,List.not_mem_nil,or_false] at ho
 ·rcases ho with rfl|rfl|rfl
  ·exact h1 0 m Zd hm
  ·exact h1 1 y Zd d
  ·exact h1 2 1 Zd Zd
 ·rcases ho with rfl|rfl
  ·exact i
  ·exact g
theorem aiI{m:Nat}(h:agi c):ajI (ahm m y c)=[]:=by
 rcases h with rfl|rfl|rfl|rfl|rfl|rfl|rfl|rfl|rfl|rfl|rfl|rfl<;>rfl
theorem lp_trcd{m:Nat}(h:agi c)(hm:m<65536)(d:y<65536)(h64:P64 (aeF m y c)):TrcdOk (aeF m y c) 0 (ahm m y c):=by
 have hs:=lp_sm m y c
 have hb:∀b∈ahm m y c,b.params.length<=15000/\b.ops.length<=15000:=fun b hb=>by
  have:=(hs.fs _ (Jo.2 rfl)).2 b hb;have h1:=this.par;have h2:=this.ops;omega
 refine trcd_of h64 (lp_valid m y h) (hs.sized Zd) (hs.small Zd) (fun f hf b hb o ho=>?_) rfl (lp_next m y h) hb (fun b hb o ho=>(lp_ops h hm d b hb o ho).2.1) (by rw[aiI h];decide);rw[Jo.1 (show f∈ [ahm m y c] from hf)] at hb;exact(lp_ops h hm d b hb o ho).1
theorem lp_fin{m:Nat}(h:agi c){n:Nat}(d:TrcdOk (aeF m y c) n bl)(g:bl=ahm m y c)(i:n=0)(ram:ByteArray)(fuel:Int):aeC ⟨rgsP (aeF m y c) 0,[],[],[]⟩ (bQ ⟨vt (aeF m y c) 0,[],[]⟩ 0 [] ram fuel).out:=by
 subst g i;have h1:=d.fin [] [] 0 [] ram fuel (fun x hx=>by cases hx) (fun x hx=>by cases hx);have e1:ajE (ahm m y c)=[]:=by unfold ajE;rw[aiI h];rfl
 have e2:objP (aeF m y c) ((0:Nat):Int)=[]:=by
  rw[ajp d.valid d.at_];unfold aeH;rw[aiI h];rfl
 rw[e1,e2] at h1;exact h1
end Go.Proofs.YtoahcpkibpomcaaGreat
