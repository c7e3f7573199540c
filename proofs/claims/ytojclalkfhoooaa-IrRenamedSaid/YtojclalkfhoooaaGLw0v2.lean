/- Part of a proof. -/
import Derived.Test.YtojclalkfhoooaaMkX
set_option linter.all false
set_option maxHeartbeats 4000000
set_option maxRecDepth 100000
namespace Go.Proofs.Ytojclalkfhoooaa
open Go.RowKit
variable {w:World}
theorem jP{s:List Int}{sv:Value}(hs:zY w w.heap.size sv s):
 Y 44 #[sv] w (fun e w'=>∃V:PV,e=.returned (yH V (uR s))/\(∀W,StaysL w.heap.size w' W->ProgIn W W.heap.size V (uR s))/\F w w'):=by
 obtain⟨sa,sc,h8,_,_⟩:=hs.form;subst h8;have HS:=Ja hs;have f2:=mk_bank;obtain⟨Z,hZ⟩:∃Z,madeCells #[Value.int .u8 0] 4096=Z:=⟨_,rfl⟩
 rw[hZ] at f2;have HZ:=Ja hZ;clear hs hZ;go_enter Try.func44,Try.ntmps44;go_upto_region 2 with fail;generalize c3:(w.alloc (U #[O,O,A 0,A 0,O,O] 29)).alloc (U Z 5)=W0;have e7:Z=((uQ 0).map wz).toArray:=by rw[<-HZ.out,yA,mM,List.map_replicate];rfl
 have e9:L W0 w.heap.size #[O,O,A 0,A 0,O,O] 29:=by rw[<-c3];exact zB (zI rfl)
 have f5:L W0 (w.heap.size+1) ((uQ 0).map wz).toArray 5:=by rw[<-c3,<-e7];exact zI Zs
 have d6:F w W0:=by rw[<-c3];exact((Below.refl _ _).alloc (Je _) _).alloc Zs _
 have H0:=Ja (Jb f5 (Jb e9 d6));obtain⟨rr,d0⟩:∃rr,w.heap.size=rr:=⟨_,rfl⟩
 rw[d0] at H0 ⊢;obtain⟨bb,d7⟩:∃bb,rr+1=bb:=⟨_,rfl⟩
 rw[d7] at H0 ⊢;have e4:=Ja (Jb d0 d7);clear e7 e9 f5 d6 c3 f2 d0 d7 HZ;go_wp2
 go_loopw [4] (fun kv wx=>∃k:Nat,k<=4096/\kv=A k/\Hid (L wx bb ((uQ k).map wz).toArray 5/\L wx rr #[O,O,A 0,A 0,O,O] 29/\Below rr w wx)) (fun kv _=>4096-(intOf kv).toNat)
 case atStart=>exact⟨0,Jt _,rfl,H0⟩
 case round=>
  obtain⟨k,hk,rfl,l⟩:=hrel
  by_cases a2:k<4096
  ·have a5:(k:Int)<4096:=Zo;have e3:=Ja a2;obtain⟨x,hx⟩:∃x,(uQ k)[k]? =some x:=⟨_,Jd (by rw[pM];exact a2)⟩
   have cx:G wr bb k (.int .u8 (x:Int)):=zA l.out.1 (by simp[hx,wz]);have fx:T wr bb k:=zE l.out.1;have j5:=lt_of_block l.out.1;have hq:k*k<=4095*4095:=Nat.mul_le_mul Zo Zo;have j3:(0:Int)<=(k:Int)*(k:Int):=by rw[<-Int.natCast_mul];exact Int.natCast_nonneg _
   have j2:(k:Int)*(k:Int)<=16769025:=by rw[<-Int.natCast_mul];omega
   clear a2 hx hq;go_wp2;have e1:((k:Int)*(k:Int)+(k:Int)/256)%256=((rp k:Nat):Int):=by unfold rp;simp
   rw[e1];refine⟨⟨k+1,e3.out,by go_num,Ja ⟨?_,zR (a:=⟨bb,k,none⟩) l.out.2.1 (by have:=e4.out.2;show rr≠bb;omega),l.out.2.2.setCell (by have:=e4.out.2;show rr<=bb;omega) _⟩⟩,by have:=e3.out;simp[intOf];omega⟩;rw[zD l.out.1,<-kC e3.out];simp[Ox,wz]
  ·obtain rfl:k=4096:=by omega
   have a5:¬(((4096:Nat):Int)<4096):=Zo;have b7:=l.out.1;rw[nu] at b7;have d5:=pN b7 (n:=4096) (by unfold iu;simp);rw[mq] at d5;have hrl:=lt_of_block l.out.2.1;clear a2 b7 hk;obtain⟨bank,b0⟩:∃b,sG=b:=⟨_,rfl⟩
   rw[b0] at d5;have i7:=Ja b0;clear b0;go_upto_region 9 with fail;have t:=md_setup (sv:=.slice sa s.length sc) e4.out.1 l.out.2.1 l.out.2.2;rw[i7.out] at t;generalize (((wr.alloc (U #[.string bank] 9)).alloc (U #[O,O,A 0,A (-1),N (wr.heap.size+1+1) 3 3,N wr.heap.size 1 1] 29)).alloc (U #[A (-1),I 16384,I 16,A (-1),I 16640,I 7,A 0,I 128,I 32] 51)).alloc (U #[.slice sa s.length sc,A 0,Q (wr.heap.size+1),A 0,O,A 0,A 0,O,A 0] 120)=W1 at *;generalize wr.heap.size+1+1+1=pm at *;generalize wr.heap.size+1+1=db at *;generalize wr.heap.size+1=pp at *;generalize wr.heap.size=sb at *;have H1:=Ja t;have c9:=t.bel.size
   have a1:Y 59 #[Q pm,A 4] W1 (fun e w'=>∃z:Nat,z<4/\Hid (mdN s=1+z)/\e=.returned (A z)/\Hid (MdHd w (.slice sa s.length sc) (O) rr sb pp db pm (-1) (O) [] 1 w')):=
    (tf t.mkr rfl rfl (HS.out.below zO t.bel) (n:=4) Zd Zd Zd).mono (fun e w' ⟨h1,h2,h3⟩=>⟨_,rX s 0 Zd,Ja rfl,h1,Ja (t.tick h2 h3)⟩)
   have a7:=Ja a1;clear t d5 a5 hrl a1;go_upto_region 10 with(go_at_call 59;go_must (refine a7.out.mono ?_;rintro e W2 ⟨z,e8,HN,rfl,f9⟩))
   obtain⟨n,hn⟩:∃n,1+z=n:=⟨_,rfl⟩
   have f1:1+(z:Int)=(n:Int):=Zo;rw[f1];have c2:mdN s=n:=HN.out.trans hn;have h9:1<=n/\n<=4:=Zo;have HN:=Ja c2;clear c2 f1 hn e8 a7 H1 c9;go_wp2
   go_loopw [8] (fun kv wx=>∃(k:Nat) (av:Value),k<=n/\kv=A k/\Hid (MdHd w (.slice sa s.length sc) av rr sb pp db pm (-1) (O) (yS s k) (sw k) wx)) (fun kv _=>n-(intOf kv).toNat)
   case atStart=>exact⟨0,_,Jt _,rfl,f9⟩
   case round=>
    obtain⟨k,av,hk,rfl,l⟩:=hrel
    by_cases a2:k<n
    ·have a5:(k:Int)<(n:Int):=Zo;obtain⟨ij,f4,c8,c7,c5⟩:=info_parts Try.info_int
     by_cases b3:k=0
     ·have i1:¬(0:Int)<(k:Int):=Zo;have c4:=Ja b3;clear b3;obtain⟨aa,ac,b4⟩:=zG l.out.own;have y:=l.out.own;rw[yY] at b4 y;subst b4;have c9:=l.out.bel.size;have c1:=zA (i:=1) l.out.prog rfl;have f0:=lt_of_block l.out.prog;have HO:=Ja y;clear y;go_wp2_with (at_builtin;go_must (refine zK _ rfl (.tmp 61) (.tmp 63) 22 rfl w.heap.size 3 ij (A 0) 1 8 Try.underlying22 f4 c8 c7 c5 rfl Zd (.slice aa k ac) k ((yS s k).map zN) rfl (HO.out.alloc _) _ 1 [zN 0] rfl (yM.one (zI rfl) rfl) (by unfold maxLen;omega) Zo Zt ?_;intro v9 w9 r d b8;obtain⟨b2,b1,rfl⟩:=zG r;have a0:=zL d (zB l.out.prog) (zC HO.out l.out.prog (.inr Zd));have g6:=zA (i:=1) a0 rfl;have g5:T w9 pp 1:=zE a0;have g2:=lt_of_block a0;have HG:=Ja (Jb r d);clear r d b8 a0))
      go_roundw
      case rel=>
       have hq:=l.out.push (x:=0) (av':=.slice b2 (k+1) b1) HG.out.2 (by rw[yY];exact HG.out.1);refine⟨k+1,.slice b2 (k+1) b1,a2,by go_num,Ja ?_⟩;have e1:yS s (k+1)=yS s k++ [0]:=by rw[qC,if_pos c4.out]
       have e2:sw (k+1)=sw k:=by have:=c4.out;subst this;rfl
       rw[e1,e2];exact hq
      case measure=>simp[intOf];omega
     ·have i1:(0:Int)<(k:Int):=Zo;have c4:=Ja b3
      have a1:Y 59 #[Q pm,A 4] wr (fun e w'=>∃z:Nat,z<4/\Hid (tk0 s k 4=z)/\e=.returned (A z)/\Hid (MdHd w (.slice sa s.length sc) av rr sb pp db pm (-1) (O) (yS s k) (k+1) w')):=by
       have e:sw k=k:=by unfold sw;rw[if_neg b3]
       have hm:=l.out;rw[e] at hm;exact(tf hm.mkr rfl rfl (HS.out.below zO hm.bel) (n:=4) Zd Zd Zo).mono (fun e w' ⟨h1,h2,h3⟩=>⟨_,rX s k Zd,Ja rfl,h1,Ja (hm.tick h2 h3)⟩)
      have a7:=Ja a1;clear b3 a1;go_upto_region 16 with(go_at_call 59;go_must (refine a7.out.mono ?_;rintro e W3 ⟨z,e8,i5,rfl,a3⟩))
      obtain⟨aa,ac,b4⟩:=zG a3.out.own;have y:=a3.out.own;rw[yY] at b4 y;subst b4;have c9:=a3.out.bel.size;have c1:=zA (i:=1) a3.out.prog rfl;have f0:=lt_of_block a3.out.prog;have HO:=Ja y;clear y;go_wp2_with (at_builtin;go_must (refine zK _ rfl (.tmp 61) (.tmp 63) 22 rfl w.heap.size 3 ij (A 0) 1 8 Try.underlying22 f4 c8 c7 c5 rfl Zd (.slice aa k ac) k ((yS s k).map zN) rfl (HO.out.alloc _) _ 1 [zN (z:Int)] rfl (yM.one (zI rfl) rfl) (by unfold maxLen;omega) Zo Zt ?_;intro v9 w9 r d b8;obtain⟨b2,b1,rfl⟩:=zG r;have a0:=zL d (zB a3.out.prog) (zC HO.out a3.out.prog (.inr Zd));have g6:=zA (i:=1) a0 rfl;have g5:T w9 pp 1:=zE a0;have g2:=lt_of_block a0;have HG:=Ja (Jb r d);clear r d b8 a0))
      go_roundw
      case rel=>
       have hq:=a3.out.push (x:=(z:Int)) (av':=.slice b2 (k+1) b1) HG.out.2 (by rw[yY];exact HG.out.1);refine⟨k+1,.slice b2 (k+1) b1,a2,by go_num,Ja ?_⟩;have e1:yS s (k+1)=yS s k++ [(z:Int)]:=by rw[qC,if_neg c4.out,i5.out]
       have e2:sw (k+1)=k+1:=rfl;rw[e1,e2];exact hq
      case measure=>simp[intOf];omega
    ·obtain rfl:n=k:=by omega
     have a5:¬(n:Int)<(n:Int):=Zo;have e:sw n=n:=by unfold sw;rw[if_neg Zo]
     have f3:=mk_funcs n h9.2;have a6:=l.out;rw[e] at a6;have p0:=zA (i:=0) a6.prog rfl;have g9:T wr pp 0:=zE a6.prog;have f0:=lt_of_block a6.prog;have c:=Ja (Jb (a6.funcs (U (List.replicate n (Value.slice none 0 0)).toArray 43) (N wr.heap.size n n)) (zI (W:=wr.setCell ⟨pp,0,none⟩ (N wr.heap.size n n)) (o:=U (List.replicate n (Value.slice none 0 0)).toArray 43) (B:=wr.heap.size) Zs));have i2:=a6.bel.size;have d8:(List.replicate n (Value.slice none 0 0)).toArray=Array.replicate n (Value.slice none 0 0):=by simp
     rw[d8] at c f3;clear d8;clear a2 e a6 l f9;go_upto_region 18 with fail;generalize i3:(wr.setCell ⟨pp,0,none⟩ (N wr.heap.size n n)).alloc (U (Array.replicate n (Value.slice none 0 0)) 43)=W3 at *;generalize k2:wr.heap.size=fb at *;clear p0 g9 f3 a5 i3;obtain⟨m,hm⟩:∃m,n=m+1:=⟨n-1,by omega⟩
     have j4:(n:Int)-1=(m:Int):=Zo;have i0:m<n:=Zo;have d4:n-1=m:=Zo;have e0:=Ja (Jb hm d4);clear hm d4;obtain⟨x,hx⟩:∃x,(yS s n)[m]? =some x:=⟨_,Jd (by rw[yY];exact i0)⟩
     obtain⟨g,ac,e,k1,k0⟩:=c.out.1.own.form (by rw[yY];omega);rw[yY] at e;subst e;have c1:=zA (i:=1) c.out.1.prog rfl;have g1:=lt_of_block c.out.1.prog
     have h6:G W3 g m (A x):=by
      have h0:=c.out.1.own;rw[yY] at h0;have h1:=h0.cellAt m Zo;exact h1.trans (by rw[Jr,hx];rfl)
     have j:oJ s=(decide (1<n) && decide (x=0)):=by
      unfold oJ;rw[HN.out,e0.out.2,Jj,hx];rfl
     have g0:pm<W3.heap.size:=lt_of_block c.out.1.mkr;have g3:fb<W3.heap.size:=lt_of_block c.out.2
     have d2:fb≠pm:=fun e=>by
      have h1:=c.out.1.mkr;have h2:=c.out.2;rw[e,h1] at h2
      injection h2 with h3
      injection h3 with _ h4
      exact absurd h4 Zd
     have a1:Y 59 #[Q pm,A 2] W3 (fun e w'=>∃z:Nat,z<2/\Hid (tk0 s n 2=z)/\e=.returned (A z)/\Hid (MdHd w (.slice sa s.length sc) (N g n ac) rr sb pp db pm (-1) (N fb n n) (yS s n) (n+1) w'/\L w' fb (Array.replicate n (Value.slice none 0 0)) 43)):=
      (tf c.out.1.mkr rfl rfl (HS.out.below zO c.out.1.bel) (n:=2) Zd Zd Zo).mono (fun e w' ⟨h1,h2,h3⟩=>⟨_,rX s n Zd,Ja rfl,h1,Ja ⟨c.out.1.tick h2 h3,h3.blk c.out.2 d2⟩⟩)
     have a7:=Ja a1;have e5:=Ja (Jb j hx);have k3:=Ja d2;clear j hx a1 d2;have d3:1<n->decide ((1:Int)<(n:Int))=true/\decide (1<n)=true:=fun h=>⟨by rw[decide_eq_true_iff];omega,by rw[decide_eq_true_iff];exact h⟩
     have g4:=Ja d3;clear d3
     go_cut [89] (fun v wx=>∃b:Bool,v=.bool b/\Hid ((b=true↔oJ s=true/\tk0 s n 2=0)/\MdHd w (.slice sa s.length sc) (N g n ac) rr sb pp db pm (-1) (N fb n n) (yS s n) (sP s) wx/\L wx fb (Array.replicate n (Value.slice none 0 0)) 43))
     case first=>
      by_cases h1:1<n
      ·have f7:(1:Int)<(n:Int):=Zo;obtain⟨i4,f6⟩:=g4.out h1
       by_cases a4:x=0
       ·have h7:(x==0)=true:=by rw[beq_iff_eq];exact a4
        have j:oJ s=true:=by rw[e5.out.1];simp[h1,a4]
        have e6:=Ja j;have f8:=Ja a4;clear j a4;have d1:sP s=n+1:=by unfold sP;rw[e6.out,HN.out];rfl
        have d9:=Ja d1;clear d1
        by_cases c0:tk0 s n 2=0
        ·have b5:=Ja c0;clear c0;go_wp2_with (go_at_call 59;go_must (refine a7.out.mono ?_;rintro e w4 ⟨z,h5,HZ,rfl,b6⟩;obtain rfl:z=0:=HZ.out.symm.trans b5.out))
         go_meet;refine⟨true,rfl,Ja ⟨⟨(fun _=>⟨e6.out,b5.out⟩),(fun _=>rfl)⟩,?_,b6.out.2⟩⟩;rw[d9.out];exact b6.out.1
        ·have b5:=Ja c0;clear c0;go_wp2_with (go_at_call 59;go_must (refine a7.out.mono ?_;rintro e w4 ⟨z,h5,HZ,rfl,b6⟩;have tz:((z:Int)==0)=false:=by rw[beq_eq_false_iff_ne];have:=HZ.out;have:=b5.out;omega))
         go_meet;refine⟨false,rfl,Ja ⟨⟨(fun e=>by cases e),(fun e=>absurd e.2 b5.out)⟩,?_,b6.out.2⟩⟩;rw[d9.out];exact b6.out.1
       ·have h7:(x==0)=false:=by rw[beq_eq_false_iff_ne];exact a4
        have f8:=Ja a4;clear a4;go_wp2;go_meet;have j:oJ s=false:=by rw[e5.out.1];simp[f8.out]
        refine⟨false,rfl,Ja ⟨⟨(fun e=>by cases e),(fun e=>by rw[j] at e;cases e.1)⟩,?_,c.out.2⟩⟩;have e:sP s=n:=by unfold sP;rw[j,HN.out];rfl
        rw[e];exact c.out.1
      ·have f7:¬(1:Int)<(n:Int):=Zo;have f6:decide (1<n)=false:=by rw[decide_eq_false_iff_not];exact h1
       have i4:decide ((1:Int)<(n:Int))=false:=by rw[decide_eq_false_iff_not];exact f7
       go_wp2;go_meet;have j:oJ s=false:=by rw[e5.out.1,f6];rfl
       refine⟨false,rfl,Ja ⟨⟨(fun e=>by cases e),(fun e=>by rw[j] at e;cases e.1)⟩,?_,c.out.2⟩⟩;have e:sP s=n:=by unfold sP;rw[j,HN.out];rfl
       rw[e];exact c.out.1
     case rest=>
     obtain⟨b,rfl,HB⟩:=hcut;have b9:=Ja HB;clear c1 g1 h6 g0 g3;have p3:=zA (i:=3) HB.out.2.1.prog rfl;have j1:T wc pp 3:=zE HB.out.2.1.prog;have j0:=lt_of_block HB.out.2.1.prog
     have i6:=Ja (Jb (HB.out.2.1.hnd (m:Int)) (zR (a:=⟨pp,3,none⟩) (u:=A m) HB.out.2.2 (fun e=>by
      have h1:=HB.out.2.1.prog;have h2:=HB.out.2.2;rw[e] at h2;rw[show(⟨pp,3,none⟩:Addr).block=pp from rfl,h1] at h2
      injection h2 with h3
      injection h3 with _ h4
      exact absurd h4 Zd)))
     go_upto_if 89 with fail
     go_cut [] (fun wx=>Hid (MdHd w (.slice sa s.length sc) (N g n ac) rr sb pp db pm (vw s) (N fb n n) (yS s n) (sP s) wx/\L wx fb (Array.replicate n (Value.slice none 0 0)) 43))
     case first=>
      cases b
      ·go_wp2;go_meet;have e:vw s=-1:=by unfold vw;rw[if_neg (fun e=>by rw[HN.out] at e;have:=b9.out.out.1.2 e;cases this)]
       rw[e];exact Ja b9.out.out.2
      ·go_wp2;go_meet;have e:vw s=(m:Int):=by unfold vw;rw[HN.out,if_pos (b9.out.out.1.1 (by trivial)),e0.out.2]
       rw[e];exact i6
     case rest=>
     refine ‹∀(a:Act) (w:World),Code.wp Try.prog _ _ a w->_› _ _ ?_;have c2:=HN.out;subst c2;exact j9 HS hcut i2 e0.out.2 _ _ _ _ _ _ _ _ _ _ _ _ _ _ _ _ _ _ _ _ _ _ _ _ _ _ _ _ _ _ _ _ _ _ _ _ _ _ _ _ _ _ _ _ _ _ _ _ _ _ _ _ _ _ _ _ _ _ _ _ _ _ _ _ _ _ _ _ _ _ _ _ _ _ _ _ _ _ _ _ _ _ _ _ _ _ _ _ _ _ _ _ _ _ _ _ _ _ _ _ _ _ _ _ _ _ _ _ _ _ _ _ _ _ _ _ _ _ _ _ _ _ _ _ _ _ _ _ _ _ _ _ _ _ _ _ _ _ _ _ _ _ _ _ _ _ _ _ _ _ _ _ _ _ _ _ _ _ _ _ _ _ _ _ _ _ _ _ _ _ _ _ _ _ _ _ _ _ _ _ _ _ _ _ _ _ _ _ _ _ _ _ _ _ _ _
def oC (w:World)(p:IProg)(e:Ending)(w':World):Prop:=∃(fa:Option Addr) (fc:Nat) (aa:Option Addr) (ac:Nat) (da:Option Addr) (dc:Nat) (ba:Option Addr) (bc:Nat),e=.returned (.agg (R p fa fc aa ac da dc ba bc))/\
 ProgIn w' w'.heap.size ⟨.slice fa p.funcs.length fc,.slice aa p.args.length ac,.slice da p.data.length dc,.slice ba p.banks.length bc⟩ p/\F w w'
theorem nE{w0:World}{V:PV}{p:IProg}(h:ProgIn w w.heap.size V p)(hb:F w0 w):oC w0 p (.returned (yH V p)) w:=by
 obtain⟨fa,fc,h1,_,_⟩:=h.funcs.form;obtain⟨aa,ac,h2,_,_⟩:=h.args.form;obtain⟨da,dc,h3,_,_⟩:=h.data.form;obtain⟨ba,bc,c,_,_⟩:=h.banks.form;obtain⟨v1,v2,v3,v4⟩:=V;simp only at h1 h2 h3 c;subst h1 h2 h3 c;exact⟨fa,fc,aa,ac,da,dc,ba,bc,rfl,h,hb⟩
theorem pJ{r o L:Nat}{vs:List Value}(h:r<L):StaysL L w (w.setCells r o vs):=
 ⟨Ul (y8 r vs o w).symm,⟨(ze r vs o w).1,(ze r vs o w).2.1,(ze r vs o w).2.2⟩,fun k hk _=>ye r k Zo vs o w⟩
theorem abW{s:List Int}{sv:Value}(hs:zY w w.heap.size sv s):Y 18 #[sv] w (oC w (uR (s.take 200))):=by
 obtain⟨sa,sc,rfl,a4,a3⟩:=hs.form;obtain⟨k,hk,m⟩:=gj s.length 200;have a1:∀(ts:Array TypeId) (t:TypeId) (W:World),(Builtin.min_ ts t #[A (s.length:Int),A 200]).run Try.prog W=.ok (A k) W:=fun ts t W=>by rw[hk];exact run_min_int2 ..
 have a5:(k:Int)<=(sc:Int):=Zo;have x:=lw hs 200;rw[<-m] at x
 have hm:∀W,F w W->Y 44 #[.slice sa k sc] W (fun e w'=>oC W (uR (s.take 200)) e w'/\∃V,e=.returned (yH V (uR (s.take 200)))/\∀U,StaysL W.heap.size w' U->ProgIn U U.heap.size V (uR (s.take 200))):=fun W hb=>(jP ((x.below zO hb).mono zO hb.size)).mono fun e w' ⟨V,he,hp,d⟩=>by
  subst he;exact⟨nE (hp _ (StaysL.refl _ _)) d,V,rfl,hp⟩
 have a2:(uR (s.take 200)).funcs.length<=4:=by rw[qA];exact(sm _).2
 generalize uR (s.take 200)=p at *;have HM:=Ja hm;clear hm hk m x hs;have u:F w (w.alloc (.cells #[O,O,A 0,A 0,O,O] 29)):=(Below.refl _ _).alloc (Je _) _;have j:=zI (W:=w) (o:=.cells #[O,O,A 0,A 0,O,O] 29) rfl;have h:=Ja (Jb u j);clear u j;go_enter Try.func18,Try.ntmps18;go_wp2_with (go_at_call 44;go_must (refine(HM.out _ h.out.1).mono ?_;rintro e w1 ⟨⟨fa,fc,aa,ac,da,dc,ba,bc,rfl,hp,g⟩,V,hV,l⟩;have c:=zH g h.out.2 (lt_of_block h.out.2);have c0:=zA (i:=0) c rfl;have c1:=zA (i:=1) c rfl;have c2:=zA (i:=2) c rfl;have c3:=zA (i:=3) c rfl;have c4:=zA (i:=4) c rfl;have c5:=zA (i:=5) c rfl;have cf:∀i,T w1 w.heap.size i:=fun i=>zE c;have cl:=lt_of_block c;have y:=Ja (Jb hp (Jb g (Jb c (Jb hV l))));clear hp g c hV l))
 refine bodyPost_ret (v:=.agg (R p fa fc aa ac da dc ba bc)) ?_ rfl ?_
 ·rw[zM rfl];go_simp
 ·have d:=h.out.1.trans (y.out.2.1.mono h.out.1.size);have a0:(w.alloc (.cells #[O,O,A 0,A 0,O,O] 29)).heap.size=w.heap.size+1:=by simp
  have hz:Below w.heap.size w1 (w1.setCells w.heap.size 0 [.slice fa p.funcs.length fc,.slice aa p.args.length ac,A p.entry,A p.handler,.slice da p.data.length dc,.slice ba p.banks.length bc]):=qu _ _ _ _;have hU:=y.out.2.2.2.2 _ (pJ (vs:=[.slice fa p.funcs.length fc,.slice aa p.args.length ac,A p.entry,A p.handler,.slice da p.data.length dc,.slice ba p.banks.length bc]) (o:=0) (w:=w1) (r:=w.heap.size) (by rw[a0];omega));have hr:=nE hU (d.trans hz);rw[<-y.out.2.2.2.1] at hr;exact hr
end Go.Proofs.Ytojclalkfhoooaa
