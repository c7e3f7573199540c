/- Part of a proof. -/
import Derived.Test.YtoahcpkibpomcaaMkX
set_option linter.all false
set_option maxHeartbeats 16000000
set_option maxRecDepth 100000
namespace Go.Proofs.Ytoahcpkibpomcaa
open Go.RowKit
variable {w w':World}{bl c:List IBlk}{K:SK}{i j k:Nat}{x:Int}{ns o1 o2:List Nat}
theorem jP{s:List Int}{sv:Value}(hs:zY w w.heap.size sv s):
 T 25 #[sv] w (fun e w'=>∃V:PV,e=.returned (yH V (uR s))/\(∀W,StaysL w.heap.size w' W->ProgIn W W.heap.size V (uR s))/\O w w'):=by
 obtain⟨sa,sc,h9,_,_⟩:=hs.form;subst h9;have HS:=Ja hs;have f3:=mk_bank;obtain⟨Z,hZ⟩:∃Z,madeCells #[Value.int .u8 0] 4096=Z:=⟨_,rfl⟩
 rw[hZ] at f3;have HZ:=Ja hZ;clear hs hZ;go_enter Try.func25,Try.ntmps25;go_upto_region 2 with fail;generalize c2:(w.alloc (A #[F,F,I 0,I 0,F,F] 44)).alloc (A Z 5)=W0;have e7:Z=((uQ 0).map wz).toArray:=by rw[<-HZ.out,yA,mM,List.map_replicate];rfl
 have f0:Q W0 w.heap.size #[F,F,I 0,I 0,F,F] 44:=by rw[<-c2];exact zB (zI rfl)
 have f6:Q W0 (w.heap.size+1) ((uQ 0).map wz).toArray 5:=by rw[<-c2,<-e7];exact zI Zs
 have d5:O w W0:=by rw[<-c2];exact((Below.refl _ _).alloc (Je _) _).alloc Zs _
 have H0:=Ja (Jb f6 (Jb f0 d5));obtain⟨rr,c9⟩:∃rr,w.heap.size=rr:=⟨_,rfl⟩
 rw[c9] at H0 ⊢;obtain⟨bb,d6⟩:∃bb,rr+1=bb:=⟨_,rfl⟩
 rw[d6] at H0 ⊢;have e4:=Ja (Jb c9 d6);clear e7 f0 f6 d5 c2 f3 c9 d6 HZ;go_wp2
 go_loopw [4] (fun kv wx=>∃k:Nat,k<=4096/\kv=I k/\Hid (Q wx bb ((uQ k).map wz).toArray 5/\Q wx rr #[F,F,I 0,I 0,F,F] 44/\Below rr w wx)) (fun kv _=>4096-(intOf kv).toNat)
 case atStart=>exact⟨0,Jt _,rfl,H0⟩
 case round=>
  obtain⟨k,hk,rfl,l⟩:=hrel
  by_cases a2:k<4096
  ·have a5:(k:Int)<4096:=Zo;have e3:=Ja a2;obtain⟨x,hx⟩:∃x,(uQ k)[k]? =some x:=⟨_,Jd (by rw[pM];exact a2)⟩
   have cx:U wr bb k (.int .u8 (x:Int)):=zA l.out.1 (by simp[hx,wz]);have fx:Y wr bb k:=zE l.out.1;have k9:=lt_of_block l.out.1;have hq:k*k<=4095*4095:=Nat.mul_le_mul Zo Zo;have k6:(0:Int)<=(k:Int)*(k:Int):=by rw[<-Int.natCast_mul];exact Int.natCast_nonneg _
   have k5:(k:Int)*(k:Int)<=16769025:=by rw[<-Int.natCast_mul];omega
   clear a2 hx hq;go_wp2;have e1:((k:Int)*(k:Int)+(k:Int)/256)%256=((rp k:Nat):Int):=by unfold rp;simp
   rw[e1];refine⟨⟨k+1,e3.out,by go_num,Ja ⟨?_,zR (a:=⟨bb,k,none⟩) l.out.2.1 (by have:=e4.out.2;show rr≠bb;omega),l.out.2.2.setCell (by have:=e4.out.2;show rr<=bb;omega) _⟩⟩,by have:=e3.out;simp[intOf];omega⟩;rw[zD l.out.1,<-kC e3.out];simp[Ox,wz]
  ·obtain rfl:k=4096:=by omega
   have a5:¬(((4096:Nat):Int)<4096):=Zo;have b6:=l.out.1;rw[nu] at b6;have d4:=pN b6 (n:=4096) (by unfold iu;simp);rw[mq] at d4;have hrl:=lt_of_block l.out.2.1;clear a2 b6 hk;obtain⟨bank,a9⟩:∃b,sG=b:=⟨_,rfl⟩
   rw[a9] at d4;have k2:=Ja a9;clear a9;go_upto_region 9 with fail;have t:=md_setup (sv:=.slice sa s.length sc) e4.out.1 l.out.2.1 l.out.2.2;rw[k2.out] at t;generalize (((wr.alloc (A #[.string bank] 9)).alloc (A #[F,F,I 0,I (-1),N (wr.heap.size+1+1) 3 3,N wr.heap.size 1 1] 44)).alloc (A #[I (-1),G 16384,G 16,I (-1),G 16640,G 7,I 0,G 128,G 32] 55)).alloc (A #[.slice sa s.length sc,I 0,L (wr.heap.size+1),I 0,F,I 0,I 0,F,I 0] 99)=W1 at *;generalize wr.heap.size+1+1+1=pm at *;generalize wr.heap.size+1+1=db at *;generalize wr.heap.size+1=pp at *;generalize wr.heap.size=sb at *;have H1:=Ja t;have c8:=t.bel.size
   have a1:T 55 #[L pm,I 4] W1 (fun e w'=>∃z:Nat,z<4/\Hid (mdN s=1+z)/\e=.returned (I z)/\Hid (MdHd w (.slice sa s.length sc) (F) rr sb pp db pm (-1) (F) [] 1 w')):=
    (tf t.mkr rfl rfl (HS.out.below zO t.bel) (n:=4) Zd Zd Zd).mono (fun e w' ⟨h1,h2,h3⟩=>⟨_,rX s 0 Zd,Ja rfl,h1,Ja (t.tick h2 h3)⟩)
   have a8:=Ja a1;clear t d4 a5 hrl a1;go_upto_region 10 with(go_at_call 55;go_must (refine a8.out.mono ?_;rintro e W2 ⟨z,e8,HN,rfl,g0⟩))
   obtain⟨n,hn⟩:∃n,1+z=n:=⟨_,rfl⟩
   have f2:1+(z:Int)=(n:Int):=Zo;rw[f2];have c0:mdN s=n:=HN.out.trans hn;have i0:1<=n/\n<=4:=Zo;have HN:=Ja c0;clear c0 f2 hn e8 a8 H1 c8;go_wp2
   go_loopw [8] (fun kv wx=>∃(k:Nat) (av:Value),k<=n/\kv=I k/\Hid (MdHd w (.slice sa s.length sc) av rr sb pp db pm (-1) (F) (yS s k) (sw k) wx)) (fun kv _=>n-(intOf kv).toNat)
   case atStart=>exact⟨0,_,Jt _,rfl,g0⟩
   case round=>
    obtain⟨k,av,hk,rfl,l⟩:=hrel
    by_cases a2:k<n
    ·have a5:(k:Int)<(n:Int):=Zo;obtain⟨ij,f5,c7,c5,c4⟩:=info_parts Try.info_int
     by_cases b2:k=0
     ·have i2:¬(0:Int)<(k:Int):=Zo;have c3:=Ja b2;clear b2;obtain⟨aa,ac,b3⟩:=zG l.out.own;have y:=l.out.own;rw[yY] at b3 y;subst b3;have c8:=l.out.bel.size;have c1:=zA (i:=1) l.out.prog rfl;have f1:=lt_of_block l.out.prog;have HO:=Ja y;clear y;go_wp2_with (at_builtin;go_must (refine zK _ rfl (.tmp 61) (.tmp 63) 25 rfl w.heap.size 3 ij (I 0) 1 8 Try.underlying25 f5 c7 c5 c4 rfl Zd (.slice aa k ac) k ((yS s k).map zN) rfl (HO.out.alloc _) _ 1 [zN 0] rfl (yM.one (zI rfl) rfl) (by unfold maxLen;omega) Zo Zt ?_;intro v9 w9 q d b7;obtain⟨b1,b0,rfl⟩:=zG q;have a0:=zL d (zB l.out.prog) (zC HO.out l.out.prog (.inr Zd));have g8:=zA (i:=1) a0 rfl;have g6:Y w9 pp 1:=zE a0;have g3:=lt_of_block a0;have HG:=Ja (Jb q d);clear q d b7 a0))
      go_roundw
      case rel=>
       have hq:=l.out.push (x:=0) (av':=.slice b1 (k+1) b0) HG.out.2 (by rw[yY];exact HG.out.1);refine⟨k+1,.slice b1 (k+1) b0,a2,by go_num,Ja ?_⟩;have e1:yS s (k+1)=yS s k++ [0]:=by rw[qC,if_pos c3.out]
       have e2:sw (k+1)=sw k:=by have:=c3.out;subst this;rfl
       rw[e1,e2];exact hq
      case measure=>simp[intOf];omega
     ·have i2:(0:Int)<(k:Int):=Zo;have c3:=Ja b2
      have a1:T 55 #[L pm,I 4] wr (fun e w'=>∃z:Nat,z<4/\Hid (tk0 s k 4=z)/\e=.returned (I z)/\Hid (MdHd w (.slice sa s.length sc) av rr sb pp db pm (-1) (F) (yS s k) (k+1) w')):=by
       have e:sw k=k:=by unfold sw;rw[if_neg b2]
       have hm:=l.out;rw[e] at hm;exact(tf hm.mkr rfl rfl (HS.out.below zO hm.bel) (n:=4) Zd Zd Zo).mono (fun e w' ⟨h1,h2,h3⟩=>⟨_,rX s k Zd,Ja rfl,h1,Ja (hm.tick h2 h3)⟩)
      have a8:=Ja a1;clear b2 a1;go_upto_region 16 with(go_at_call 55;go_must (refine a8.out.mono ?_;rintro e W3 ⟨z,e8,k0,rfl,a3⟩))
      obtain⟨aa,ac,b3⟩:=zG a3.out.own;have y:=a3.out.own;rw[yY] at b3 y;subst b3;have c8:=a3.out.bel.size;have c1:=zA (i:=1) a3.out.prog rfl;have f1:=lt_of_block a3.out.prog;have HO:=Ja y;clear y;go_wp2_with (at_builtin;go_must (refine zK _ rfl (.tmp 61) (.tmp 63) 25 rfl w.heap.size 3 ij (I 0) 1 8 Try.underlying25 f5 c7 c5 c4 rfl Zd (.slice aa k ac) k ((yS s k).map zN) rfl (HO.out.alloc _) _ 1 [zN (z:Int)] rfl (yM.one (zI rfl) rfl) (by unfold maxLen;omega) Zo Zt ?_;intro v9 w9 q d b7;obtain⟨b1,b0,rfl⟩:=zG q;have a0:=zL d (zB a3.out.prog) (zC HO.out a3.out.prog (.inr Zd));have g8:=zA (i:=1) a0 rfl;have g6:Y w9 pp 1:=zE a0;have g3:=lt_of_block a0;have HG:=Ja (Jb q d);clear q d b7 a0))
      go_roundw
      case rel=>
       have hq:=a3.out.push (x:=(z:Int)) (av':=.slice b1 (k+1) b0) HG.out.2 (by rw[yY];exact HG.out.1);refine⟨k+1,.slice b1 (k+1) b0,a2,by go_num,Ja ?_⟩;have e1:yS s (k+1)=yS s k++ [(z:Int)]:=by rw[qC,if_neg c3.out,k0.out]
       have e2:sw (k+1)=k+1:=rfl;rw[e1,e2];exact hq
      case measure=>simp[intOf];omega
    ·obtain rfl:n=k:=by omega
     have a5:¬(n:Int)<(n:Int):=Zo;have e:sw n=n:=by unfold sw;rw[if_neg Zo]
     have f4:=mk_funcs n i0.2;have a6:=l.out;rw[e] at a6;have p0:=zA (i:=0) a6.prog rfl;have h5:Y wr pp 0:=zE a6.prog;have f1:=lt_of_block a6.prog;have c:=Ja (Jb (a6.funcs (A (List.replicate n (Value.slice none 0 0)).toArray 39) (N wr.heap.size n n)) (zI (W:=wr.setCell ⟨pp,0,none⟩ (N wr.heap.size n n)) (o:=A (List.replicate n (Value.slice none 0 0)).toArray 39) (B:=wr.heap.size) Zs));have i8:=a6.bel.size;have d7:(List.replicate n (Value.slice none 0 0)).toArray=Array.replicate n (Value.slice none 0 0):=by simp
     rw[d7] at c f4;clear d7;clear a2 e a6 l g0;go_upto_region 18 with fail;generalize j1:(wr.setCell ⟨pp,0,none⟩ (N wr.heap.size n n)).alloc (A (Array.replicate n (Value.slice none 0 0)) 39)=W3 at *;generalize l2:wr.heap.size=fb at *;clear p0 h5 f4 a5 j1;obtain⟨m,hm⟩:∃m,n=m+1:=⟨n-1,by omega⟩
     have k7:(n:Int)-1=(m:Int):=Zo;have i1:m<n:=Zo;have d3:n-1=m:=Zo;have e0:=Ja (Jb hm d3);clear hm d3;obtain⟨x,hx⟩:∃x,(yS s n)[m]? =some x:=⟨_,Jd (by rw[yY];exact i1)⟩
     obtain⟨g,ac,e,l1,l0⟩:=c.out.1.own.form (by rw[yY];omega);rw[yY] at e;subst e;have c1:=zA (i:=1) c.out.1.prog rfl;have g2:=lt_of_block c.out.1.prog
     have h7:U W3 g m (I x):=by
      have h0:=c.out.1.own;rw[yY] at h0;have h1:=h0.cellAt m Zo;exact h1.trans (by rw[Jr,hx];rfl)
     have j:oJ s=(decide (1<n) && decide (x=0)):=by
      unfold oJ;rw[HN.out,e0.out.2,Jj,hx];rfl
     have g1:pm<W3.heap.size:=lt_of_block c.out.1.mkr;have g4:fb<W3.heap.size:=lt_of_block c.out.2
     have d1:fb≠pm:=fun e=>by
      have h1:=c.out.1.mkr;have h2:=c.out.2;rw[e,h1] at h2
      injection h2 with h3
      injection h3 with _ h4
      exact absurd h4 Zd
     have a1:T 55 #[L pm,I 2] W3 (fun e w'=>∃z:Nat,z<2/\Hid (tk0 s n 2=z)/\e=.returned (I z)/\Hid (MdHd w (.slice sa s.length sc) (N g n ac) rr sb pp db pm (-1) (N fb n n) (yS s n) (n+1) w'/\Q w' fb (Array.replicate n (Value.slice none 0 0)) 39)):=
      (tf c.out.1.mkr rfl rfl (HS.out.below zO c.out.1.bel) (n:=2) Zd Zd Zo).mono (fun e w' ⟨h1,h2,h3⟩=>⟨_,rX s n Zd,Ja rfl,h1,Ja ⟨c.out.1.tick h2 h3,h3.blk c.out.2 d1⟩⟩)
     have a8:=Ja a1;have e5:=Ja (Jb j hx);have l3:=Ja d1;clear j hx a1 d1;have d2:1<n->decide ((1:Int)<(n:Int))=true/\decide (1<n)=true:=fun h=>⟨by rw[decide_eq_true_iff];omega,by rw[decide_eq_true_iff];exact h⟩
     have g5:=Ja d2;clear d2
     go_cut [89] (fun v wx=>∃b:Bool,v=.bool b/\Hid ((b=true↔oJ s=true/\tk0 s n 2=0)/\MdHd w (.slice sa s.length sc) (N g n ac) rr sb pp db pm (-1) (N fb n n) (yS s n) (sP s) wx/\Q wx fb (Array.replicate n (Value.slice none 0 0)) 39))
     case first=>
      by_cases h1:1<n
      ·have f8:(1:Int)<(n:Int):=Zo;obtain⟨j2,f7⟩:=g5.out h1
       by_cases a4:x=0
       ·have h8:(x==0)=true:=by rw[beq_iff_eq];exact a4
        have j:oJ s=true:=by rw[e5.out.1];simp[h1,a4]
        have e6:=Ja j;have f9:=Ja a4;clear j a4;have d0:sP s=n+1:=by unfold sP;rw[e6.out,HN.out];rfl
        have d8:=Ja d0;clear d0
        by_cases b9:tk0 s n 2=0
        ·have b4:=Ja b9;clear b9;go_wp2_with (go_at_call 55;go_must (refine a8.out.mono ?_;rintro e w4 ⟨z,h6,HZ,rfl,b5⟩;obtain rfl:z=0:=HZ.out.symm.trans b4.out))
         go_meet;refine⟨true,rfl,Ja ⟨⟨(fun _=>⟨e6.out,b4.out⟩),(fun _=>rfl)⟩,?_,b5.out.2⟩⟩;rw[d8.out];exact b5.out.1
        ·have b4:=Ja b9;clear b9;go_wp2_with (go_at_call 55;go_must (refine a8.out.mono ?_;rintro e w4 ⟨z,h6,HZ,rfl,b5⟩;have tz:((z:Int)==0)=false:=by rw[beq_eq_false_iff_ne];have:=HZ.out;have:=b4.out;omega))
         go_meet;refine⟨false,rfl,Ja ⟨⟨(fun e=>by cases e),(fun e=>absurd e.2 b4.out)⟩,?_,b5.out.2⟩⟩;rw[d8.out];exact b5.out.1
       ·have h8:(x==0)=false:=by rw[beq_eq_false_iff_ne];exact a4
        have f9:=Ja a4;clear a4;go_wp2;go_meet;have j:oJ s=false:=by rw[e5.out.1];simp[f9.out]
        refine⟨false,rfl,Ja ⟨⟨(fun e=>by cases e),(fun e=>by rw[j] at e;cases e.1)⟩,?_,c.out.2⟩⟩;have e:sP s=n:=by unfold sP;rw[j,HN.out];rfl
        rw[e];exact c.out.1
      ·have f8:¬(1:Int)<(n:Int):=Zo;have f7:decide (1<n)=false:=by rw[decide_eq_false_iff_not];exact h1
       have j2:decide ((1:Int)<(n:Int))=false:=by rw[decide_eq_false_iff_not];exact f8
       go_wp2;go_meet;have j:oJ s=false:=by rw[e5.out.1,f7];rfl
       refine⟨false,rfl,Ja ⟨⟨(fun e=>by cases e),(fun e=>by rw[j] at e;cases e.1)⟩,?_,c.out.2⟩⟩;have e:sP s=n:=by unfold sP;rw[j,HN.out];rfl
       rw[e];exact c.out.1
     case rest=>
     obtain⟨b,rfl,HB⟩:=hcut;have b8:=Ja HB;clear c1 g2 h7 g1 g4;have p3:=zA (i:=3) HB.out.2.1.prog rfl;have k4:Y wc pp 3:=zE HB.out.2.1.prog;have k3:=lt_of_block HB.out.2.1.prog
     have k1:=Ja (Jb (HB.out.2.1.hnd (m:Int)) (zR (a:=⟨pp,3,none⟩) (u:=I m) HB.out.2.2 (fun e=>by
      have h1:=HB.out.2.1.prog;have h2:=HB.out.2.2;rw[e] at h2;rw[show(⟨pp,3,none⟩:Addr).block=pp from rfl,h1] at h2
      injection h2 with h3
      injection h3 with _ h4
      exact absurd h4 Zd)))
     go_upto_if 89 with fail
     go_cut [] (fun wx=>Hid (MdHd w (.slice sa s.length sc) (N g n ac) rr sb pp db pm (vw s) (N fb n n) (yS s n) (sP s) wx/\Q wx fb (Array.replicate n (Value.slice none 0 0)) 39))
     case first=>
      cases b
      ·go_wp2;go_meet;have e:vw s=-1:=by unfold vw;rw[if_neg (fun e=>by rw[HN.out] at e;have:=b8.out.out.1.2 e;cases this)]
       rw[e];exact Ja b8.out.out.2
      ·go_wp2;go_meet;have e:vw s=(m:Int):=by unfold vw;rw[HN.out,if_pos (b8.out.out.1.1 (by trivial)),e0.out.2]
       rw[e];exact k1
     case rest=>
     refine ‹∀(a:Act) (w:World),Code.wp Try.prog _ _ a w->_› _ _ ?_;have c0:=HN.out;subst c0;exact j9 HS hcut i8 e0.out.2 _ _ _ _ _ _ _ _ _ _ _ _ _ _ _ _ _ _ _ _ _ _ _ _ _ _ _ _ _ _ _ _ _ _ _ _ _ _ _ _ _ _ _ _ _ _ _ _ _ _ _ _ _ _ _ _ _ _ _ _ _ _ _ _ _ _ _ _ _ _ _ _ _ _ _ _ _ _ _ _ _ _ _ _ _ _ _ _ _ _ _ _ _ _ _ _ _ _ _ _ _ _ _ _ _ _ _ _ _ _ _ _ _ _ _ _ _ _ _ _ _ _ _ _ _ _ _ _ _ _ _ _ _ _ _ _ _ _ _ _ _ _ _ _ _ _ _ _ _ _ _ _ _ _ _ _ _ _ _ _ _ _ _ _ _ _ _ _ _ _ _ _ _ _ _ _ _ _ _ _ _ _ _ _ _ _ _ _ _ _ _ _ _ _ _ _
theorem gj (n m:Nat):∃k:Nat,(k:Int)=(if(m:Int)<(n:Int) then(m:Int) else(n:Int))/\k=min m n:=⟨min m n,by split<;>omega,rfl⟩
theorem lw{α:Type}{sz:Nat}{R:World->Nat->Nat->Nat->α->Prop}{B:Nat}{a:Option Addr}{c:Nat}{xs:List α}(h:yN sz R w B (.slice a xs.length c) xs)(m:Nat):yN sz R w B (.slice a (min m xs.length) c) (xs.take m):=by
 obtain⟨a',i,e,j,g,d⟩:=h;cases e;exact⟨a,c,by rw[Oc],by rw[Oc];omega,g,fun k x hk=>d k x (by rw[Ug] at hk;split at hk;exact hk;cases hk)⟩
def oC (w:World)(p:IProg)(e:Ending)(w':World):Prop:=∃(fa:Option Addr) (fc:Nat) (aa:Option Addr) (ac:Nat) (da:Option Addr) (dc:Nat) (ba:Option Addr) (bc:Nat),e=.returned (.agg (R p fa fc aa ac da dc ba bc))/\
 ProgIn w' w'.heap.size ⟨.slice fa p.funcs.length fc,.slice aa p.args.length ac,.slice da p.data.length dc,.slice ba p.banks.length bc⟩ p/\O w w'
theorem nE{w0:World}{V:PV}{p:IProg}(h:ProgIn w w.heap.size V p)(hb:O w0 w):oC w0 p (.returned (yH V p)) w:=by
 obtain⟨fa,fc,i,_,_⟩:=h.funcs.form;obtain⟨aa,ac,g,_,_⟩:=h.args.form;obtain⟨da,dc,d,_,_⟩:=h.data.form;obtain⟨ba,bc,c,_,_⟩:=h.banks.form;obtain⟨v1,v2,v3,v4⟩:=V;simp only at i g d c;subst i g d c;exact⟨fa,fc,aa,ac,da,dc,ba,bc,rfl,h,hb⟩
theorem qu (w:World)(r o:Nat)(vs:List Value):Below r w (w.setCells r o vs):=
 ⟨(ze r vs o w).1,(ze r vs o w).2.1,(ze r vs o w).2.2,Ul (y8 r vs o w).symm,fun k hk=>ye r k Zo vs o w⟩
theorem pJ{r o L:Nat}{vs:List Value}(h:r<L):StaysL L w (w.setCells r o vs):=
 ⟨Ul (y8 r vs o w).symm,⟨(ze r vs o w).1,(ze r vs o w).2.1,(ze r vs o w).2.2⟩,fun k hk _=>ye r k Zo vs o w⟩
theorem set_more{p:IProg}{b2:List IBlk}{s:Slv}(h:SlvAt w K p b2 k s){v:Nat}(hv:v<K.n){a0:Rg}(a1:(qs a0 (s.get v)).ok)(hk:¬4<k)(a6:s.knw v=true)(l:lf (qs a0 (s.get v)) (s.get v)=false):
 T 19 #[L K.sb,I v,.agg #[G (a0.lo:Int),G (a0.hi:Int)]] w (i4 w K p b2 k (s.put v (qs a0 (s.get v)),true)):=by
 have a5:=tt h hv;rw[a6] at a5;have t:=fun(W:World) (y:O w W)=>(h.below y).rcell (v:=(v:Int)) Zo
 generalize hg:s.get (v:Int)=g at *;obtain⟨a,hq⟩:∃a,qs a0 g=a:=⟨_,rfl⟩
 have HH:=Ja (fun W=>aeM W a0 g);rw[hq] at HH l a1 ⊢;have c4:¬(4:Int)<(k:Int):=Zo;have b9:=h.ne
 have a4:(((a.lo:Int)==(g.lo:Int)) && ((a.hi:Int)==(g.hi:Int)))=false:=by
  rw[<-l];unfold lf;rw[Bool.eq_iff_iff];simp only[Jm,beq_iff_eq,decide_eq_true_eq];omega
 rw[Ni] at t;have H:=Ja (Jb h a1);have a8:=fun(W:World) (y:O w W)=>(h.below y).cells.2.2.2.2.1
 have HK:=Ja a8;have hn:=h.n64;obtain⟨s4,s7,s8,s9,s10,s6⟩:=h.cells;have HC:=Ja (show ∀W:World,O w W->U W K.sb 8 (N K.rb K.n K.n)/\U W K.rb (v*2) (G (g.lo:Int))/\U W K.rb (v*2+1) (G (g.hi:Int)) from fun W hb=>⟨(h.below hb).cells.2.2.1,(t W hb).1,(t W hb).2⟩);have l1:=lt_of_block h.cell;have l2:=lt_of_block h.row;have l3:=lt_of_block h.kn;have b4:=Ja a4;clear a8 hk a1 h a4 a6 l s4 s7 s6 s8 s10 t hg hq;go_enter Try.func19,Try.ntmps19;go_upto_region 2 with(go_at_call 999999;skip)
 obtain⟨X,q⟩:∃X,w.alloc (A #[G (a0.lo:Int),G (a0.hi:Int)] 48)=X:=⟨_,rfl⟩
 have c:=Ja (show O w X/\Q X w.heap.size #[G (a0.lo:Int),G (a0.hi:Int)] 48/\w.heap.size<X.heap.size from by
  rw[<-q];exact⟨Below.alloc (Below.refl _ _) (Je _) _,zI rfl,by simp⟩)
 rw[q];clear q a5 s9;have a3:=Ja (show ∀W:World,Below w.heap.size X W->U W K.sb 8 (N K.rb K.n K.n)/\U W K.rb (v*2) (G (g.lo:Int))/\U W K.rb (v*2+1) (G (g.hi:Int)) from fun W hb=>HC.out W (c.out.1.trans hb));obtain⟨c0,c1,c2⟩:=a3.out X (Below.refl _ _);have x0:=zA (i:=0) c.out.2.1 rfl;have x1:=zA (i:=1) c.out.2.1 rfl;have b5:=c.out.2.2;refine wp_region_noPanic ?_;refine yQ (S:=(fun w'=>U w' K.sb 8 (N K.rb K.n K.n)/\U w' K.rb (v*2) (G (g.lo:Int))/\U w' K.rb (v*2+1) (G (g.hi:Int))/\U w' w.heap.size 0 (G (a0.lo:Int))/\U w' w.heap.size 1 (G (a0.hi:Int)))) 9 Zk ⟨c0,c1,c2,x0,x1⟩ (fun hHeld=>?_);refine Tl 0 ?_
 try simp only[Yp]
 refine Tl 1 ?_
 try simp only[Yp]
 refine Tl 2 ?_
 try simp only[Yp]
 refine Tl 3 ?_
 try simp only[Yp]
 refine Tl 4 ?_
 try simp only[Yp]
 refine Tl 5 ?_
 try simp only[Yp]
 refine Tl 6 ?_
 try simp only[Yp]
 refine Tl 7 ?_
 try simp only[Yp]
 refine z8 (rs:=[8]) Zk Zs ?_;refine zS.cons (o:=_) rfl (fun K hK=>?_) ?_
 ·skip
  (go_simp;refine(HH.out _).mono ?_;rintro e w1 ⟨rfl,a9⟩;have u:O X w1:=(Below.refl X.heap.size X).drew.trans a9;clear a9;have hk:=zH u c.out.2.1 (lt_of_block c.out.2.1);have f0:=zA (i:=0) hk rfl;have f1:=zA (i:=1) hk rfl;have g0:=zE (i:=0) hk;have g1:=zE (i:=1) hk;have b6:=lt_of_block hk;have x:=a3.out w1 (u.mono (Qd c.out.2.2)))
  refine hK.out _ _ ⟨x.1,x.2.1,x.2.2,f0,f1⟩ (fun hHeld=>?_);clear hK K
  try simp only[Yp]
  refine z8 (rs:=[9]) Zk Zs ?_;refine zS.last (o:=_) rfl (fun K hK=>?_);go_simp;refine hK.out _ _ ?_;clear hK K
  try simp only[Yp]
  refine xj Zk (NoPanic.normal ?_) _;go_upto_region 3 with(go_at_call 999999;skip)
  obtain⟨Y,hY⟩:∃Y,(w1.setCell ⟨w.heap.size,0,none⟩ (G (a.lo:Int))).setCell ⟨w.heap.size,1,none⟩ (G (a.hi:Int))=Y:=⟨_,rfl⟩
  have j:=Ja (show O w Y/\Q Y w.heap.size #[G (a.lo:Int),G (a.hi:Int)] 48/\w.heap.size<Y.heap.size from by
   have hh:=zD (i:=1) (zD (i:=0) hk (G (a.lo:Int))) (G (a.hi:Int));rw[hY] at hh
   exact⟨by rw[<-hY];exact((c.out.1.trans (u.mono (Qd c.out.2.2))).setCell (Je _) _).setCell (Je _) _,hh,lt_of_block hh⟩)
  rw[hY];clear hY hk f0 f1 g0 g1 b6 u x a3 c0 c1 c2 x0 x1 b5;have a2:=Ja (show ∀W:World,O Y W->(U W K.sb 8 (N K.rb K.n K.n)/\U W K.rb (v*2) (G (g.lo:Int))/\U W K.rb (v*2+1) (G (g.hi:Int)))/\U W w.heap.size 0 (G (a.lo:Int))/\U W w.heap.size 1 (G (a.hi:Int)) from fun W hb=>⟨HC.out W (j.out.1.trans (hb.mono (Qd j.out.2.2))),zA (zH hb j.out.2.1 (lt_of_block j.out.2.1)) rfl,zA (zH hb j.out.2.1 (lt_of_block j.out.2.1)) rfl⟩);obtain⟨⟨c0,c1,c2⟩,x0,x1⟩:=a2.out Y (Below.refl _ _);obtain⟨b0,e0⟩:∃b,((a.lo:Int)==(g.lo:Int))=b:=⟨_,rfl⟩
  obtain⟨b1,e1⟩:∃b,((a.hi:Int)==(g.hi:Int))=b:=⟨_,rfl⟩
  have m:=b4.out;rw[e0,e1] at m;clear b4;cases b0<;>cases b1
  all_goals first|(cases m;done)|skip
  all_goals clear m
  all_goals go_region_held3 (fun w'=>(U w' K.sb 8 (N K.rb K.n K.n)/\U w' K.rb (v*2) (G (g.lo:Int))/\U w' K.rb (v*2+1) (G (g.hi:Int)))/\U w' w.heap.size 0 (G (a.lo:Int))/\U w' w.heap.size 1 (G (a.hi:Int)))
   ((refine a2.out _ ?_;repeat' (first|with_reducible exact Below.refl _ _|with_reducible assumption|with_reducible refine Below.drew ?_)))
   (fail)
  all_goals clear c0 c1 c2 x0 x1 a2 e0 e1
  all_goals have s10:=HK.out Y.drew j.out.1.drew
  all_goals go_upto_region 7 with(go_at_call 999999;skip)
  all_goals (
   obtain⟨X,q⟩:∃X,Y.drew=X:=⟨_,rfl⟩
   have b3:=Ja (show O w X/\Q X w.heap.size #[G (a.lo:Int),G (a.hi:Int)] 48/\w.heap.size<X.heap.size from by rw[<-q];exact⟨j.out.1.drew,j.out.2.1,j.out.2.2⟩);rw[q];clear q s10 c;have c:=b3;clear b3;have d:=Ja (H.out.1.below c.out.1);have HC:=Ja (show ∀W:World,W.heap[K.sb]? =X.heap[K.sb]?->W.heap[w.heap.size]? =X.heap[w.heap.size]?->U W K.sb 8 (N K.rb K.n K.n)/\U W K.sb 9 (N K.kb K.n K.n)/\U W w.heap.size 0 (G (a.lo:Int))/\U W w.heap.size 1 (G (a.hi:Int)) from fun W h1 h2=>⟨zA (h1.trans d.out.cell) rfl,zA (h1.trans d.out.cell) rfl,zA (h2.trans c.out.2.1) rfl,zA (h2.trans c.out.2.1) rfl⟩);obtain⟨c0,c1,c2,c3⟩:=HC.out X rfl rfl;have kx:=tt d.out hv;have kf:=zE (i:=v) d.out.kn;obtain⟨r0,r1⟩:=d.out.rcell (v:=(v:Int)) Zo;rw[Ni] at r0 r1;have b8:=zE (i:=v*2) d.out.row;have b7:=zE (i:=v*2+1) d.out.row;have m1:=lt_of_block d.out.cell;have m2:=lt_of_block d.out.row;have m3:=lt_of_block d.out.kn;have m4:=c.out.2.2;go_region_held3 (fun w'=>U w' K.sb 8 (N K.rb K.n K.n)/\U w' K.sb 9 (N K.kb K.n K.n)/\U w' w.heap.size 0 (G (a.lo:Int))/\U w' w.heap.size 1 (G (a.hi:Int))) ((refine HC.out _ ?_ ?_<;>(repeat' (first|(rw[Below.heap_setCell _ _ _ _ (by first|(show K.sb≠K.kb;omega)|(show K.sb≠K.rb;omega)|(show w.heap.size≠K.kb;omega)|(show w.heap.size≠K.rb;omega))])|(rw[show ∀v:World,v.drew.heap=v.heap from fun _=>rfl])|exact rfl)))) (fail);go_wp2;obtain⟨W,y⟩:∃W,((X.setCell ⟨K.kb,v,none⟩ (.bool true)).setCell ⟨K.rb,v*2,none⟩ (G (a.lo:Int))).setCell ⟨K.rb,v*2+1,none⟩ (G (a.hi:Int))=W:=⟨_,rfl⟩
   rw[y];obtain⟨j1,j2⟩:=d.out.put hv H.out.2 y;go_ret
   exact⟨rfl,j1.below (Below.refl _ _).drew,((SlvTo.of_below c.out.1).trans j2).trans (SlvTo.of_below (Below.refl _ _).drew)⟩)
 exact zS.nil
theorem aft{p:IProg}{i:List IBlk}{s:Slv}(h:SlvAt w K p i k s){v:Nat}(hv:v<K.n){a:Rg}(l:a.ok)(j:(qs a (s.get v)).ok):
 T 19 #[L K.sb,I v,.agg #[G (a.lo:Int),G (a.hi:Int)]] w (i4 w K p i k (setF k s v a)):=by
 unfold setF
 by_cases c:s.knw v=true
 ·rw[if_pos c]
  by_cases hs:lf (qs a (s.get v)) (s.get v)=true
  ·rw[if_pos hs];exact agA h hv c hs
  ·rw[if_neg hs];have g:lf (qs a (s.get v)) (s.get v)=false:=by simpa using hs
   unfold agI
   by_cases hk:4<k
   ·rw[if_pos hk];exact aeK h hv hk c g
   ·rw[if_neg hk];exact set_more h hv j hk c g
 ·rw[if_neg c];have d:s.knw v=false:=by simpa using c
  unfold agI
  by_cases hk:4<k
  ·rw[if_pos hk];exact ae8 h hv hk d
  ·rw[if_neg hk];exact set_new h hv l hk d
def BlkOp (n:Nat)(p:IProg)(o:IOp):Prop:=0<=o.res->agD n o/\(o.code=2->0<=o.a/\o.a<p.data.length)/\(o.code≠1->o.code≠2->ruG o.code≠none->(0<=o.a/\o.a<n)/\0<=o.b/\o.b<n)
def BlkEdge (n:Nat)(bls:List IBlk)(e:IEdge):Prop:=(0<=e.block/\e.block<bls.length)/\e.args.length=(xz bls e.block).params.length/\(∀x∈e.args,0<=x/\x<n)/\∀x∈(xz bls e.block).params,0<=x/\x<n
structure BlkW (n:Nat) (p:IProg) (bls:List IBlk) (b:IBlk):Prop where
 ops:∀o∈b.ops,BlkOp n p o
 tos:∀e∈b.term.to,BlkEdge n bls e
theorem SlvTo.blk(h:SlvTo w w' K){b:Nat}{o:_}(hb:w.heap[b]? =some o)(d:b<w.heap.size)(c:b≠K.rb/\b≠K.kb/\b≠K.sb):w'.heap[b]? =some o:=(h.block b d c.1 c.2.1 c.2.2).trans hb
theorem SlvAt.fresh{p:IProg}{s:Slv}(h:SlvAt w K p c k s){b:Nat}(hb:w.heap.size<=b):b≠K.rb/\b≠K.kb/\b≠K.sb:=by
 have:=lt_of_block h.row;have:=lt_of_block h.kn;have:=lt_of_block h.cell;omega
theorem SlvAt.keepB{p:IProg}{s:Slv}(h:SlvAt w K p c k s)(ht:SlvTo w w' K):Below K.B w w':=
 ht.below ⟨h.lt.2.1,h.lt.2.2.1,h.lt.1,Qd (Nat.lt_of_le_of_lt h.lt.1 (lt_of_block h.cell))⟩
theorem q8{α β:Type}{f:β->α->β}{l:List α}{x:α}(h:l[k]? =some x)(b:β):(l.take (k+1)).foldl f b=f ((l.take k).foldl f b) x:=by
 rw[Nh,h,List.foldl_append];rfl
theorem af1{p:IProg}{g:List IBlk}{s:Slv}(h:SlvAt w K p g k s){bx:IBlk}(c0:g[i]? =some bx)(f4:BlkW K.n p g bx):
 T 23 #[L K.sb,I i] w (i4 w K p g k (afB p g k (s,false) bx)):=by
 obtain⟨fa,fc,b9,k3,k2⟩:=h.blks.form;have a8:=h.blks;rw[b9] at a8;obtain⟨bb,bo,rfl,k4,g2,g3,h64,pv,ov,tv,g0,g1,g4,a0,b5,b3⟩:=a8.get c0;obtain⟨pa,pc,rfl,i8,i2⟩:=a0.form;obtain⟨oa,oc,rfl,j1,l9⟩:=b5.form;obtain⟨ta,tc,rfl,h8,l2⟩:=b3.form;have m4:=(Jh.1 c0).1;have m2:bx.ops.length<=9223372036854775807:=Zo;have l3:bx.term.to.length<=9223372036854775807:=Zo;have c6:=h.cells.2.2.2.2.2;rw[b9] at c6;have f2:=lt_of_block h.cell;have k9:bb<w.heap.size:=Jy k4 (Qd (Nat.lt_of_le_of_lt h.lt.1 f2));obtain⟨X,hX⟩:∃X,w.alloc (A #[.slice pa bx.params.length pc,.slice oa bx.ops.length oc,I bx.term.kind,I bx.term.a,.slice ta bx.term.to.length tc] 36)=X:=⟨_,rfl⟩
 have a5:O w X:=by rw[<-hX];exact(Below.refl _ _).alloc (Je _) _
 have c4:Q X w.heap.size #[.slice pa bx.params.length pc,.slice oa bx.ops.length oc,I bx.term.kind,I bx.term.a,.slice ta bx.term.to.length tc] 36:=by rw[<-hX];exact zI rfl
 have hB:K.B<=w.heap.size:=Qd (Nat.lt_of_le_of_lt h.lt.1 f2)
 have HX:=Ja (show SlvAt X K p g k s/\SlvTo w X K/\Q X w.heap.size #[.slice pa bx.params.length pc,.slice oa bx.ops.length oc,I bx.term.kind,I bx.term.a,.slice ta bx.term.to.length tc] 36/\mN X K.B (.slice oa bx.ops.length oc) bx.ops/\wH X K.B (.slice ta bx.term.to.length tc) bx.term.to/\O w X/\w.heap.size<X.heap.size/\K.B<=w.heap.size from
  ⟨h.below a5,SlvTo.of_below a5,c4,b5.below xA (a5.mono hB),b3.below xL (a5.mono hB),a5,lt_of_block c4,hB⟩)
 have HW:=Ja (Jb h (Jb f4 (Jb c0 b9)));have m1:=k2;obtain⟨t6,f1⟩:∃t6,w.heap.size=t6:=⟨_,rfl⟩
 clear h f4 c0 b9 a8 h64 a0 b5 b3 a5 c4 k3 i8 i2 j1 h8 hB;go_enter Try.func23,Try.ntmps23;go_upto_region 3 with fail;clear hX c6 g0 g1 g2 g3 g4;rw[f1] at HX;have d1:U X t6 1 (.slice oa bx.ops.length oc):=zA HX.out.2.2.1 rfl;go_wp2;clear d1
 go_loopw [5,24] (fun cv jv wx=>∃(j:Nat) (s':Slv) (c:Bool),j<=bx.ops.length/\cv=.bool c/\jv=I j/\Hid ((bx.ops.take j).foldl (opS p k) (s,false)=(s',c)/\SlvAt wx K p g k s'/\SlvTo X wx K)) (fun _ jv _=>bx.ops.length-(intOf jv).toNat)
 case atStart=>exact⟨0,s,false,Jt _,rfl,rfl,Ja ⟨rfl,HX.out.1,SlvTo.refl _ _⟩⟩
 case round=>
  obtain⟨j,s',c,hj,rfl,rfl,l⟩:=hrel
  by_cases y:j<bx.ops.length
  ·have b6:(j:Int)<(bx.ops.length:Int):=Zo;obtain⟨o,ho⟩:∃o,bx.ops[j]? =some o:=⟨_,Jd y⟩
   have t:Below K.B X wr:=HX.out.1.keepB l.out.2.2;obtain⟨qb,qo,d0,b0,e0,e1,e2,e3,e4,h64,av,e5,a6⟩:=(HX.out.2.2.2.1.below xA t).get ho;obtain⟨aa,ac,rfl,_,_⟩:=a6.form;subst d0;have c9:qb<wr.heap.size:=Jy b0 (Jn HX.out.2.2.2.2.2.2.2 (Jn (Qd HX.out.2.2.2.2.2.2.1) t.size));obtain⟨Y,hY⟩:∃Y,wr.alloc (A (D o aa ac) 27)=Y:=⟨_,rfl⟩
   have a1:O wr Y:=by rw[<-hY];exact(Below.refl _ _).alloc (Je _) _
   have a3:Q Y wr.heap.size (D o aa ac) 27:=by rw[<-hY];exact zI rfl
   have d:=Ja (show SlvAt Y K p g k s'/\SlvTo X Y K/\Q Y wr.heap.size (D o aa ac) 27/\wr.heap.size≠K.rb/\wr.heap.size≠K.kb/\wr.heap.size≠K.sb from⟨l.out.2.1.below a1,l.out.2.2.trans (SlvTo.of_below a1),a3,l.out.2.1.fresh (Je _)⟩);have HO:=Ja (Jb ho (Jb h64 (HW.out.2.1.ops o (Ji ho))));have a2:=Ja y;clear ho h64 a6 t a1 a3 y;go_upto_region 6 with fail;clear hY e0 e1 e2 e3 e4 e5 c9 b0;obtain⟨t8,h9⟩:∃t8,wr.heap.size=t8:=⟨_,rfl⟩
   rw[h9] at d ⊢;have z0:U Y t8 0 (I o.code):=zA d.out.2.2.1 rfl;have z1:U Y t8 1 (I o.res):=zA d.out.2.2.1 rfl;have z2:U Y t8 2 (I o.a):=zA d.out.2.2.1 rfl;have z3:U Y t8 3 (I o.b):=zA d.out.2.2.1 rfl;have z4:U Y t8 4 (G (o.n:Int)):=zA d.out.2.2.1 rfl;have z5:U Y t8 5 (.slice aa o.args.length ac):=zA d.out.2.2.1 rfl
   by_cases hr:0<=o.res
   ·have i1:decide (0<=o.res)=true:=decide_eq_true hr;obtain⟨a,ha⟩:∃a,aeS p s' o=a:=⟨_,rfl⟩
    obtain⟨s2,r,hq⟩:∃s2 r,setF k s' o.res a=(s2,r):=⟨_,_,rfl⟩
    obtain⟨c7,d2,f7⟩:=HO.out.2.2 hr;have u:a.ok:=by rw[<-ha];exact agE d.out.1.oks c7 hr
    have b8:(qs a (s'.get o.res)).ok:=aeL u (d.out.1.oks.get _)
    have k6:=Ja (show ∀W,O Y W->T 54 #[L K.sb,.agg (D o aa ac)] W (tr W a) from fun W hb=>by
     rw[<-ha];exact afW (d.out.1.below hb) (.slice aa o.args.length ac) HO.out.2.1.1 HO.out.2.1.2.2.2.2 d2 f7)
    have d8:=Ja (show ∀W,SlvAt W K p g k s'->T 19 #[L K.sb,I o.res,.agg #[G (a.lo:Int),G (a.hi:Int)]] W (i4 W K p g k (s2,r)) from fun W hb=>by
     have:=aft hb (v:=o.res.toNat) ((c7 hr).1) u (by rw[Oa hr];exact b8);rw[Oa hr,hq] at this
     exact this)
    have HQ:=Ja (Jb hq (Jb ha hr));clear hq ha c7 d2 f7 u b8;have HC:=Ja (show ∀w':World,w'.heap[t8]? =Y.heap[t8]?->U w' t8 0 (I o.code)/\U w' t8 1 (I o.res)/\U w' t8 2 (I o.a)/\U w' t8 3 (I o.b)/\U w' t8 4 (G (o.n:Int))/\U w' t8 5 (.slice aa o.args.length ac) from fun W h=>⟨zA (h.trans d.out.2.2.1) rfl,zA (h.trans d.out.2.2.1) rfl,zA (h.trans d.out.2.2.1) rfl,zA (h.trans d.out.2.2.1) rfl,zA (h.trans d.out.2.2.1) rfl,zA (h.trans d.out.2.2.1) rfl⟩);have f5:=lt_of_block d.out.2.2.1;cases r
    all_goals go_region_held3 (fun w'=>U w' t8 0 (I o.code)/\U w' t8 1 (I o.res)/\U w' t8 2 (I o.a)/\U w' t8 3 (I o.b)/\U w' t8 4 (G (o.n:Int))/\U w' t8 5 (.slice aa o.args.length ac))
     ((refine HC.out _ ?_;first|exact rfl|exact k1|exact k0))
     ((first
       |(go_at_call 54;refine(k6.out _ (by repeat' (first|with_reducible exact Below.refl _ _|with_reducible refine Below.drew ?_))).mono ?_;rintro e w1 ⟨rfl,f6⟩;have d7:Below Y.heap.size Y w1:=Below.trans (show Below Y.heap.size Y _ from by repeat' (first|with_reducible exact Below.refl _ _|with_reducible refine Below.drew ?_)) (f6.mono (Je _));clear f6;have k1:w1.heap[t8]? =Y.heap[t8]?:=d7.block _ f5)
       |(go_at_call 19;refine(d8.out _ (d.out.1.below (by repeat' (first|with_reducible exact d7|with_reducible refine Below.drew ?_)))).mono ?_;rintro e w2 ⟨rfl,a4,a9⟩;have c5:SlvTo Y w2 K:=SlvTo.trans (SlvTo.of_below (show Below Y.heap.size Y _ from by repeat' (first|with_reducible exact d7|with_reducible refine Below.drew ?_))) a9;have k0:w2.heap[t8]? =Y.heap[t8]?:=c5.block _ f5 d.out.2.2.2.1 d.out.2.2.2.2.1 d.out.2.2.2.2.2;have H2:=Ja (Jb a4 c5);clear a4 a9 c5)))
    all_goals clear z0 z1 z2 z3 z4 z5
    all_goals go_wp2_with fail
    all_goals (
     go_roundw
     case rel=>exact⟨j+1,s2,_,a2.out,by first|rfl|(cases c<;>rfl),by go_num,Ja ⟨by rw[q8 HO.out.1,l.out.1];unfold opS;rw[if_pos HQ.out.2.2];unfold l6;rw[show aeS p (s',c).1 o=a from HQ.out.2.1,HQ.out.1];first|rw[Bool.or_true]|rw[Bool.or_false],H2.out.1.below (by first|exact Below.refl _ _|exact(Below.refl _ _).drew),d.out.2.1.trans (H2.out.2.trans (SlvTo.of_below (by first|exact Below.refl _ _|exact(Below.refl _ _).drew)))⟩⟩
     case measure=>(try have h1:=a2.out);(try have h2:=b2.out);simp[intOf];omega)
   ·have i1:decide (0<=o.res)=false:=decide_eq_false hr;go_quiet (fail);go_wp2;go_roundw
    case rel=>exact⟨j+1,s',c,a2.out,rfl,by go_num,Ja ⟨by rw[q8 HO.out.1,l.out.1];unfold opS;rw[if_neg hr],d.out.1.below (by first|exact Below.refl _ _|exact yC (Below.refl _ _)),d.out.2.1.trans (SlvTo.of_below (by first|exact Below.refl _ _|exact yC (Below.refl _ _)))⟩⟩
    case measure=>(try have h1:=a2.out);(try have h2:=b2.out);simp[intOf];omega
  ·obtain rfl:j=bx.ops.length:=by omega
   have b6:¬(bx.ops.length:Int)<(bx.ops.length:Int):=Zo;have e8:=l.out.2.2.blk HX.out.2.2.1 HX.out.2.2.2.2.2.2.1 (by rw[<-f1];exact HW.out.1.fresh (Je _));have d4:U wr t6 4 (.slice ta bx.term.to.length tc):=zA e8 rfl;have HF:=Ja (show bx.ops.foldl (opS p k) (s,false)=(s',c) by have:=l.out.1;rw[Nl] at this;exact this);have e6:=Ja l.out.2;clear e8 hj y l;go_wp2;clear d4
   go_loopw [5,45] (fun cv jv wx=>∃(j:Nat) (s2:Slv) (c2:Bool),j<=bx.term.to.length/\cv=.bool c2/\jv=I j/\Hid ((bx.term.to.take j).foldl (agN g k) (s',c)=(s2,c2)/\SlvAt wx K p g k s2/\SlvTo X wx K)) (fun _ jv _=>bx.term.to.length-(intOf jv).toNat)
   case atStart=>exact⟨0,s',c,Jt _,rfl,rfl,Ja ⟨rfl,e6.out.1,e6.out.2⟩⟩
   case round=>
    clear e6;obtain⟨j,s2,c2,hj,rfl,rfl,l⟩:=hrel
    by_cases y:j<bx.term.to.length
    ·have b6:(j:Int)<(bx.term.to.length:Int):=Zo;obtain⟨e,he⟩:∃e,bx.term.to[j]? =some e:=⟨_,Jd y⟩
     have t:Below K.B X wr:=HX.out.1.keepB l.out.2.2;obtain⟨qb,qo,d0,b0,e0,h64,av,e1,a6⟩:=(HX.out.2.2.2.2.1.below xL t).get he;obtain⟨aa,ac,rfl,k5,n0⟩:=a6.form;have n1:e.args.length<=9223372036854775807:=Zo;subst d0;have c9:qb<wr.heap.size:=Jy b0 (Jn HX.out.2.2.2.2.2.2.2 (Jn (Qd HX.out.2.2.2.2.2.2.1) t.size));obtain⟨Y,hY⟩:∃Y,wr.alloc (A #[I e.block,.slice aa e.args.length ac] 93)=Y:=⟨_,rfl⟩
     have a1:O wr Y:=by rw[<-hY];exact(Below.refl _ _).alloc (Je _) _
     have a3:Q Y wr.heap.size #[I e.block,.slice aa e.args.length ac] 93:=by rw[<-hY];exact zI rfl
     have f8:K.B<=wr.heap.size:=Qd (Nat.lt_of_le_of_lt l.out.2.1.lt.1 (lt_of_block l.out.2.1.cell));have d:=Ja (show SlvAt Y K p g k s2/\SlvTo X Y K/\Q Y wr.heap.size #[I e.block,.slice aa e.args.length ac] 93/\(wr.heap.size≠K.rb/\wr.heap.size≠K.kb/\wr.heap.size≠K.sb)/\zY Y K.B (.slice aa e.args.length ac) e.args/\wr.heap.size<Y.heap.size from⟨l.out.2.1.below a1,l.out.2.2.trans (SlvTo.of_below a1),a3,l.out.2.1.fresh (Je _),a6.below zO (a1.mono f8),lt_of_block a3⟩);have HO:=Ja (Jb he (HW.out.2.1.tos e (Ji he)));have a2:=Ja y;clear he h64 a6 t a1 a3 y k5 f8;go_upto_region 12 with fail;clear hY e0 e1 c9 b0;obtain⟨t10,f9⟩:∃t10,wr.heap.size=t10:=⟨_,rfl⟩
     rw[f9] at d ⊢;have z1:U Y t10 1 (.slice aa e.args.length ac):=zA d.out.2.2.1 rfl;obtain⟨eb,d5⟩:∃eb:Nat,e.block=eb:=⟨e.block.toNat,by have:=HO.out.2.1;omega⟩
     obtain⟨bq,c1⟩:∃bq,g[eb]? =some bq:=⟨_,Jd (by have:=HO.out.2.1;omega)⟩
     have b7:xz g e.block=bq:=by rw[d5];exact y7 c1
     have b4:=HO.out.2.2;rw[b7] at b4;have m5:eb<g.length:=(Jh.1 c1).1;have HE:=Ja (Jb b4 (Jb b7 c1));have k7:=Ja d5;clear b4 b7 c1 d5;go_wp2;clear z1
     go_loopw [5,52] (fun cv jv wx=>∃(m:Nat) (s3:Slv) (c3:Bool),m<=e.args.length/\cv=.bool c3/\jv=I m/\Hid (((bq.params.zip e.args).take m).foldl (argS k) (s2,c2)=(s3,c3)/\SlvAt wx K p g k s3/\SlvTo Y wx K)) (fun _ jv _=>e.args.length-(intOf jv).toNat)
     case atStart=>exact⟨0,s2,c2,Jt _,rfl,rfl,Ja ⟨rfl,d.out.1,SlvTo.refl _ _⟩⟩
     case round=>
      obtain⟨m,s3,c3,hm,rfl,rfl,q⟩:=hrel
      by_cases b1:m<e.args.length
      ·have j2:(m:Int)<(e.args.length:Int):=Zo;obtain⟨x,hx⟩:∃x,e.args[m]? =some x:=⟨_,Jd b1⟩
       obtain⟨v,hv⟩:∃v,bq.params[m]? =some v:=⟨_,Jd (by rw[<-HE.out.1.1];exact b1)⟩
       have hz:(bq.params.zip e.args)[m]? =some (v,x):=List.getElem?_zip_eq_some.2 ⟨hv,hx⟩;have e7:=HE.out.1.2.1 x (Ji hx);have h5:=HE.out.1.2.2 v (Ji hv);have t:Below K.B Y wr:=d.out.1.keepB q.out.2.2;obtain⟨xb,xo,h3,h4,xc,_⟩:=(d.out.2.2.2.2.1.below zO t).get hx;subst h3;have d6:=q.out.2.1.blks;rw[HW.out.2.2.2] at d6;obtain⟨ub,uo,f0,h7,_,_,_,pv,_,_,u0,_,_,a0,_,_⟩:=d6.get HE.out.2.2;simp only[Option.some.injEq,Addr.mk.injEq,and_true] at f0;obtain⟨rfl,rfl⟩:=f0;obtain⟨ya,yc,rfl,g6,l0⟩:=a0.form;obtain⟨yb,yo,g8,h0,y0,_⟩:=a0.get hv;subst g8;rw[Nk] at xc y0;obtain⟨xn,rfl⟩:∃xn:Nat,x=xn:=⟨x.toNat,by omega⟩
       obtain⟨vn,rfl⟩:∃vn:Nat,v=vn:=⟨v.toNat,by omega⟩
       obtain⟨r0,r1⟩:=q.out.2.1.rcell e7;rw[Ni] at r0 r1;obtain⟨a,ha⟩:∃a,s3.get (xn:Int)=a:=⟨_,rfl⟩
       rw[ha] at r0 r1;have u:a.ok:=by rw[<-ha];exact q.out.2.1.oks.get _
       obtain⟨s4,r,hq⟩:∃s4 r,setF k s3 (vn:Int) a=(s4,r):=⟨_,_,rfl⟩
       have h6:vn<K.n:=Zo;have l1:xn<K.n:=Zo
       have d8:=Ja (show ∀W,SlvAt W K p g k s3->T 19 #[L K.sb,I vn,.agg #[G (a.lo:Int),G (a.hi:Int)]] W (i4 W K p g k (s4,r)) from fun W hb=>by
        have:=aft hb h6 u (aeL u (hb.oks.get _));rw[hq] at this
        exact this)
       have f3:bq.params.length=e.args.length:=HE.out.1.1.symm;have c6:=q.out.2.1.cells.2.2.2.2.2;rw[HW.out.2.2.2] at c6;have c8:=q.out.2.1.cells.2.2.1;have d3:=q.out.2.2.blk d.out.2.2.1 d.out.2.2.2.2.2 d.out.2.2.2.1;have z0:U wr t10 0 (I eb):=by rw[<-k7.out];exact zA d3 rfl
       have m3:=q.out.2.1.n64;have l8:m<bq.params.length:=Zo;have HQ:=Ja (Jb hq (Jb ha (Jb hz f3)));have i0:=lt_of_block q.out.2.1.cell;have a4:=lt_of_block q.out.2.1.row;have n2:K.B<=wr.heap.size:=Qd (Nat.lt_of_le_of_lt q.out.2.1.lt.1 i0);have l7:xb<wr.heap.size:=Zo;have l5:bb<wr.heap.size:=Zo;have l4:yb<wr.heap.size:=Zo;have b2:=Ja b1;clear hq ha hz hx hv f3 d6 a0 t d3 g6 u e7 h5 h4 h7 h0 b1;go_upto_region 15 with fail;refine zt 21 Zk Zk ?_;simp only[Qo,Uc,Qp,Ui]
       repeat (go_big_quiet_step (fail))
       refine wpQuiet_nil ?_;clear z0 c6 c8 y0 u0 xc r0 r1;cases r
       all_goals go_wp2_with (go_at_call 19;go_must (refine(d8.out _ (q.out.2.1.below (Below.refl _ _).drew)).mono ?_;rintro e w2 ⟨rfl,a4,a9⟩;have H2:=Ja (Jb a4 ((SlvTo.of_below (Below.refl wr.heap.size wr).drew).trans a9));clear a4 a9))
       all_goals (
        go_roundw
        case rel=>exact⟨m+1,s4,_,b2.out,by first|rfl|(cases c3<;>rfl),by go_num,Ja ⟨by rw[q8 HQ.out.2.2.1,q.out.1];unfold argS l6;rw[show(s3,c3).1.get ((vn:Int),(xn:Int)).2=a from HQ.out.2.1,HQ.out.1];first|rw[Bool.or_true]|rw[Bool.or_false],H2.out.1.below (by first|exact Below.refl _ _|exact(Below.refl _ _).drew),q.out.2.2.trans (H2.out.2.trans (SlvTo.of_below (by first|exact Below.refl _ _|exact(Below.refl _ _).drew)))⟩⟩
        case measure=>(try have h1:=a2.out);(try have h2:=b2.out);simp[intOf];omega)
      ·obtain rfl:m=e.args.length:=by omega
       have j2:¬(e.args.length:Int)<(e.args.length:Int):=Zo;clear hm b1;go_wp2;go_roundw
       case rel=>
        refine⟨j+1,s3,c3,a2.out,rfl,by go_num,Ja ⟨?_,q.out.2.1,d.out.2.1.trans q.out.2.2⟩⟩;rw[q8 HO.out.1,l.out.1];unfold agN;rw[HE.out.2.1,<-q.out.1,Oy (by rw[List.length_zip,HE.out.1.1];omega)]
       case measure=>(try have h1:=a2.out);(try have h2:=b2.out);simp[intOf];omega
    ·obtain rfl:j=bx.term.to.length:=by omega
     have b6:¬(bx.term.to.length:Int)<(bx.term.to.length:Int):=Zo;clear hj y;go_wp2;go_ret
     have g5:afB p g k (s,false) bx=(s2,c2):=by
      unfold afB;rw[HF.out,<-l.out.1,Nl]
     rw[g5];exact⟨rfl,l.out.2.1,HX.out.2.1.trans l.out.2.2⟩
def accL (bl:List IBlk):List IOp:=(bl.flatMap (·.ops)).filter p6
def dp (o:IOp):Int:=if o.code=18∨o.code=20 then 2 else 1
def mc:List IObj->Int->Rg->Int->Int
 | [],_,_,_=>-1
 |o::os,k,a,n=>if o.bank=-1/\o.addr<=a.lo/\(a.hi:Int)+n<=(o.addr:Int)+o.size then k else mc os (k+1) a n
def afy (data:List IObj)(R:List Rg)(o:IOp):Int:=mc data 0 (R.getD o.a.toNat ⟨0,0⟩) (dp o)
def agO (bl:List IBlk):List Int:=(accL bl).map dp
def aeC (data:List IObj)(R:List Rg)(bl:List IBlk):List Int:=(accL bl).map (afy data R)
def fnT (p:IProg)(bl:List IBlk):Slv:=agM p bl (vD (zy bl)) 0 (ae6 (aaG bl).toNat (xz bl (0:Nat)).params)
def wk (p:IProg)(bl:List IBlk):List Rg:=aa1 (fnT p bl)
structure FnS (p:IProg) (bl:List IBlk):Prop where
 st:StF p bl
 cnt:0<=aaG bl/\aaG bl<=65536
 rng:∀i:Nat,i<bl.length->(∀x∈(xz bl i).params,0<=x/\x.toNat<(aaG bl).toNat)/\∀o∈(xz bl i).ops,cS (aaG bl).toNat o/\(0<=o.res->o.res.toNat<(aaG bl).toNat)
 num:∀i:Nat,i<bl.length->∀o∈(xz bl i).ops,o.n<65536
theorem FnS.sol{p:IProg}(h:FnS p bl):∀i:Nat,i<bl.length->pn (aaG bl).toNat bl (xz bl i):=fun i hi=>by
 refine⟨fun o ho h0=>⟨(h.rng i hi).2 o ho|>.2 h0,?_,fun _=>h.num i hi o ho⟩,fun e he x hx=>?_⟩
 ·have:=(ags (h.st.opok i hi o ho)).1;omega
 ·have c:=h.st.trm i hi;unfold wn at c;rw[Jm,Oe] at c;have d:=c.1 e he;unfold uM at d;simp only[Jm,decide_eq_true_eq] at d;have:=(h.rng e.block.toNat Zo).1;rw[show((e.block.toNat:Nat):Int)=e.block by omega] at this;exact(this x hx).2
theorem FnS.ord{p:IProg}(h:FnS p bl)(i:Nat):i∈vD (zy bl)↔i<bl.length:=by
 obtain⟨ns,d⟩:=adR h.st.vg;rw[d.eq];constructor
 ·intro c;have:=d.lt i c
  rwa [xu] at this
 ·intro c;exact(d.mem i).2 (h.st.all i c)
theorem FnS.pos{p:IProg}(h:FnS p bl):0<bl.length:=by have:=h.st.vg.1;rwa [xu] at this
theorem FnS.end{p:IProg}(h:FnS p bl):EndOk p (aaG bl).toNat bl (vD (zy bl)) (ae6 (aaG bl).toNat (xz bl (0:Nat)).params) (fnT p bl):=
 end_ok' (fun i hi=>h.sol i ((h.ord i).1 hi)) (start_ok fun v hv=>((h.rng 0 h.pos).1 v hv).2)
theorem afF{p:IProg}(hv:vC p=0)(hs:∀f∈p.funcs,vZ f)(h64:P64 p){n:Nat}(c:p.funcs[n]? =some bl)(j:bl≠ []):FnS p bl:=by
 obtain⟨_,hf⟩:=rz hv;have d:=Ji c;obtain⟨h,g⟩:=dw c (hf n (Jh.1 c).1);refine⟨stF_of c j (hf n (Jh.1 c).1),h,fun i hi=>?_,fun i hi o ho=>?_⟩
 ·obtain⟨b,hb⟩:∃b,bl[i]? =some b:=⟨_,Jd hi⟩
  rw[y7 hb];have:=g b (Ji hb);exact⟨this.1,this.2.1⟩
 ·obtain⟨b,hb⟩:∃b,bl[i]? =some b:=⟨_,Jd hi⟩
  rw[y7 hb] at ho;exact((h64.funcs bl d b (Ji hb)).ops o ho).1.2.2.2.2
end Go.Proofs.Ytoahcpkibpomcaa
