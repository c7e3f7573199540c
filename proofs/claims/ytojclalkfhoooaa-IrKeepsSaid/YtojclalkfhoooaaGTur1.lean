/- Part of a proof. -/
import Derived.Test.YtojclalkfhoooaaGTur0
import Derived.Test.YtojclalkfhoooaaSpo6
set_option linter.all false
set_option maxHeartbeats 4000000
set_option maxRecDepth 100000
namespace Go.Proofs.Ytojclalkfhoooaa
open Go.RowKit
variable {w wx:World}{g i j k o5 ob oc p1:Nat}{t:PT}{c u:Value}{bt:BT}{l:List BT}{rs:List Row}{o o2:IOp}{q0 q1 q2:Int}
theorem jP{s:List Int}{sv:Value}(hs:zY w w.heap.size sv s):
 G 44 #[sv] w (fun e w'=>∃V:PV,e=.returned (yH V (uR s))/\(∀W,StaysL w.heap.size w' W->ProgIn W W.heap.size V (uR s))/\L w w'):=by
 obtain⟨sa,sc,h5,_,_⟩:=hs.form;subst h5;have HS:=Ja hs;have f1:=mk_bank;obtain⟨Z,hZ⟩:∃Z,madeCells #[Value.int .u8 0] 4096=Z:=⟨_,rfl⟩
 rw[hZ] at f1;have HZ:=Ja hZ;clear hs hZ;go_enter Try.func44,Try.ntmps44;go_upto_region 2 with fail;generalize c0:(w.alloc (A #[F,F,O 0,O 0,F,F] 29)).alloc (A Z 5)=W0;have e6:Z=((uQ 0).map wz).toArray:=by rw[<-HZ.out,yA,mM,List.map_replicate];rfl
 have e8:Y W0 w.heap.size #[F,F,O 0,O 0,F,F] 29:=by rw[<-c0];exact zB (zI rfl)
 have f4:Y W0 (w.heap.size+1) ((uQ 0).map wz).toArray 5:=by rw[<-c0,<-e6];exact zI Zs
 have d4:L w W0:=by rw[<-c0];exact((Below.refl _ _).alloc (Je _) _).alloc Zs _
 have H0:=Ja (Jb f4 (Jb e8 d4));obtain⟨rr,c8⟩:∃rr,w.heap.size=rr:=⟨_,rfl⟩
 rw[c8] at H0 ⊢;obtain⟨bb,d5⟩:∃bb,rr+1=bb:=⟨_,rfl⟩
 rw[d5] at H0 ⊢;have e3:=Ja (Jb c8 d5);clear e6 e8 f4 d4 c0 f1 c8 d5 HZ;go_wp2
 go_loopw [4] (fun kv wx=>∃k:Nat,k<=4096/\kv=O k/\Hid (Y wx bb ((uQ k).map wz).toArray 5/\Y wx rr #[F,F,O 0,O 0,F,F] 29/\Below rr w wx)) (fun kv _=>4096-(intOf kv).toNat)
 case atStart=>exact⟨0,Jt _,rfl,H0⟩
 case round=>
  obtain⟨k,hk,rfl,l⟩:=hrel
  by_cases a1:k<4096
  ·have a4:(k:Int)<4096:=Zo;have e0:=Ja a1;obtain⟨x,hx⟩:∃x,(uQ k)[k]? =some x:=⟨_,Jd (by rw[pM];exact a1)⟩
   have cx:T wr bb k (.int .u8 (x:Int)):=zA l.out.1 (by simp[hx,wz]);have fx:N wr bb k:=zE l.out.1;have j5:=lt_of_block l.out.1;have hq:k*k<=4095*4095:=Nat.mul_le_mul Zo Zo;have j3:(0:Int)<=(k:Int)*(k:Int):=by rw[<-Int.natCast_mul];exact Int.natCast_nonneg _
   have j2:(k:Int)*(k:Int)<=16769025:=by rw[<-Int.natCast_mul];omega
   clear a1 hx hq;go_wp2;have e1:((k:Int)*(k:Int)+(k:Int)/256)%256=((rp k:Nat):Int):=by unfold rp;simp
   rw[e1];refine⟨⟨k+1,e0.out,by go_num,Ja ⟨?_,zR (a:=⟨bb,k,none⟩) l.out.2.1 (by have:=e3.out.2;show rr≠bb;omega),l.out.2.2.setCell (by have:=e3.out.2;show rr<=bb;omega) _⟩⟩,by have:=e0.out;simp[intOf];omega⟩;rw[zD l.out.1,<-kC e0.out];simp[Ox,wz]
  ·obtain rfl:k=4096:=by omega
   have a4:¬(((4096:Nat):Int)<4096):=Zo;have b5:=l.out.1;rw[nu] at b5;have d3:=pN b5 (n:=4096) (by unfold iu;simp);rw[mq] at d3;have hrl:=lt_of_block l.out.2.1;clear a1 b5 hk;obtain⟨bank,a7⟩:∃b,sG=b:=⟨_,rfl⟩
   rw[a7] at d3;have i8:=Ja a7;clear a7;go_upto_region 9 with fail;have r:=md_setup (sv:=.slice sa s.length sc) e3.out.1 l.out.2.1 l.out.2.2;rw[i8.out] at r;generalize (((wr.alloc (A #[.string bank] 9)).alloc (A #[F,F,O 0,O (-1),Q (wr.heap.size+1+1) 3 3,Q wr.heap.size 1 1] 29)).alloc (A #[O (-1),U 16384,U 16,O (-1),U 16640,U 7,O 0,U 128,U 32] 51)).alloc (A #[.slice sa s.length sc,O 0,I (wr.heap.size+1),O 0,F,O 0,O 0,F,O 0] 120)=W1 at *;generalize wr.heap.size+1+1+1=pm at *;generalize wr.heap.size+1+1=db at *;generalize wr.heap.size+1=pp at *;generalize wr.heap.size=sb at *;have H1:=Ja r;have c7:=r.bel.size
   have a0:G 59 #[I pm,O 4] W1 (fun e w'=>∃z:Nat,z<4/\Hid (mdN s=1+z)/\e=.returned (O z)/\Hid (MdHd w (.slice sa s.length sc) (F) rr sb pp db pm (-1) (F) [] 1 w')):=
    (tf r.mkr rfl rfl (HS.out.below zO r.bel) (n:=4) Zd Zd Zd).mono (fun e w' ⟨h1,h2,h3⟩=>⟨_,rX s 0 Zd,Ja rfl,h1,Ja (r.tick h2 h3)⟩)
   have a6:=Ja a0;clear r d3 a4 hrl a0;go_upto_region 10 with(go_at_call 59;go_must (refine a6.out.mono ?_;rintro e W2 ⟨z,e7,HN,rfl,f8⟩))
   obtain⟨n,hn⟩:∃n,1+z=n:=⟨_,rfl⟩
   have f0:1+(z:Int)=(n:Int):=Zo;rw[f0];have b9:mdN s=n:=HN.out.trans hn;have h6:1<=n/\n<=4:=Zo;have HN:=Ja b9;clear b9 f0 hn e7 a6 H1 c7;go_wp2
   go_loopw [8] (fun kv wx=>∃(k:Nat) (av:Value),k<=n/\kv=O k/\Hid (MdHd w (.slice sa s.length sc) av rr sb pp db pm (-1) (F) (yS s k) (sw k) wx)) (fun kv _=>n-(intOf kv).toNat)
   case atStart=>exact⟨0,_,Jt _,rfl,f8⟩
   case round=>
    obtain⟨k,av,hk,rfl,l⟩:=hrel
    by_cases a1:k<n
    ·have a4:(k:Int)<(n:Int):=Zo;obtain⟨ij,f3,c5,c4,c3⟩:=info_parts Try.info_int
     by_cases b1:k=0
     ·have h8:¬(0:Int)<(k:Int):=Zo;have c2:=Ja b1;clear b1;obtain⟨aa,ac,b2⟩:=zG l.out.own;have t:=l.out.own;rw[yY] at b2 t;subst b2;have c7:=l.out.bel.size;have c1:=zA (i:=1) l.out.prog rfl;have e9:=lt_of_block l.out.prog;have HO:=Ja t;clear t;go_wp2_with (at_builtin;go_must (refine zK _ rfl (.tmp 61) (.tmp 63) 22 rfl w.heap.size 3 ij (O 0) 1 8 Try.underlying22 f3 c5 c4 c3 rfl Zd (.slice aa k ac) k ((yS s k).map zN) rfl (HO.out.alloc _) _ 1 [zN 0] rfl (yM.one (zI rfl) rfl) (by unfold maxLen;omega) Zo Zt ?_;intro v9 w9 q d b6;obtain⟨b0,a9,rfl⟩:=zG q;have y:=zL d (zB l.out.prog) (zC HO.out l.out.prog (.inr Zd));have g5:=zA (i:=1) y rfl;have g4:N w9 pp 1:=zE y;have g1:=lt_of_block y;have HG:=Ja (Jb q d);clear q d b6 y))
      go_roundw
      case rel=>
       have hq:=l.out.push (x:=0) (av':=.slice b0 (k+1) a9) HG.out.2 (by rw[yY];exact HG.out.1);refine⟨k+1,.slice b0 (k+1) a9,a1,by go_num,Ja ?_⟩;have e1:yS s (k+1)=yS s k++ [0]:=by rw[qC,if_pos c2.out]
       have e2:sw (k+1)=sw k:=by have:=c2.out;subst this;rfl
       rw[e1,e2];exact hq
      case measure=>simp[intOf];omega
     ·have h8:(0:Int)<(k:Int):=Zo;have c2:=Ja b1
      have a0:G 59 #[I pm,O 4] wr (fun e w'=>∃z:Nat,z<4/\Hid (tk0 s k 4=z)/\e=.returned (O z)/\Hid (MdHd w (.slice sa s.length sc) av rr sb pp db pm (-1) (F) (yS s k) (k+1) w')):=by
       have e:sw k=k:=by unfold sw;rw[if_neg b1]
       have hm:=l.out;rw[e] at hm;exact(tf hm.mkr rfl rfl (HS.out.below zO hm.bel) (n:=4) Zd Zd Zo).mono (fun e w' ⟨h1,h2,h3⟩=>⟨_,rX s k Zd,Ja rfl,h1,Ja (hm.tick h2 h3)⟩)
      have a6:=Ja a0;clear b1 a0;go_upto_region 16 with(go_at_call 59;go_must (refine a6.out.mono ?_;rintro e W3 ⟨z,e7,i2,rfl,a2⟩))
      obtain⟨aa,ac,b2⟩:=zG a2.out.own;have t:=a2.out.own;rw[yY] at b2 t;subst b2;have c7:=a2.out.bel.size;have c1:=zA (i:=1) a2.out.prog rfl;have e9:=lt_of_block a2.out.prog;have HO:=Ja t;clear t;go_wp2_with (at_builtin;go_must (refine zK _ rfl (.tmp 61) (.tmp 63) 22 rfl w.heap.size 3 ij (O 0) 1 8 Try.underlying22 f3 c5 c4 c3 rfl Zd (.slice aa k ac) k ((yS s k).map zN) rfl (HO.out.alloc _) _ 1 [zN (z:Int)] rfl (yM.one (zI rfl) rfl) (by unfold maxLen;omega) Zo Zt ?_;intro v9 w9 q d b6;obtain⟨b0,a9,rfl⟩:=zG q;have y:=zL d (zB a2.out.prog) (zC HO.out a2.out.prog (.inr Zd));have g5:=zA (i:=1) y rfl;have g4:N w9 pp 1:=zE y;have g1:=lt_of_block y;have HG:=Ja (Jb q d);clear q d b6 y))
      go_roundw
      case rel=>
       have hq:=a2.out.push (x:=(z:Int)) (av':=.slice b0 (k+1) a9) HG.out.2 (by rw[yY];exact HG.out.1);refine⟨k+1,.slice b0 (k+1) a9,a1,by go_num,Ja ?_⟩;have e1:yS s (k+1)=yS s k++ [(z:Int)]:=by rw[qC,if_neg c2.out,i2.out]
       have e2:sw (k+1)=k+1:=rfl;rw[e1,e2];exact hq
      case measure=>simp[intOf];omega
    ·obtain rfl:n=k:=by omega
     have a4:¬(n:Int)<(n:Int):=Zo;have e:sw n=n:=by unfold sw;rw[if_neg Zo]
     have f2:=mk_funcs n h6.2;have a5:=l.out;rw[e] at a5;have p0:=zA (i:=0) a5.prog rfl;have g6:N wr pp 0:=zE a5.prog;have e9:=lt_of_block a5.prog;have c:=Ja (Jb (a5.funcs (A (List.replicate n (Value.slice none 0 0)).toArray 43) (Q wr.heap.size n n)) (zI (W:=wr.setCell ⟨pp,0,none⟩ (Q wr.heap.size n n)) (o:=A (List.replicate n (Value.slice none 0 0)).toArray 43) (B:=wr.heap.size) Zs));have h9:=a5.bel.size;have d6:(List.replicate n (Value.slice none 0 0)).toArray=Array.replicate n (Value.slice none 0 0):=by simp
     rw[d6] at c f2;clear d6;clear a1 e a5 l f8;go_upto_region 18 with fail;generalize i0:(wr.setCell ⟨pp,0,none⟩ (Q wr.heap.size n n)).alloc (A (Array.replicate n (Value.slice none 0 0)) 43)=W3 at *;generalize k2:wr.heap.size=fb at *;clear p0 g6 f2 a4 i0;obtain⟨m,hm⟩:∃m,n=m+1:=⟨n-1,by omega⟩
     have j4:(n:Int)-1=(m:Int):=Zo;have h7:m<n:=Zo;have d2:n-1=m:=Zo;have d8:=Ja (Jb hm d2);clear hm d2;obtain⟨x,hx⟩:∃x,(yS s n)[m]? =some x:=⟨_,Jd (by rw[yY];exact h7)⟩
     obtain⟨g,ac,e,k1,k0⟩:=c.out.1.own.form (by rw[yY];omega);rw[yY] at e;subst e;have c1:=zA (i:=1) c.out.1.prog rfl;have g0:=lt_of_block c.out.1.prog
     have g8:T W3 g m (O x):=by
      have h0:=c.out.1.own;rw[yY] at h0;have h1:=h0.cellAt m Zo;exact h1.trans (by rw[Jr,hx];rfl)
     have j:oJ s=(decide (1<n) && decide (x=0)):=by
      unfold oJ;rw[HN.out,d8.out.2,Jj,hx];rfl
     have f9:pm<W3.heap.size:=lt_of_block c.out.1.mkr;have g2:fb<W3.heap.size:=lt_of_block c.out.2
     have d0:fb≠pm:=fun e=>by
      have h1:=c.out.1.mkr;have h2:=c.out.2;rw[e,h1] at h2
      injection h2 with h3
      injection h3 with _ h4
      exact absurd h4 Zd
     have a0:G 59 #[I pm,O 2] W3 (fun e w'=>∃z:Nat,z<2/\Hid (tk0 s n 2=z)/\e=.returned (O z)/\Hid (MdHd w (.slice sa s.length sc) (Q g n ac) rr sb pp db pm (-1) (Q fb n n) (yS s n) (n+1) w'/\Y w' fb (Array.replicate n (Value.slice none 0 0)) 43)):=
      (tf c.out.1.mkr rfl rfl (HS.out.below zO c.out.1.bel) (n:=2) Zd Zd Zo).mono (fun e w' ⟨h1,h2,h3⟩=>⟨_,rX s n Zd,Ja rfl,h1,Ja ⟨c.out.1.tick h2 h3,h3.blk c.out.2 d0⟩⟩)
     have a6:=Ja a0;have e4:=Ja (Jb j hx);have k3:=Ja d0;clear j hx a0 d0;have d1:1<n->decide ((1:Int)<(n:Int))=true/\decide (1<n)=true:=fun h=>⟨by rw[decide_eq_true_iff];omega,by rw[decide_eq_true_iff];exact h⟩
     have g3:=Ja d1;clear d1
     go_cut [89] (fun v wx=>∃b:Bool,v=.bool b/\Hid ((b=true↔oJ s=true/\tk0 s n 2=0)/\MdHd w (.slice sa s.length sc) (Q g n ac) rr sb pp db pm (-1) (Q fb n n) (yS s n) (sP s) wx/\Y wx fb (Array.replicate n (Value.slice none 0 0)) 43))
     case first=>
      by_cases h1:1<n
      ·have f6:(1:Int)<(n:Int):=Zo;obtain⟨i1,f5⟩:=g3.out h1
       by_cases a3:x=0
       ·have g9:(x==0)=true:=by rw[beq_iff_eq];exact a3
        have j:oJ s=true:=by rw[e4.out.1];simp[h1,a3]
        have e5:=Ja j;have f7:=Ja a3;clear j a3;have c9:sP s=n+1:=by unfold sP;rw[e5.out,HN.out];rfl
        have d7:=Ja c9;clear c9
        by_cases b8:tk0 s n 2=0
        ·have b3:=Ja b8;clear b8;go_wp2_with (go_at_call 59;go_must (refine a6.out.mono ?_;rintro e w4 ⟨z,g7,HZ,rfl,b4⟩;obtain rfl:z=0:=HZ.out.symm.trans b3.out))
         go_meet;refine⟨true,rfl,Ja ⟨⟨(fun _=>⟨e5.out,b3.out⟩),(fun _=>rfl)⟩,?_,b4.out.2⟩⟩;rw[d7.out];exact b4.out.1
        ·have b3:=Ja b8;clear b8;go_wp2_with (go_at_call 59;go_must (refine a6.out.mono ?_;rintro e w4 ⟨z,g7,HZ,rfl,b4⟩;have tz:((z:Int)==0)=false:=by rw[beq_eq_false_iff_ne];have:=HZ.out;have:=b3.out;omega))
         go_meet;refine⟨false,rfl,Ja ⟨⟨(fun e=>by cases e),(fun e=>absurd e.2 b3.out)⟩,?_,b4.out.2⟩⟩;rw[d7.out];exact b4.out.1
       ·have g9:(x==0)=false:=by rw[beq_eq_false_iff_ne];exact a3
        have f7:=Ja a3;clear a3;go_wp2;go_meet;have j:oJ s=false:=by rw[e4.out.1];simp[f7.out]
        refine⟨false,rfl,Ja ⟨⟨(fun e=>by cases e),(fun e=>by rw[j] at e;cases e.1)⟩,?_,c.out.2⟩⟩;have e:sP s=n:=by unfold sP;rw[j,HN.out];rfl
        rw[e];exact c.out.1
      ·have f6:¬(1:Int)<(n:Int):=Zo;have f5:decide (1<n)=false:=by rw[decide_eq_false_iff_not];exact h1
       have i1:decide ((1:Int)<(n:Int))=false:=by rw[decide_eq_false_iff_not];exact f6
       go_wp2;go_meet;have j:oJ s=false:=by rw[e4.out.1,f5];rfl
       refine⟨false,rfl,Ja ⟨⟨(fun e=>by cases e),(fun e=>by rw[j] at e;cases e.1)⟩,?_,c.out.2⟩⟩;have e:sP s=n:=by unfold sP;rw[j,HN.out];rfl
       rw[e];exact c.out.1
     case rest=>
     obtain⟨b,rfl,HB⟩:=hcut;have b7:=Ja HB;clear c1 g0 g8 f9 g2;have p3:=zA (i:=3) HB.out.2.1.prog rfl;have j1:N wc pp 3:=zE HB.out.2.1.prog;have j0:=lt_of_block HB.out.2.1.prog
     have i3:=Ja (Jb (HB.out.2.1.hnd (m:Int)) (zR (a:=⟨pp,3,none⟩) (u:=O m) HB.out.2.2 (fun e=>by
      have h1:=HB.out.2.1.prog;have h2:=HB.out.2.2;rw[e] at h2;rw[show(⟨pp,3,none⟩:Addr).block=pp from rfl,h1] at h2
      injection h2 with h3
      injection h3 with _ h4
      exact absurd h4 Zd)))
     go_upto_if 89 with fail
     go_cut [] (fun wx=>Hid (MdHd w (.slice sa s.length sc) (Q g n ac) rr sb pp db pm (vw s) (Q fb n n) (yS s n) (sP s) wx/\Y wx fb (Array.replicate n (Value.slice none 0 0)) 43))
     case first=>
      cases b
      ·go_wp2;go_meet;have e:vw s=-1:=by unfold vw;rw[if_neg (fun e=>by rw[HN.out] at e;have:=b7.out.out.1.2 e;cases this)]
       rw[e];exact Ja b7.out.out.2
      ·go_wp2;go_meet;have e:vw s=(m:Int):=by unfold vw;rw[HN.out,if_pos (b7.out.out.1.1 (by trivial)),d8.out.2]
       rw[e];exact i3
     case rest=>
     refine ‹∀(a:Act) (w:World),Code.wp Try.prog _ _ a w->_› _ _ ?_;have b9:=HN.out;subst b9;exact j9 HS hcut h9 d8.out.2 _ _ _ _ _ _ _ _ _ _ _ _ _ _ _ _ _ _ _ _ _ _ _ _ _ _ _ _ _ _ _ _ _ _ _ _ _ _ _ _ _ _ _ _ _ _ _ _ _ _ _ _ _ _ _ _ _ _ _ _ _ _ _ _ _ _ _ _ _ _ _ _ _ _ _ _ _ _ _ _ _ _ _ _ _ _ _ _ _ _ _ _ _ _ _ _ _ _ _ _ _ _ _ _ _ _ _ _ _ _ _ _ _ _ _ _ _ _ _ _ _ _ _ _ _ _ _ _ _ _ _ _ _ _ _ _ _ _ _ _ _ _ _ _ _ _ _ _ _ _ _ _ _ _ _ _ _ _ _ _ _ _ _ _ _ _ _ _ _ _ _ _ _ _ _ _ _ _ _ _ _ _ _ _ _ _ _ _ _ _ _ _ _ _ _ _
theorem Try.info_obj:(Try.prog.info? 51).map (fun i=>(i.zero,i.size,i.bytes))=some (some (.agg #[O 0,U 0,U 0]),3,16):=by kernel_rfl
theorem Try.info_str:(Try.prog.info? 9).map (fun i=>(i.zero,i.size,i.bytes))=some (some (.string ⟨#[]⟩),1,16):=by kernel_rfl
theorem oe{α:Type}{sz:Nat}{R:World->Nat->Nat->Nat->α->Prop}{f:α->List Value}(c:0<sz)(hf:∀a,(f a).length=sz)(h1:∀a,∀u∈f a,u.oneCell'=true){B:Nat}{v:Value}{xs:List α}(h:yN sz R w B v xs)
 (hR:∀b q x,R w B b q x->∀j u,(f x)[j]? =some u->T w b (q+j) u):yM w sz v xs.length (xs.flatMap f):=by
 obtain⟨a,m,rfl,h2,h3,l⟩:=h;refine⟨a,m,rfl,wq f sz hf xs,fun u hu=>?_,?_⟩
 ·obtain⟨x,_,r⟩:=Qx.1 hu;exact h1 x u r
 ·cases xs with
  |nil=>
   cases a with
   |none=>exact .inl ⟨rfl,rfl⟩
   |some ad=>exact .inr ⟨ad,rfl,fun j u hu=>by simp at hu⟩
  |cons x xs=>
   obtain⟨b,o,rfl,_,_⟩:=l 0 x rfl;refine .inr ⟨_,rfl,fun j u hu=>?_⟩
   have i:j<(x::xs).length*sz:=by
    have:=(Jh.1 hu).1;rw[wq f sz hf] at this;exact this
   have hk:j/sz<(x::xs).length:=by
    rw[Nat.div_lt_iff_lt_mul c];exact i
   obtain⟨y,d⟩:∃y,(x::xs)[j/sz]? =some y:=⟨_,Jd hk⟩
   obtain⟨b',o',e,_,hr⟩:=l (j/sz) y d;cases e;have hm:=Qj j c;have t:j=(j/sz)*sz+j%sz:=by rw[Nat.mul_comm];exact(Nat.div_add_mod j sz).symm
   have g:(f y)[j%sz]? =some u:=by
    have k:=uB f sz hf (x::xs) (j/sz) y d (j%sz) hm;rw[<-t] at k;rw[<-k];exact hu
   have h6:=hR _ _ _ hr (j%sz) u g
   have e2:(⟨b,o,none⟩:Addr).add j=⟨b,o+j,none⟩:=by
    unfold Addr.add
    split
    ·rename_i h0;rw[h0];rfl
    ·rfl
   rw[e2,show o+j=o+(j/sz)*sz+j%sz by omega];exact h6
theorem kQ:∀(w:World) (B b q:Nat) (x:IObj),ObjR w B b q x->∀(j:Nat) (u:Value),(xP x)[j]? =some u->T w b (q+j) u:=fun w B b q x h j u hj=>by
 obtain⟨c,h1,h2,_⟩:=h
 match j,hj with
 |0,hj=>cases hj;exact c
 |1,hj=>cases hj;exact h1
 |2,hj=>cases hj;exact h2
 |j+3,hj=>simp[xP] at hj
theorem strs_src{B:Nat}{v:Value}{xs:List ByteArray}(h:adu w B v xs):yM w 1 v xs.length (xs.map .string):=by
 have h1:=oe (f:=fun s:ByteArray=> [Value.string s]) (sz:=1) Zd (fun _=>rfl) (fun a u hu=>by rw[Jo] at hu;subst hu;rfl) h (fun b q x hx j u hj=>by
  match j,hj with
  |0,hj=>cases hj;exact hx.1
  |j+1,hj=>simp at hj)
 rw[<-Qh] at h1;exact h1
theorem vz{B r2:Nat}{cs:Array Value}(h:Rows w B t.rows)(h2:Y w r2 cs 29):Rows (w.setCell ⟨r2,i,none⟩ u) B t.rows:=by
 refine h.keep fun k hk=>Below.heap_setCell _ _ _ _ (fun e=>?_)
 obtain⟨x,d,c⟩:=Nj.1 hk;have e':k=r2:=e;subst e';exact zC (h.own x d) h2 (.inr (vr x d)) c
def pt0 (en hn:Int):PT:=⟨[],F,[],F,[],F,[],F,en,hn⟩
theorem pt0_rows{B:Nat}{en c:Int}:Rows w B (pt0 en c).rows:=by
 show Rows w B [wY (F) [],zP (F) [],vK (F) [],v8 (F) []]
 refine(((Rows.nil.cons (Jv _ _ _ _) ?_).cons (Jv _ _ _ _) ?_).cons (Jv _ _ _ _) ?_).cons (Jv _ _ _ _) ?_
 all_goals (intro g e;simp[Row.blk,v8,vK,zP,wY,Value.ownBlock] at e)
structure SmallP (p:IProg):Prop where
 fn:p.funcs.length<=2000000/\∀f∈p.funcs,vZ f/\jx f
 ar:p.args.length<=2000000
 da:p.data.length<=2000000
 ba:p.banks.length<=2000000
theorem own_any{V:PV}{p:IProg}(hp:ProgIn w w.heap.size V p)(hs:SmallP p):
 G 36 #[yH V p] w (fun e w'=>∃t:PT,e=.returned (yH t.V p)/\t.prog=p/\Rows w' w.heap.size t.rows/\L w w'):=by
 obtain⟨fa,fc,e9,m3,m1⟩:=hp.funcs.form;obtain⟨aa,ac,f3,n3,n1⟩:=hp.args.form;obtain⟨da,dc,f0,m6,m4⟩:=hp.data.form;obtain⟨ba,bc,f1,j1,m7⟩:=hp.banks.form;obtain⟨p1,c9⟩:∃p1,w.heap.size=p1:=⟨_,rfl⟩
 have m2:=hs.fn.1;have n2:=hs.ar;have m5:=hs.da;have f2:=hs.ba;have i1:ProgIn w w.heap.size ⟨.slice fa p.funcs.length fc,.slice aa p.args.length ac,.slice da p.data.length dc,.slice ba p.banks.length bc⟩ p:=⟨by show iS _ _ _ _;rw[<-e9];exact hp.funcs,by show zY _ _ _ _;rw[<-f3];exact hp.args,by show kq _ _ _ _;rw[<-f0];exact hp.data,by show adu _ _ _ _;rw[<-f1];exact hp.banks,hp.ent,hp.hnd⟩
 have HP:=Ja (Jb i1 (Jb hs (Jb c9 (Jb e9 (Jb f3 (Jb f0 f1))))));unfold yH;rw[e9,f3,f0,f1];clear hp i1 hs e9 f3 f0 f1;have j3:L w (((w.alloc (A (P p fa fc aa ac da dc ba bc) 29)).alloc (A #[F,F,O 0,O 0,F,F] 29)).alloc (A #[F,F,O p.entry,O p.handler,F,F] 29)):=(((Below.refl _ _).alloc (Je _) _).alloc Zs _).alloc Zt _;have f4:=zB (o:=A #[F,F,O p.entry,O p.handler,F,F] 29) (zB (o:=A #[F,F,O 0,O 0,F,F] 29) (zI (W:=w) (o:=A (P p fa fc aa ac da dc ba bc) 29) rfl));have e1:=zB (o:=A #[F,F,O p.entry,O p.handler,F,F] 29) (zI (W:=w.alloc (A (P p fa fc aa ac da dc ba bc) 29)) (o:=A #[F,F,O 0,O 0,F,F] 29) rfl);have e0:=zI (W:=(w.alloc (A (P p fa fc aa ac da dc ba bc) 29)).alloc (A #[F,F,O 0,O 0,F,F] 29)) (o:=A #[F,F,O p.entry,O p.handler,F,F] 29) rfl;have h9:(w.alloc (A (P p fa fc aa ac da dc ba bc) 29)).heap.size=w.heap.size+1:=by simp
 have h8:((w.alloc (A (P p fa fc aa ac da dc ba bc) 29)).alloc (A #[F,F,O 0,O 0,F,F] 29)).heap.size=w.heap.size+1+1:=by simp
 rw[h9] at e1;rw[h8] at e0;clear h9 h8;go_enter Try.func36,Try.ntmps36;go_upto_region 2 with fail;generalize f9:((w.alloc (A (P p fa fc aa ac da dc ba bc) 29)).alloc (A #[F,F,O 0,O 0,F,F] 29)).alloc (A #[F,F,O p.entry,O p.handler,F,F] 29)=W1 at *;rw[c9] at f4 e1 e0;generalize k3:p1+1+1=q3 at *;generalize k2:p1+1=r2 at *;have f8:p1<r2/\r2<q3:=Zo;obtain⟨t0,f5⟩:∃t0,pt0 p.entry p.handler=t0:=⟨_,rfl⟩
 have c7:OwMid w p1 r2 q3 ⟨.slice fa p.funcs.length fc,.slice aa p.args.length ac,.slice da p.data.length dc,.slice ba p.banks.length bc⟩ p t0 W1:=⟨f4,e1,by rw[<-f5];exact e0,by rw[<-c9];exact j3,by rw[<-f5];exact pt0_rows,f8⟩
 have d5:=Ja f5;clear j3 f4 e1 e0 f9 k3 k2 f8;have c3:=HP.out.1;have a1:L w W1:=by rw[c9];exact c7.bel
 have b7:yM W1 1 (.slice aa p.args.length ac) (p.args.length) (p.args.map zN):=zY.src (c3.args.below zO a1);have qc:=zA (i:=1) c7.h3 rfl;have qs:T W1 q3 1 (F):=by rw[qc];rw[<-d5.out];rfl
 have ql:=lt_of_block c7.h3;have pc:=zA (i:=1) c7.h1 rfl;have pl:=lt_of_block c7.h1;have d0:=c7.sz;have g5:=Ja (Jb c7 b7);have b8:W1.ownsRow p1 3 1 (F) 0 []:=Jv _ _ _ _;obtain⟨ij,b9,a5,a4,a3⟩:=info_parts Try.info_int;clear c7 b7 c3 a1 qc;go_upto_region 3 with(at_builtin;go_must (refine zK _ rfl (.tmp 11) (.tmp 13) 22 rfl p1 3 ij (O 0) 1 8 Try.underlying22 b9 a5 a4 a3 rfl Zd (F) 0 [] rfl b8 (.slice aa p.args.length ac) (p.args.length) (p.args.map zN) rfl g5.out.2 (by unfold maxLen;omega) Zo Zo ?_;intro v9 w9 d g h;obtain⟨a0,y,rfl⟩:=zG d;have a2:=zL g g5.out.1.h3 (by simp[Value.ownBlock]);have d2:=zA (i:=1) a2 rfl;have d1:N w9 q3 1:=zE a2;have c8:=lt_of_block a2;have l:=Ja (Jb d (Jb g h));clear d g h a2))
 have d:=l.out.1;have h:=l.out.2.2;rw[Ng,Op] at d;rw[Ng] at h;obtain⟨t1,e6⟩:∃t1:PT,{t0 with args:=p.args,av:=.slice a0 (p.args.length) y }=t1:=⟨_,rfl⟩
 have c5:OwMid w p1 r2 q3 ⟨.slice fa p.funcs.length fc,.slice aa p.args.length ac,.slice da p.data.length dc,.slice ba p.banks.length bc⟩ p t1 (w9.setCell ⟨q3,1,none⟩ (.slice a0 (p.args.length) y)):=by
  rw[<-e6];refine g5.out.1.grow (r:=zP t0.av t0.args) (r':=zP (.slice a0 (p.args.length) y) (p.args)) (ns:=[]) (rs:=wY t0.fv t0.funcs::vK t0.dv t0.data::v8 t0.bv t0.banks::t0.funcs.flatMap FT.rows) ?_ (Below.refl _ _) Rows.nil ?_ d (fun x e=>?_) ?_ rfl
  ·classical
   unfold PT.rows;refine Jp.2 fun r=>?_
   simp only[Nb,Nf,Op];omega
  ·rw[show(zP t0.av t0.args).blk=none by rw[<-d5.out];rfl];exact l.out.2.1
  ·rcases h with e2|e2
   ·have e3:=e2.symm.trans e;simp[Value.ownBlock] at e3
   ·right;have e3:=e2.symm.trans e;simp at e3;omega
  ·classical
   unfold PT.rows;refine Jp.2 fun r=>?_
   simp only[Nb,Nf,Op];omega
 generalize f9:w9.setCell ⟨q3,1,none⟩ (.slice a0 (p.args.length) y)=V1 at *;rw[<-d5.out] at e6;have g2:=Ja e6;clear l d h f9 d2 d1 c8 qs ql pc pl b8 d0 e6 b9 a5 a4 a3 ij;have c3:=HP.out.1;have a1:L w V1:=by rw[c9];exact c5.bel
 have b7:yM V1 3 (.slice da p.data.length dc) (p.data.length) (p.data.flatMap xP):=oe (f:=xP) Zd sk (by simp[xP,Value.oneCell']) (c3.data.below tZ a1) (fun b q x hx=>kQ _ _ b q x hx);have qc:=zA (i:=4) c5.h3 rfl;have qs:T V1 q3 4 (F):=by rw[qc];rw[<-g2.out];rfl
 have ql:=lt_of_block c5.h3;have pc:=zA (i:=4) c5.h1 rfl;have pl:=lt_of_block c5.h1;have d0:=c5.sz;have g4:=Ja (Jb c5 b7);have b8:V1.ownsRow p1 51 3 (F) 0 []:=Jv _ _ _ _;obtain⟨ij,b9,a5,a4,a3⟩:=info_parts Try.info_obj;clear c5 b7 c3 a1 qc;go_upto_region 4 with(at_builtin;go_must (refine zK _ rfl (.tmp 17) (.tmp 19) 26 rfl p1 51 ij (.agg #[O 0,U 0,U 0]) 3 16 Try.underlying26 b9 a5 a4 a3 rfl Zd (F) 0 [] rfl b8 (.slice da p.data.length dc) (p.data.length) (p.data.flatMap xP) rfl g4.out.2 (by unfold maxLen;omega) Zo Zo ?_;intro v9 w9 d g h;obtain⟨a7,a6,rfl⟩:=zG d;have a2:=zL g g4.out.1.h3 (by simp[Value.ownBlock]);have d2:=zA (i:=4) a2 rfl;have d1:N w9 q3 4:=zE a2;have c8:=lt_of_block a2;have l:=Ja (Jb d (Jb g h));clear d g h a2))
 have d:=l.out.1;have h:=l.out.2.2;rw[Ng,Op] at d;rw[Ng] at h;obtain⟨t2,e5⟩:∃t2:PT,{t1 with data:=p.data,dv:=.slice a7 (p.data.length) a6 }=t2:=⟨_,rfl⟩
 have c4:OwMid w p1 r2 q3 ⟨.slice fa p.funcs.length fc,.slice aa p.args.length ac,.slice da p.data.length dc,.slice ba p.banks.length bc⟩ p t2 (w9.setCell ⟨q3,4,none⟩ (.slice a7 (p.data.length) a6)):=by
  rw[<-e5];refine g4.out.1.grow (r:=vK t1.dv t1.data) (r':=vK (.slice a7 (p.data.length) a6) (p.data)) (ns:=[]) (rs:=wY t1.fv t1.funcs::zP t1.av t1.args::v8 t1.bv t1.banks::t1.funcs.flatMap FT.rows) ?_ (Below.refl _ _) Rows.nil ?_ d (fun x e=>?_) ?_ rfl
  ·classical
   unfold PT.rows;refine Jp.2 fun r=>?_
   simp only[Nb,Nf,Op];omega
  ·rw[show(vK t1.dv t1.data).blk=none by rw[<-g2.out];rfl];exact l.out.2.1
  ·rcases h with e2|e2
   ·have e3:=e2.symm.trans e;simp[Value.ownBlock] at e3
   ·right;have e3:=e2.symm.trans e;simp at e3;omega
  ·classical
   unfold PT.rows;refine Jp.2 fun r=>?_
   simp only[Nb,Nf,Op];omega
 generalize k6:w9.setCell ⟨q3,4,none⟩ (.slice a7 (p.data.length) a6)=V2 at *;rw[<-g2.out] at e5;have g1:=Ja e5;clear l d h k6 d2 d1 c8 qs ql pc pl b8 d0 e5 b9 a5 a4 a3 ij;have c3:=HP.out.1;have a1:L w V2:=by rw[c9];exact c4.bel
 have b7:yM V2 1 (.slice ba p.banks.length bc) (p.banks.length) (p.banks.map .string):=strs_src (c3.banks.below tN a1);have qc:=zA (i:=5) c4.h3 rfl;have qs:T V2 q3 5 (F):=by rw[qc];rw[<-g1.out];rfl
 have ql:=lt_of_block c4.h3;have pc:=zA (i:=5) c4.h1 rfl;have pl:=lt_of_block c4.h1;have d0:=c4.sz;have g3:=Ja (Jb c4 b7);have b8:V2.ownsRow p1 9 1 (F) 0 []:=Jv _ _ _ _;obtain⟨ij,b9,a5,a4,a3⟩:=info_parts Try.info_str;clear c4 b7 c3 a1 qc;go_upto_region 5 with(at_builtin;go_must (refine zK _ rfl (.tmp 23) (.tmp 25) 27 rfl p1 9 ij (.string ⟨#[]⟩) 1 16 Try.underlying27 b9 a5 a4 a3 rfl Zd (F) 0 [] rfl b8 (.slice ba p.banks.length bc) (p.banks.length) (p.banks.map .string) rfl g3.out.2 (by unfold maxLen;omega) Zo Zo ?_;intro v9 w9 d g h;obtain⟨a9,rc3,rfl⟩:=zG d;have a2:=zL g g3.out.1.h3 (by simp[Value.ownBlock]);have d2:=zA (i:=5) a2 rfl;have d1:N w9 q3 5:=zE a2;have c8:=lt_of_block a2;have l:=Ja (Jb d (Jb g h));clear d g h a2))
 have d:=l.out.1;have h:=l.out.2.2;rw[Ng,Op] at d;rw[Ng] at h;obtain⟨t3,e4⟩:∃t3:PT,{t2 with banks:=p.banks,bv:=.slice a9 (p.banks.length) rc3 }=t3:=⟨_,rfl⟩
 have i3:OwMid w p1 r2 q3 ⟨.slice fa p.funcs.length fc,.slice aa p.args.length ac,.slice da p.data.length dc,.slice ba p.banks.length bc⟩ p t3 (w9.setCell ⟨q3,5,none⟩ (.slice a9 (p.banks.length) rc3)):=by
  rw[<-e4];refine g3.out.1.grow (r:=v8 t2.bv t2.banks) (r':=v8 (.slice a9 (p.banks.length) rc3) (p.banks)) (ns:=[]) (rs:=wY t2.fv t2.funcs::zP t2.av t2.args::vK t2.dv t2.data::t2.funcs.flatMap FT.rows) ?_ (Below.refl _ _) Rows.nil ?_ d (fun x e=>?_) ?_ rfl
  ·classical
   unfold PT.rows;refine Jp.2 fun r=>?_
   simp only[Nb,Nf,Op];omega
  ·rw[show(v8 t2.bv t2.banks).blk=none by rw[<-g1.out];rfl];exact l.out.2.1
  ·rcases h with e2|e2
   ·have e3:=e2.symm.trans e;simp[Value.ownBlock] at e3
   ·right;have e3:=e2.symm.trans e;simp at e3;omega
  ·classical
   unfold PT.rows;refine Jp.2 fun r=>?_
   simp only[Nb,Nf,Op];omega
 generalize k5:w9.setCell ⟨q3,5,none⟩ (.slice a9 (p.banks.length) rc3)=V3 at *;rw[<-g1.out] at e4;have k7:=Ja e4;clear l d h k5 d2 d1 c8 qs ql pc pl b8 d0 e4 b9 a5 a4 a3 ij
 have d6:t3.funcs=[]/\t3.fv=F/\t3.args=p.args/\t3.data=p.data/\t3.banks=p.banks/\t3.entry=p.entry/\t3.handler=p.handler/\t3.av=.slice a0 p.args.length y/\t3.dv=.slice a7 p.data.length a6/\t3.bv=.slice a9 p.banks.length rc3:=by
  rw[<-k7.out];exact⟨rfl,rfl,rfl,rfl,rfl,rfl,rfl,rfl,rfl,rfl⟩
 have d5:=Ja (show OwMid w p1 r2 q3 ⟨.slice fa p.funcs.length fc,.slice aa p.args.length ac,.slice da p.data.length dc,.slice ba p.banks.length bc⟩ p {t3 with funcs:=[],fv:=F } V3/\([]:List FT).map FT.fn=p.funcs.take 0 from⟨by
  have e:({t3 with funcs:=[],fv:=F }:PT)=t3:=by
   obtain⟨x1,x2,x3,x4,x5,x6,x7,x8,x9,l1⟩:=t3;obtain⟨h1,h2,_⟩:=d6;simp only at h1 h2;rw[h1,h2]
  rw[e]
  exact i3,rfl⟩)
 have m:=Ja d6;clear i3 d6;go_wp2
 go_loopw [4] (fun kv wx=>∃(k:Nat) (fl:List FT) (ga:Option Addr) (gc:Nat),k<=p.funcs.length/\kv=O k/\Hid (OwMid w p1 r2 q3 ⟨.slice fa p.funcs.length fc,.slice aa p.args.length ac,.slice da p.data.length dc,.slice ba p.banks.length bc⟩ p {t3 with funcs:=fl,fv:=.slice ga k gc } wx/\fl.map FT.fn=p.funcs.take k)) (fun kv _=>p.funcs.length-(intOf kv).toNat)
 case atStart=>exact⟨0,[],none,0,Jt _,rfl,d5⟩
 case round=>
  obtain⟨k,fl,ga,gc,hk,rfl,j⟩:=hrel;have c0:T wr p1 0 (.slice fa p.funcs.length fc):=zA (i:=0) j.out.1.h1 rfl;have cl:=lt_of_block j.out.1.h1
  by_cases f7:k<p.funcs.length
  ·have k0:(k:Int)<(p.funcs.length:Int):=Zo;obtain⟨f,hf⟩:∃f,p.funcs[k]? =some f:=⟨_,Jd f7⟩
   have a1:L w wr:=by rw[HP.out.2.2.1];exact j.out.1.bel
   have j0:=HP.out.1.funcs.below vR a1;obtain⟨bb,bo,k4,n0,bv,j1,f2⟩:=j0.get hf;rw[Nk] at j1;obtain⟨xa,xc,rfl,_,_⟩:=f2.form;subst k4;have f6:=HP.out.2.1.fn.2 f (Ji hf);have j4:=a1.size;have l0:bb<wr.heap.size:=Zo;have i2:∀W,L wr W->G 57 #[.agg #[.slice xa f.length xc]] W (fun e w'=>∃(ft:FT) (a:Option Addr) (n c:Nat),ft.bv=.slice a n c/\e=.returned (.agg #[.slice a n c])/\ft.fn=f/\Rows w' W.heap.size ft.rows/\L W w'):=fun W hW=>mA (f2.below yT (hW.mono j4)) (Jn j4 hW.size) f6.1 f6.2
   have q0:=zA (i:=0) j.out.1.h3 rfl;have qf:N wr q3 0:=zE j.out.1.h3;have ql:=lt_of_block j.out.1.h3;have j5:=Ja (Jb i2 hf);clear i2 hf f6 j0 f2 a1;go_upto_region 8 with fail
   have d7:fl.length=k:=by
    have h1:=congrArg List.length j.out.2;rw[Nr,Oc] at h1;omega
   have e7:wr.ownsRow p1 43 1 (.slice ga k gc) k (fl.map (·.bv)):=by
    have h1:=j.out.1.rows.own (wY (.slice ga k gc) fl) (.head _);unfold wY at h1;simp only at h1;rw[d7] at h1;exact h1
   have HO:=Ja (Jb e7 d7);have d0:=j.out.1.sz;obtain⟨ij,b9,a5,a4,a3⟩:=info_parts Try.info_irfunc;clear e7 d7
   go_region_law (first|(refine yG (by rfl) (.tmp 36) (.tmp 43) _ (by rfl) p1 43 ij (.agg #[F]) 1 24 Try.underlying25 b9 a5 a4 a3 rfl Zo (.slice ga k gc) k (fl.map (·.bv)) (by rfl) (c2.out.2.2.alloc _) (Q w5.heap.size 1 1) 1 [.slice g9 g7 g8] (by rfl) (yM.one (zI rfl) rfl) (by unfold maxLen;omega) Zo Zt ?_;intro aa9 g0 w9 d g h;have d8:=zL g (zB c2.out.2.1) (zC c2.out.2.2 c2.out.2.1 (.inr Zd));have l7:=zA (i:=0) d8 rfl;have l4:N w9 q3 0:=zE d8;have l2:=lt_of_block d8;have l:=Ja (Jb d (Jb g h));clear d g h d8)|(go_simp;refine(j5.out.1 _ (Below.refl _ _).drew).mono ?_;rintro e w5 ⟨ft,g9,g7,g8,i8,rfl,g6⟩;have d4:L wr w5:=(Below.refl _ _).drew.trans g6.2.2;have d3:=zH d4 j.out.1.h3 (lt_of_block j.out.1.h3);have e8:=p7 HO.out.1 d4 (Je _);have l8:=zA (i:=0) d3 rfl;have l5:N w5 q3 0:=zE d3;have l3:=lt_of_block d3;have k9:=d4.size;have c2:=Ja (Jb (Jb i8 (Jb g6 d4)) (Jb d3 e8));clear i8 g6 d4 d3 e8;dsimp only))
   all_goals go_wp2_with fail
   all_goals (
    refine⟨⟨k+1,fl++ [ft],aa9,g0,f7,by go_num,Ja ⟨?_,?_⟩⟩,by simp[intOf];omega⟩
    ·have j2:=(Below.refl w5.heap.size w5).alloc (Je _) (A #[.slice g9 g7 g8] 43);refine j.out.1.grow (r:=wY (.slice ga k gc) fl) (r':=wY (.slice aa9 (k+1) g0) (fl++ [ft])) (ns:=ft.rows) (rs:=zP t3.av t3.args::vK t3.dv t3.data::v8 t3.bv t3.banks::fl.flatMap FT.rows) (Uq _) (c2.out.1.2.2.trans (j2.mono c2.out.1.2.2.size)) (c2.out.1.2.1.2.1.below j2) l.out.2.1 ?_ (fun x e=>?_) ?_ rfl
     ·show w9.ownsRow p1 43 1 _ (fl++ [ft]).length ((fl++ [ft]).map (·.bv))
      rw[Jk,Ju,HO.out.2,Js]
      show w9.ownsRow p1 43 1 _ (k+1) (fl.map (·.bv)++ [ft.bv])
      rw[c2.out.1.1];exact l.out.1
     ·rcases l.out.2.2 with e2|e2
      ·exact .inl (e2.symm.trans e)
      ·right;have e3:=e2.symm.trans e;simp at e3;simp;omega
     ·classical
      unfold PT.rows;refine Jp.2 fun r=>?_
      simp only[Nb,Nf,Nx,Qa,List.flatMap_nil,Ua];omega
    ·rw[Js,j.out.2,Nh,j5.out.2]
     show _++ [ft.fn]=_
     rw[c2.out.1.2.1.1]
     rfl)
  ·obtain rfl:k=p.funcs.length:=by omega
   have k0:¬(p.funcs.length:Int)<(p.funcs.length:Int):=Zo;have q0:T wr q3 0 (.slice ga p.funcs.length gc):=zA (i:=0) j.out.1.h3 rfl;have q1:T wr q3 1 (.slice a0 p.args.length y):=(zA (i:=1) j.out.1.h3 rfl).trans (by rw[<-m.out.2.2.2.2.2.2.2.1];rfl);have q2:T wr q3 2 (O p.entry):=(zA (i:=2) j.out.1.h3 rfl).trans (by rw[<-m.out.2.2.2.2.2.1];rfl);have k1:T wr q3 3 (O p.handler):=(zA (i:=3) j.out.1.h3 rfl).trans (by rw[<-m.out.2.2.2.2.2.2.1];rfl);have q4:T wr q3 4 (.slice a7 p.data.length a6):=(zA (i:=4) j.out.1.h3 rfl).trans (by rw[<-m.out.2.2.2.2.2.2.2.2.1];rfl);have q5:T wr q3 5 (.slice a9 p.banks.length rc3):=(zA (i:=5) j.out.1.h3 rfl).trans (by rw[<-m.out.2.2.2.2.2.2.2.2.2];rfl);have ql:=lt_of_block j.out.1.h3;have v0:=zA (i:=0) j.out.1.h2 rfl;have v1:=zA (i:=1) j.out.1.h2 rfl;have v2:=zA (i:=2) j.out.1.h2 rfl;have v3:=zA (i:=3) j.out.1.h2 rfl;have v4:=zA (i:=4) j.out.1.h2 rfl;have v5:=zA (i:=5) j.out.1.h2 rfl;have vf:∀i,N wr r2 i:=fun i=>zE j.out.1.h2
   have vl:=lt_of_block j.out.1.h2;clear f7;go_wp2;have b0:=j.out.1.h2;have b1:=zD (i:=0) b0 (.slice ga p.funcs.length gc);have b2:=zD (i:=1) b1 (.slice a0 p.args.length y);have b3:=zD (i:=2) b2 (O p.entry);have b4:=zD (i:=3) b3 (O p.handler);have b5:=zD (i:=4) b4 (.slice a7 p.data.length a6);have b6:=zD (i:=5) b5 (.slice a9 p.banks.length rc3);have i0:=vz (i:=5) (u:=.slice a9 p.banks.length rc3) (vz (i:=4) (u:=.slice a7 p.data.length a6) (vz (i:=3) (u:=O p.handler) (vz (i:=2) (u:=O p.entry) (vz (i:=1) (u:=.slice a0 p.args.length y) (vz (i:=0) (u:=.slice ga p.funcs.length gc) j.out.1.rows b0) b1) b2) b3) b4) b5;have hg:=j.out.1.ges;have h7:Below p1 w (wr.setCell ⟨r2,0,none⟩ (.slice ga p.funcs.length gc)):=j.out.1.bel.setCell (by show p1<=r2;omega) _;have h6:Below p1 w ((wr.setCell ⟨r2,0,none⟩ (.slice ga p.funcs.length gc)).setCell ⟨r2,1,none⟩ (.slice a0 p.args.length y)):=h7.setCell (by show p1<=r2;omega) _;have h5:Below p1 w (((wr.setCell ⟨r2,0,none⟩ (.slice ga p.funcs.length gc)).setCell ⟨r2,1,none⟩ (.slice a0 p.args.length y)).setCell ⟨r2,2,none⟩ (O p.entry)):=h6.setCell (by show p1<=r2;omega) _;have h4:Below p1 w ((((wr.setCell ⟨r2,0,none⟩ (.slice ga p.funcs.length gc)).setCell ⟨r2,1,none⟩ (.slice a0 p.args.length y)).setCell ⟨r2,2,none⟩ (O p.entry)).setCell ⟨r2,3,none⟩ (O p.handler)):=h5.setCell (by show p1<=r2;omega) _;have h0:Below p1 w (((((wr.setCell ⟨r2,0,none⟩ (.slice ga p.funcs.length gc)).setCell ⟨r2,1,none⟩ (.slice a0 p.args.length y)).setCell ⟨r2,2,none⟩ (O p.entry)).setCell ⟨r2,3,none⟩ (O p.handler)).setCell ⟨r2,4,none⟩ (.slice a7 p.data.length a6)):=h4.setCell (by show p1<=r2;omega) _;have a1:Below p1 w ((((((wr.setCell ⟨r2,0,none⟩ (.slice ga p.funcs.length gc)).setCell ⟨r2,1,none⟩ (.slice a0 p.args.length y)).setCell ⟨r2,2,none⟩ (O p.entry)).setCell ⟨r2,3,none⟩ (O p.handler)).setCell ⟨r2,4,none⟩ (.slice a7 p.data.length a6)).setCell ⟨r2,5,none⟩ (.slice a9 p.banks.length rc3)):=h0.setCell (by show p1<=r2;omega) _;clear h7 h6 h5 h4 h0;have HE:=Ja (Jb i0 a1);generalize (((((wr.setCell ⟨r2,0,none⟩ (.slice ga p.funcs.length gc)).setCell ⟨r2,1,none⟩ (.slice a0 p.args.length y)).setCell ⟨r2,2,none⟩ (O p.entry)).setCell ⟨r2,3,none⟩ (O p.handler)).setCell ⟨r2,4,none⟩ (.slice a7 p.data.length a6)).setCell ⟨r2,5,none⟩ (.slice a9 p.banks.length rc3)=WF at *;have x0:=zA (i:=0) b6 rfl;have x1:=zA (i:=1) b6 rfl;have x2:=zA (i:=2) b6 rfl;have x3:=zA (i:=3) b6 rfl;have x4:=zA (i:=4) b6 rfl;have x5:=zA (i:=5) b6 rfl;have l9:=lt_of_block b6;clear b0 b1 b2 b3 b4 b5 b6 i0 a1 q0 q1 q2 k1 q4 q5 v0 v1 v2 v3 v4 v5 vf;refine bodyPost_ret (v:=.agg (P p ga gc a0 y a7 a6 a9 rc3)) ?_ rfl ?_
   ·rw[zM rfl];go_simp
   ·refine⟨{t3 with funcs:=fl,fv:=.slice ga p.funcs.length gc },?_,?_,?_,?_⟩
    ·unfold PT.V;simp only;rw[m.out.2.2.2.2.2.2.2.1,m.out.2.2.2.2.2.2.2.2.1,m.out.2.2.2.2.2.2.2.2.2]
    ·unfold PT.prog;simp only;rw[j.out.2,Nl,m.out.2.2.1,m.out.2.2.2.1,m.out.2.2.2.2.1,m.out.2.2.2.2.2.1,m.out.2.2.2.2.2.2.1]
    ·first|exact HE.out.1|(rw[HP.out.2.2.1];exact HE.out.1)
    ·first|exact HE.out.2|(rw[HP.out.2.2.1];exact HE.out.2)
theorem spoil_5{B:Nat}{v:Value}(h:SpSt w B g i v bt l rs){n:Nat}(hn:n<65536)(hz:SzB bt)(a9:0<bt.ops.length):
 G 45 #[.pointer (some ⟨g,i*5,none⟩),O 5,O n] w (uE w B g i v bt l rs 5 n):=by
 have m:w.ownsRow B 77 6 bt.ov bt.ops.length (bt.ops.flatMap zU):=h.rows.own _ (.tail _ (Jz _ (.tail _ (.head _))));obtain⟨xa,oc,a0⟩:=zG m;have j:=m;rw[a0] at j;have b6:=(zm j).1;obtain⟨ob,oc2,b5,c0,b9⟩:=j.form a9;cases b5;have t:bt.ov.ownBlock=some ob:=by rw[a0];rfl
 obtain⟨k,a1⟩:∃k,n%bt.ops.length=k:=⟨_,rfl⟩
 have hk:k<bt.ops.length:=by rw[<-a1];exact Qj _ a9
 have c7:(n:Int)%(bt.ops.length:Int)=(k:Int):=by rw[<-a1];exact(Ou _ _).symm
 obtain⟨⟨o,av⟩,q⟩:∃x,bt.ops[k]? =some x:=⟨_,Jd hk⟩
 have b0:=wb zX (h.rows.own _ (.head _)) h.gb h.at';have c1:T w g (i*5+1) (Q ob bt.ops.length oc):=by rw[<-a0];exact b0 1 _ rfl
 have gl:=((h.rows.own _ (.head _)).lt g h.gb).2;have a7:=wb y7 m t q;have c2:=hz.ops;have a6:w.ownsRow B 3 1 av o.args.length (o.args.map zN):=h.rows.own (zP av o.args) (.tail _ (Jz _ (.tail _ (.tail _ (.tail _ (Jz _ (Oj (Ji q))))))));obtain⟨aa,ac,d⟩:=zG a6;have c9:o.args.length<=2000000:=hz.oarg _ (Ji q);have c5:T w ob (k*6+5) (.slice aa o.args.length ac):=by rw[<-d];exact a7 5 _ rfl
 have b8:N w ob (k*6+5):=(zq Zd y7 m t q 5 Zd).2;have a2:ob<w.heap.size:=((h.rows.own _ (.tail _ (Jz _ (.tail _ (.head _))))).lt ob t).2;have s1:∀o,T (w.drew.alloc o) g (i*5+1) (Q ob bt.ops.length oc):=fun o=>(Ok w.drew _ _ gl).trans c1
 have s5:∀o,T (w.drew.alloc o) ob (k*6+5) _:=fun o=>(Ok w.drew _ _ a2).trans c5
 have f5:∀o,N (w.drew.alloc o) ob (k*6+5):=fun o=>(Below.frozen ((Below.refl w.heap.size w.drew).alloc (Je _) o) (p:=⟨ob,k*6+5,none⟩) a2).trans b8
 have a3:=fun x (hx:av.ownBlock=some x)=>h.farO q hx
 have hB:B<=w.heap.size:=by have:=(h.rows.own _ (.head _)).lt g h.gb;omega
 have HN:=Ja (show some g≠(Value.slice aa o.args.length ac).ownBlock/\some ob≠(Value.slice aa o.args.length ac).ownBlock by rw[<-d];exact⟨fun e=>(a3 g e.symm).1 rfl,fun e=>(a3 ob e.symm).2 t⟩);have HR:=Ja (show(w.alloc (A #[O ((n:Int)/7%20)] 3)).drew.ownsRow B 3 1 (.slice aa o.args.length ac) o.args.length (o.args.map zN)/\yM (w.alloc (A #[O ((n:Int)/7%20)] 3)).drew 1 (Q w.heap.size 1 1) 1 [O ((n:Int)/7%20)] by rw[<-d];exact⟨a6.alloc _,yM.one (w:=(w.alloc (A #[O ((n:Int)/7%20)] 3)).drew) (zI (W:=w) rfl) rfl⟩);have c4:IntKind.i64.wrap ((n:Int)/7)=(n:Int)/7:=Om _ Zo;have c3:((n:Int)/7).tmod 20=(n:Int)/7%20:=Qc Zo;obtain⟨ii,b7,b4,b3,b2⟩:=info_parts Try.info_int;have u:=Ja (Jb h (Jb t (Jb q (Jb d a1))));clear h m j a0 t q a1 b0 a7 hz b6 a6 d a3;go_enter Try.func45,Try.ntmps45;go_wp2;refine wp_region_noPanic ?_;refine yQ (S:=(fun w'=>T w' g (i*5+1) (Q ob bt.ops.length oc)/\T w' ob (k*6+5) (.slice aa o.args.length ac))) 20 Zk ⟨c1,c5⟩ (fun hHeld=>?_);refine Tl 0 ?_
 try simp only[Yp]
 refine Tl 1 ?_
 try simp only[Yp]
 refine Tl 2 ?_
 try simp only[Yp]
 refine Tl 3 ?_
 try simp only[Yp]
 refine Tl 4 ?_
 try simp only[Yp]
 refine Tl 5 ?_
 try simp only[Yp]
 refine Tl 6 ?_
 try simp only[Yp]
 refine Tl 7 ?_
 try simp only[Yp]
 refine Tl 8 ?_
 try simp only[Yp]
 refine Tl 9 ?_
 try simp only[Yp]
 refine Tl 10 ?_
 try simp only[Yp]
 refine Tl 11 ?_
 try simp only[Yp]
 refine Tl 12 ?_
 try simp only[Yp]
 refine Tl 13 ?_
 try simp only[Yp]
 refine Tl 14 ?_
 try simp only[Yp]
 refine Tl 15 ?_
 try simp only[Yp]
 refine zf (rs:=[16]) Zk Zs ?_;refine zS.cons (o:=_) rfl (fun K hK=>?_) ?_
 ·skip
  go_simp;refine hK.out _ _ ⟨s1 _,s5 _⟩ (fun hHeld=>?_);clear hK K
  try simp only[Yp]
  refine zf (rs:=[17]) Zk Zs ?_;refine zS.cons (o:=_) rfl (fun K hK=>?_) ?_
  ·skip
   (refine yG (by rfl) (.tmp 100) (.tmp 104) _ (by rfl) B 3 ii (O 0) 1 8 Try.underlying22 b7 b4 b3 b2 rfl Zo (.slice aa o.args.length ac) o.args.length (o.args.map zN) (by rfl) HR.out.1 (Q w.heap.size 1 1) 1 [O ((n:Int)/7%20)] (by rfl) HR.out.2 (by unfold maxLen;omega) Zo Zt ?_;intro ra rc w9 y c a5;have c8:N w9 ob (k*6+5):=(c.frozen_far _ Zt HN.out.2).trans (f5 _);(try dsimp only))
   refine hK.out _ _ ⟨(c.cell_far _ Zt HN.out.1).trans (s1 _),(c.cell_far _ Zt HN.out.2).trans (s5 _)⟩ (fun hHeld=>?_);clear hK K
   try simp only[Yp]
   refine zf (rs:=[18]) Zk Zs ?_;refine zS.cons (o:=_) rfl (fun K hK=>?_) ?_
   ·skip
    go_simp;refine hK.out _ _ Zz (fun hHeld=>?_);clear hK K
    try simp only[Yp]
    refine Tl 19 ?_
    try simp only[Yp]
    refine zf (rs:=[20]) Zk Zs ?_;refine zS.last (o:=_) rfl (fun K hK=>?_);go_simp;refine hK.out _ _ ?_;clear hK K
    try simp only[Yp]
    refine xj Zk (NoPanic.normal ?_) _;have HG:=Ja (Jb y (Jb c a5));clear y c a5;go_wp2
    first|go_end0|refine bodyPost_ret (results_none rfl _ _ _) rfl ?_
    have b1:L w (w.drew.alloc (A #[O ((n:Int)/7%20)] 3)):=((Below.refl w.heap.size w).drew).alloc Zs _;have d:=u.out.2.2.2.1;have a4:=HG.out.2.1;rw[<-d] at a4;refine⟨rfl,_,u.out.1.growO (w1:=w.drew.alloc (A #[O ((n:Int)/7%20)] 3)) (x:=(n:Int)/7%20) u.out.2.1 u.out.2.2.1 b1 a4 HG.out.1 (fun x e=>?_),?_,?_⟩
    ·rcases HG.out.2.2 with e2|e2
     ·left;rw[<-e,d];exact e2.symm
     ·right;have e3:=e2.symm.trans e;simp at e3;omega
    ·show({bt with ops:=bt.ops.set k (spO 5 n o,_)}:BT).blk=_
     have e:=ws (what:=5) (av:=av) Zd u.out.2.2.1 u.out.2.2.2.2;rw[<-e];unfold BT.blk;simp only[Ox]
    ·have hm:zP av o.args∈zd v l::bt.rows:=.tail _ (.tail _ (.tail _ (.tail _ (Jz _ (Oj (Ji u.out.2.2.1))))));exact((Chg.below b1).trans ((uY (r:=zP av o.args) a4).one hm)).trans ((xJ (a:=⟨ob,k*6+5,none⟩) (r:=yo bt.ov bt.ops) u.out.2.1).one (wZ v l bt))
   exact zS.nil
  exact zS.nil
 exact zS.nil
structure SwMid (w:World) (B g i:Nat) (v:Value) (bt:BT) (l:List BT) (rs:List Row) (ob k j:Nat) (o:IOp) (av:Value) (o2:IOp) (av2:Value) (oc:Nat) (wx:World):Prop where
 rows:Rows wx B (yo bt.ov (bt.ops.set k (o2,av2))::(zd v l::zP bt.pv bt.params::xg bt.tv bt.tos::(wI bt.ops++ve bt.tos)++rs))
 blk:wx.heap[w.heap.size]? =some (.cells (zU (o,av)).toArray 77 (0,0))
 chg:Chg w (zd v l::bt.rows) wx
 c1:wx.cell? ⟨g,i*5+1,none⟩=some (.slice (some ⟨ob,0,none⟩) bt.ops.length oc)
 cell:∀ {q:Nat},q<6->∃u,wx.cell? ⟨ob,j*6+q,none⟩=some u
 free:∀ {q:Nat},q<6->wx.frozen? ⟨ob,j*6+q,none⟩=false
 lt:w.heap.size<wx.heap.size/\g<wx.heap.size/\ob<wx.heap.size
theorem SwMid.box{B:Nat}{v:Value}{av:Value}(m:SwMid w B g i v bt l rs ob k j o av o2 c oc wx){q:Nat}(h:(zU (o,av))[q]? =some u):T wx w.heap.size q u:=
 zA m.blk (by rw[List.getElem?_toArray];exact h)
theorem mR{b o:Nat}{vs:List Value}{r:Row}(h:r.blk=some b):Chg w [r] (w.setCells b o vs):=
 ⟨(ze b vs o w).1,(ze b vs o w).2.1,(ze b vs o w).2.2,Ul (y8 b vs o w).symm,fun k hk hn=>ye b k (fun e=>hn (by rw[Nj];exact⟨r,.head _,by rw[h,e]⟩)) vs o w⟩
theorem iP{α β:Type}(f:α->β){l:List α}{x y:α}(hk:l[k]? =some x)(h:l[j]? =some y):(((l.set k y).set j x).map f).Perm (l.map f):=by
 have c:=(Jh.1 hk).1;have d:=(Jh.1 h).1
 have g:(l.set k y)[j]? =some y:=by
  by_cases e:k=j
  ·subst e;rw[Nn c]
  ·rw[Ns e];exact h
 have h1:=rM f (l:=l.set k y) (k:=j) (by rw[Nd];exact d) x;have h2:=tT f g;have h3:=rM f c y;have m:=tT f hk;have i:((l.set k y).eraseIdx j).map f|>.Perm ((l.eraseIdx k).map f):=(List.perm_cons (f y)).1 (h2.symm.trans h3)
 exact(h1.trans (i.cons _)).trans m.symm
section
variable {w:World} {B g i:Nat} {v:Value} {bt:BT} {l:List BT} {rs:List Row} (h:SpSt w B g i v bt l rs)
include h
theorem swMid_of{av:Value}(d:bt.ov.ownBlock=some ob)(hk:bt.ops[k]? =some (o,av))(hj:bt.ops[j]? =some (o2,c))(a0:bt.ov=Q ob bt.ops.length oc)(a2:g≠ob):
 SwMid w B g i v bt l rs ob k j o av o2 c oc (((w.setCells ob (k*6) (zU (o2,c))).alloc (A (zU (o,av)).toArray 77)).drew):=by
 have hp:(zd v l::(bt.rows++rs)).Perm (yo bt.ov bt.ops::(zd v l::zP bt.pv bt.params::xg bt.tv bt.tos::(wI bt.ops++ve bt.tos)++rs)):=by
  classical
  unfold BT.rows;refine Jp.2 fun r=>?_
  simp only[Nb,Nf];omega
 have h1:=putO (x:=(o2,c)) d (h.rows.perm hp) hk rfl;have hb:L (w.setCells ob (k*6) (zU (o2,c))) (((w.setCells ob (k*6) (zU (o2,c))).alloc (A (zU (o,av)).toArray 77)).drew):=((Below.refl _ _).alloc (Je _) _).drew;have h2:=h1.below hb;have t:=y8 ob (zU (o2,c)) (k*6) w;have u:∃y,(bt.ops.set k (o2,c))[j]? =some y:=⟨_,Jd (by rw[Nd];exact(Jh.1 hj).1)⟩
 obtain⟨y,hy⟩:=u;have m:=zq (n:=6) Zd y7 (h2.own _ (.head _)) d hy;have hl:=h.rows.own _ (.head _);have a1:=(hl.lt g h.gb).2;have a3:=hb.size;refine⟨h2,zI (W:=w.setCells ob (k*6) (zU (o2,c))) t,?_,?_,fun {q} hq=>?_,fun {q} hq=>(m q hq).2,?_⟩
 ·exact((mR (r:=yo bt.ov bt.ops) d).one (wZ v l bt)).trans (Chg.below hb)
 ·have:=wb zX (h2.own (zd v l) (.tail _ (.head _))) h.gb h.at' 1 _ rfl;rw[this,a0]
 ·exact Option.isSome_iff_exists.1 (m q hq).1
 ·have h6:=((h.rows.perm hp).own _ (.head _)).lt ob d;have h7:=lt_of_block (zI (W:=w.setCells ob (k*6) (zU (o2,c))) (o:=A (zU (o,av)).toArray 77) t);exact⟨h7,Nat.lt_trans a1 h7,Nat.lt_trans h6.2 h7⟩
theorem SwMid.close{n:Nat}{av:Value}(m:SwMid w B g i v bt l rs ob k j o av o2 c oc wx)(d:bt.ov.ownBlock=some ob)(hk:bt.ops[k]? =some (o,av))(q:bt.ops[j]? =some (o2,c))(u:n%bt.ops.length=k)(a0:n/7%bt.ops.length=j):
 uE w B g i v bt l rs 6 n (.returned (.tuple #[])) ((wx.setCells ob (j*6) (zU (o,av))).drew):=by
 have t:∃y,(bt.ops.set k (o2,c))[j]? =some y:=⟨_,Jd (by rw[Nd];exact(Jh.1 q).1)⟩
 obtain⟨y,hy⟩:=t;have h1:=(putO (x:=(o,av)) d m.rows hy rfl).below ((Below.refl _ _).drew);have hs:(wI ((bt.ops.set k (o2,c)).set j (o,av))).Perm (wI bt.ops):=iP (fun o:IOp×Value=>zP o.2 o.1.args) hk q;refine⟨rfl,{bt with ops:=(bt.ops.set k (o2,c)).set j (o,av)},h.sub rfl (h1.perm ?_),?_,?_⟩
 ·classical
  have c1:=Jp.1 hs;unfold BT.rows;refine Jp.2 fun r=>?_
  have:=c1 r;simp only[Nb,Nf] at this ⊢;omega
 ·have a1:=(Jh.1 hk).1;unfold xh BT.blk;simp only[Nr];rw[if_pos Zo,if_neg Zo,if_pos (by trivial),u,a0,Jr,hk,Jr,q];simp only[Option.map_some,Ox]
 ·exact m.chg.trans (((mR (r:=yo bt.ov bt.ops) d).one (wZ v l bt)).trans (Chg.below ((Below.refl _ _).drew)))
end
theorem spoil_6{B:Nat}{v:Value}(h:SpSt w B g i v bt l rs){n:Nat}(hn:n<65536)(hz:SzB bt)(a9:0<bt.ops.length):
 G 45 #[.pointer (some ⟨g,i*5,none⟩),O 6,O n] w (uE w B g i v bt l rs 6 n):=by
 have c:w.ownsRow B 77 6 bt.ov bt.ops.length (bt.ops.flatMap zU):=h.rows.own _ (.tail _ (Jz _ (.tail _ (.head _))));obtain⟨xa,oc,a3⟩:=zG c;have y:=c;rw[a3] at y;have b7:=(zm y).1;obtain⟨ob,oc2,b6,c8,b4⟩:=y.form a9;cases b6;have a2:bt.ov.ownBlock=some ob:=by rw[a3];rfl
 obtain⟨k,a6⟩:∃k,n%bt.ops.length=k:=⟨_,rfl⟩
 have hk:k<bt.ops.length:=by rw[<-a6];exact Qj _ a9
 have d1:(n:Int)%(bt.ops.length:Int)=(k:Int):=by rw[<-a6];exact(Ou _ _).symm
 obtain⟨⟨o,av⟩,a4⟩:∃x,bt.ops[k]? =some x:=⟨_,Jd hk⟩
 have b1:=wb zX (h.rows.own _ (.head _)) h.gb h.at';have c1:T w g (i*5+1) (Q ob bt.ops.length oc):=by rw[<-a3];exact b1 1 _ rfl
 have gl:=((h.rows.own _ (.head _)).lt g h.gb).2;have a1:=wb y7 c a2 a4;have c9:=hz.ops;obtain⟨j,a7⟩:∃j,n/7%bt.ops.length=j:=⟨_,rfl⟩
 have hj:j<bt.ops.length:=by rw[<-a7];exact Qj _ a9
 have b8:(n:Int)/7%(bt.ops.length:Int)=(j:Int):=by rw[<-a7];simp
 have d0:((n:Int)/7).tmod (bt.ops.length:Int)=(j:Int):=by rw[Qc Zo];exact b8
 obtain⟨⟨o2,av2⟩,a5⟩:∃x,bt.ops[j]? =some x:=⟨_,Jd hj⟩
 have b2:w.ownsRow B 3 1 av o.args.length (o.args.map zN):=h.rows.own (zP av o.args) (.tail _ (Jz _ (.tail _ (.tail _ (.tail _ (Jz _ (Oj (Ji a4))))))));have b0:w.ownsRow B 3 1 av2 o2.args.length (o2.args.map zN):=h.rows.own (zP av2 o2.args) (.tail _ (Jz _ (.tail _ (.tail _ (.tail _ (Jz _ (Oj (Ji a5))))))));obtain⟨aa,ac,rfl⟩:=zG b2;obtain⟨aa2,ac2,rfl⟩:=zG b0;have d:=wb y7 c a2 a5;have a0:=zq Zd y7 c a2 a4;have b3:=zq Zd y7 c a2 a5;have m:ob<w.heap.size:=b4;have k0:T w ob (k*6) (O o.code):=a1 0 _ rfl;have k1:T w ob (k*6+1) (O o.res):=a1 1 _ rfl;have k2:T w ob (k*6+2) (O o.a):=a1 2 _ rfl;have k3:T w ob (k*6+3) (O o.b):=a1 3 _ rfl;have k4:T w ob (k*6+4) (U (o.n:Int)):=a1 4 _ rfl;have k5:T w ob (k*6+5) (.slice aa o.args.length ac):=a1 5 _ rfl;have j0:T w ob (j*6) (O o2.code):=d 0 _ rfl;have j1:T w ob (j*6+1) (O o2.res):=d 1 _ rfl;have j2:T w ob (j*6+2) (O o2.a):=d 2 _ rfl;have j3:T w ob (j*6+3) (O o2.b):=d 3 _ rfl;have j4:T w ob (j*6+4) (U (o2.n:Int)):=d 4 _ rfl;have j5:T w ob (j*6+5) (.slice aa2 o2.args.length ac2):=d 5 _ rfl;have c5:N w ob (k*6):=(a0 0 Zd).2;have c4:N w ob (k*6+1):=(a0 1 Zd).2;have c3:N w ob (k*6+2):=(a0 2 Zd).2;have c2:N w ob (k*6+3):=(a0 3 Zd).2;have c0:N w ob (k*6+4):=(a0 4 Zd).2;have b9:N w ob (k*6+5):=(a0 5 Zd).2;have hB:B<=w.heap.size:=by have:=(h.rows.own _ (.head _)).lt g h.gb;omega
 have b5:g≠ob:=fun e=>by
  have hp:(zd v l::(bt.rows++rs)).Perm (yo bt.ov bt.ops::(zd v l::zP bt.pv bt.params::xg bt.tv bt.tos::(wI bt.ops++ve bt.tos)++rs)):=by
   classical
   unfold BT.rows;refine Jp.2 fun r=>?_
   simp only[Nb,Nf];omega
  exact(h.rows.perm hp).apart (g:=ob) a2 (Nj.2 ⟨zd v l,.head _,by rw[<-e];exact h.gb⟩)
 have t:=Ja (Jb h (Jb a2 (Jb a4 (Jb a5 (Jb a6 (Jb a7 (Jb a3 b5)))))));clear h c y a3 a2 a4 a6 b1 a1 hz b7 a5 a7 d a0 b3 b2 b0;go_enter Try.func45,Try.ntmps45;go_upto_region 18 with fail
 go_cut [6] (fun s6 wx=>s6=O k/\Hid (SwMid w B g i v bt l rs ob k j o (.slice aa o.args.length ac) o2 (.slice aa2 o2.args.length ac2) oc wx))
 case first=>
  skip
  refine wp_region_noPanic ?_;refine yQ (S:=(fun w'=>T w' g (i*5+1) (Q ob bt.ops.length oc)/\T w' ob (j*6) (O o2.code)/\T w' ob (j*6+1) (O o2.res)/\T w' ob (j*6+2) (O o2.a)/\T w' ob (j*6+3) (O o2.b)/\T w' ob (j*6+4) (U (o2.n:Int))/\T w' ob (j*6+5) (.slice aa2 o2.args.length ac2))) 13 Zk ⟨(Ok w _ _ gl).trans c1,(Ok w _ _ m).trans j0,(Ok w _ _ m).trans j1,(Ok w _ _ m).trans j2,(Ok w _ _ m).trans j3,(Ok w _ _ m).trans j4,(Ok w _ _ m).trans j5⟩ (fun hHeld=>?_);refine Tl 0 ?_
  try simp only[Yp]
  refine Tl 1 ?_
  try simp only[Yp]
  refine Tl 2 ?_
  try simp only[Yp]
  refine Tl 3 ?_
  try simp only[Yp]
  refine Tl 4 ?_
  try simp only[Yp]
  refine Tl 5 ?_
  try simp only[Yp]
  refine Tl 6 ?_
  try simp only[Yp]
  refine Tl 7 ?_
  try simp only[Yp]
  refine Tl 8 ?_
  try simp only[Yp]
  refine Tl 9 ?_
  try simp only[Yp]
  refine Tl 10 ?_
  try simp only[Yp]
  refine Tl 11 ?_
  try simp only[Yp]
  refine Tl 12 ?_
  try simp only[Yp]
  refine zf (rs:=[13]) Zk Zs ?_;refine zS.last (o:=_) rfl (fun K hK=>?_);go_simp;refine hK.out _ _ ?_;clear hK K
  try simp only[Yp]
  refine xj Zk (NoPanic.normal ?_) _;go_wp2;go_meet;refine⟨rfl,?_⟩;exact Ja (swMid_of t.out.1 t.out.2.1 t.out.2.2.1 t.out.2.2.2.1 t.out.2.2.2.2.2.2.1 t.out.2.2.2.2.2.2.2)
 case rest=>
  obtain⟨rfl,hcut⟩:=hcut;have m1:T wc g (i*5+1) (Q ob bt.ops.length oc):=hcut.out.c1;have m2:T wc w.heap.size 0 (O o.code):=hcut.out.box (q:=0) rfl;have m3:T wc w.heap.size 1 (O o.res):=hcut.out.box (q:=1) rfl;have m4:T wc w.heap.size 2 (O o.a):=hcut.out.box (q:=2) rfl;have m5:T wc w.heap.size 3 (O o.b):=hcut.out.box (q:=3) rfl;have m6:T wc w.heap.size 4 (U (o.n:Int)):=hcut.out.box (q:=4) rfl;have m7:T wc w.heap.size 5 (.slice aa o.args.length ac):=hcut.out.box (q:=5) rfl;obtain⟨u0,n0⟩:∃u,T wc ob (j*6) u:=hcut.out.cell (q:=0) Zd;have g0:N wc ob (j*6):=hcut.out.free (q:=0) Zd;obtain⟨u1,n1⟩:∃u,T wc ob (j*6+1) u:=hcut.out.cell (q:=1) Zd;have g1:N wc ob (j*6+1):=hcut.out.free (q:=1) Zd;obtain⟨u2,n2⟩:∃u,T wc ob (j*6+2) u:=hcut.out.cell (q:=2) Zd;have g2:N wc ob (j*6+2):=hcut.out.free (q:=2) Zd;obtain⟨u3,n3⟩:∃u,T wc ob (j*6+3) u:=hcut.out.cell (q:=3) Zd;have g3:N wc ob (j*6+3):=hcut.out.free (q:=3) Zd;obtain⟨u4,n4⟩:∃u,T wc ob (j*6+4) u:=hcut.out.cell (q:=4) Zd;have g4:N wc ob (j*6+4):=hcut.out.free (q:=4) Zd;obtain⟨u5,n5⟩:∃u,T wc ob (j*6+5) u:=hcut.out.cell (q:=5) Zd;have g5:N wc ob (j*6+5):=hcut.out.free (q:=5) Zd;obtain⟨ml1,ml2,ml3⟩:=hcut.out.lt;have c7:=hcut;clear hcut;clear c1 k0 k1 k2 k3 k4 k5 j0 j1 j2 j3 j4 j5 c5 c4 c3 c2 c0 b9;go_wp2;refine wp_region_noPanic ?_;refine yQ (S:=(fun w'=>T w' g (i*5+1) (Q ob bt.ops.length oc)/\T w' w.heap.size 0 (O o.code)/\T w' w.heap.size 1 (O o.res)/\T w' w.heap.size 2 (O o.a)/\T w' w.heap.size 3 (O o.b)/\T w' w.heap.size 4 (U (o.n:Int))/\T w' w.heap.size 5 (.slice aa o.args.length ac))) 7 Zk ⟨m1,m2,m3,m4,m5,m6,m7⟩ (fun hHeld=>?_);refine Tl 0 ?_
  try simp only[Yp]
  refine Tl 1 ?_
  try simp only[Yp]
  refine Tl 2 ?_
  try simp only[Yp]
  refine Tl 3 ?_
  try simp only[Yp]
  refine Tl 4 ?_
  try simp only[Yp]
  refine Tl 5 ?_
  try simp only[Yp]
  refine Tl 6 ?_
  try simp only[Yp]
  refine zf (rs:=[7]) Zk Zs ?_;refine zS.last (o:=_) rfl (fun K hK=>?_);go_simp;refine hK.out _ _ ?_;clear hK K
  try simp only[Yp]
  refine xj Zk (NoPanic.normal ?_) _;go_wp2
  first|go_end0|refine bodyPost_ret (results_none rfl _ _ _) rfl ?_
  exact SwMid.close t.out.1 c7.out t.out.2.1 t.out.2.2.1 t.out.2.2.2.1 t.out.2.2.2.2.1 t.out.2.2.2.2.2.1
theorem iF{B:Nat}{v:Value}(h:SpSt w B g i v bt l rs){n:Nat}(d:n<65536)(c:SzB bt){what:Nat}(hw:what<=12∨what=19):
 G 45 #[.pointer (some ⟨g,i*5,none⟩),O what,O n] w (uE w B g i v bt l rs what n):=by
 rcases hw with hw|rfl
 ·by_cases m:what<=7
  ·by_cases j:0<bt.ops.length
   ·match what,m with
    |0,_=>exact spoil_0 h d c j
    |1,_=>exact spoil_1 h d c j
    |2,_=>exact spoil_2 h d c j
    |3,_=>exact spoil_3 h d c j
    |4,_=>exact spoil_4 h d c j
    |5,_=>exact spoil_5 h d c j
    |6,_=>exact spoil_6 h d c j
    |7,_=>exact spoil_7 h d c j
   ·exact mB h d c m Zo
  ·match what,hw,m with
   |8,_,_=>exact spoil_8 h d c
   |9,_,_=>exact spoil_9 h d c
   |10,_,_=>exact spoil_10 h d c
   |11,_,_=>exact spoil_11 h d c
   |12,_,_=>exact spoil_12 h d c
   |0,_,h|1,_,h|2,_,h|3,_,h|4,_,h|5,_,h|6,_,h|7,_,h=>exact absurd Zd h
   |k+13,h,_=>exact absurd h Zo
 ·exact spoil_19 h d c
theorem acn{x k i p q:Int}{n:Nat}{S:ByteArray}{l:List (Nat×Nat)}{o1 o2:Option Addr}{c1 c2:Nat}(hn:l.length=n)(a4:n<=9223372036854775807)(h1:vM w w.heap.size (.slice o1 n c1) l)(h2:vM w w.heap.size (.slice o2 n c2) l):
 G 22 #[.agg #[U x,.slice o1 n c1,O k,U i,.string S,O p,O q],.agg #[U x,.slice o2 n c2,O k,U i,.string S,O p,O q]] w (ym w true):=by
 have a0:=((Below.refl w.heap.size w).alloc (Je _) (A #[U x,.slice o1 n c1,O k,U i,.string S,O p,O q] 57)).alloc Zs (A #[U x,.slice o2 n c2,O k,U i,.string S,O p,O q] 57);have y:=zB (o:=A #[U x,.slice o2 n c2,O k,U i,.string S,O p,O q] 57) (zI (W:=w) (o:=A #[U x,.slice o1 n c1,O k,U i,.string S,O p,O q] 57) rfl);have u:=zI (W:=w.alloc (A #[U x,.slice o1 n c1,O k,U i,.string S,O p,O q] 57)) (o:=A #[U x,.slice o2 n c2,O k,U i,.string S,O p,O q] 57) (B:=w.heap.size+1) Zs;have HX:=Ja (Jb a0 (Jb y u));have HE:=Ja (Jb h1 (Jb h2 hn));clear a0 y u h1 h2 hn;go_enter Try.func22,Try.ntmps22;go_wp2
 go_loopw [5] (fun jv wx=>∃j:Nat,j<=n/\jv=O j/\∃t,wx=((w.alloc (A #[U x,.slice o1 n c1,O k,U i,.string S,O p,O q] 57)).alloc (A #[U x,.slice o2 n c2,O k,U i,.string S,O p,O q] 57)).drewN t) (fun jv _=>n-(intOf jv).toNat)
 case atStart=>exact⟨0,Jt _,rfl,0,rfl⟩
 case round=>
  obtain⟨j,hj,rfl,t,d⟩:=hrel;have c:L w wr:=by rw[d];exact yC HX.out.1
  have m:Y wr w.heap.size #[U x,.slice o1 n c1,O k,U i,.string S,O p,O q] 57:=by rw[d];exact HX.out.2.1
  have h:Y wr (w.heap.size+1) #[U x,.slice o2 n c2,O k,U i,.string S,O p,O q] 57:=by rw[d];exact HX.out.2.2
  have d1:=zA (i:=1) m rfl;have d2:=zA (i:=1) h rfl;have l1:=lt_of_block m;have l2:=lt_of_block h;have HW:=Ja d;have HB:=Ja c;clear d m h
  by_cases g:j<n
  ·have a1:(j:Int)<(n:Int):=Zo;have HJ:=Ja g;obtain⟨ev,r⟩:∃ev,l[j]? =some ev:=⟨_,Jd (by rw[HE.out.2.2];exact g)⟩
   obtain⟨e1,f1,rfl,a6,b1,a9,_⟩:=(HE.out.1.below vo c).get r;obtain⟨e2,f2,rfl,a5,b0,a7,_⟩:=(HE.out.2.1.below vo c).get r;have hs:=c.size;have a3:e1<wr.heap.size:=Zo;have a2:e2<wr.heap.size:=Zo;clear g c r;go_wp2;go_quiet (fail);go_wp2;go_roundw
   case rel=>exact⟨j+1,HJ.out,by go_num,_,by rw[HW.out,World.drewN_drewN]⟩
   case measure=>have:=HJ.out;simp[intOf];omega
  ·obtain rfl:j=n:=by omega
   have a1:¬(j:Int)<(j:Int):=Zo;clear g c;go_wp2;go_ret;exact⟨rfl,HB.out⟩
theorem uJ{V:PV}{p:IProg}(hp:ProgIn w w.heap.size V p)(hs:SmallP p):
 G 36 #[yH V p] w (fun e w'=>∃(t:PT) (fa:Option Addr) (fc:Nat) (aa:Option Addr) (ac:Nat) (da:Option Addr) (dc:Nat) (ba:Option Addr) (bc:Nat),e=.returned (.agg (P p fa fc aa ac da dc ba bc))/\
  (t.fv=.slice fa p.funcs.length fc/\t.av=.slice aa p.args.length ac/\t.dv=.slice da p.data.length dc/\t.bv=.slice ba p.banks.length bc)/\t.prog=p/\Rows w' w.heap.size t.rows/\L w w'):=by
 refine(own_any hp hs).mono ?_;rintro e w' ⟨t,rfl,c,hr,hb⟩;have e1:t.funcs.length=p.funcs.length:=by rw[<-c];unfold PT.prog;simp
 have e2:t.args.length=p.args.length:=by rw[<-c];rfl
 have e3:t.data.length=p.data.length:=by rw[<-c];rfl
 have e4:t.banks.length=p.banks.length:=by rw[<-c];rfl
 obtain⟨fa,fc,h1⟩:=zG (hr.own (wY t.fv t.funcs) (.head _));obtain⟨aa,ac,h2⟩:=zG (hr.own (zP t.av t.args) (.tail _ (.head _)));obtain⟨da,dc,h3⟩:=zG (hr.own (vK t.dv t.data) (.tail _ (.tail _ (.head _))));obtain⟨ba,bc,j⟩:=zG (hr.own (v8 t.bv t.banks) (.tail _ (.tail _ (.tail _ (.head _)))));have i:t.fv=.slice fa p.funcs.length fc:=by rw[<-e1];exact h1
 have h:t.av=.slice aa p.args.length ac:=by rw[<-e2];exact h2
 have g:t.dv=.slice da p.data.length dc:=by rw[<-e3];exact h3
 have d:t.bv=.slice ba p.banks.length bc:=by rw[<-e4];exact j
 refine⟨t,fa,fc,aa,ac,da,dc,ba,bc,?_,⟨i,h,g,d⟩,c,hr,hb⟩;unfold yH PT.V;simp only;rw[i,h,g,d]
def pd (w:World)(p:IProg)(e:Ending)(w':World):Prop:=∃t:PT,e=.returned (yH t.V t.prog)/\t.prog=p/\Rows w' w.heap.size t.rows/\L w w'
theorem TuMid.ret(h:TuMid w p1 o5 q0 q1 q2 t wx){v0 v1 v2 v3 v4 v5:Value}(d:(zW t).toArray=#[v0,v1,v2,v3,v4,v5]){p:IProg}(hp:t.prog=p):
 pd w p (.returned (.agg #[v0,v1,v2,v3,v4,v5])) ((((((wx.setCell ⟨p1+1+1,0,none⟩ v0).setCell ⟨p1+1+1,1,none⟩ v1).setCell ⟨p1+1+1,2,none⟩ v2).setCell ⟨p1+1+1,3,none⟩ v3).setCell ⟨p1+1+1,4,none⟩ v4).setCell ⟨p1+1+1,5,none⟩ v5):=by
 have e:zW t=[v0,v1,v2,v3,v4,v5]:=congrArg Array.toList d;unfold zW at e;simp only[List.cons.injEq,and_true] at e;obtain⟨rfl,rfl,rfl,rfl,rfl,rfl⟩:=e;refine⟨t,rfl,hp,?_,?_⟩
 ·have hb:=h.base;refine(h.rows.base (show w.heap.size<=p1+1+1+1 by omega)).keep fun k hk=>?_
  have c:k≠p1+1+1:=fun e=>by have:=(h.rows.lt hk).1;omega
  exact(Below.heap_setCell _ _ _ _ c).trans ((Below.heap_setCell _ _ _ _ c).trans ((Below.heap_setCell _ _ _ _ c).trans ((Below.heap_setCell _ _ _ _ c).trans ((Below.heap_setCell _ _ _ _ c).trans (Below.heap_setCell _ _ _ _ c)))))
 ·have hb:=h.bel;rw[h.base] at hb ⊢;exact(((((hb.setCell (by show w.heap.size<=w.heap.size+1+1;omega) _).setCell (by show w.heap.size<=w.heap.size+1+1;omega) _).setCell (by show w.heap.size<=w.heap.size+1+1;omega) _).setCell (by show w.heap.size<=w.heap.size+1+1;omega) _).setCell (by show w.heap.size<=w.heap.size+1+1;omega) _).setCell (by show w.heap.size<=w.heap.size+1+1;omega) _
theorem TuMid.start{w2:World}{o:Obj}(d:w.heap.size=p1)(g:w2.heap.size=o5)
 (hr:Rows w2 (((w.alloc o).alloc (A #[O q0,O q1,O q2] 23)).alloc (A #[F,F,O 0,O 0,F,F] 29)).heap.size t.rows)
 (hb:L (((w.alloc o).alloc (A #[O q0,O q1,O q2] 23)).alloc (A #[F,F,O 0,O 0,F,F] 29)) w2):
 TuMid w p1 o5 q0 q1 q2 t (w2.alloc (A (zW t).toArray 29)):=by
 subst d g;have hs:(((w.alloc o).alloc (A #[O q0,O q1,O q2] 23)).alloc (A #[F,F,O 0,O 0,F,F] 29)).heap.size=w.heap.size+1+1+1:=by simp
 have h1:=zB (o:=A #[F,F,O 0,O 0,F,F] 29) (zI (W:=w.alloc o) (o:=A #[O q0,O q1,O q2] 23) (B:=w.heap.size+1) Zs);have h2:=zI (W:=(w.alloc o).alloc (A #[O q0,O q1,O q2] 23)) (o:=A #[F,F,O 0,O 0,F,F] 29) (B:=w.heap.size+1+1) Zs;have h3:L w (((w.alloc o).alloc (A #[O q0,O q1,O q2] 23)).alloc (A #[F,F,O 0,O 0,F,F] 29)):=(((Below.refl _ _).alloc (Je _) _).alloc Zs _).alloc Zt _;have c:=hb.size;rw[hs] at hr hb c;refine⟨zB (zH hb h1 Zo),zB (zH hb h2 Zo),zI rfl,?_,rfl,?_,by omega⟩
 ·exact(h3.trans (hb.mono Zo)).alloc Zo _
 ·exact hr.below ((Below.refl _ _).alloc (Je _) _)
theorem turn_idx (r:Nat)(h:r<4)(w:World):(Instr.index 98 (.agg #[O 16392,O 24575,O 512,O 16896]) (O r)).run Try.prog w=.ok (O (lY r:Nat)) w:=by
 rcases(show r=0∨r=1∨r=2∨r=3 by omega) with rfl|rfl|rfl|rfl
 ·kernel_rfl
 ·kernel_rfl
 ·kernel_rfl
 ·kernel_rfl
def tq (t:PT):List Row:=wY t.fv t.funcs::vK t.dv t.data::v8 t.bv t.banks::t.funcs.flatMap FT.rows
def sC (t:PT):List Row:=wY t.fv t.funcs::zP t.av t.args::v8 t.bv t.banks::t.funcs.flatMap FT.rows
def uy (t:PT):List Row:=wY t.fv t.funcs::zP t.av t.args::vK t.dv t.data::t.funcs.flatMap FT.rows
theorem row_args (t:PT):zP t.av t.args∈t.rows/\True:=⟨.tail _ (.head _),trivial⟩
theorem row_data (t:PT):vK t.dv t.data∈t.rows/\True:=⟨.tail _ (.tail _ (.head _)),trivial⟩
theorem jI (t:PT):v8 t.bv t.banks∈t.rows/\True:=⟨.tail _ (.tail _ (.tail _ (.head _))),trivial⟩
theorem abG (t:PT):True/\t.rows.Perm (zP t.av t.args::tq t):=⟨trivial,by
 classical
 unfold PT.rows tq;refine Jp.2 fun y=>?_
 simp only[Nb,Nf]
 omega⟩
theorem abI (t:PT):True/\t.rows.Perm (vK t.dv t.data::sC t):=⟨trivial,by
 classical
 unfold PT.rows sC;refine Jp.2 fun y=>?_
 simp only[Nb,Nf]
 omega⟩
theorem tL (t:PT):True/\t.rows.Perm (v8 t.bv t.banks::uy t):=⟨trivial,by
 classical
 unfold PT.rows uy;refine Jp.2 fun y=>?_
 simp only[Nb,Nf]
 omega⟩
theorem qU (t:PT)(x:List Int)(v:Value):({t with args:=x,av:=v }:PT).rows.Perm (zP v x::tq t):=(abG {t with args:=x,av:=v }).2
theorem qS (t:PT)(x:List IObj)(v:Value):({t with data:=x,dv:=v }:PT).rows.Perm (vK v x::sC t):=(abI {t with data:=x,dv:=v }).2
theorem qE (t:PT)(x:List ByteArray)(v:Value):({t with banks:=x,bv:=v }:PT).rows.Perm (v8 v x::uy t):=(tL {t with banks:=x,bv:=v }).2
end Go.Proofs.Ytojclalkfhoooaa
