/- Part of a proof. -/
import Derived.Test.YtoahcpkibpomcaaGreatGRFun1v
set_option linter.all false
set_option maxHeartbeats 6400000
set_option maxRecDepth 100000
namespace Go.Proofs.YtoahcpkibpomcaaGreat
open Go.RowKit
variable {w:World}{call:Int->List Nat->Mach->Res Nat}{o:IOp}{m:Mach}{d d':wO}{i k:Int}{bl:List IBlk}{W:Int->Int->Int->Prop}
theorem tu{B:Nat}{V:PV}{p:IProg}(hp:ProgIn w B V p)(hB:B<=w.heap.size)(hs:∀f∈p.funcs,vZ f):
 G 35 #[yH V p] w (m9 w (vC p)):=by
 have d:∀W,O w W->G 68 #[yH V p] W (m9 W (sR p)):=fun W hb=>kB ((hp.below (hb.mono hB)).mono (Jn hB hb.size))
 have k:∀W n,O w W->sR p=0->n<p.funcs.length->G 69 #[yH V p,I n] W (ym W (yi p n)):=fun W n hb h0 hn=>by
  obtain⟨_,h1,h2,_⟩:=se h0;exact nA (hp.below (hb.mono hB)) (Jn hB hb.size) h1 h2 hs hn
 obtain⟨Vf,Va,Vd,Vb⟩:=V;obtain⟨f1,f2,e1,_,_⟩:=hp.funcs.form;obtain⟨a1,a2,e2,_,_⟩:=hp.args.form;obtain⟨d1,d2,e3,_,_⟩:=hp.data.form;obtain⟨b1,b2,e4,_,_⟩:=hp.banks.form;simp only at e1 e2 e3 e4;subst e1 e2 e3 e4;have b4:p.funcs.length<=9223372036854775807:=Zo;unfold yH at d k ⊢;simp only at d k ⊢;have HH:=Ja d;have HF:=Ja k;have a8:O w (w.alloc (T (R p f1 f2 a1 a2 d1 d2 b1 b2) 29)):=(Below.refl _ _).alloc (Je _) _;have c:=zI (W:=w) (o:=T (R p f1 f2 a1 a2 d1 d2 b1 b2) 29) rfl;obtain⟨res,t⟩:∃x,vC p=x:=⟨_,rfl⟩
 rw[t];have u:=Ja t;obtain⟨eh,a4⟩:∃x,sR p=x:=⟨_,rfl⟩
 rw[a4] at HH;have m:=Ja a4;clear hp hB hs d k t a4;go_enter Tryz.func35,Tryz.ntmps35;go_upto_region 1 with fail;generalize b3:w.alloc (T (R p f1 f2 a1 a2 d1 d2 b1 b2) 29)=W0 at *;have y0:=K0 c;have y1:=K1 c;have y2:=K2 c;have y3:=K3 c;have y4:=K4 c;have y5:=K5 c;have H0:=Ja (show O w W0/\Q W0 w.heap.size (R p f1 f2 a1 a2 d1 d2 b1 b2) 29 from⟨a8,c⟩);clear a8 c b3;go_upto_region 2 with(first|(go_at_call 68;go_must (refine(HH.out _ H0.out.1).mono ?_;rintro e w1 ⟨rfl,a5⟩))|go_in)
 have j:=Ja (show O w w1/\Q w1 w.heap.size (R p f1 f2 a1 a2 d1 d2 b1 b2) 29 from⟨H0.out.1.trans (a5.mono H0.out.1.size),zH a5 H0.out.2 (lt_of_block H0.out.2)⟩);clear a5 y0 y1 y2 y3 y4 y5
 by_cases hz:eh=0
 ·subst hz;have y0:=K0 j.out.2;go_wp2
  go_loopw [13] (fun iv wx=>∃i:Nat,i<=p.funcs.length/\iv=I i/\Hid (O w1 wx/\∀n,n<i->yi p n=true)) (fun iv _=>p.funcs.length-(intOf iv).toNat)
  case atStart=>exact⟨0,Jt _,rfl,Ja ⟨Below.refl _ _,fun n hn=>by omega⟩⟩
  case round=>
   obtain⟨i,hi,rfl,l⟩:=hrel
   by_cases y:i<p.funcs.length
   ·have a9:(i:Int)<p.funcs.length:=Zo;have a3:=Ja y;have g:=zH l.out.1 j.out.2 (lt_of_block j.out.2);have z0:=K0 g;have z1:=K1 g;have z2:=K2 g;have z3:=K3 g;have z4:=K4 g;have z5:=K5 g;have a7:=Ja (HF.out wr i (j.out.1.trans (l.out.1.mono j.out.1.size)) m.out y);obtain⟨q,hq⟩:∃q,yi p i=q:=⟨_,rfl⟩
    rw[hq] at a7;have HQ:=Ja hq;clear hq g y y0
    cases q with
    |false=>
     go_wp2_with (first|(go_at_call 69;go_must (refine a7.out.mono ?_;rintro e w2 ⟨rfl,a0⟩))|go_in)
     go_ret
     have hr:res=51:=by
      rw[<-u.out];unfold vC;rw[if_neg (by rw[m.out];simp),if_neg];intro b0;have:=Oe.1 b0 i (Ol.2 a3.out);rw[HQ.out] at this;cases this
     exact⟨zh hr.symm,j.out.1.trans ((l.out.1.trans (a0.mono l.out.1.size)).mono j.out.1.size)⟩
    |true=>
     go_wp2_with (first|(go_at_call 69;go_must (refine a7.out.mono ?_;rintro e w2 ⟨rfl,a0⟩))|go_in)
     have a6:=Ja (show O w1 w2/\∀n,n<i+1->yi p n=true from⟨l.out.1.trans (a0.mono l.out.1.size),fun n hn=>by
      rcases Nat.lt_succ_iff_lt_or_eq.1 hn with h|rfl
      ·exact l.out.2 n h
      ·exact HQ.out⟩)
     clear a0;go_roundw
     case rel=>first|exact⟨i+1,a3.out,by go_num,a6⟩|((repeat apply Exists.intro);exact⟨⟨i+1,a3.out,by go_num,a6⟩,rfl⟩)
     case measure=>have:=a3.out;simp[intOf];omega
   ·obtain rfl:i=p.funcs.length:=by omega
    have a9:¬(p.funcs.length:Int)<p.funcs.length:=Zo
    have hr:=Ja (show res=0 by
     rw[<-u.out];unfold vC;rw[if_neg (by rw[m.out];simp),if_pos]
     exact Oe.2 fun n hn=>l.out.2 n (Ol.1 hn))
    clear y y0;go_wp2;go_ret;exact⟨zh hr.out.symm,j.out.1.trans (l.out.1.mono j.out.1.size)⟩
 ·have t1:(eh !=0)=true:=by rw[bne_iff_ne];exact hz
  have hr:=Ja (show res=eh by
   rw[<-u.out];unfold vC
   rw[if_pos (by rw[m.out];exact hz),m.out])
  clear hz;go_wp2;go_ret;exact⟨zh hr.out.symm,j.out.1⟩
theorem jP{s:List Int}{sv:Value}(hs:zY w w.heap.size sv s):
 G 31 #[sv] w (fun e w'=>∃V:PV,e=.returned (yH V (uR s))/\(∀W,StaysL w.heap.size w' W->ProgIn W W.heap.size V (uR s))/\O w w'):=by
 obtain⟨sa,sc,h8,_,_⟩:=hs.form;subst h8;have HS:=Ja hs;have f2:=mk_bank;obtain⟨Z,hZ⟩:∃Z,madeCells #[Value.int .u8 0] 4096=Z:=⟨_,rfl⟩
 rw[hZ] at f2;have HZ:=Ja hZ;clear hs hZ;go_enter Tryz.func31,Tryz.ntmps31;go_upto_region 2 with fail;generalize c0:(w.alloc (T #[L,L,I 0,I 0,L,L] 29)).alloc (T Z 5)=W0;have e7:Z=((uQ 0).map wz).toArray:=by rw[<-HZ.out,yA,mM,List.map_replicate];rfl
 have e9:Q W0 w.heap.size #[L,L,I 0,I 0,L,L] 29:=by rw[<-c0];exact zB (zI rfl)
 have f5:Q W0 (w.heap.size+1) ((uQ 0).map wz).toArray 5:=by rw[<-c0,<-e7];exact zI Zs
 have d4:O w W0:=by rw[<-c0];exact((Below.refl _ _).alloc (Je _) _).alloc Zs _
 have H0:=Ja (Jb f5 (Jb e9 d4));obtain⟨rr,c8⟩:∃rr,w.heap.size=rr:=⟨_,rfl⟩
 rw[c8] at H0 ⊢;obtain⟨bb,d5⟩:∃bb,rr+1=bb:=⟨_,rfl⟩
 rw[d5] at H0 ⊢;have e4:=Ja (Jb c8 d5);clear e7 e9 f5 d4 c0 f2 c8 d5 HZ;go_wp2
 go_loopw [4] (fun kv wx=>∃k:Nat,k<=4096/\kv=I k/\Hid (Q wx bb ((uQ k).map wz).toArray 5/\Q wx rr #[L,L,I 0,I 0,L,L] 29/\Below rr w wx)) (fun kv _=>4096-(intOf kv).toNat)
 case atStart=>exact⟨0,Jt _,rfl,H0⟩
 case round=>
  obtain⟨k,hk,rfl,l⟩:=hrel
  by_cases a2:k<4096
  ·have a5:(k:Int)<4096:=Zo;have e3:=Ja a2;obtain⟨x,hx⟩:∃x,(uQ k)[k]? =some x:=⟨_,Jd (by rw[pM];exact a2)⟩
   have cx:A wr bb k (.int .u8 (x:Int)):=zA l.out.1 (by simp[hx,wz]);have fx:N wr bb k:=zE l.out.1;have j4:=lt_of_block l.out.1;have hq:k*k<=4095*4095:=Nat.mul_le_mul Zo Zo;have j2:(0:Int)<=(k:Int)*(k:Int):=by rw[<-Int.natCast_mul];exact Int.natCast_nonneg _
   have j1:(k:Int)*(k:Int)<=16769025:=by rw[<-Int.natCast_mul];omega
   clear a2 hx hq;go_wp2;have e1:((k:Int)*(k:Int)+(k:Int)/256)%256=((rp k:Nat):Int):=by unfold rp;simp
   rw[e1];refine⟨⟨k+1,e3.out,by go_num,Ja ⟨?_,zR (a:=⟨bb,k,none⟩) l.out.2.1 (by have:=e4.out.2;show rr≠bb;omega),l.out.2.2.setCell (by have:=e4.out.2;show rr<=bb;omega) _⟩⟩,by have:=e3.out;simp[intOf];omega⟩;rw[zD l.out.1,<-kC e3.out];simp[Ox,wz]
  ·obtain rfl:k=4096:=by omega
   have a5:¬(((4096:Nat):Int)<4096):=Zo;have b5:=l.out.1;rw[nu] at b5;have d3:=pN b5 (n:=4096) (by unfold iu;simp);rw[mq] at d3;have hrl:=lt_of_block l.out.2.1;clear a2 b5 hk;obtain⟨bank,a8⟩:∃b,sG=b:=⟨_,rfl⟩
   rw[a8] at d3;have i7:=Ja a8;clear a8;go_upto_region 9 with fail;have t:=md_setup (sv:=.slice sa s.length sc) e4.out.1 l.out.2.1 l.out.2.2;rw[i7.out] at t;generalize (((wr.alloc (T #[.string bank] 9)).alloc (T #[L,L,I 0,I (-1),F (wr.heap.size+1+1) 3 3,F wr.heap.size 1 1] 29)).alloc (T #[I (-1),U 16384,U 16,I (-1),U 16640,U 7,I 0,U 128,U 32] 89)).alloc (T #[.slice sa s.length sc,I 0,Y (wr.heap.size+1),I 0,L,I 0,I 0,L,I 0] 128)=W1 at *;generalize wr.heap.size+1+1+1=pm at *;generalize wr.heap.size+1+1=db at *;generalize wr.heap.size+1=pp at *;generalize wr.heap.size=sb at *;have H1:=Ja t;have c7:=t.bel.size
   have a1:G 55 #[Y pm,I 4] W1 (fun e w'=>∃z:Nat,z<4/\Hid (mdN s=1+z)/\e=.returned (I z)/\Hid (MdHd w (.slice sa s.length sc) (L) rr sb pp db pm (-1) (L) [] 1 w')):=
    (tf t.mkr rfl rfl (HS.out.below zO t.bel) (n:=4) Zd Zd Zd).mono (fun e w' ⟨h1,h2,h3⟩=>⟨_,rX s 0 Zd,Ja rfl,h1,Ja (t.tick h2 h3)⟩)
   have a7:=Ja a1;clear t d3 a5 hrl a1;go_upto_region 10 with(go_at_call 55;go_must (refine a7.out.mono ?_;rintro e W2 ⟨z,e8,HN,rfl,f9⟩))
   obtain⟨n,hn⟩:∃n,1+z=n:=⟨_,rfl⟩
   have f1:1+(z:Int)=(n:Int):=Zo;rw[f1];have b9:mdN s=n:=HN.out.trans hn;have h9:1<=n/\n<=4:=Zo;have HN:=Ja b9;clear b9 f1 hn e8 a7 H1 c7;go_wp2
   go_loopw [8] (fun kv wx=>∃(k:Nat) (av:Value),k<=n/\kv=I k/\Hid (MdHd w (.slice sa s.length sc) av rr sb pp db pm (-1) (L) (yS s k) (sw k) wx)) (fun kv _=>n-(intOf kv).toNat)
   case atStart=>exact⟨0,_,Jt _,rfl,f9⟩
   case round=>
    obtain⟨k,av,hk,rfl,l⟩:=hrel
    by_cases a2:k<n
    ·have a5:(k:Int)<(n:Int):=Zo;obtain⟨ij,f4,c5,c4,c3⟩:=info_parts Tryz.info_int
     by_cases b1:k=0
     ·have i1:¬(0:Int)<(k:Int):=Zo;have c2:=Ja b1;clear b1;obtain⟨aa,ac,b2⟩:=zG l.out.own;have y:=l.out.own;rw[yY] at b2 y;subst b2;have c7:=l.out.bel.size;have c1:=zA (i:=1) l.out.prog rfl;have f0:=lt_of_block l.out.prog;have HO:=Ja y;clear y;go_wp2_with (at_builtin;go_must (refine zK _ rfl (.tmp 61) (.tmp 63) 22 rfl w.heap.size 3 ij (I 0) 1 8 Tryz.underlying22 f4 c5 c4 c3 rfl Zd (.slice aa k ac) k ((yS s k).map zN) rfl (HO.out.alloc _) _ 1 [zN 0] rfl (yM.one (zI rfl) rfl) (by unfold maxLen;omega) Zo Zt ?_;intro v9 w9 q d b6;obtain⟨b0,a9,rfl⟩:=zG q;have a0:=zL d (zB l.out.prog) (zC HO.out l.out.prog (.inr Zd));have g6:=zA (i:=1) a0 rfl;have g5:N w9 pp 1:=zE a0;have g2:=lt_of_block a0;have HG:=Ja (Jb q d);clear q d b6 a0))
      go_roundw
      case rel=>
       have hq:=l.out.push (x:=0) (av':=.slice b0 (k+1) a9) HG.out.2 (by rw[yY];exact HG.out.1);refine⟨k+1,.slice b0 (k+1) a9,a2,by go_num,Ja ?_⟩;have e1:yS s (k+1)=yS s k++ [0]:=by rw[qC,if_pos c2.out]
       have e2:sw (k+1)=sw k:=by have:=c2.out;subst this;rfl
       rw[e1,e2];exact hq
      case measure=>simp[intOf];omega
     ·have i1:(0:Int)<(k:Int):=Zo;have c2:=Ja b1
      have a1:G 55 #[Y pm,I 4] wr (fun e w'=>∃z:Nat,z<4/\Hid (tk0 s k 4=z)/\e=.returned (I z)/\Hid (MdHd w (.slice sa s.length sc) av rr sb pp db pm (-1) (L) (yS s k) (k+1) w')):=by
       have e:sw k=k:=by unfold sw;rw[if_neg b1]
       have hm:=l.out;rw[e] at hm;exact(tf hm.mkr rfl rfl (HS.out.below zO hm.bel) (n:=4) Zd Zd Zo).mono (fun e w' ⟨h1,h2,h3⟩=>⟨_,rX s k Zd,Ja rfl,h1,Ja (hm.tick h2 h3)⟩)
      have a7:=Ja a1;clear b1 a1;go_upto_region 16 with(go_at_call 55;go_must (refine a7.out.mono ?_;rintro e W3 ⟨z,e8,i5,rfl,a3⟩))
      obtain⟨aa,ac,b2⟩:=zG a3.out.own;have y:=a3.out.own;rw[yY] at b2 y;subst b2;have c7:=a3.out.bel.size;have c1:=zA (i:=1) a3.out.prog rfl;have f0:=lt_of_block a3.out.prog;have HO:=Ja y;clear y;go_wp2_with (at_builtin;go_must (refine zK _ rfl (.tmp 61) (.tmp 63) 22 rfl w.heap.size 3 ij (I 0) 1 8 Tryz.underlying22 f4 c5 c4 c3 rfl Zd (.slice aa k ac) k ((yS s k).map zN) rfl (HO.out.alloc _) _ 1 [zN (z:Int)] rfl (yM.one (zI rfl) rfl) (by unfold maxLen;omega) Zo Zt ?_;intro v9 w9 q d b6;obtain⟨b0,a9,rfl⟩:=zG q;have a0:=zL d (zB a3.out.prog) (zC HO.out a3.out.prog (.inr Zd));have g6:=zA (i:=1) a0 rfl;have g5:N w9 pp 1:=zE a0;have g2:=lt_of_block a0;have HG:=Ja (Jb q d);clear q d b6 a0))
      go_roundw
      case rel=>
       have hq:=a3.out.push (x:=(z:Int)) (av':=.slice b0 (k+1) a9) HG.out.2 (by rw[yY];exact HG.out.1);refine⟨k+1,.slice b0 (k+1) a9,a2,by go_num,Ja ?_⟩;have e1:yS s (k+1)=yS s k++ [(z:Int)]:=by rw[qC,if_neg c2.out,i5.out]
       have e2:sw (k+1)=k+1:=rfl;rw[e1,e2];exact hq
      case measure=>simp[intOf];omega
    ·obtain rfl:n=k:=by omega
     have a5:¬(n:Int)<(n:Int):=Zo;have e:sw n=n:=by unfold sw;rw[if_neg Zo]
     have f3:=mk_funcs n h9.2;have a6:=l.out;rw[e] at a6;have p0:=zA (i:=0) a6.prog rfl;have g8:N wr pp 0:=zE a6.prog;have f0:=lt_of_block a6.prog;have c:=Ja (Jb (a6.funcs (T (List.replicate n (Value.slice none 0 0)).toArray 39) (F wr.heap.size n n)) (zI (W:=wr.setCell ⟨pp,0,none⟩ (F wr.heap.size n n)) (o:=T (List.replicate n (Value.slice none 0 0)).toArray 39) (B:=wr.heap.size) Zs));have i2:=a6.bel.size;have d6:(List.replicate n (Value.slice none 0 0)).toArray=Array.replicate n (Value.slice none 0 0):=by simp
     rw[d6] at c f3;clear d6;clear a2 e a6 l f9;go_upto_region 18 with fail;generalize i3:(wr.setCell ⟨pp,0,none⟩ (F wr.heap.size n n)).alloc (T (Array.replicate n (Value.slice none 0 0)) 39)=W3 at *;generalize k1:wr.heap.size=fb at *;clear p0 g8 f3 a5 i3;obtain⟨m,hm⟩:∃m,n=m+1:=⟨n-1,by omega⟩
     have j3:(n:Int)-1=(m:Int):=Zo;have i0:m<n:=Zo;have d2:n-1=m:=Zo;have e0:=Ja (Jb hm d2);clear hm d2;obtain⟨x,hx⟩:∃x,(yS s n)[m]? =some x:=⟨_,Jd (by rw[yY];exact i0)⟩
     obtain⟨g,ac,e,k0,j5⟩:=c.out.1.own.form (by rw[yY];omega);rw[yY] at e;subst e;have c1:=zA (i:=1) c.out.1.prog rfl;have g1:=lt_of_block c.out.1.prog
     have h6:A W3 g m (I x):=by
      have h0:=c.out.1.own;rw[yY] at h0;have h1:=h0.cellAt m Zo;exact h1.trans (by rw[Jr,hx];rfl)
     have j:oJ s=(decide (1<n) && decide (x=0)):=by
      unfold oJ;rw[HN.out,e0.out.2,Jj,hx];rfl
     have g0:pm<W3.heap.size:=lt_of_block c.out.1.mkr;have g3:fb<W3.heap.size:=lt_of_block c.out.2
     have d0:fb≠pm:=fun e=>by
      have h1:=c.out.1.mkr;have h2:=c.out.2;rw[e,h1] at h2
      injection h2 with h3
      injection h3 with _ h4
      exact absurd h4 Zd
     have a1:G 55 #[Y pm,I 2] W3 (fun e w'=>∃z:Nat,z<2/\Hid (tk0 s n 2=z)/\e=.returned (I z)/\Hid (MdHd w (.slice sa s.length sc) (F g n ac) rr sb pp db pm (-1) (F fb n n) (yS s n) (n+1) w'/\Q w' fb (Array.replicate n (Value.slice none 0 0)) 39)):=
      (tf c.out.1.mkr rfl rfl (HS.out.below zO c.out.1.bel) (n:=2) Zd Zd Zo).mono (fun e w' ⟨h1,h2,h3⟩=>⟨_,rX s n Zd,Ja rfl,h1,Ja ⟨c.out.1.tick h2 h3,h3.blk c.out.2 d0⟩⟩)
     have a7:=Ja a1;have e5:=Ja (Jb j hx);have k2:=Ja d0;clear j hx a1 d0;have d1:1<n->decide ((1:Int)<(n:Int))=true/\decide (1<n)=true:=fun h=>⟨by rw[decide_eq_true_iff];omega,by rw[decide_eq_true_iff];exact h⟩
     have g4:=Ja d1;clear d1
     go_cut [89] (fun v wx=>∃b:Bool,v=.bool b/\Hid ((b=true↔oJ s=true/\tk0 s n 2=0)/\MdHd w (.slice sa s.length sc) (F g n ac) rr sb pp db pm (-1) (F fb n n) (yS s n) (sP s) wx/\Q wx fb (Array.replicate n (Value.slice none 0 0)) 39))
     case first=>
      by_cases h1:1<n
      ·have f7:(1:Int)<(n:Int):=Zo;obtain⟨i4,f6⟩:=g4.out h1
       by_cases a4:x=0
       ·have h7:(x==0)=true:=by rw[beq_iff_eq];exact a4
        have j:oJ s=true:=by rw[e5.out.1];simp[h1,a4]
        have e6:=Ja j;have f8:=Ja a4;clear j a4;have c9:sP s=n+1:=by unfold sP;rw[e6.out,HN.out];rfl
        have d7:=Ja c9;clear c9
        by_cases b8:tk0 s n 2=0
        ·have b3:=Ja b8;clear b8;go_wp2_with (go_at_call 55;go_must (refine a7.out.mono ?_;rintro e w4 ⟨z,h5,HZ,rfl,b4⟩;obtain rfl:z=0:=HZ.out.symm.trans b3.out))
         go_meet;refine⟨true,rfl,Ja ⟨⟨(fun _=>⟨e6.out,b3.out⟩),(fun _=>rfl)⟩,?_,b4.out.2⟩⟩;rw[d7.out];exact b4.out.1
        ·have b3:=Ja b8;clear b8;go_wp2_with (go_at_call 55;go_must (refine a7.out.mono ?_;rintro e w4 ⟨z,h5,HZ,rfl,b4⟩;have tz:((z:Int)==0)=false:=by rw[beq_eq_false_iff_ne];have:=HZ.out;have:=b3.out;omega))
         go_meet;refine⟨false,rfl,Ja ⟨⟨(fun e=>by cases e),(fun e=>absurd e.2 b3.out)⟩,?_,b4.out.2⟩⟩;rw[d7.out];exact b4.out.1
       ·have h7:(x==0)=false:=by rw[beq_eq_false_iff_ne];exact a4
        have f8:=Ja a4;clear a4;go_wp2;go_meet;have j:oJ s=false:=by rw[e5.out.1];simp[f8.out]
        refine⟨false,rfl,Ja ⟨⟨(fun e=>by cases e),(fun e=>by rw[j] at e;cases e.1)⟩,?_,c.out.2⟩⟩;have e:sP s=n:=by unfold sP;rw[j,HN.out];rfl
        rw[e];exact c.out.1
      ·have f7:¬(1:Int)<(n:Int):=Zo;have f6:decide (1<n)=false:=by rw[decide_eq_false_iff_not];exact h1
       have i4:decide ((1:Int)<(n:Int))=false:=by rw[decide_eq_false_iff_not];exact f7
       go_wp2;go_meet;have j:oJ s=false:=by rw[e5.out.1,f6];rfl
       refine⟨false,rfl,Ja ⟨⟨(fun e=>by cases e),(fun e=>by rw[j] at e;cases e.1)⟩,?_,c.out.2⟩⟩;have e:sP s=n:=by unfold sP;rw[j,HN.out];rfl
       rw[e];exact c.out.1
     case rest=>
     obtain⟨b,rfl,HB⟩:=hcut;have b7:=Ja HB;clear c1 g1 h6 g0 g3;have p3:=zA (i:=3) HB.out.2.1.prog rfl;have j0:N wc pp 3:=zE HB.out.2.1.prog;have i9:=lt_of_block HB.out.2.1.prog
     have i6:=Ja (Jb (HB.out.2.1.hnd (m:Int)) (zR (a:=⟨pp,3,none⟩) (u:=I m) HB.out.2.2 (fun e=>by
      have h1:=HB.out.2.1.prog;have h2:=HB.out.2.2;rw[e] at h2;rw[show(⟨pp,3,none⟩:Addr).block=pp from rfl,h1] at h2
      injection h2 with h3
      injection h3 with _ h4
      exact absurd h4 Zd)))
     go_upto_if 89 with fail
     go_cut [] (fun wx=>Hid (MdHd w (.slice sa s.length sc) (F g n ac) rr sb pp db pm (vw s) (F fb n n) (yS s n) (sP s) wx/\Q wx fb (Array.replicate n (Value.slice none 0 0)) 39))
     case first=>
      cases b
      ·go_wp2;go_meet;have e:vw s=-1:=by unfold vw;rw[if_neg (fun e=>by rw[HN.out] at e;have:=b7.out.out.1.2 e;cases this)]
       rw[e];exact Ja b7.out.out.2
      ·go_wp2;go_meet;have e:vw s=(m:Int):=by unfold vw;rw[HN.out,if_pos (b7.out.out.1.1 (by trivial)),e0.out.2]
       rw[e];exact i6
     case rest=>
     refine ‹∀(a:Act) (w:World),Code.wp Tryz.prog _ _ a w->_› _ _ ?_;have b9:=HN.out;subst b9;exact j9 HS hcut i2 e0.out.2 _ _ _ _ _ _ _ _ _ _ _ _ _ _ _ _ _ _ _ _ _ _ _ _ _ _ _ _ _ _ _ _ _ _ _ _ _ _ _ _ _ _ _ _ _ _ _ _ _ _ _ _ _ _ _ _ _ _ _ _ _ _ _ _ _ _ _ _ _ _ _ _ _ _ _ _ _ _ _ _ _ _ _ _ _ _ _ _ _ _ _ _ _ _ _ _ _ _ _ _ _ _ _ _ _ _ _ _ _ _ _ _ _ _ _ _ _ _ _ _ _ _ _ _ _ _ _ _ _ _ _ _ _ _ _ _ _ _ _ _ _ _ _ _ _ _ _ _ _ _ _ _ _ _ _ _ _ _ _ _ _ _ _ _ _ _ _ _ _ _ _ _ _ _ _ _ _ _ _ _ _ _ _ _ _ _ _ _ _ _ _ _ _ _ _ _
def ae8 (c:Int):Prop:=c=1∨c=3∨c=4∨(5<=c/\c<=17)
theorem agb{E:IEnv}(h:5<=o.code/\o.code<=17)(v:Int->Nat)(m:Mach):oV E call o v m=iy m o.code (v o.a) (v o.b):=by
 unfold oV mU;rw[if_neg Zo,if_neg Zo,if_neg Zo,if_neg Zo,if_neg Zo,if_neg Zo,if_neg Zo,if_neg Zo,if_neg Zo,if_neg Zo,if_neg Zo,if_neg Zo,if_neg Zo,if_neg Zo]
theorem stepR_ex{E:IEnv}(hc:ae8 o.code)(v:Int->Nat)(m:Mach):(∃x,oV E call o v m=.ok x m)∨oV E call o v m=.trap 4 0 m:=by
 obtain⟨c,r,a,b,n,l⟩:=o;have hc:ae8 c:=hc;rcases hc with rfl|rfl|rfl|h
 ·exact .inl ⟨_,rfl⟩
 ·exact .inl ⟨_,rfl⟩
 ·exact .inl ⟨_,rfl⟩
 ·rw[agb h];unfold iy
  split
  ·exact .inr rfl
  ·exact .inl ⟨_,rfl⟩
theorem step_ex{K:MK}{ov:Value}(h:MachAt w K m ov)(hc:ae8 o.code)(hb:I64 o.code/\I64 o.res/\I64 o.a/\I64 o.b/\o.n<65536)(ab:Option Addr)(an ac:Nat){vb vn:Nat}{v:Int->Nat}(hv:xO w vb vn v)(d:Int):
 G 155 #[Y K.pm,.agg #[I o.code,I o.res,I o.a,I o.b,U (o.n:Int),.slice ab an ac],.map (some vb),I d] w (zQ K w (oV K.E call o v m)):=by
 obtain⟨c,r,a,b,n,l⟩:=o;obtain⟨_,q,i,g,j⟩:=hb;have hc:ae8 c:=hc;rcases hc with rfl|rfl|rfl|k
 ·exact step_1 h i g j _ _ _ hv _
 ·exact step_3 h i g j _ _ _ hv _
 ·exact step_4 h i g j _ _ _ hv _
 ·rw[agb k];exact step_ar h i g j _ _ _ hv _ k
theorem call_ex(K:MK){bk:IBlk}(b8:K.E.p.funcs[0]? =some [bk])(c9:bk.params=[])(h6:bk.term.kind=4)(h9:bk.term.a=2)(d7:∀o∈bk.ops,ae8 o.code/\0<=o.res)(h4:bk.ops.length<=3){ov:Value}(h:MachAt w K m ov)(hfu:m.fuel=10):
 G 150 #[Y K.pm,I 0,L,I 1] w (zQ K w (xW K.E 100 0 [] m)):=by
 have b7:=h.prog.funcs;obtain⟨fa,fc,h8,_,_⟩:=b7.form;have c0:=h.c0;rw[h8] at b7 c0;obtain⟨fb,fo,rfl,_,bv,e3,e4⟩:=b7.get b8;obtain⟨ba,bc,rfl,_,k1⟩:=e4.form;have e3:A w fb fo (.slice ba 1 bc):=by rw[Nk,Uk] at e3;exact e3
 have k7:(0:Int)<K.E.p.funcs.length:=by have:=(Jh.1 b8).1;omega
 have c7:xW K.E 100 0 [] m=tJ K.E (xW K.E 99) [bk] 11 0 [] (fun _=>0) m:=by
  show(if(K.E.p.funcs.getD (0:Int).toNat []).isEmpty then _ else _)=_
  rw[show(0:Int).toNat=0 from rfl,Jj,b8,hfu];rfl
 rw[c7];obtain⟨RES,a5⟩:∃R,tJ K.E (xW K.E 99) [bk] 11 0 [] (fun _=>0) m=R:=⟨_,rfl⟩
 rw[a5];obtain⟨OR,e5⟩:∃R,iq K.E (xW K.E 99) bk.ops (fun _=>0) m=R:=⟨_,rfl⟩
 rw[ru,show xz [bk] 0=bk from rfl,show r7 bk.params [] (fun _=>0)=(fun _=>0) by rw[c9];rfl,e5] at a5;have e9:=Ja a5;have hB:=h.size;have j0:=Ja (show CSt K w (w.alloc (.map #[] 0)) m w.heap.size 0 (fun _=>0) from⟨⟨ov,h.keep ((Below.refl _ _).alloc (Je _) _)⟩,(Frm.refl _ _).alloc (Qd hB) _,xO.made w,Je _,hB⟩);have j5:=Ja e4;have HP:=Ja (Jb c9 (Jb d7 e5));have HF:=Ja (Jb hfu h4);have a8:=Ja (Jb h6 h9);clear h b7 h8 b8 e4 c7 c9 d7 h4 e5 a5 hfu h6 h9;have k6:=@run_makeMap Tryz.prog;go_enter Tryz.func150,Tryz.ntmps150;go_wp2
 go_loopw [2,11] (fun sv atv wx=>sv=L/\atv=I 0/\Hid (CSt K w wx m w.heap.size 0 (fun _=>0))) (fun _ _ _=>0)
 case atStart=>exact⟨rfl,rfl,j0⟩
 case round=>
  obtain⟨rfl,rfl,HS⟩:=hrel;have a4:=HS.out;obtain⟨bb,bo,rfl,a0,k2,k3,h5,pv,ov1,tv,kp,ko,kt,g6,d6,f9⟩:=j5.out.get (k:=0) (x:=bk) rfl;simp only[Nat.zero_mul,Uk] at k2 k3 kp ko kt;have k2:=zV a4.frm.below a0 k2;have k3:=zV a4.frm.below a0 k3;have kp:=zV a4.frm.below a0 kp;have ko:=zV a4.frm.below a0 ko;have kt:=zV a4.frm.below a0 kt;obtain⟨pa,pc,rfl,_,_⟩:=g6.form;obtain⟨oa,oc,rfl,_,_⟩:=d6.form;obtain⟨ta,tc,rfl,_,_⟩:=f9.form;have j1:=Ja (Jb d6 h5);clear a4 g6 d6 f9 h5;go_upto_region 9 with fail;have e2:=HS.out.alloc (T #[.slice pa bk.params.length pc,.slice oa bk.ops.length oc,I bk.term.kind,I bk.term.a,.slice ta bk.term.to.length tc] 84);have c:=zI (W:=wr) (o:=T #[.slice pa bk.params.length pc,.slice oa bk.ops.length oc,I bk.term.kind,I bk.term.a,.slice ta bk.term.to.length tc] 84) rfl;generalize i9:wr.alloc (T #[.slice pa bk.params.length pc,.slice oa bk.ops.length oc,I bk.term.kind,I bk.term.a,.slice ta bk.term.to.length tc] 84)=W1 at *;generalize wr.heap.size=b12 at *;have k4:=K0 c;have c3:=Ja (Jb e2 c);clear i9 e2 c k2 k3 kp ko kt;go_wp2
  go_loopw [47] (fun jv wx=>jv=I 0/\wx=W1) (fun _ _=>0)
  case atStart=>exact⟨rfl,rfl⟩
  case round=>
   obtain⟨rfl,f8⟩:=hrel;have b6:¬(0:Int)<bk.params.length:=by rw[HP.out.1];exact Int.lt_irrefl _
   rw[f8];clear f8;generalize a9:(#[.slice pa bk.params.length pc,.slice oa bk.ops.length oc,I bk.term.kind,I bk.term.a,.slice ta bk.term.to.length tc]:Array Value)=cs at *;have k5:A W1 b12 1 (.slice oa bk.ops.length oc):=by have:=c3.out.2;rw[<-a9] at this;exact zA this Zs
   have j4:=Ja a9;have c8:Hid (∃(v:Int->Nat) (m2:Mach),CSt K w W1 m2 w.heap.size 0 v/\Q W1 b12 cs 84/\m2.fuel=10-((0:Nat):Int)/\iq K.E (xW K.E 99) (bk.ops.drop 0) v m2=OR):=⟨_,m,c3.out.1,c3.out.2,HF.out.1,HP.out.2.2⟩
   clear a9 c3;go_wp2
   go_loopw [62] (fun jv wx=>∃j:Nat,j<=bk.ops.length/\jv=I j/\Hid (∃(v:Int->Nat) (m2:Mach),CSt K w wx m2 w.heap.size j v/\Q wx b12 cs 84/\m2.fuel=10-(j:Int)/\iq K.E (xW K.E 99) (bk.ops.drop j) v m2=OR)) (fun jv _=>bk.ops.length-(intOf jv).toNat)
   case atStart=>exact⟨0,Jt _,rfl,c8⟩
   case round=>
    obtain⟨j,hj,rfl,HJ⟩:=hrel;have k9:j<=3:=Jn hj HF.out.2;obtain⟨v2,m2,g,c,e1,i⟩:=HJ.out
    by_cases y:j<bk.ops.length
    ·have b6:(j:Int)<bk.ops.length:=Zo;have f1:=Ja y;obtain⟨o,ho⟩:∃o,bk.ops[j]? =some o:=⟨_,Jd y⟩
     have b9:bk.ops.drop j=o::bk.ops.drop (j+1):=by rw[Qn y];rw[Jd y] at ho;rw[Nt ho]
     have hfu:0<m2.fuel:=Zo;rw[b9,j7,if_neg Zo] at i;obtain⟨b1,o1,rfl,a1,g0,g1,g2,g3,g4,e0,av3,g5,f6⟩:=j1.out.1.get ho;obtain⟨xa,xc,rfl,_,_⟩:=f6.form;have d0:=zV g.frm.below a1 g0;have d1:=zV g.frm.below a1 g1;have d2:=zV g.frm.below a1 g2;have d3:=zV g.frm.below a1 g3;have d4:=zV g.frm.below a1 g4;have d5:=zV g.frm.below a1 g5;have b4:=Ja g;have i2:=Ja c;have a3:=Ja (Jb e1 (Jb i (Jb hfu e0)));have f0:=Ja (HP.out.2.1 o (Ji ho));clear g c e1 i f6 e0 b9 g0 g1 g2 g3 g4 g5 a1 y ho hfu;go_upto_region 17 with fail;have l:=b4.out.alloc (T (D o xa xc) 76);have d:=zI (W:=wr) (o:=T (D o xa xc) 76) rfl;have c2:=zB (o:=T (D o xa xc) 76) i2.out;generalize i7:wr.alloc (T (D o xa xc) 76)=W2 at *;generalize wr.heap.size=b16 at *;obtain⟨ov2,a6⟩:=l.mach;have c4:=Ja a6;have b3:=Ja l;have f5:=Ja (Jb d c2);clear i7 l d c2 a6 d0 d1 d2 d3 d4 d5;go_upto_region 18 with(go_at_call 154;go_must (refine(iN c4.out a3.out.2.2.1).mono ?_;rintro e w3 ⟨rfl,a2,t⟩))
     have b2:=b3.out.step a2 t;have d:=t.kept _ _ f5.out.1 (by simp[sA]);have c:=t.kept _ _ f5.out.2 (by simp[sA]);have q0:=K0 d;have q1:=K1 d;have q2:=K2 d;have q3:=K3 d;have q4:=K4 d;have q5:=K5 d;have q:=step_ex a2 (call:=xW K.E 99) f0.out.1 a3.out.2.2.2 xa o.args.length xc b2.map 1;have f4:=Ja b2;have i0:=Ja (Jb d c);clear b2 d c a2 t;have i:=a3.out.2.1;rcases stepR_ex (E:=K.E) (call:=xW K.E 99) f0.out.1 v2 m2.pay with⟨x,u⟩|u
     ·rw[u] at i q;have HX:=Ja i;have e7:=Ja (show G 155 #[Y K.pm,.agg (D o xa xc),.map (some w.heap.size),I 1] w3 fun e w'=>e=.returned (U x)/\(∃ov',MachAt w' K m2.pay ov')/\Frm K.B w3 w'/\x<65536 from q);clear i u q;go_upto_region 19 with(go_at_call 155;go_must (refine e7.out.mono ?_;rintro e w4 ⟨rfl,⟨ov4,e6⟩,a7,f7⟩))
      have b0:=f4.out.step e6 a7;have d:=a7.kept _ _ i0.out.1 (by simp[sA]);have c:=a7.kept _ _ i0.out.2 (by simp[sA]);have s1:=K1 d;have c5:=Ja c;have f3:=Ja b0;have i3:j<9000000000000000000:=Zo;have i6:=b0.map;have i4:=a3.out.2.2.2.2.1;have i5:=f0.out.2;have b5:=HX.out;unfold setV at b5;rw[if_pos i5] at b5;have j2:=Ja b5;clear b0 d c q0 q1 q2 q3 q4 q5 b5;go_wp2_with (at_mapUpdate;go_must (refine us rfl (.tmp 76) (.tmp 78) (.tmp 79) rfl i6 i3 o.res x rfl rfl rfl i4 f7 ?_;intro w5 h0 h7;have f2:=Ja (Jb h0 h7);clear h0 h7))
      go_roundw
      case rel=>
       refine⟨j+1,f1.out,by go_num,_,m2.pay,f3.out.store f2.out.1 f2.out.2,?_,by show m2.fuel-1=_;rw[a3.out.1];omega,j2.out⟩;refine zL f2.out.2 c5.out ?_;intro e;obtain⟨es,ec,g8⟩:=f3.out.map.blk;rw[Nt e,c5.out] at g8;cases g8
      case measure=>have:=f1.out;simp[intOf];omega
     ·rw[u] at i q;have e8:=Ja (show Res.trap 4 0 m2.pay=RES by rw[<-e9.out,<-i]);have e7:=Ja (show G 155 #[Y K.pm,.agg (D o xa xc),.map (some w.heap.size),I 1] w3 fun e w'=>e=.panicked [oE 4 0]/\(∃ov',MachAt w' K m2.pay ov')/\Frm K.B w3 w'/\True from q);clear i u q;go_wp2_with (go_at_call 155;go_must (refine e7.out.mono ?_;rintro e w4 ⟨rfl,⟨ov4,e6⟩,a7,f7⟩))
      exact⟨rfl,by rw[<-e8.out];exact zQ.trap e6 (f4.out.frm.trans a7)⟩
    ·obtain rfl:j=bk.ops.length:=by omega
     have b6:¬(bk.ops.length:Int)<bk.ops.length:=Zo;rw[List.drop_length] at i;have hfu:0<m2.fuel:=Zo;obtain⟨ov2,a6⟩:=g.mach
     have e8:=Ja (show Res.ok (v2 2) m2.pay=RES by
      rw[<-e9.out,<-i]
      show _=(if m2.fuel<=0 then _ else _)
      rw[if_neg Zo,if_pos a8.out.1,if_neg (by rw[a8.out.2];decide),a8.out.2])
     have c4:=Ja (Jb a6 hfu);have b4:=Ja g;have k0:=Ja c;clear i g c e1 HJ a6 c8 hfu;go_upto_region 23 with(go_at_call 154;go_must (refine(iN c4.out.1 c4.out.2).mono ?_;rintro e w3 ⟨rfl,a2,t⟩))
     have l:=b4.out.step a2 t;have c:=t.kept _ _ k0.out (by simp[sA]);rw[<-j4.out] at c;have q2:A w3 b12 2 (I 4):=by rw[<-a8.out.1];exact zA c Zs
     have q3:A w3 b12 3 (I 2):=by rw[<-a8.out.2];exact zA c Zs
     have lk:=l.map.look (x:=2) ⟨by decide,by decide⟩;have i1:=l.map.2 2;have b3:=Ja l;have j3:=Ja a2;clear l c a2 t;go_wp2;go_ret;rw[<-e8.out];exact zQ.ok j3.out b3.out.frm i1
theorem bR{v:Int}(h:rB d v i k=some d'):(0<=v/\v<=65535)/\∀x,(d'.1 x).isSome=true->(d.1 x).isSome=true∨x=v:=by
 unfold rB at h
 split at h
 ·cases h
 ·rename_i c
  cases h;refine⟨by omega,fun x hx=>?_⟩
  change (lS d.1 v i x).isSome=true at hx
  unfold lS at hx
  by_cases e:x=v
  ·exact .inr e
  ·rw[if_neg e] at hx;exact .inl hx
theorem cL:∀(l:List Int) (d d':wO),vJ i l d=some d'->(∀v∈l,0<=v/\v<=65535)/\∀x,(d'.1 x).isSome=true->(d.1 x).isSome=true∨x∈l
 | [],d,d',h=>by cases h;exact⟨(fun v hv=>by cases hv),fun x hx=> .inl hx⟩
 |v::l,d,d',h=>by
  unfold vJ at h
  cases h1:rB d v i (-1) with
  |none=>rw[h1] at h;cases h
  |some d1=>
   rw[h1,Nw] at h;obtain⟨k1,k2⟩:=bR h1;obtain⟨k3,k4⟩:=cL l d1 d' h;refine⟨fun x hx=>?_,fun x hx=>?_⟩
   ·rcases Jq.1 hx with rfl|hx
    ·exact k1
    ·exact k3 x hx
   ·rcases k4 x hx with h2|h2
    ·rcases k2 x h2 with h3|rfl
     ·exact .inl h3
     ·exact .inr (List.mem_cons_self ..)
    ·exact .inr (List.mem_cons_of_mem _ h2)
theorem bN{p:IProg}:∀(l:List IOp) (k:Int) (d d':wO),sS p i l k d=some d'->(∀o∈l,-1<=o.res/\o.res<=65535)/\∀x,(d'.1 x).isSome=true->(d.1 x).isSome=true∨∃o∈l,o.res=x/\0<=x
 | [],k,d,d',h=>by cases h;exact⟨(fun v hv=>by cases hv),fun x hx=> .inl hx⟩
 |o::l,k,d,d',h=>by
  rw[dG] at h
  cases h1:ug p i k o d with
  |none=>rw[h1] at h;cases h
  |some d1=>
   rw[h1,Nw] at h;obtain⟨k3,k4⟩:=bN l (k+1) d1 d' h
   have hs:(-1<=o.res/\o.res<=65535)/\∀x,(d1.1 x).isSome=true->(d.1 x).isSome=true∨(o.res=x/\0<=x):=by
    unfold ug at h1
    split at h1
    ·rename_i hf
     have:=ct hf
     split at h1
     ·rename_i c
      obtain⟨k1,k2⟩:=bR h1;refine⟨by omega,fun x hx=>?_⟩;rcases k2 x hx with h3|rfl
      ·exact .inl h3
      ·exact .inr ⟨rfl,c⟩
     ·cases h1;exact⟨by omega,fun x hx=> .inl hx⟩
    ·cases h1
   refine⟨fun x hx=>?_,fun x hx=>?_⟩
   ·rcases Jq.1 hx with rfl|hx
    ·exact hs.1
    ·exact k3 x hx
   ·rcases k4 x hx with h2|⟨o',h2,h3⟩
    ·rcases hs.2 x h2 with h3|h3
     ·exact .inl h3
     ·exact .inr ⟨o,List.mem_cons_self ..,h3⟩
    ·exact .inr ⟨o',List.mem_cons_of_mem _ h2,h3⟩
def DefdIn (l:List IBlk)(x:Int):Prop:=∃b∈l,x∈b.params∨∃o∈b.ops,o.res=x/\0<=x
def bC (l:List IBlk):Prop:=∀b∈l,(∀v∈b.params,0<=v/\v<=65535)/\∀o∈b.ops,-1<=o.res/\o.res<=65535
theorem cP{p:IProg}:∀(l:List IBlk) (i:Int) (d d':wO),uH p bl l i d=some d'->bC l/\∀x,(d'.1 x).isSome=true->(d.1 x).isSome=true∨DefdIn l x
 | [],i,d,d',h=>by cases h;exact⟨(fun v hv=>by cases hv),fun x hx=> .inl hx⟩
 |b::l,i,d,d',h=>by
  unfold uH at h
  cases h1:pS p bl i b d with
  |none=>rw[h1] at h;cases h
  |some d1=>
   rw[h1,Nw] at h;obtain⟨_,d2,h2,h3⟩:=nF h1;obtain⟨k1,k2⟩:=cL _ _ _ h2;obtain⟨k3,k4⟩:=bN _ _ _ _ h3;obtain⟨k5,k6⟩:=cP l (i+1) d1 d' h;refine⟨fun x hx=>?_,fun x hx=>?_⟩
   ·rcases Jq.1 hx with rfl|hx
    ·exact⟨k1,k3⟩
    ·exact k5 x hx
   ·rcases k6 x hx with j|⟨b',j,c⟩
    ·rcases k4 x j with c|c
     ·rcases k2 x c with g|g
      ·exact .inl g
      ·exact .inr ⟨b,List.mem_cons_self ..,.inl g⟩
     ·exact .inr ⟨b,List.mem_cons_self ..,.inr c⟩
    ·exact .inr ⟨b',List.mem_cons_of_mem _ j,c⟩
theorem ak {N:Int}(l:List Int):∀(n:Int),n<=N->(∀v∈l,cG v<=N)->qK n l<=N:=by
 induction l with
 |nil=>intro n h _;exact h
 |cons x l ih=>
  intro n h hl;have e:qK n (x::l)=qK (max n (cG x)) l:=rfl;rw[e];have:=hl x (List.mem_cons_self ..);exact ih _ Zo (fun v hv=>hl v (List.mem_cons_of_mem _ hv))
theorem aaf {N:Int}(l:List IOp):∀(n:Int),n<=N->(∀o∈l,cG o.res<=N)->o8 n l<=N:=by
 induction l with
 |nil=>intro n h _;exact h
 |cons x l ih=>
  intro n h hl;have e:o8 n (x::l)=o8 (max n (cG x.res)) l:=rfl;rw[e];have:=hl x (List.mem_cons_self ..);exact ih _ Zo (fun v hv=>hl v (List.mem_cons_of_mem _ hv))
theorem count_le {N:Int}(l:List IBlk):∀(n:Int),n<=N->(∀b∈l,(∀v∈b.params,cG v<=N)/\∀o∈b.ops,cG o.res<=N)->l.foldl iL n<=N:=by
 induction l with
 |nil=>intro n h _;exact h
 |cons x l ih=>
  intro n h hl;rw[Qk];have h1:=hl x (List.mem_cons_self ..);exact ih _ (aaf _ _ (ak _ _ h h1.1) h1.2) (fun b hb=>hl b (List.mem_cons_of_mem _ hb))
theorem bD(h:bC bl):0<=aaG bl/\aaG bl<=65536:=by
 refine⟨bO bl,count_le bl 0 Zo fun b hb=>⟨fun v hv=>?_,fun o ho=>?_⟩⟩
 ·have:=(h b hb).1 v hv;rw[aaY Zo Zo];omega
 ·have:=(h b hb).2 o ho;rw[aaY Zo Zo];omega
theorem dY(h:bC bl){x:Int}(c:DefdIn bl x):0<=x/\x.toNat<(aaG bl).toNat:=by
 obtain⟨b,hb,h1⟩:=c;have hg:=(dr bl 0).2 b hb;have hs:=h b hb;have e:bl.foldl iL 0=aaG bl:=rfl;rw[e] at hg;rcases h1 with h1|⟨o,ho,rfl,d⟩
 ·have:=hg.1 x h1;have:=hs.1 x h1;rw[aaY Zo Zo] at *;omega
 ·have:=hg.2 o ho;have:=hs.2 o ho;rw[aaY Zo Zo] at *;omega
theorem dd{g:List (List Nat)}{v:Int}(h:yy d g i k v=true):(d.1 v).isSome=true:=by
 cases h1:d.1 v with
 |none=>rw[dC h1] at h;cases h
 |some b=>rfl
theorem dw{p:IProg}{n:Nat}(i:p.funcs[n]? =some bl)(h:yi p n=true):(0<=aaG bl/\aaG bl<=65536)/\∀b∈bl,aq (aaG bl).toNat b:=by
 cases bl with
 |nil=>exact⟨⟨by decide,by decide⟩,fun b hb=>by cases hb⟩
 |cons b0 bs=>
  obtain⟨_,d,m,hr⟩:=tF i h;obtain⟨k1,k2⟩:=cP (b0::bs) 0 _ d (show uH p (b0::bs) (b0::bs) 0 _=some d from m)
  have g:∀x,(d.1 x).isSome=true->0<=x/\x.toNat<(aaG (b0::bs)).toNat:=fun x hx=>by
   rcases k2 x hx with h1|h1
   ·cases h1
   ·exact dY k1 h1
  refine⟨bD k1,fun b hb=>?_⟩;obtain⟨j,l⟩:=Ny hb;unfold iM at hr;rw[Jm] at hr;have c:=(cB _ 0).1 hr.2 j b l;unfold aaC at c;rw[Jm] at c;refine⟨fun x hx=>dY k1 ⟨b,hb,.inl hx⟩,fun o ho=>⟨fun x hx=>?_,fun h0=>(dY k1 ⟨b,hb,.inr ⟨o,ho,rfl,h0⟩⟩).2⟩,fun x hx=>?_⟩
  ·obtain⟨k,hk⟩:=Ny ho;exact g x (dd (Oe.1 ((dF _ 0).1 c.1 k o hk) x hx))
  ·exact g x (dd (Oe.1 c.2 x hx))
theorem agV{v:Int}(h:rB d v i k=some d')(c:∀x b a,d.1 x=some b->d.2 x=some a->W x b a)(hv:W v i k):∀x b a,d'.1 x=some b->d'.2 x=some a->W x b a:=by
 unfold rB at h
 split at h
 ·cases h
 ·cases h;intro x b a h1 h2
  change lS d.1 v i x=some b at h1
  change lS d.2 v k x=some a at h2
  unfold lS at h1 h2
  by_cases e:x=v
  ·rw[if_pos e] at h1 h2;cases h1;cases h2;rw[e];exact hv
  ·rw[if_neg e] at h1 h2;exact c x b a h1 h2
theorem agj:∀(l:List Int) (d d':wO),vJ i l d=some d'->(∀x b a,d.1 x=some b->d.2 x=some a->W x b a)->(∀v∈l,W v i (-1))->∀x b a,d'.1 x=some b->d'.2 x=some a->W x b a
 | [],d,d',h,hW,_=>by cases h;exact hW
 |v::l,d,d',h,hW,hl=>by
  unfold vJ at h
  cases h1:rB d v i (-1) with
  |none=>rw[h1] at h;cases h
  |some d1=>
   rw[h1,Nw] at h;exact agj l d1 d' h (agV h1 hW (hl v (.head _))) fun u hu=>hl u (.tail _ hu)
theorem afT{p:IProg}:∀(l:List IOp) (k:Int) (d d':wO),sS p i l k d=some d'->(∀x b a,d.1 x=some b->d.2 x=some a->W x b a)->(∀(j:Nat) o,l[j]? =some o->0<=o.res->W o.res i (k+j))->∀x b a,d'.1 x=some b->d'.2 x=some a->W x b a
 | [],k,d,d',h,hW,_=>by cases h;exact hW
 |o::l,k,d,d',h,hW,hl=>by
  unfold sS at h
  split at h
  ·split at h
   ·rename_i h0
    cases h1:rB d o.res i k with
    |none=>rw[h1] at h;cases h
    |some d1=>
     rw[h1,Nw] at h;refine afT l (k+1) d1 d' h (agV h1 hW ?_) fun j x hx h2=>?_
     ·have:=hl 0 o rfl h0
      simpa using this
     ·have:=hl (j+1) x hx h2
      rwa [show k+((j+1:Nat):Int)=k+1+(j:Int) by omega] at this
   ·refine afT l (k+1) d d' h hW fun j x hx h2=>?_
    have:=hl (j+1) x hx h2
    rwa [show k+((j+1:Nat):Int)=k+1+(j:Int) by omega] at this
  ·cases h
theorem agl{p:IProg}:∀(l:List IBlk) (i:Int) (d d':wO),uH p bl l i d=some d'->(∀x b a,d.1 x=some b->d.2 x=some a->W x b a)->
 (∀(j:Nat) b,l[j]? =some b->(∀v∈b.params,W v (i+j) (-1))/\∀(k:Nat) o,b.ops[k]? =some o->0<=o.res->W o.res (i+j) k)->∀x b a,d'.1 x=some b->d'.2 x=some a->W x b a
 | [],i,d,d',h,hW,_=>by cases h;exact hW
 |b::l,i,d,d',h,hW,hl=>by
  unfold uH at h
  cases h1:pS p bl i b d with
  |none=>rw[h1] at h;cases h
  |some d1=>
   rw[h1,Nw] at h;have h0:=hl 0 b rfl;rw[show i+((0:Nat):Int)=i by omega] at h0;refine agl l (i+1) d1 d' h ?_ fun j x hx=>?_
   ·unfold pS at h1
    cases h2:vJ i b.params d with
    |none=>rw[h2] at h1;cases h1
    |some d2=>
     rw[h2,Nw] at h1
     cases h3:sS p i b.ops 0 d2 with
     |none=>rw[h3] at h1;cases h1
     |some d3=>
      rw[h3,Nw] at h1
      split at h1
      ·cases h1
       exact afT b.ops 0 d2 _ h3 (agj b.params d d2 h2 hW h0.1) fun j o ho h4=>by
        rw[Ub];exact h0.2 j o ho h4
      ·cases h1
   ·have:=hl (j+1) x hx
    rwa [show i+((j+1:Nat):Int)=i+1+(j:Int) by omega] at this
def DefIn (b:IBlk)(v:Int):Prop:=v∈b.params∨∃o∈b.ops,o.res=v/\0<=v
def Avail (bl:List IBlk)(i k:Nat)(v:Int):Prop:=
 ((xz bl i).params.contains v=true∨∃j o,j<k/\(xz bl i).ops[j]? =some o/\o.res=v/\0<=v)∨∃c:Nat,c≠i/\c<bl.length/\Dom (GE (zy bl)) c i/\DefIn (xz bl c) v
theorem vp{i:Nat}{b:IBlk}(h:bl[i]? =some b):xz bl (i:Int)=b:=by
 unfold xz;rw[Ni,Jj,h];rfl
structure StF (p:IProg) (bl:List IBlk):Prop where
 vg:zw (zy bl)
 all:∀i,i<bl.length->Reach (GE (zy bl)) i
 use:∀(i k:Nat) o,i<bl.length->(xz bl i).ops[k]? =some o->∀v∈rR o,Avail bl i k v
 ends:∀i:Nat,i<bl.length->∀v∈mE (xz bl i).term,Avail bl i (xz bl i).ops.length v
 opok:∀i:Nat,i<bl.length->∀o∈(xz bl i).ops,opF p o=true
 trm:∀i:Nat,i<bl.length->wn bl (xz bl i).term=true
theorem age{p:IProg}(hv:zw (zy bl))(hd:wg p bl=some d){i k:Nat}(hi:i<bl.length){v:Int}(h:yy d (zy bl) i k v=true):Avail bl i k v:=by
 have a0:=agl (W:=fun v b a=>∃blk,bl[b.toNat]? =some blk/\0<=b/\((a=-1/\v∈blk.params)∨(0<=a/\∃o,blk.ops[a.toNat]? =some o/\o.res=v/\0<=v))) bl 0 _ d hd (fun x b a h1 _=>by cases h1) fun j b hb=>by
  refine⟨fun u hu=>⟨b,?_,by omega,.inl ⟨rfl,hu⟩⟩,fun m o ho h0=>⟨b,?_,by omega,.inr ⟨by omega,o,?_,rfl,h0⟩⟩⟩
  ·rw[show(0+(j:Int)).toNat=j by omega];exact hb
  ·rw[show(0+(j:Int)).toNat=j by omega];exact hb
  ·rw[Ni];exact ho
 unfold yy at h
 split at h
 ·rename_i b a h1 h2
  simp only[Jm,Bool.not_eq_true',Bool.and_eq_false_iff,decide_eq_false_iff_not] at h;obtain⟨h3,h4⟩:=h;obtain⟨blk,hb,h0,c⟩:=a0 v b a h1 h2;have y:=(Jh.1 hb).1
  by_cases e:b=(i:Int)
  ·subst e;rw[Ni] at hb;have hk:a<(k:Int):=Zo;refine .inl ?_;rw[vp hb];rcases c with⟨_,g⟩|⟨g,o,t,q,l⟩
   ·exact .inl (by simpa using g)
   ·exact .inr ⟨a.toNat,o,by omega,t,q,l⟩
  ·have w:=(yO hv b.toNat i).1 (by simpa using h4);refine .inr ⟨b.toNat,by omega,y,w.2.2,?_⟩;rw[vp hb];rcases c with⟨_,g⟩|⟨g,o,t,q,l⟩
   ·exact .inl g
   ·exact .inr ⟨o,Ji t,q,l⟩
 ·cases h
theorem stF_of{p:IProg}{n:Nat}(y:p.funcs[n]? =some bl)(w:bl≠ [])(h:yi p n=true):StF p bl:=by
 cases bl with
 |nil=>exact absurd rfl w
 |cons b0 bs=>
  obtain⟨_,d,m,hr⟩:=tF y h;have g:=rV (b0::bs) 0 _ d (show uH p (b0::bs) (b0::bs) 0 _=some d from m);have hv:zw (zy (b0::bs)):=nO w fun b hb=>(g b hb).2
  unfold iM at hr;simp only[Jm,decide_eq_true_eq] at hr;obtain⟨u,t⟩:=hr;have q:=(aj hv).1 (by rw[u,xu])
  have c:∀i:Nat,i<(b0::bs).length->(b0::bs)[i]? =some (xz (b0::bs) i)/\xz (b0::bs) i∈(b0::bs):=fun i hi=>by
   obtain⟨x,l⟩:∃x,(b0::bs)[i]? =some x:=⟨_,Jd hi⟩
   rw[vp l];exact⟨l,Ji l⟩
  have j:∀i:Nat,i<(b0::bs).length->aaC d (zy (b0::bs)) (xz (b0::bs) i) i=true:=fun i hi=>by
   have:=(cB (b0::bs) 0).1 t i _ (c i hi).1
   rwa [Ub] at this
  refine⟨hv,fun i hi=>?_,fun i k o hi ho v hvu=>?_,fun i hi v hve=>?_,fun i hi o ho=>?_,fun i hi=>(g _ (c i hi).2).2⟩
  ·exact((yO hv 0 i).1 (q i (by rw[xu];exact hi))).2.1
  ·have h1:=j i hi;unfold aaC at h1;rw[Jm] at h1;have h2:=(dF _ 0).1 h1.1 k o ho;rw[Ub] at h2;exact age hv m hi (Oe.1 h2 v hvu)
  ·have h1:=j i hi;unfold aaC at h1;rw[Jm] at h1;exact age hv m hi (Oe.1 h1.2 v hve)
  ·exact(g _ (c i hi).2).1 o ho
def accL (bl:List IBlk):List IOp:=(bl.flatMap (·.ops)).filter afb
def ahc (o:IOp):Int:=if o.code=18∨o.code=20 then 2 else 1
def ae2:List IObj->Int->Rg->Int->Int
 | [],_,_,_=>-1
 |o::os,k,a,n=>if o.bank=-1/\o.addr<=a.lo/\(a.hi:Int)+n<=(o.addr:Int)+o.size then k else ae2 os (k+1) a n
def agS (data:List IObj)(R:List Rg)(o:IOp):Int:=ae2 data 0 (R.getD o.a.toNat ⟨0,0⟩) (ahc o)
def agX (data:List IObj)(R:List Rg)(bl:List IBlk):List Int:=(accL bl).map (agS data R)
def fnT (p:IProg)(bl:List IBlk):Slv:=ahf p bl (vD (zy bl)) 0 (afz (aaG bl).toNat (xz bl (0:Nat)).params)
def p6 (p:IProg)(bl:List IBlk):List Rg:=afh (fnT p bl)
structure FnS (p:IProg) (bl:List IBlk):Prop where
 st:StF p bl
 cnt:0<=aaG bl/\aaG bl<=65536
 rng:∀i:Nat,i<bl.length->(∀x∈(xz bl i).params,0<=x/\x.toNat<(aaG bl).toNat)/\∀o∈(xz bl i).ops,cS (aaG bl).toNat o/\(0<=o.res->o.res.toNat<(aaG bl).toNat)
 num:∀i:Nat,i<bl.length->∀o∈(xz bl i).ops,o.n<65536
theorem FnS.sol{p:IProg}(h:FnS p bl):∀i:Nat,i<bl.length->d9 (aaG bl).toNat bl (xz bl i):=fun i hi=>by
 refine⟨fun o ho h0=>⟨(h.rng i hi).2 o ho|>.2 h0,?_,fun _=>h.num i hi o ho⟩,fun e he x hx=>?_⟩
 ·have:=(opF_ok (h.st.opok i hi o ho)).1;omega
 ·have c:=h.st.trm i hi;unfold wn at c;rw[Jm,Oe] at c;have d:=c.1 e he;unfold uM at d;simp only[Jm,decide_eq_true_eq] at d;have:=(h.rng e.block.toNat Zo).1;rw[show((e.block.toNat:Nat):Int)=e.block by omega] at this;exact(this x hx).2
theorem FnS.ord{p:IProg}(h:FnS p bl)(i:Nat):i∈vD (zy bl)↔i<bl.length:=by
 obtain⟨ns,d⟩:=adR h.st.vg;rw[d.eq];constructor
 ·intro c;have:=d.lt i c
  rwa [xu] at this
 ·intro c;exact(d.mem i).2 (h.st.all i c)
theorem FnS.pos{p:IProg}(h:FnS p bl):0<bl.length:=by have:=h.st.vg.1;rwa [xu] at this
theorem FnS.end{p:IProg}(h:FnS p bl):EndOk p (aaG bl).toNat bl (vD (zy bl)) (afz (aaG bl).toNat (xz bl (0:Nat)).params) (fnT p bl):=
 end_ok' (fun i hi=>h.sol i ((h.ord i).1 hi)) (start_ok fun v hv=>((h.rng 0 h.pos).1 v hv).2)
theorem ag7{p:IProg}(hv:vC p=0)(hs:∀f∈p.funcs,vZ f)(h64:P64 p){n:Nat}(c:p.funcs[n]? =some bl)(j:bl≠ []):FnS p bl:=by
 obtain⟨_,hf⟩:=rz hv;have d:=Ji c;obtain⟨h,g⟩:=dw c (hf n (Jh.1 c).1);refine⟨stF_of c j (hf n (Jh.1 c).1),h,fun i hi=>?_,fun i hi o ho=>?_⟩
 ·obtain⟨b,hb⟩:∃b,bl[i]? =some b:=⟨_,Jd hi⟩
  rw[vp hb];have:=g b (Ji hb);exact⟨this.1,this.2.1⟩
 ·obtain⟨b,hb⟩:∃b,bl[i]? =some b:=⟨_,Jd hi⟩
  rw[vp hb] at ho;exact((h64.funcs bl d b (Ji hb)).ops o ho).1.2.2.2.2
theorem agB{s:List Int}{sv:Value}(hs:zY w w.heap.size sv s):G 12 #[sv] w (oC w (uR (s.take 200))):=by
 obtain⟨sa,sc,rfl,a3,a2⟩:=hs.form;obtain⟨k,hk,m⟩:=gj s.length 200;have a0:∀(ts:Array TypeId) (t:TypeId) (W:World),(Builtin.min_ ts t #[I (s.length:Int),I 200]).run Tryz.prog W=.ok (I k) W:=fun ts t W=>by rw[hk];exact run_min_int2 ..
 have a4:(k:Int)<=(sc:Int):=Zo;have ht:=lw hs 200;rw[<-m] at ht
 have hm:∀W,O w W->G 31 #[.slice sa k sc] W (fun e w'=>oC W (uR (s.take 200)) e w'/\∃V,e=.returned (yH V (uR (s.take 200)))/\∀U,StaysL W.heap.size w' U->ProgIn U U.heap.size V (uR (s.take 200))):=fun W hb=>(jP ((ht.below zO hb).mono zO hb.size)).mono fun e w' ⟨V,he,hp,d⟩=>by
  subst he;exact⟨nE (hp _ (StaysL.refl _ _)) d,V,rfl,hp⟩
 have a1:(uR (s.take 200)).funcs.length<=4:=by rw[qA];exact(sm _).2
 generalize uR (s.take 200)=p at *;have HM:=Ja hm;clear hm hk m ht hs;have q:O w (w.alloc (T #[L,L,I 0,I 0,L,L] 29)):=(Below.refl _ _).alloc (Je _) _;have j:=zI (W:=w) (o:=T #[L,L,I 0,I 0,L,L] 29) rfl;have h:=Ja (Jb q j);clear q j;go_enter Tryz.func12,Tryz.ntmps12;go_wp2_with (go_at_call 31;go_must (refine(HM.out _ h.out.1).mono ?_;rintro e w1 ⟨⟨fa,fc,aa,ac,da,dc,ba,bc,rfl,hp,g⟩,V,y,l⟩;have c:=zH g h.out.2 (lt_of_block h.out.2);have c0:=zA (i:=0) c rfl;have c1:=zA (i:=1) c rfl;have c2:=zA (i:=2) c rfl;have c3:=zA (i:=3) c rfl;have c4:=zA (i:=4) c rfl;have c5:=zA (i:=5) c rfl;have cf:∀i,N w1 w.heap.size i:=fun i=>zE c;have cl:=lt_of_block c;have u:=Ja (Jb hp (Jb g (Jb c (Jb y l))));clear hp g c y l))
 refine bodyPost_ret (v:=.agg (R p fa fc aa ac da dc ba bc)) ?_ rfl ?_
 ·rw[zM rfl];go_simp
 ·have d:=h.out.1.trans (u.out.2.1.mono h.out.1.size);have x:(w.alloc (T #[L,L,I 0,I 0,L,L] 29)).heap.size=w.heap.size+1:=by simp
  have hz:Below w.heap.size w1 (w1.setCells w.heap.size 0 [.slice fa p.funcs.length fc,.slice aa p.args.length ac,I p.entry,I p.handler,.slice da p.data.length dc,.slice ba p.banks.length bc]):=qu _ _ _ _;have hU:=u.out.2.2.2.2 _ (pJ (vs:=[.slice fa p.funcs.length fc,.slice aa p.args.length ac,I p.entry,I p.handler,.slice da p.data.length dc,.slice ba p.banks.length bc]) (o:=0) (w:=w1) (r:=w.heap.size) (by rw[x];omega));have hr:=nE hU (d.trans hz);rw[<-u.out.2.2.2.1] at hr;exact hr
end Go.Proofs.YtoahcpkibpomcaaGreat
