/- Part of a proof. -/
import Derived.Test.YtoahcpkibpomcaaGreatMkX
set_option linter.all false
set_option maxHeartbeats 4000000
set_option maxRecDepth 100000
namespace Go.Proofs.YtoahcpkibpomcaaGreat
open Go.RowKit
variable {w:World}{bl:List IBlk}
theorem dR (a:Nat)(c:a<65536)(w:World):A 129 #[U a] w fun e w'=>e=.returned (I (s16 a))/\w=w':=by
 by_cases h:a<32768
 ·have t1:decide ((32768:Int)<=(a:Int))=false:=decide_eq_false Zo;have t2:decide (32768<=a)=false:=decide_eq_false Zo;have e:s16 a=(a:Int):=by unfold s16;rw[if_pos h]
  rw[e];clear h e;go_enter Tryz.func129,Tryz.ntmps129;go_wp2;go_ret;refine⟨zh ?_,rfl⟩;omega
 ·have t1:decide ((32768:Int)<=(a:Int))=true:=decide_eq_true Zo;have t2:decide (32768<=a)=true:=decide_eq_true Zo;have e:s16 a=(a:Int)-65536:=by unfold s16;rw[if_neg h]
  rw[e];clear h e;go_enter Tryz.func129,Tryz.ntmps129;go_wp2;go_ret;refine⟨zh ?_,rfl⟩;omega
theorem bG (b:Bool)(w:World):A 130 #[.bool b] w fun e w'=>e=.returned (U (iw b:Nat))/\w=w':=by
 cases b<;>go_enter Tryz.func130,Tryz.ntmps130<;>go_wp2<;>go_ret<;>exact⟨rfl,rfl⟩
theorem and15 (b:Nat)(hb:b<65536):bits .and .u16 (b:Int) 15=((b%16:Nat):Int):=by
 have h:=(bits_nat .u16 16 Zd wraps_u16 b 15 hb Zd).1;rw[show((15:Nat):Int)=15 from rfl] at h;rw[h]
 congr 1
 have:=Nat.and_two_pow_sub_one_eq_mod b 4
 simpa using this
theorem rarith_5 (a b:Nat)(c:a<65536)(hb:b<65536)(w:World):A 107 #[I 5,U a,U b] w fun e w'=>e=.returned (U (yW 5 a b:Nat))/\w=w':=by
 go_enter Tryz.func107,Tryz.ntmps107;go_wp2
 all_goals go_ret
 all_goals refine⟨zh ?_,rfl⟩
 all_goals exact ar5 a b
theorem rarith_6 (a b:Nat)(c:a<65536)(hb:b<65536)(w:World):A 107 #[I 6,U a,U b] w fun e w'=>e=.returned (U (yW 6 a b:Nat))/\w=w':=by
 go_enter Tryz.func107,Tryz.ntmps107;go_wp2
 all_goals go_ret
 all_goals refine⟨zh ?_,rfl⟩
 all_goals exact ar6 a b hb
theorem rarith_7 (a b:Nat)(c:a<65536)(hb:b<65536)(w:World):A 107 #[I 7,U a,U b] w fun e w'=>e=.returned (U (yW 7 a b:Nat))/\w=w':=by
 go_enter Tryz.func107,Tryz.ntmps107;go_wp2
 all_goals go_ret
 all_goals refine⟨zh ?_,rfl⟩
 all_goals exact ar7 a b
theorem rarith_8 (a b:Nat)(c:a<65536)(hb:b<65536)(h0:b≠0)(w:World):A 107 #[I 8,U a,U b] w fun e w'=>e=.returned (U (yW 8 a b:Nat))/\w=w':=by
 have h1:((b:Int)==0)=false:=Ze;have h2:¬(b:Int)=0:=Zo;clear h0;go_enter Tryz.func107,Tryz.ntmps107;go_wp2
 all_goals go_ret
 all_goals refine⟨zh ?_,rfl⟩
 all_goals exact ar8 a b c
theorem rarith_9 (a b:Nat)(c:a<65536)(hb:b<65536)(w:World):A 107 #[I 9,U a,U b] w fun e w'=>e=.returned (U (yW 9 a b:Nat))/\w=w':=by
 go_enter Tryz.func107,Tryz.ntmps107;go_wp2
 all_goals go_ret
 all_goals refine⟨zh ?_,rfl⟩
 all_goals exact ar9 a b c hb
theorem au (a b:Nat)(c:a<65536)(hb:b<65536)(w:World):A 107 #[I 10,U a,U b] w fun e w'=>e=.returned (U (yW 10 a b:Nat))/\w=w':=by
 go_enter Tryz.func107,Tryz.ntmps107;go_wp2
 all_goals go_ret
 all_goals refine⟨zh ?_,rfl⟩
 all_goals exact ar10 a b c hb
theorem aaq (a b:Nat)(c:a<65536)(hb:b<65536)(w:World):A 107 #[I 11,U a,U b] w fun e w'=>e=.returned (U (yW 11 a b:Nat))/\w=w':=by
 go_enter Tryz.func107,Tryz.ntmps107;go_wp2
 all_goals go_ret
 all_goals refine⟨zh ?_,rfl⟩
 all_goals exact ar11 a b c hb
theorem ae (a b:Nat)(d:a<65536)(hb:b<65536)(w:World):A 107 #[I 12,U a,U b] w fun e w'=>e=.returned (U (yW 12 a b:Nat))/\w=w':=by
 have c:=and15 b hb;go_enter Tryz.func107,Tryz.ntmps107;go_wp2
 all_goals go_ret
 all_goals refine⟨zh ?_,rfl⟩
 all_goals exact ar12 a b
theorem aae (a b:Nat)(d:a<65536)(hb:b<65536)(w:World):A 107 #[I 13,U a,U b] w fun e w'=>e=.returned (U (yW 13 a b:Nat))/\w=w':=by
 have c:=and15 b hb;go_enter Tryz.func107,Tryz.ntmps107;go_wp2
 all_goals go_ret
 all_goals refine⟨zh ?_,rfl⟩
 all_goals exact ar13 a b
theorem aan (a b:Nat)(c:a<65536)(hb:b<65536)(w:World):A 107 #[I 15,U a,U b] w fun e w'=>e=.returned (U (yW 15 a b:Nat))/\w=w':=by
 go_enter Tryz.func107,Tryz.ntmps107;go_wp2_with (go_at_call 130;go_must (refine(bG _ _).mono ?_;rintro e w' ⟨rfl,rfl⟩))
 all_goals go_ret
 all_goals refine⟨zh ?_,rfl⟩
 all_goals exact congrArg _ (ar15 a b)
theorem aV (a b:Nat)(c:a<65536)(hb:b<65536)(w:World):A 107 #[I 16,U a,U b] w fun e w'=>e=.returned (U (yW 16 a b:Nat))/\w=w':=by
 go_enter Tryz.func107,Tryz.ntmps107;go_wp2_with (go_at_call 130;go_must (refine(bG _ _).mono ?_;rintro e w' ⟨rfl,rfl⟩))
 all_goals go_ret
 all_goals refine⟨zh ?_,rfl⟩
 all_goals exact rfl
theorem aT (a b:Nat)(c:a<65536)(hb:b<65536)(w:World):A 107 #[I 17,U a,U b] w fun e w'=>e=.returned (U (yW 17 a b:Nat))/\w=w':=by
 have m1:True:=trivial;go_enter Tryz.func107,Tryz.ntmps107;go_wp2_with (first|(go_at_call 130;go_must (refine(bG _ _).mono ?_;rintro e w' ⟨rfl,rfl⟩))|(go_at_call 129;have d:=m1;clear m1;go_must (refine(dR a c _).mono ?_;rintro e w' ⟨rfl,rfl⟩))|(go_at_call 129;go_must (refine(dR b hb _).mono ?_;rintro e w' ⟨rfl,rfl⟩)))
 all_goals go_ret
 all_goals refine⟨zh ?_,rfl⟩
 all_goals exact rfl
theorem adC (x:Int)(h:x<0):(x-1).tdiv 2=x/2:=by
 rw[Int.tdiv_eq_ediv]
 split
 ·omega
 ·have:Int.sign 2=1:=rfl;omega
theorem ai (x:Int)(h:0<=x):x.tdiv 2=x/2:=Int.tdiv_eq_ediv_of_nonneg h
theorem aS (x:Int)(k:Nat):x/2^(k+1)=(x/2^k)/2:=by
 rw[Int.pow_succ,Int.ediv_ediv_of_nonneg (Int.pow_nonneg Zd)]
theorem dU {x:Int}(h:-32768<=x/\x<32768):∀k:Nat,-32768<=x/2^k/\x/2^k<32768
 |0=>by simpa using h
 |k+1=>by have:=dU h k;rw[aS];omega
theorem aX (a b:Nat)(m:a<65536)(hb:b<65536)(w:World):A 107 #[I 14,U a,U b] w fun e w'=>e=.returned (U (yW 14 a b:Nat))/\w=w':=by
 have o:=and15 b hb;have hr:=aac a m;have t:=Ja hr;have hm:b%16<16:=Qj _ Zd;obtain⟨n,c⟩:∃n,b%16=n:=⟨_,rfl⟩
 rw[c] at o hm;have h:=Ja c;clear hr c;generalize q:w=W0;clear q;go_enter Tryz.func107,Tryz.ntmps107;go_wp2_with (first|(go_at_call 129;go_must (refine(dR a m _).mono ?_;rintro e w' ⟨rfl,rfl⟩)))
 have h0:s16 a=s16 a/2^0:=by simp
 have u:=Ja h0;clear h0
 go_loopw [7,8] (fun xv kv wx=>∃(k:Nat) (x:Int),k<=n/\xv=I x/\kv=I k/\W0=wx/\Hid (x=s16 a/2^k)) (fun _ kv _=>n-(intOf kv).toNat)
 case atStart=>exact⟨0,s16 a,Jt _,rfl,rfl,rfl,u⟩
 case round=>
  obtain⟨k,x,hk,rfl,rfl,rfl,i⟩:=hrel;have l:-32768<=x/\x<32768:=by rw[i.out];exact dU t.out k
  obtain⟨a0,y⟩:=l
  by_cases d:k<n
  ·have j:(k:Int)<n:=Zo;have g:=Ja d
   by_cases c:x<0
   ·have t1:decide (x<0)=true:=decide_eq_true c;have h:=Ja c;clear d c;go_wp2;go_roundw
    case rel=>
     refine⟨k+1,x/2,g.out,?_,by go_num,by trivial,Ja (by rw[aS,<-i.out])⟩;have e:=adC x h.out
     first|(rw[e];congr 1;omega)|(rw[show x-1=x-1 from rfl,e])|(congr 1<;>simp[e])
    case measure=>have:=g.out;simp[intOf];omega
   ·have t1:decide (x<0)=false:=decide_eq_false c;have h:=Ja (show 0<=x by omega);clear d c;go_wp2;go_roundw
    case rel=>
     refine⟨k+1,x/2,g.out,?_,by go_num,by trivial,Ja (by rw[aS,<-i.out])⟩;have e:=ai x h.out
     first|(rw[e];congr 1;omega)|(congr 1<;>simp[e])
    case measure=>have:=g.out;simp[intOf];omega
  ·obtain rfl:k=n:=by omega
   have j:¬(k:Int)<k:=Zo;clear d;go_wp2;go_ret;refine⟨zh ?_,rfl⟩;rw[i.out,xY]
   show _=((((s16 a/2^(b%16))%65536).toNat:Nat):Int)
   rw[h.out];omega
theorem ag4 (c:Int)(g:5<=c/\c<=17)(a b:Nat)(d:a<65536)(hb:b<65536)(h0:c=8->b≠0)(w:World):A 107 #[I c,U a,U b] w fun e w'=>e=.returned (U (yW c a b:Nat))/\w=w':=by
 have h:c=5∨c=6∨c=7∨c=8∨c=9∨c=10∨c=11∨c=12∨c=13∨c=14∨c=15∨c=16∨c=17:=Zo;rcases h with rfl|rfl|rfl|rfl|rfl|rfl|rfl|rfl|rfl|rfl|rfl|rfl|rfl
 ·exact rarith_5 a b d hb w
 ·exact rarith_6 a b d hb w
 ·exact rarith_7 a b d hb w
 ·exact rarith_8 a b d hb (h0 rfl) w
 ·exact rarith_9 a b d hb w
 ·exact au a b d hb w
 ·exact aaq a b d hb w
 ·exact ae a b d hb w
 ·exact aae a b d hb w
 ·exact aX a b d hb w
 ·exact aan a b d hb w
 ·exact aV a b d hb w
 ·exact aT a b d hb w
theorem jP{s:List Int}{sv:Value}(hs:zY w w.heap.size sv s):
 A 31 #[sv] w (fun e w'=>∃V:PV,e=.returned (yH V (uR s))/\(∀W,StaysL w.heap.size w' W->ProgIn W W.heap.size V (uR s))/\O w w'):=by
 obtain⟨sa,sc,h9,_,_⟩:=hs.form;subst h9;have HS:=Ja hs;have f3:=mk_bank;obtain⟨Z,hZ⟩:∃Z,madeCells #[Value.int .u8 0] 4096=Z:=⟨_,rfl⟩
 rw[hZ] at f3;have HZ:=Ja hZ;clear hs hZ;go_enter Tryz.func31,Tryz.ntmps31;go_upto_region 2 with fail;generalize c0:(w.alloc (G #[F,F,I 0,I 0,F,F] 29)).alloc (G Z 5)=W0;have e7:Z=((uQ 0).map wz).toArray:=by rw[<-HZ.out,yA,mM,List.map_replicate];rfl
 have f0:L W0 w.heap.size #[F,F,I 0,I 0,F,F] 29:=by rw[<-c0];exact zB (zI rfl)
 have f6:L W0 (w.heap.size+1) ((uQ 0).map wz).toArray 5:=by rw[<-c0,<-e7];exact zI Zs
 have d4:O w W0:=by rw[<-c0];exact((Below.refl _ _).alloc (Je _) _).alloc Zs _
 have H0:=Ja (Jb f6 (Jb f0 d4));obtain⟨rr,c8⟩:∃rr,w.heap.size=rr:=⟨_,rfl⟩
 rw[c8] at H0 ⊢;obtain⟨bb,d5⟩:∃bb,rr+1=bb:=⟨_,rfl⟩
 rw[d5] at H0 ⊢;have e4:=Ja (Jb c8 d5);clear e7 f0 f6 d4 c0 f3 c8 d5 HZ;go_wp2
 go_loopw [4] (fun kv wx=>∃k:Nat,k<=4096/\kv=I k/\Hid (L wx bb ((uQ k).map wz).toArray 5/\L wx rr #[F,F,I 0,I 0,F,F] 29/\Below rr w wx)) (fun kv _=>4096-(intOf kv).toNat)
 case atStart=>exact⟨0,Jt _,rfl,H0⟩
 case round=>
  obtain⟨k,hk,rfl,l⟩:=hrel
  by_cases a2:k<4096
  ·have a5:(k:Int)<4096:=Zo;have e3:=Ja a2;obtain⟨x,hx⟩:∃x,(uQ k)[k]? =some x:=⟨_,Jd (by rw[pM];exact a2)⟩
   have cx:T wr bb k (.int .u8 (x:Int)):=zA l.out.1 (by simp[hx,wz]);have fx:N wr bb k:=zE l.out.1;have k9:=lt_of_block l.out.1;have hq:k*k<=4095*4095:=Nat.mul_le_mul Zo Zo;have k6:(0:Int)<=(k:Int)*(k:Int):=by rw[<-Int.natCast_mul];exact Int.natCast_nonneg _
   have k5:(k:Int)*(k:Int)<=16769025:=by rw[<-Int.natCast_mul];omega
   clear a2 hx hq;go_wp2;have e1:((k:Int)*(k:Int)+(k:Int)/256)%256=((rp k:Nat):Int):=by unfold rp;simp
   rw[e1];refine⟨⟨k+1,e3.out,by go_num,Ja ⟨?_,zR (a:=⟨bb,k,none⟩) l.out.2.1 (by have:=e4.out.2;show rr≠bb;omega),l.out.2.2.setCell (by have:=e4.out.2;show rr<=bb;omega) _⟩⟩,by have:=e3.out;simp[intOf];omega⟩;rw[zD l.out.1,<-kC e3.out];simp[Ox,wz]
  ·obtain rfl:k=4096:=by omega
   have a5:¬(((4096:Nat):Int)<4096):=Zo;have b5:=l.out.1;rw[nu] at b5;have d3:=pN b5 (n:=4096) (by unfold iu;simp);rw[mq] at d3;have hrl:=lt_of_block l.out.2.1;clear a2 b5 hk;obtain⟨bank,a8⟩:∃b,sG=b:=⟨_,rfl⟩
   rw[a8] at d3;have k2:=Ja a8;clear a8;go_upto_region 9 with fail;have t:=md_setup (sv:=.slice sa s.length sc) e4.out.1 l.out.2.1 l.out.2.2;rw[k2.out] at t;generalize (((wr.alloc (G #[.string bank] 9)).alloc (G #[F,F,I 0,I (-1),Y (wr.heap.size+1+1) 3 3,Y wr.heap.size 1 1] 29)).alloc (G #[I (-1),U 16384,U 16,I (-1),U 16640,U 7,I 0,U 128,U 32] 89)).alloc (G #[.slice sa s.length sc,I 0,Q (wr.heap.size+1),I 0,F,I 0,I 0,F,I 0] 128)=W1 at *;generalize wr.heap.size+1+1+1=pm at *;generalize wr.heap.size+1+1=db at *;generalize wr.heap.size+1=pp at *;generalize wr.heap.size=sb at *;have H1:=Ja t;have c7:=t.bel.size
   have a1:A 55 #[Q pm,I 4] W1 (fun e w'=>∃z:Nat,z<4/\Hid (mdN s=1+z)/\e=.returned (I z)/\Hid (MdHd w (.slice sa s.length sc) (F) rr sb pp db pm (-1) (F) [] 1 w')):=
    (tf t.mkr rfl rfl (HS.out.below zO t.bel) (n:=4) Zd Zd Zd).mono (fun e w' ⟨h1,h2,h3⟩=>⟨_,rX s 0 Zd,Ja rfl,h1,Ja (t.tick h2 h3)⟩)
   have a7:=Ja a1;clear t d3 a5 hrl a1;go_upto_region 10 with(go_at_call 55;go_must (refine a7.out.mono ?_;rintro e W2 ⟨z,e8,HN,rfl,g0⟩))
   obtain⟨n,hn⟩:∃n,1+z=n:=⟨_,rfl⟩
   have f2:1+(z:Int)=(n:Int):=Zo;rw[f2];have b9:mdN s=n:=HN.out.trans hn;have i0:1<=n/\n<=4:=Zo;have HN:=Ja b9;clear b9 f2 hn e8 a7 H1 c7;go_wp2
   go_loopw [8] (fun kv wx=>∃(k:Nat) (av:Value),k<=n/\kv=I k/\Hid (MdHd w (.slice sa s.length sc) av rr sb pp db pm (-1) (F) (yS s k) (sw k) wx)) (fun kv _=>n-(intOf kv).toNat)
   case atStart=>exact⟨0,_,Jt _,rfl,g0⟩
   case round=>
    obtain⟨k,av,hk,rfl,l⟩:=hrel
    by_cases a2:k<n
    ·have a5:(k:Int)<(n:Int):=Zo;obtain⟨ij,f5,c5,c4,c3⟩:=info_parts Tryz.info_int
     by_cases b1:k=0
     ·have i2:¬(0:Int)<(k:Int):=Zo;have c2:=Ja b1;clear b1;obtain⟨aa,ac,b2⟩:=zG l.out.own;have y:=l.out.own;rw[yY] at b2 y;subst b2;have c7:=l.out.bel.size;have c1:=zA (i:=1) l.out.prog rfl;have f1:=lt_of_block l.out.prog;have HO:=Ja y;clear y;go_wp2_with (at_builtin;go_must (refine zK _ rfl (.tmp 61) (.tmp 63) 22 rfl w.heap.size 3 ij (I 0) 1 8 Tryz.underlying22 f5 c5 c4 c3 rfl Zd (.slice aa k ac) k ((yS s k).map zN) rfl (HO.out.alloc _) _ 1 [zN 0] rfl (yM.one (zI rfl) rfl) (by unfold maxLen;omega) Zo Zt ?_;intro v9 w9 q d b6;obtain⟨b0,a9,rfl⟩:=zG q;have a0:=zL d (zB l.out.prog) (zC HO.out l.out.prog (.inr Zd));have g8:=zA (i:=1) a0 rfl;have g6:N w9 pp 1:=zE a0;have g3:=lt_of_block a0;have HG:=Ja (Jb q d);clear q d b6 a0))
      go_roundw
      case rel=>
       have hq:=l.out.push (x:=0) (av':=.slice b0 (k+1) a9) HG.out.2 (by rw[yY];exact HG.out.1);refine⟨k+1,.slice b0 (k+1) a9,a2,by go_num,Ja ?_⟩;have e1:yS s (k+1)=yS s k++ [0]:=by rw[qC,if_pos c2.out]
       have e2:sw (k+1)=sw k:=by have:=c2.out;subst this;rfl
       rw[e1,e2];exact hq
      case measure=>simp[intOf];omega
     ·have i2:(0:Int)<(k:Int):=Zo;have c2:=Ja b1
      have a1:A 55 #[Q pm,I 4] wr (fun e w'=>∃z:Nat,z<4/\Hid (tk0 s k 4=z)/\e=.returned (I z)/\Hid (MdHd w (.slice sa s.length sc) av rr sb pp db pm (-1) (F) (yS s k) (k+1) w')):=by
       have e:sw k=k:=by unfold sw;rw[if_neg b1]
       have hm:=l.out;rw[e] at hm;exact(tf hm.mkr rfl rfl (HS.out.below zO hm.bel) (n:=4) Zd Zd Zo).mono (fun e w' ⟨h1,h2,h3⟩=>⟨_,rX s k Zd,Ja rfl,h1,Ja (hm.tick h2 h3)⟩)
      have a7:=Ja a1;clear b1 a1;go_upto_region 16 with(go_at_call 55;go_must (refine a7.out.mono ?_;rintro e W3 ⟨z,e8,k0,rfl,a3⟩))
      obtain⟨aa,ac,b2⟩:=zG a3.out.own;have y:=a3.out.own;rw[yY] at b2 y;subst b2;have c7:=a3.out.bel.size;have c1:=zA (i:=1) a3.out.prog rfl;have f1:=lt_of_block a3.out.prog;have HO:=Ja y;clear y;go_wp2_with (at_builtin;go_must (refine zK _ rfl (.tmp 61) (.tmp 63) 22 rfl w.heap.size 3 ij (I 0) 1 8 Tryz.underlying22 f5 c5 c4 c3 rfl Zd (.slice aa k ac) k ((yS s k).map zN) rfl (HO.out.alloc _) _ 1 [zN (z:Int)] rfl (yM.one (zI rfl) rfl) (by unfold maxLen;omega) Zo Zt ?_;intro v9 w9 q d b6;obtain⟨b0,a9,rfl⟩:=zG q;have a0:=zL d (zB a3.out.prog) (zC HO.out a3.out.prog (.inr Zd));have g8:=zA (i:=1) a0 rfl;have g6:N w9 pp 1:=zE a0;have g3:=lt_of_block a0;have HG:=Ja (Jb q d);clear q d b6 a0))
      go_roundw
      case rel=>
       have hq:=a3.out.push (x:=(z:Int)) (av':=.slice b0 (k+1) a9) HG.out.2 (by rw[yY];exact HG.out.1);refine⟨k+1,.slice b0 (k+1) a9,a2,by go_num,Ja ?_⟩;have e1:yS s (k+1)=yS s k++ [(z:Int)]:=by rw[qC,if_neg c2.out,k0.out]
       have e2:sw (k+1)=k+1:=rfl;rw[e1,e2];exact hq
      case measure=>simp[intOf];omega
    ·obtain rfl:n=k:=by omega
     have a5:¬(n:Int)<(n:Int):=Zo;have e:sw n=n:=by unfold sw;rw[if_neg Zo]
     have f4:=mk_funcs n i0.2;have a6:=l.out;rw[e] at a6;have p0:=zA (i:=0) a6.prog rfl;have h5:N wr pp 0:=zE a6.prog;have f1:=lt_of_block a6.prog;have c:=Ja (Jb (a6.funcs (G (List.replicate n (Value.slice none 0 0)).toArray 39) (Y wr.heap.size n n)) (zI (W:=wr.setCell ⟨pp,0,none⟩ (Y wr.heap.size n n)) (o:=G (List.replicate n (Value.slice none 0 0)).toArray 39) (B:=wr.heap.size) Zs));have i9:=a6.bel.size;have d6:(List.replicate n (Value.slice none 0 0)).toArray=Array.replicate n (Value.slice none 0 0):=by simp
     rw[d6] at c f4;clear d6;clear a2 e a6 l g0;go_upto_region 18 with fail;generalize j1:(wr.setCell ⟨pp,0,none⟩ (Y wr.heap.size n n)).alloc (G (Array.replicate n (Value.slice none 0 0)) 39)=W3 at *;generalize l2:wr.heap.size=fb at *;clear p0 h5 f4 a5 j1;obtain⟨m,hm⟩:∃m,n=m+1:=⟨n-1,by omega⟩
     have k7:(n:Int)-1=(m:Int):=Zo;have i1:m<n:=Zo;have d2:n-1=m:=Zo;have e0:=Ja (Jb hm d2);clear hm d2;obtain⟨x,hx⟩:∃x,(yS s n)[m]? =some x:=⟨_,Jd (by rw[yY];exact i1)⟩
     obtain⟨g,ac,e,l1,l0⟩:=c.out.1.own.form (by rw[yY];omega);rw[yY] at e;subst e;have c1:=zA (i:=1) c.out.1.prog rfl;have g2:=lt_of_block c.out.1.prog
     have h7:T W3 g m (I x):=by
      have h0:=c.out.1.own;rw[yY] at h0;have h1:=h0.cellAt m Zo;exact h1.trans (by rw[Jr,hx];rfl)
     have j:oJ s=(decide (1<n) && decide (x=0)):=by
      unfold oJ;rw[HN.out,e0.out.2,Jj,hx];rfl
     have g1:pm<W3.heap.size:=lt_of_block c.out.1.mkr;have g4:fb<W3.heap.size:=lt_of_block c.out.2
     have d0:fb≠pm:=fun e=>by
      have h1:=c.out.1.mkr;have h2:=c.out.2;rw[e,h1] at h2
      injection h2 with h3
      injection h3 with _ h4
      exact absurd h4 Zd
     have a1:A 55 #[Q pm,I 2] W3 (fun e w'=>∃z:Nat,z<2/\Hid (tk0 s n 2=z)/\e=.returned (I z)/\Hid (MdHd w (.slice sa s.length sc) (Y g n ac) rr sb pp db pm (-1) (Y fb n n) (yS s n) (n+1) w'/\L w' fb (Array.replicate n (Value.slice none 0 0)) 39)):=
      (tf c.out.1.mkr rfl rfl (HS.out.below zO c.out.1.bel) (n:=2) Zd Zd Zo).mono (fun e w' ⟨h1,h2,h3⟩=>⟨_,rX s n Zd,Ja rfl,h1,Ja ⟨c.out.1.tick h2 h3,h3.blk c.out.2 d0⟩⟩)
     have a7:=Ja a1;have e5:=Ja (Jb j hx);have l3:=Ja d0;clear j hx a1 d0;have d1:1<n->decide ((1:Int)<(n:Int))=true/\decide (1<n)=true:=fun h=>⟨by rw[decide_eq_true_iff];omega,by rw[decide_eq_true_iff];exact h⟩
     have g5:=Ja d1;clear d1
     go_cut [89] (fun v wx=>∃b:Bool,v=.bool b/\Hid ((b=true↔oJ s=true/\tk0 s n 2=0)/\MdHd w (.slice sa s.length sc) (Y g n ac) rr sb pp db pm (-1) (Y fb n n) (yS s n) (sP s) wx/\L wx fb (Array.replicate n (Value.slice none 0 0)) 39))
     case first=>
      by_cases h1:1<n
      ·have f8:(1:Int)<(n:Int):=Zo;obtain⟨j2,f7⟩:=g5.out h1
       by_cases a4:x=0
       ·have h8:(x==0)=true:=by rw[beq_iff_eq];exact a4
        have j:oJ s=true:=by rw[e5.out.1];simp[h1,a4]
        have e6:=Ja j;have f9:=Ja a4;clear j a4;have c9:sP s=n+1:=by unfold sP;rw[e6.out,HN.out];rfl
        have d7:=Ja c9;clear c9
        by_cases b8:tk0 s n 2=0
        ·have b3:=Ja b8;clear b8;go_wp2_with (go_at_call 55;go_must (refine a7.out.mono ?_;rintro e w4 ⟨z,h6,HZ,rfl,b4⟩;obtain rfl:z=0:=HZ.out.symm.trans b3.out))
         go_meet;refine⟨true,rfl,Ja ⟨⟨(fun _=>⟨e6.out,b3.out⟩),(fun _=>rfl)⟩,?_,b4.out.2⟩⟩;rw[d7.out];exact b4.out.1
        ·have b3:=Ja b8;clear b8;go_wp2_with (go_at_call 55;go_must (refine a7.out.mono ?_;rintro e w4 ⟨z,h6,HZ,rfl,b4⟩;have tz:((z:Int)==0)=false:=by rw[beq_eq_false_iff_ne];have:=HZ.out;have:=b3.out;omega))
         go_meet;refine⟨false,rfl,Ja ⟨⟨(fun e=>by cases e),(fun e=>absurd e.2 b3.out)⟩,?_,b4.out.2⟩⟩;rw[d7.out];exact b4.out.1
       ·have h8:(x==0)=false:=by rw[beq_eq_false_iff_ne];exact a4
        have f9:=Ja a4;clear a4;go_wp2;go_meet;have j:oJ s=false:=by rw[e5.out.1];simp[f9.out]
        refine⟨false,rfl,Ja ⟨⟨(fun e=>by cases e),(fun e=>by rw[j] at e;cases e.1)⟩,?_,c.out.2⟩⟩;have e:sP s=n:=by unfold sP;rw[j,HN.out];rfl
        rw[e];exact c.out.1
      ·have f8:¬(1:Int)<(n:Int):=Zo;have f7:decide (1<n)=false:=by rw[decide_eq_false_iff_not];exact h1
       have j2:decide ((1:Int)<(n:Int))=false:=by rw[decide_eq_false_iff_not];exact f8
       go_wp2;go_meet;have j:oJ s=false:=by rw[e5.out.1,f7];rfl
       refine⟨false,rfl,Ja ⟨⟨(fun e=>by cases e),(fun e=>by rw[j] at e;cases e.1)⟩,?_,c.out.2⟩⟩;have e:sP s=n:=by unfold sP;rw[j,HN.out];rfl
       rw[e];exact c.out.1
     case rest=>
     obtain⟨b,rfl,HB⟩:=hcut;have b7:=Ja HB;clear c1 g2 h7 g1 g4;have p3:=zA (i:=3) HB.out.2.1.prog rfl;have k4:N wc pp 3:=zE HB.out.2.1.prog;have k3:=lt_of_block HB.out.2.1.prog
     have k1:=Ja (Jb (HB.out.2.1.hnd (m:Int)) (zR (a:=⟨pp,3,none⟩) (u:=I m) HB.out.2.2 (fun e=>by
      have h1:=HB.out.2.1.prog;have h2:=HB.out.2.2;rw[e] at h2;rw[show(⟨pp,3,none⟩:Addr).block=pp from rfl,h1] at h2
      injection h2 with h3
      injection h3 with _ h4
      exact absurd h4 Zd)))
     go_upto_if 89 with fail
     go_cut [] (fun wx=>Hid (MdHd w (.slice sa s.length sc) (Y g n ac) rr sb pp db pm (vw s) (Y fb n n) (yS s n) (sP s) wx/\L wx fb (Array.replicate n (Value.slice none 0 0)) 39))
     case first=>
      cases b
      ·go_wp2;go_meet;have e:vw s=-1:=by unfold vw;rw[if_neg (fun e=>by rw[HN.out] at e;have:=b7.out.out.1.2 e;cases this)]
       rw[e];exact Ja b7.out.out.2
      ·go_wp2;go_meet;have e:vw s=(m:Int):=by unfold vw;rw[HN.out,if_pos (b7.out.out.1.1 (by trivial)),e0.out.2]
       rw[e];exact k1
     case rest=>
     refine ‹∀(a:Act) (w:World),Code.wp Tryz.prog _ _ a w->_› _ _ ?_;have b9:=HN.out;subst b9;exact j9 HS hcut i9 e0.out.2 _ _ _ _ _ _ _ _ _ _ _ _ _ _ _ _ _ _ _ _ _ _ _ _ _ _ _ _ _ _ _ _ _ _ _ _ _ _ _ _ _ _ _ _ _ _ _ _ _ _ _ _ _ _ _ _ _ _ _ _ _ _ _ _ _ _ _ _ _ _ _ _ _ _ _ _ _ _ _ _ _ _ _ _ _ _ _ _ _ _ _ _ _ _ _ _ _ _ _ _ _ _ _ _ _ _ _ _ _ _ _ _ _ _ _ _ _ _ _ _ _ _ _ _ _ _ _ _ _ _ _ _ _ _ _ _ _ _ _ _ _ _ _ _ _ _ _ _ _ _ _ _ _ _ _ _ _ _ _ _ _ _ _ _ _ _ _ _ _ _ _ _ _ _ _ _ _ _ _ _ _ _ _ _ _ _ _ _ _ _ _ _ _ _ _ _
theorem gj (n m:Nat):∃k:Nat,(k:Int)=(if(m:Int)<(n:Int) then(m:Int) else(n:Int))/\k=min m n:=⟨min m n,by split<;>omega,rfl⟩
theorem lw{α:Type}{sz:Nat}{R:World->Nat->Nat->Nat->α->Prop}{B:Nat}{a:Option Addr}{c:Nat}{xs:List α}(h:yN sz R w B (.slice a xs.length c) xs)(m:Nat):yN sz R w B (.slice a (min m xs.length) c) (xs.take m):=by
 obtain⟨a',d,e,h1,h2,h3⟩:=h;cases e;exact⟨a,c,by rw[Oc],by rw[Oc];omega,h2,fun k x hk=>h3 k x (by rw[Ug] at hk;split at hk;exact hk;cases hk)⟩
def oC (w:World)(p:IProg)(e:Ending)(w':World):Prop:=∃(fa:Option Addr) (fc:Nat) (aa:Option Addr) (ac:Nat) (da:Option Addr) (dc:Nat) (ba:Option Addr) (bc:Nat),e=.returned (.agg (R p fa fc aa ac da dc ba bc))/\
 ProgIn w' w'.heap.size ⟨.slice fa p.funcs.length fc,.slice aa p.args.length ac,.slice da p.data.length dc,.slice ba p.banks.length bc⟩ p/\O w w'
theorem nE{w0:World}{V:PV}{p:IProg}(h:ProgIn w w.heap.size V p)(hb:O w0 w):oC w0 p (.returned (yH V p)) w:=by
 obtain⟨fa,fc,h1,_,_⟩:=h.funcs.form;obtain⟨aa,ac,h2,_,_⟩:=h.args.form;obtain⟨da,dc,h3,_,_⟩:=h.data.form;obtain⟨ba,bc,c,_,_⟩:=h.banks.form;obtain⟨v1,v2,v3,v4⟩:=V;simp only at h1 h2 h3 c;subst h1 h2 h3 c;exact⟨fa,fc,aa,ac,da,dc,ba,bc,rfl,h,hb⟩
theorem qu (w:World)(r o:Nat)(vs:List Value):Below r w (w.setCells r o vs):=
 ⟨(ze r vs o w).1,(ze r vs o w).2.1,(ze r vs o w).2.2,Ul (y8 r vs o w).symm,fun k hk=>ye r k Zo vs o w⟩
theorem pJ{r o L:Nat}{vs:List Value}(h:r<L):StaysL L w (w.setCells r o vs):=
 ⟨Ul (y8 r vs o w).symm,⟨(ze r vs o w).1,(ze r vs o w).2.1,(ze r vs o w).2.2⟩,fun k hk _=>ye r k Zo vs o w⟩
theorem ag8 (c:Int)(d:c=3∨c=4)(a b:Nat)(g:a<65536)(hb:b<65536)(w:World):A 107 #[I c,U a,U b] w fun e w'=>e=.returned (U (yW c a b:Nat))/\w=w':=by
 have m1:True:=trivial;rcases d with rfl|rfl<;>
 (go_enter Tryz.func107,Tryz.ntmps107
  go_wp2_with (first|(go_at_call 130;go_must (refine(bG _ _).mono ?_;rintro e w' ⟨rfl,rfl⟩))|(go_at_call 129;have h:=m1;clear m1;go_must (refine(dR a g _).mono ?_;rintro e w' ⟨rfl,rfl⟩))|(go_at_call 129;go_must (refine(dR b hb _).mono ?_;rintro e w' ⟨rfl,rfl⟩)))
  all_goals go_ret
  all_goals refine⟨zh ?_,rfl⟩
  all_goals exact rfl)
theorem afU (w:World){c:Int}(hc:3<=c/\c<=27){a b:Rg}(ha:a.ok)(hb:b.ok):A 54 #[I c,.agg #[U (a.lo:Int),U (a.hi:Int)],.agg #[U (b.lo:Int),U (b.hi:Int)]] w (re w (ac1 c a b)):=by
 have c5:=ha.1;have c4:=ha.2;have g:=hb.1;have b9:=hb.2;obtain⟨u,hu⟩:∃u,decide (c=3∨c=4)=u:=⟨_,rfl⟩
 obtain⟨s,hs⟩:∃s,decide (c<=17/\yf a=true/\((c=3∨c=4)∨yf b=true))=s:=⟨_,rfl⟩
 obtain⟨⟨x,y⟩,hR⟩:∃r,ac1 c a b=r:=⟨_,rfl⟩
 rw[hR];have HR:=Ja hR;have HA:=Ja (Jb ha hb);clear hR ha hb;go_enter Tryz.func54,Tryz.ntmps54;go_upto_region 1 with fail;obtain⟨X,hX⟩:∃X,((w.alloc (G #[U (a.lo:Int),U (a.hi:Int)] 45)).alloc (G #[U (b.lo:Int),U (b.hi:Int)] 45)).alloc (G #[U 0,U 0] 45)=X:=⟨_,rfl⟩;have o:=Ja (RgX.new w a b);rw[hX] at o ⊢;clear hX;obtain⟨c0,c1,c2,c3⟩:=o.out.c;have cl:=o.out.f.2.2;have HS:=Ja (Jb hu hs)
 go_cut [7] (fun v wx=>v=.bool u/\wx=X)
 case first=>
  by_cases h3:c=3
  ·subst h3;obtain rfl:u=true:=by rw[<-hu];rfl
   clear hu hs;go_wp2;go_meet;exact⟨rfl,rfl⟩
  ·by_cases h4:c=4
   ·subst h4;obtain rfl:u=true:=by rw[<-hu];rfl
    clear hu hs;go_wp2;go_meet;exact⟨rfl,rfl⟩
   ·obtain rfl:u=false:=by rw[<-hu];exact decide_eq_false Zo
    have e3:(c==3)=false:=by rw[beq_eq_false_iff_ne];exact h3
    have e4:(c==4)=false:=by rw[beq_eq_false_iff_ne];exact h4
    clear hu hs h3 h4;go_wp2;go_meet;exact⟨rfl,rfl⟩
 case rest=>
  obtain⟨rfl,a8⟩:=hcut;have a7:=a8.symm;subst a7;clear hu hs;go_upto_region 2 with fail
  go_cut [34] (fun v wx=>v=.bool s/\wx=X)
  case first=>
   obtain⟨hu,hs⟩:=HS.out;clear HR HA HS
   by_cases h1:c<=17
   ·have d1:decide (c<=17)=true:=decide_eq_true h1
    by_cases h2:a.lo=a.hi
    ·have d2:((a.lo:Int)==(a.hi:Int))=true:=by rw[beq_iff_eq];omega
     by_cases a4:c=3∨c=4
     ·obtain rfl:u=true:=by rw[<-hu];exact decide_eq_true a4
      obtain rfl:s=true:=by rw[<-hs];exact decide_eq_true ⟨h1,decide_eq_true h2,.inl a4⟩
      clear hu hs a4 h1 h2;go_wp2;go_meet;exact⟨rfl,rfl⟩
     ·obtain rfl:u=false:=by rw[<-hu];exact decide_eq_false a4
      obtain⟨q,hq⟩:∃q,yf b=q:=⟨_,rfl⟩
      have d3:((b.lo:Int)==(b.hi:Int))=q:=by rw[<-hq];unfold yf;rw[Bool.eq_iff_iff,beq_iff_eq,decide_eq_true_eq];omega
      obtain rfl:s=q:=by
       rw[<-hs,<-hq,Bool.eq_iff_iff,decide_eq_true_eq];exact⟨fun h=>h.2.2.resolve_left a4,fun h=>⟨h1,decide_eq_true h2,.inr h⟩⟩
      clear hu hs a4 h1 h2 hq;go_wp2;go_meet;exact⟨rfl,rfl⟩
    ·have d2:((a.lo:Int)==(a.hi:Int))=false:=Ze;obtain rfl:s=false:=by rw[<-hs];exact decide_eq_false fun h=>h2 (of_decide_eq_true h.2.1)
     clear hu hs h1 h2;go_wp2;go_meet;exact⟨rfl,rfl⟩
   ·have d1:decide (c<=17)=false:=decide_eq_false h1;obtain rfl:s=false:=by rw[<-hs];exact decide_eq_false fun h=>h1 h.1
    clear hu hs h1;go_wp2;go_meet;exact⟨rfl,rfl⟩
  case rest=>
   obtain⟨rfl,a8⟩:=hcut;have a7:=a8.symm;subst a7;cases s
   ·have hn:=of_decide_eq_false HS.out.2;have i:=HR.out;unfold ac1 at i;rw[if_neg hn] at i;have a9:=Ja i;clear hn i HR HS;obtain⟨M,hM⟩:∃M,q8 (max a.hi b.hi)=M:=⟨_,rfl⟩
    have c7:M<65536:=by rw[<-hM];exact afo Zo
    have HM:=Ja hM;rw[hM] at a9;clear hM;go_wp2
    go_loopw [9] (fun mv wx=>∃m:Nat,mv=I m/\wx=X/\Hid ((∃k,m+1=2^k)/\m<=M)) (fun mv _=>M+1-(intOf mv).toNat)
    case atStart=>exact⟨0,rfl,rfl,Ja ⟨⟨0,rfl⟩,Jt _⟩⟩
    case round=>
     obtain⟨m,rfl,b4,HI⟩:=hrel;have b3:=b4.symm;subst b3
     have a0:m<a.hi∨m<b.hi->Hid ((∃k,(2*m+1)+1=2^k)/\2*m+1<=M):=fun h=>by
      obtain⟨k,hk⟩:=HI.out.1;obtain⟨K,k1,k2,_⟩:=el (max a.hi b.hi);rw[HM.out] at k1;refine Ja ⟨⟨k+1,by rw[Nat.pow_succ];omega⟩,?_⟩
      have b6:k<K:=by
       rcases Nat.lt_or_ge k K with h2|h2
       ·exact h2
       ·have:=Nat.pow_le_pow_right (n:=2) Zd h2;omega
      have h3:=Nat.pow_le_pow_right (n:=2) Zd (show k+1<=K from b6);rw[Nat.pow_succ] at h3;omega
     have b8:=HI.out.2;have w1:IntKind.i64.wrap (2*(m:Int))=2*(m:Int):=Om _ Zo;have w2:IntKind.i64.wrap (2*(m:Int)+1)=2*(m:Int)+1:=Om _ Zo
     by_cases g1:m<a.hi
     ·have d1:decide ((m:Int)<(a.hi:Int))=true:=decide_eq_true Zo;have b2:decide (m<a.hi)=true:=decide_eq_true g1;have H2:=a0 (.inl g1);clear g1 a0;go_wp2;go_roundw
      case rel=>exact⟨2*m+1,by go_num,trivial,H2⟩
      case measure=>have:=H2.out.2;simp[intOf];omega
     ·have d1:decide ((m:Int)<(a.hi:Int))=false:=decide_eq_false Zo;have b2:decide (m<a.hi)=false:=decide_eq_false g1
      by_cases g2:m<b.hi
      ·have d2:decide ((m:Int)<(b.hi:Int))=true:=decide_eq_true Zo;have b1:decide (m<b.hi)=true:=decide_eq_true g2;have H2:=a0 (.inr g2);clear g1 g2 a0;go_wp2;go_roundw
       case rel=>exact⟨2*m+1,by go_num,trivial,H2⟩
       case measure=>have:=H2.out.2;simp[intOf];omega
      ·have d2:decide ((m:Int)<(b.hi:Int))=false:=decide_eq_false Zo;have b1:decide (m<b.hi)=false:=decide_eq_false g2
       obtain rfl:m=M:=by
        obtain⟨k,hk⟩:=HI.out.1;have:=agh (max a.hi b.hi) m k hk Zo;rw[HM.out] at this;omega
       have i:=a9.out;clear g1 g2 a0 HI HM a9 w1 w2;have b7:c=3∨c=4∨c=5∨c=6∨c=7∨c=8∨c=9∨c=10∨c=11∨c=12∨c=13∨c=14∨c=15∨c=16∨c=17∨c=18∨c=19∨c=20∨c=21∨c=22∨c=23∨c=24∨c=25∨c=26∨c=27:=Zo;go_upto_region 14 with fail;clear hc d1 b2 d2 b1;rcases b7 with rfl|rfl|rfl|rfl|rfl|rfl|rfl|rfl|rfl|rfl|rfl|rfl|rfl|rfl|rfl|rfl|rfl|rfl|rfl|rfl|rfl|rfl|rfl|rfl|rfl
       ·by_cases h0:0<a.lo
        ·have j:vp (65536-a.hi) (65536-a.lo)=⟨x,y⟩:=(if_pos h0).symm.trans i
         injection j with q1 q2
         have d:decide ((0:Int)<(a.lo:Int))=true:=decide_eq_true Zo;have d':decide (0<a.lo)=true:=decide_eq_true h0;clear i;go_wp2_with (go_at_call 53;go_must (refine(xr _ (a:=x) (b:=y) Zo Zo).mono ?_;rintro e w1 ⟨rfl,g⟩;have l:=Ja (o.out.below g);clear g;obtain⟨⟨f0,f1⟩,⟨g0,g1⟩,fl⟩:=l.out.f))
         refine bodyPost_ret (v:=.agg #[U x,U y]) ?_ rfl ⟨rfl,by repeat' (first|exact l.out.bel|(refine Below.setCell ?_ (by first|(simp;done)|(simp;omega)) _))⟩;rw[zM rfl];go_simp
        ·have j:y7=⟨x,y⟩:=(if_neg h0).symm.trans i;have d:decide ((0:Int)<(a.lo:Int))=false:=decide_eq_false Zo;have d':decide (0<a.lo)=false:=decide_eq_false h0;clear i h0;go_wp2_with (go_at_call 50;go_must (refine(tt _ j).mono ?_;rintro e w1 ⟨rfl,g⟩;have l:=Ja (o.out.below g);clear g;obtain⟨⟨f0,f1⟩,⟨g0,g1⟩,fl⟩:=l.out.f))
         refine bodyPost_ret (v:=.agg #[U x,U y]) ?_ rfl ⟨rfl,by repeat' (first|exact l.out.bel|(refine Below.setCell ?_ (by first|(simp;done)|(simp;omega)) _))⟩;rw[zM rfl];go_simp
       ·have j:vp (65535-a.hi) (65535-a.lo)=⟨x,y⟩:=i
        injection j with q1 q2
        clear i;go_wp2_with (go_at_call 53;go_must (refine(xr _ (a:=x) (b:=y) Zo Zo).mono ?_;rintro e w1 ⟨rfl,g⟩;have l:=Ja (o.out.below g);clear g;obtain⟨⟨f0,f1⟩,⟨g0,g1⟩,fl⟩:=l.out.f))
        refine bodyPost_ret (v:=.agg #[U x,U y]) ?_ rfl ⟨rfl,by repeat' (first|exact l.out.bel|(refine Below.setCell ?_ (by first|(simp;done)|(simp;omega)) _))⟩;rw[zM rfl];go_simp
       ·have j:ag0 5 a b=⟨x,y⟩:=i;have a3:=Ja (fun W=>aeK W (c:=5) Zd HA.out.1 HA.out.2 j);clear i j;go_wp2_with (go_at_call 108;go_must (refine(a3.out _).mono ?_;rintro e w1 ⟨rfl,g⟩;have l:=Ja (o.out.below g);clear g;obtain⟨⟨f0,f1⟩,⟨g0,g1⟩,fl⟩:=l.out.f))
        refine bodyPost_ret (v:=.agg #[U x,U y]) ?_ rfl ⟨rfl,by repeat' (first|exact l.out.bel|(refine Below.setCell ?_ (by first|(simp;done)|(simp;omega)) _))⟩;rw[zM rfl];go_simp
       ·have j:ag0 6 a b=⟨x,y⟩:=i;have a3:=Ja (fun W=>aeK W (c:=6) Zd HA.out.1 HA.out.2 j);clear i j;go_wp2_with (go_at_call 108;go_must (refine(a3.out _).mono ?_;rintro e w1 ⟨rfl,g⟩;have l:=Ja (o.out.below g);clear g;obtain⟨⟨f0,f1⟩,⟨g0,g1⟩,fl⟩:=l.out.f))
        refine bodyPost_ret (v:=.agg #[U x,U y]) ?_ rfl ⟨rfl,by repeat' (first|exact l.out.bel|(refine Below.setCell ?_ (by first|(simp;done)|(simp;omega)) _))⟩;rw[zM rfl];go_simp
       ·have j:ag0 7 a b=⟨x,y⟩:=i;have a3:=Ja (fun W=>aeK W (c:=7) Zd HA.out.1 HA.out.2 j);clear i j;go_wp2_with (go_at_call 108;go_must (refine(a3.out _).mono ?_;rintro e w1 ⟨rfl,g⟩;have l:=Ja (o.out.below g);clear g;obtain⟨⟨f0,f1⟩,⟨g0,g1⟩,fl⟩:=l.out.f))
        refine bodyPost_ret (v:=.agg #[U x,U y]) ?_ rfl ⟨rfl,by repeat' (first|exact l.out.bel|(refine Below.setCell ?_ (by first|(simp;done)|(simp;omega)) _))⟩;rw[zM rfl];go_simp
       ·have j:ag0 8 a b=⟨x,y⟩:=i;have a3:=Ja (fun W=>aeK W (c:=8) Zd HA.out.1 HA.out.2 j);clear i j;go_wp2_with (go_at_call 108;go_must (refine(a3.out _).mono ?_;rintro e w1 ⟨rfl,g⟩;have l:=Ja (o.out.below g);clear g;obtain⟨⟨f0,f1⟩,⟨g0,g1⟩,fl⟩:=l.out.f))
        refine bodyPost_ret (v:=.agg #[U x,U y]) ?_ rfl ⟨rfl,by repeat' (first|exact l.out.bel|(refine Below.setCell ?_ (by first|(simp;done)|(simp;omega)) _))⟩;rw[zM rfl];go_simp
       ·obtain⟨n,hn⟩:∃n,min a.hi b.hi=n:=⟨_,rfl⟩
        have j:vp 0 (min a.hi b.hi)=⟨x,y⟩:=i;rw[hn] at j;have b5:∀(ts:Array TypeId) (t:TypeId) (W:World),(Builtin.min_ ts t #[I (a.hi:Int),I (b.hi:Int)]).run Tryz.prog W=.ok (I n) W:=fun ts t W=>by rw[run_min_int2,show(if(b.hi:Int)<(a.hi:Int) then(b.hi:Int) else(a.hi:Int))=(n:Int) by rw[<-hn];split<;>omega]
        injection j with q1 q2
        clear i hn;go_wp2_with (go_at_call 53;go_must (refine(xr _ (a:=x) (b:=y) Zo Zo).mono ?_;rintro e w1 ⟨rfl,g⟩;have l:=Ja (o.out.below g);clear g;obtain⟨⟨f0,f1⟩,⟨g0,g1⟩,fl⟩:=l.out.f))
        refine bodyPost_ret (v:=.agg #[U x,U y]) ?_ rfl ⟨rfl,by repeat' (first|exact l.out.bel|(refine Below.setCell ?_ (by first|(simp;done)|(simp;omega)) _))⟩;rw[zM rfl];go_simp
       ·obtain⟨n,hn⟩:∃n,max a.lo b.lo=n:=⟨_,rfl⟩
        have j:vp (max a.lo b.lo) m=⟨x,y⟩:=i;rw[hn] at j;have b5:∀(ts:Array TypeId) (t:TypeId) (W:World),(Builtin.max_ ts t #[I (a.lo:Int),I (b.lo:Int)]).run Tryz.prog W=.ok (I n) W:=fun ts t W=>by rw[run_max_int2,show(if(b.lo:Int)>(a.lo:Int) then(b.lo:Int) else(a.lo:Int))=(n:Int) by rw[<-hn];split<;>omega]
        injection j with q1 q2
        clear i hn;go_wp2_with (go_at_call 53;go_must (refine(xr _ (a:=x) (b:=y) Zo Zo).mono ?_;rintro e w1 ⟨rfl,g⟩;have l:=Ja (o.out.below g);clear g;obtain⟨⟨f0,f1⟩,⟨g0,g1⟩,fl⟩:=l.out.f))
        refine bodyPost_ret (v:=.agg #[U x,U y]) ?_ rfl ⟨rfl,by repeat' (first|exact l.out.bel|(refine Below.setCell ?_ (by first|(simp;done)|(simp;omega)) _))⟩;rw[zM rfl];go_simp
       ·have j:vp 0 m=⟨x,y⟩:=i
        injection j with q1 q2
        clear i;go_wp2_with (go_at_call 53;go_must (refine(xr _ (a:=x) (b:=y) Zo Zo).mono ?_;rintro e w1 ⟨rfl,g⟩;have l:=Ja (o.out.below g);clear g;obtain⟨⟨f0,f1⟩,⟨g0,g1⟩,fl⟩:=l.out.f))
        refine bodyPost_ret (v:=.agg #[U x,U y]) ?_ rfl ⟨rfl,by repeat' (first|exact l.out.bel|(refine Below.setCell ?_ (by first|(simp;done)|(simp;omega)) _))⟩;rw[zM rfl];go_simp
       ·have a5:=Ja (show ∀W,_ from fun W=>by have h:=aeF W (c:=12) Zd HA.out.1 HA.out.2;rw[show ek 12 a b=⟨x,y⟩ from i] at h;exact h);clear i;go_wp2_with (go_at_call 109;go_must (refine(a5.out _).mono ?_;rintro e w1 ⟨rfl,g⟩;have l:=Ja (o.out.below g);clear g;obtain⟨⟨f0,f1⟩,⟨g0,g1⟩,fl⟩:=l.out.f))
        refine bodyPost_ret (v:=.agg #[U x,U y]) ?_ rfl ⟨rfl,by repeat' (first|exact l.out.bel|(refine Below.setCell ?_ (by first|(simp;done)|(simp;omega)) _))⟩;rw[zM rfl];go_simp
       ·have a5:=Ja (show ∀W,_ from fun W=>by have h:=aeF W (c:=13) Zd HA.out.1 HA.out.2;rw[show ek 13 a b=⟨x,y⟩ from i] at h;exact h);clear i;go_wp2_with (go_at_call 109;go_must (refine(a5.out _).mono ?_;rintro e w1 ⟨rfl,g⟩;have l:=Ja (o.out.below g);clear g;obtain⟨⟨f0,f1⟩,⟨g0,g1⟩,fl⟩:=l.out.f))
        refine bodyPost_ret (v:=.agg #[U x,U y]) ?_ rfl ⟨rfl,by repeat' (first|exact l.out.bel|(refine Below.setCell ?_ (by first|(simp;done)|(simp;omega)) _))⟩;rw[zM rfl];go_simp
       ·have a5:=Ja (show ∀W,_ from fun W=>by have h:=aeF W (c:=14) Zd HA.out.1 HA.out.2;rw[show ek 14 a b=⟨x,y⟩ from i] at h;exact h);clear i;go_wp2_with (go_at_call 109;go_must (refine(a5.out _).mono ?_;rintro e w1 ⟨rfl,g⟩;have l:=Ja (o.out.below g);clear g;obtain⟨⟨f0,f1⟩,⟨g0,g1⟩,fl⟩:=l.out.f))
        refine bodyPost_ret (v:=.agg #[U x,U y]) ?_ rfl ⟨rfl,by repeat' (first|exact l.out.bel|(refine Below.setCell ?_ (by first|(simp;done)|(simp;omega)) _))⟩;rw[zM rfl];go_simp
       ·by_cases h1:a.hi<b.lo
        ·have j:vp 0 0=⟨x,y⟩:=(if_pos (.inl h1)).symm.trans i;have d:decide ((a.hi:Int)<(b.lo:Int))=true:=decide_eq_true Zo;have d':decide (a.hi<b.lo)=true:=decide_eq_true h1
         injection j with q1 q2
         clear i;go_wp2_with (go_at_call 53;go_must (refine(xr _ (a:=x) (b:=y) Zo Zo).mono ?_;rintro e w1 ⟨rfl,g⟩;have l:=Ja (o.out.below g);clear g;obtain⟨⟨f0,f1⟩,⟨g0,g1⟩,fl⟩:=l.out.f))
         refine bodyPost_ret (v:=.agg #[U x,U y]) ?_ rfl ⟨rfl,by repeat' (first|exact l.out.bel|(refine Below.setCell ?_ (by first|(simp;done)|(simp;omega)) _))⟩;rw[zM rfl];go_simp
        ·have d:decide ((a.hi:Int)<(b.lo:Int))=false:=decide_eq_false Zo;have d':decide (a.hi<b.lo)=false:=decide_eq_false h1
         by_cases h2:b.hi<a.lo
         ·have j:vp 0 0=⟨x,y⟩:=(if_pos (.inr h2)).symm.trans i;have e:decide ((b.hi:Int)<(a.lo:Int))=true:=decide_eq_true Zo;have e':decide (b.hi<a.lo)=true:=decide_eq_true h2
          injection j with q1 q2
          clear i;go_wp2_with (go_at_call 53;go_must (refine(xr _ (a:=x) (b:=y) Zo Zo).mono ?_;rintro e w1 ⟨rfl,g⟩;have l:=Ja (o.out.below g);clear g;obtain⟨⟨f0,f1⟩,⟨g0,g1⟩,fl⟩:=l.out.f))
          refine bodyPost_ret (v:=.agg #[U x,U y]) ?_ rfl ⟨rfl,by repeat' (first|exact l.out.bel|(refine Below.setCell ?_ (by first|(simp;done)|(simp;omega)) _))⟩;rw[zM rfl];go_simp
         ·have j:vp 0 1=⟨x,y⟩:=(if_neg (fun h=>h.elim h1 h2)).symm.trans i;have e:decide ((b.hi:Int)<(a.lo:Int))=false:=decide_eq_false Zo;have e':decide (b.hi<a.lo)=false:=decide_eq_false h2;clear h1 h2
          injection j with q1 q2
          clear i;go_wp2_with (go_at_call 53;go_must (refine(xr _ (a:=x) (b:=y) Zo Zo).mono ?_;rintro e w1 ⟨rfl,g⟩;have l:=Ja (o.out.below g);clear g;obtain⟨⟨f0,f1⟩,⟨g0,g1⟩,fl⟩:=l.out.f))
          refine bodyPost_ret (v:=.agg #[U x,U y]) ?_ rfl ⟨rfl,by repeat' (first|exact l.out.bel|(refine Below.setCell ?_ (by first|(simp;done)|(simp;omega)) _))⟩;rw[zM rfl];go_simp
       ·by_cases h1:a.hi<b.lo
        ·have j:vp 1 1=⟨x,y⟩:=(if_pos h1).symm.trans i;have d:decide ((a.hi:Int)<(b.lo:Int))=true:=decide_eq_true Zo;have d':decide (a.hi<b.lo)=true:=decide_eq_true h1
         injection j with q1 q2
         clear i;go_wp2_with (go_at_call 53;go_must (refine(xr _ (a:=x) (b:=y) Zo Zo).mono ?_;rintro e w1 ⟨rfl,g⟩;have l:=Ja (o.out.below g);clear g;obtain⟨⟨f0,f1⟩,⟨g0,g1⟩,fl⟩:=l.out.f))
         refine bodyPost_ret (v:=.agg #[U x,U y]) ?_ rfl ⟨rfl,by repeat' (first|exact l.out.bel|(refine Below.setCell ?_ (by first|(simp;done)|(simp;omega)) _))⟩;rw[zM rfl];go_simp
        ·have d:decide ((a.hi:Int)<(b.lo:Int))=false:=decide_eq_false Zo;have d':decide (a.hi<b.lo)=false:=decide_eq_false h1;have i:=(if_neg h1).symm.trans i
         by_cases h2:b.hi<=a.lo
         ·have j:vp 0 0=⟨x,y⟩:=(if_pos h2).symm.trans i;have e:decide ((b.hi:Int)<=(a.lo:Int))=true:=decide_eq_true Zo;have e':decide (b.hi<=a.lo)=true:=decide_eq_true h2
          injection j with q1 q2
          clear i;go_wp2_with (go_at_call 53;go_must (refine(xr _ (a:=x) (b:=y) Zo Zo).mono ?_;rintro e w1 ⟨rfl,g⟩;have l:=Ja (o.out.below g);clear g;obtain⟨⟨f0,f1⟩,⟨g0,g1⟩,fl⟩:=l.out.f))
          refine bodyPost_ret (v:=.agg #[U x,U y]) ?_ rfl ⟨rfl,by repeat' (first|exact l.out.bel|(refine Below.setCell ?_ (by first|(simp;done)|(simp;omega)) _))⟩;rw[zM rfl];go_simp
         ·have j:vp 0 1=⟨x,y⟩:=(if_neg h2).symm.trans i;have e:decide ((b.hi:Int)<=(a.lo:Int))=false:=decide_eq_false Zo;have e':decide (b.hi<=a.lo)=false:=decide_eq_false h2;clear h1 h2
          injection j with q1 q2
          clear i;go_wp2_with (go_at_call 53;go_must (refine(xr _ (a:=x) (b:=y) Zo Zo).mono ?_;rintro e w1 ⟨rfl,g⟩;have l:=Ja (o.out.below g);clear g;obtain⟨⟨f0,f1⟩,⟨g0,g1⟩,fl⟩:=l.out.f))
          refine bodyPost_ret (v:=.agg #[U x,U y]) ?_ rfl ⟨rfl,by repeat' (first|exact l.out.bel|(refine Below.setCell ?_ (by first|(simp;done)|(simp;omega)) _))⟩;rw[zM rfl];go_simp
       ·have j:vp 0 1=⟨x,y⟩:=i
        injection j with q1 q2
        clear i;go_wp2_with (go_at_call 53;go_must (refine(xr _ (a:=x) (b:=y) Zo Zo).mono ?_;rintro e w1 ⟨rfl,g⟩;have l:=Ja (o.out.below g);clear g;obtain⟨⟨f0,f1⟩,⟨g0,g1⟩,fl⟩:=l.out.f))
        refine bodyPost_ret (v:=.agg #[U x,U y]) ?_ rfl ⟨rfl,by repeat' (first|exact l.out.bel|(refine Below.setCell ?_ (by first|(simp;done)|(simp;omega)) _))⟩;rw[zM rfl];go_simp
       ·have j:y7=⟨x,y⟩:=i;clear i;go_wp2_with (go_at_call 50;go_must (refine(tt _ j).mono ?_;rintro e w1 ⟨rfl,g⟩;have l:=Ja (o.out.below g);clear g;obtain⟨⟨f0,f1⟩,⟨g0,g1⟩,fl⟩:=l.out.f))
        refine bodyPost_ret (v:=.agg #[U x,U y]) ?_ rfl ⟨rfl,by repeat' (first|exact l.out.bel|(refine Below.setCell ?_ (by first|(simp;done)|(simp;omega)) _))⟩;rw[zM rfl];go_simp
       ·have j:vp 0 255=⟨x,y⟩:=i
        injection j with q1 q2
        clear i;go_wp2_with (go_at_call 53;go_must (refine(xr _ (a:=x) (b:=y) Zo Zo).mono ?_;rintro e w1 ⟨rfl,g⟩;have l:=Ja (o.out.below g);clear g;obtain⟨⟨f0,f1⟩,⟨g0,g1⟩,fl⟩:=l.out.f))
        refine bodyPost_ret (v:=.agg #[U x,U y]) ?_ rfl ⟨rfl,by repeat' (first|exact l.out.bel|(refine Below.setCell ?_ (by first|(simp;done)|(simp;omega)) _))⟩;rw[zM rfl];go_simp
       ·have j:y7=⟨x,y⟩:=i;clear i;go_wp2_with (go_at_call 50;go_must (refine(tt _ j).mono ?_;rintro e w1 ⟨rfl,g⟩;have l:=Ja (o.out.below g);clear g;obtain⟨⟨f0,f1⟩,⟨g0,g1⟩,fl⟩:=l.out.f))
        refine bodyPost_ret (v:=.agg #[U x,U y]) ?_ rfl ⟨rfl,by repeat' (first|exact l.out.bel|(refine Below.setCell ?_ (by first|(simp;done)|(simp;omega)) _))⟩;rw[zM rfl];go_simp
       ·have j:y7=⟨x,y⟩:=i;clear i;go_wp2_with (go_at_call 50;go_must (refine(tt _ j).mono ?_;rintro e w1 ⟨rfl,g⟩;have l:=Ja (o.out.below g);clear g;obtain⟨⟨f0,f1⟩,⟨g0,g1⟩,fl⟩:=l.out.f))
        refine bodyPost_ret (v:=.agg #[U x,U y]) ?_ rfl ⟨rfl,by repeat' (first|exact l.out.bel|(refine Below.setCell ?_ (by first|(simp;done)|(simp;omega)) _))⟩;rw[zM rfl];go_simp
       ·have j:y7=⟨x,y⟩:=i;clear i;go_wp2_with (go_at_call 50;go_must (refine(tt _ j).mono ?_;rintro e w1 ⟨rfl,g⟩;have l:=Ja (o.out.below g);clear g;obtain⟨⟨f0,f1⟩,⟨g0,g1⟩,fl⟩:=l.out.f))
        refine bodyPost_ret (v:=.agg #[U x,U y]) ?_ rfl ⟨rfl,by repeat' (first|exact l.out.bel|(refine Below.setCell ?_ (by first|(simp;done)|(simp;omega)) _))⟩;rw[zM rfl];go_simp
       ·have j:vp 0 255=⟨x,y⟩:=i
        injection j with q1 q2
        clear i;go_wp2_with (go_at_call 53;go_must (refine(xr _ (a:=x) (b:=y) Zo Zo).mono ?_;rintro e w1 ⟨rfl,g⟩;have l:=Ja (o.out.below g);clear g;obtain⟨⟨f0,f1⟩,⟨g0,g1⟩,fl⟩:=l.out.f))
        refine bodyPost_ret (v:=.agg #[U x,U y]) ?_ rfl ⟨rfl,by repeat' (first|exact l.out.bel|(refine Below.setCell ?_ (by first|(simp;done)|(simp;omega)) _))⟩;rw[zM rfl];go_simp
       ·have j:y7=⟨x,y⟩:=i;clear i;go_wp2_with (go_at_call 50;go_must (refine(tt _ j).mono ?_;rintro e w1 ⟨rfl,g⟩;have l:=Ja (o.out.below g);clear g;obtain⟨⟨f0,f1⟩,⟨g0,g1⟩,fl⟩:=l.out.f))
        refine bodyPost_ret (v:=.agg #[U x,U y]) ?_ rfl ⟨rfl,by repeat' (first|exact l.out.bel|(refine Below.setCell ?_ (by first|(simp;done)|(simp;omega)) _))⟩;rw[zM rfl];go_simp
       ·have j:y7=⟨x,y⟩:=i;clear i;go_wp2_with (go_at_call 50;go_must (refine(tt _ j).mono ?_;rintro e w1 ⟨rfl,g⟩;have l:=Ja (o.out.below g);clear g;obtain⟨⟨f0,f1⟩,⟨g0,g1⟩,fl⟩:=l.out.f))
        refine bodyPost_ret (v:=.agg #[U x,U y]) ?_ rfl ⟨rfl,by repeat' (first|exact l.out.bel|(refine Below.setCell ?_ (by first|(simp;done)|(simp;omega)) _))⟩;rw[zM rfl];go_simp
       ·have j:y7=⟨x,y⟩:=i;clear i;go_wp2_with (go_at_call 50;go_must (refine(tt _ j).mono ?_;rintro e w1 ⟨rfl,g⟩;have l:=Ja (o.out.below g);clear g;obtain⟨⟨f0,f1⟩,⟨g0,g1⟩,fl⟩:=l.out.f))
        refine bodyPost_ret (v:=.agg #[U x,U y]) ?_ rfl ⟨rfl,by repeat' (first|exact l.out.bel|(refine Below.setCell ?_ (by first|(simp;done)|(simp;omega)) _))⟩;rw[zM rfl];go_simp
       ·have j:y7=⟨x,y⟩:=i;clear i;go_wp2_with (go_at_call 50;go_must (refine(tt _ j).mono ?_;rintro e w1 ⟨rfl,g⟩;have l:=Ja (o.out.below g);clear g;obtain⟨⟨f0,f1⟩,⟨g0,g1⟩,fl⟩:=l.out.f))
        refine bodyPost_ret (v:=.agg #[U x,U y]) ?_ rfl ⟨rfl,by repeat' (first|exact l.out.bel|(refine Below.setCell ?_ (by first|(simp;done)|(simp;omega)) _))⟩;rw[zM rfl];go_simp
   ·have a1:=of_decide_eq_true HS.out.2;have a2:=HR.out;unfold ac1 at a2;rw[if_pos a1] at a2;obtain⟨⟨f0,f1⟩,⟨g0,g1⟩,fl⟩:=o.out.f
    by_cases h8:c=8/\b.lo=0
    ·rw[if_pos h8] at a2;have j:=a2;obtain⟨rfl,h8⟩:=h8;have q0:((b.lo:Int)==0)=true:=by rw[beq_iff_eq];omega
     clear a2 a1 h8 HR HS HA f0 f1 g0 g1 fl;go_wp2_with (go_at_call 50;go_must (refine(tt _ j).mono ?_;rintro e w1 ⟨rfl,g⟩;have l:=Ja (o.out.below g);clear g;obtain⟨⟨f0,f1⟩,⟨g0,g1⟩,fl⟩:=l.out.f))
     refine bodyPost_ret (v:=.agg #[U x,U y]) ?_ rfl ⟨rfl,by repeat' (first|exact l.out.bel|(refine Below.setCell ?_ (by first|(simp;done)|(simp;omega)) _))⟩;rw[zM rfl];go_simp
    ·rw[if_neg h8] at a2
     injection a2 with q1 q2
     obtain rfl:x=y:=q1.symm.trans q2;clear q2;obtain⟨z,hz⟩:∃z,yW c a.lo b.lo=z:=⟨_,rfl⟩
     have b0:∀W,A 107 #[I c,U (a.lo:Int),U (b.lo:Int)] W fun e w'=>e=.returned (U z)/\W=w':=fun W=>by
      rw[<-hz]
      by_cases h3:c=3∨c=4
      ·exact ag8 c h3 _ _ Zo Zo W
      ·exact ag4 c (by have:=a1.1;omega) _ _ Zo Zo (fun h h0=>h8 ⟨h,h0⟩) W
     have a6:=Ja b0;clear b0
     by_cases h3:c=3
     ·subst h3;have hx:(65536-a.lo)%65536=x:=q1;have w1:IntKind.u16.wrap (0-(a.lo:Int))=(x:Int):=by rw[xY];omega
      have w1':IntKind.u16.wrap (-(a.lo:Int))=(x:Int):=by rw[xY];omega
      clear h8 hz q1 a1 hx HR HS HA;go_wp2_with (go_at_call 107;go_must (refine(a6.out _).mono ?_;rintro e w1 ⟨rfl,rfl⟩))
      refine bodyPost_ret (v:=.agg #[U x,U x]) ?_ rfl ⟨rfl,by repeat' (first|exact o.out.bel|(refine Below.setCell ?_ (by first|(simp;done)|(simp;omega)) _))⟩;rw[zM rfl];go_simp
     ·by_cases h4:c=4
      ·subst h4;have hx:65535-a.lo=x:=q1;have w1:IntKind.u16.wrap (65535-(a.lo:Int))=(x:Int):=by rw[xY];omega
       clear h8 hz q1 a1 hx HR HS HA;go_wp2_with (go_at_call 107;go_must (refine(a6.out _).mono ?_;rintro e w1 ⟨rfl,rfl⟩))
       refine bodyPost_ret (v:=.agg #[U x,U x]) ?_ rfl ⟨rfl,by repeat' (first|exact o.out.bel|(refine Below.setCell ?_ (by first|(simp;done)|(simp;omega)) _))⟩;rw[zM rfl];go_simp
      ·obtain rfl:x=z:=by
        rw[<-hz,<-q1];unfold j4;rw[if_neg h3,if_neg h4]
       have e3:(c==3)=false:=by rw[beq_eq_false_iff_ne];exact h3
       have e4:(c==4)=false:=by rw[beq_eq_false_iff_ne];exact h4
       by_cases h5:c=8
       ·subst h5;have q0:((b.lo:Int)==0)=false:=by rw[beq_eq_false_iff_ne];exact fun h=>h8 ⟨rfl,by omega⟩
        clear h8 hz q1 a1 HR HS HA h3 h4;go_wp2_with (go_at_call 107;go_must (refine(a6.out _).mono ?_;rintro e w1 ⟨rfl,rfl⟩))
        refine bodyPost_ret (v:=.agg #[U x,U x]) ?_ rfl ⟨rfl,by repeat' (first|exact o.out.bel|(refine Below.setCell ?_ (by first|(simp;done)|(simp;omega)) _))⟩;rw[zM rfl];go_simp
       ·have e8:(c==8)=false:=by rw[beq_eq_false_iff_ne];exact h5
        clear h8 hz q1 a1 HR HS HA h3 h4 h5;go_wp2_with (go_at_call 107;go_must (refine(a6.out _).mono ?_;rintro e w1 ⟨rfl,rfl⟩))
        refine bodyPost_ret (v:=.agg #[U x,U x]) ?_ rfl ⟨rfl,by repeat' (first|exact o.out.bel|(refine Below.setCell ?_ (by first|(simp;done)|(simp;omega)) _))⟩;rw[zM rfl];go_simp
open Classical in
noncomputable def rgsP (p:IProg) (f:Int):List Rg:=if askR p f then tr p (p.funcs.getD f.toNat []) else []
def ags (w:World)(R:List Rg)(e:Ending)(w':World):Prop:=∃ra:Option Addr,e=.returned (.slice ra R.length R.length)/\(R≠ []->∃b,ra=some ⟨b,0,none⟩/\L w' b (R.flatMap wb).toArray 45/\w.heap.size<=b)/\O w w'
theorem agP {p:IProg}{f:Int}(h:0<=f/\f.toNat<p.funcs.length):p.funcs[f.toNat]? =some (p.funcs.getD f.toNat []):=by
 rw[Jj,Jd h.2];rfl
theorem agQ{B:Nat}{V:PV}{p:IProg}(hp:ProgIn w B V p)(hB:B<=w.heap.size)(hs:∀f∈p.funcs,vZ f)(f:Int):
 A 15 #[yH V p,I f] w (ags w (rgsP p f)):=by
 unfold rgsP
 by_cases h:askR p f
 ·rw[if_pos h];obtain⟨hv,hr,c⟩:=h;have:=aeY hp hB hs hv (agP hr) c;rw[Oa hr.1] at this;refine this.mono ?_;rintro e w' ⟨b,rfl,h1,h2,h3⟩;exact⟨_,rfl,fun _=>⟨b,rfl,h1,h2⟩,h3⟩
 ·rw[if_neg h];refine(ahS hp hB hs f h).mono ?_;rintro e w' ⟨rfl,hb⟩;exact⟨none,rfl,fun h=>absurd rfl h,hb⟩
theorem ag3{s:List Int}{sv:Value}(hs:zY w w.heap.size sv s):A 12 #[sv] w (oC w (uR (s.take 200))):=by
 obtain⟨sa,sc,rfl,a3,a2⟩:=hs.form;obtain⟨k,hk,m⟩:=gj s.length 200;have a0:∀(ts:Array TypeId) (t:TypeId) (W:World),(Builtin.min_ ts t #[I (s.length:Int),I 200]).run Tryz.prog W=.ok (I k) W:=fun ts t W=>by rw[hk];exact run_min_int2 ..
 have a4:(k:Int)<=(sc:Int):=Zo;have ht:=lw hs 200;rw[<-m] at ht
 have hm:∀W,O w W->A 31 #[.slice sa k sc] W (fun e w'=>oC W (uR (s.take 200)) e w'/\∃V,e=.returned (yH V (uR (s.take 200)))/\∀U,StaysL W.heap.size w' U->ProgIn U U.heap.size V (uR (s.take 200))):=fun W hb=>(jP ((ht.below zO hb).mono zO hb.size)).mono fun e w' ⟨V,he,hp,d⟩=>by
  subst he;exact⟨nE (hp _ (StaysL.refl _ _)) d,V,rfl,hp⟩
 have a1:(uR (s.take 200)).funcs.length<=4:=by rw[qA];exact(sm _).2
 generalize uR (s.take 200)=p at *;have HM:=Ja hm;clear hm hk m ht hs;have q:O w (w.alloc (G #[F,F,I 0,I 0,F,F] 29)):=(Below.refl _ _).alloc (Je _) _;have j:=zI (W:=w) (o:=G #[F,F,I 0,I 0,F,F] 29) rfl;have h:=Ja (Jb q j);clear q j;go_enter Tryz.func12,Tryz.ntmps12;go_wp2_with (go_at_call 31;go_must (refine(HM.out _ h.out.1).mono ?_;rintro e w1 ⟨⟨fa,fc,aa,ac,da,dc,ba,bc,rfl,hp,g⟩,V,y,l⟩;have c:=zH g h.out.2 (lt_of_block h.out.2);have c0:=zA (i:=0) c rfl;have c1:=zA (i:=1) c rfl;have c2:=zA (i:=2) c rfl;have c3:=zA (i:=3) c rfl;have c4:=zA (i:=4) c rfl;have c5:=zA (i:=5) c rfl;have cf:∀i,N w1 w.heap.size i:=fun i=>zE c;have cl:=lt_of_block c;have u:=Ja (Jb hp (Jb g (Jb c (Jb y l))));clear hp g c y l))
 refine bodyPost_ret (v:=.agg (R p fa fc aa ac da dc ba bc)) ?_ rfl ?_
 ·rw[zM rfl];go_simp
 ·have d:=h.out.1.trans (u.out.2.1.mono h.out.1.size);have x:(w.alloc (G #[F,F,I 0,I 0,F,F] 29)).heap.size=w.heap.size+1:=by simp
  have hz:Below w.heap.size w1 (w1.setCells w.heap.size 0 [.slice fa p.funcs.length fc,.slice aa p.args.length ac,I p.entry,I p.handler,.slice da p.data.length dc,.slice ba p.banks.length bc]):=qu _ _ _ _;have hU:=u.out.2.2.2.2 _ (pJ (vs:=[.slice fa p.funcs.length fc,.slice aa p.args.length ac,I p.entry,I p.handler,.slice da p.data.length dc,.slice ba p.banks.length bc]) (o:=0) (w:=w1) (r:=w.heap.size) (by rw[x];omega));have hr:=nE hU (d.trans hz);rw[<-u.out.2.2.2.1] at hr;exact hr
theorem afX{p:IProg}{n:Nat}(hv:vC p=0)(c:p.funcs[n]? =some bl)(h0:bl≠ []):rgsP p (n:Int)=tr p bl:=by
 have hg:p.funcs.getD n []=bl:=by rw[Jj,c];rfl
 unfold rgsP;rw[Ni,hg,if_pos ⟨hv,⟨by omega,by rw[Ni];exact(Jh.1 c).1⟩,by rw[Ni,hg];exact h0⟩]
theorem rgsP_len{p:IProg}{n:Nat}(hv:vC p=0)(hs:∀f∈p.funcs,vZ f)(h64:P64 p)(c:p.funcs[n]? =some bl):((rgsP p (n:Int)).length:Int)=aaG bl:=by
 by_cases h0:bl=[]
 ·subst h0;have hg:p.funcs.getD n []=[]:=by rw[Jj,c];rfl
  unfold rgsP;rw[if_neg (fun h=>h.2.2 (by rw[Ni];exact hg))];rfl
 ·have d:=ae6 hv hs h64 c h0;rw[afX hv c h0,(lx d).2];have:=d.cnt;omega
end Go.Proofs.YtoahcpkibpomcaaGreat
