/- Part of a proof. -/
import Derived.Test.YtojclalkfhoooaaGRFun1
set_option linter.all false
set_option maxHeartbeats 8000000
set_option maxRecDepth 100000
namespace Go.Proofs.Ytojclalkfhoooaa
open Go.RowKit
variable {w:World}{k:Nat}{o:IOp}
theorem hdr_q{V:PV}{p:IProg}(hp:ProgIn w w.heap.size V p):Y 48 #[yH V p] w (m9 w (sR p)):=by
 obtain⟨Vf,Va,Vd,Vb⟩:=V;obtain⟨f1,f2,e1,_,_⟩:=hp.funcs.form;obtain⟨a1,a2,e2,_,_⟩:=hp.args.form;obtain⟨d1,d2,e3,_,_⟩:=hp.data.form;obtain⟨b1,b2,e4,_,_⟩:=hp.banks.form;simp only at e1 e2 e3 e4;subst e1 e2 e3 e4;unfold yH;simp only;have k0:p.funcs.length<=9223372036854775807:=Zo;have k3:p.args.length<=9223372036854775807:=Zo;have k1:p.data.length<=9223372036854775807:=Zo;have k2:p.banks.length<=9223372036854775807:=Zo;obtain⟨res,c4⟩:∃r,sR p=r:=⟨_,rfl⟩
 rw[c4];have c:=Ja c4;have f7:=Ja (show ∀W,F w W->∀o:IObj,(I64 o.bank/\o.addr<65536/\o.size<65536)->Y 72 #[.agg (R p f1 f2 a1 a2 d1 d2 b1 b2),.agg #[A o.bank,I (o.addr:Int),I (o.size:Int)]] W (ym W (!sW p.banks.length o)) from fun W hb o ho=>bad_q ((hp.below hb).mono hb.size) o ho);have HP:=Ja hp;have e6:=(Below.refl w.heap.size w).alloc (Je _) (U (R p f1 f2 a1 a2 d1 d2 b1 b2) 29);have d0:=zI (W:=w) (o:=U (R p f1 f2 a1 a2 d1 d2 b1 b2) 29) rfl;clear hp c4;go_enter Try.func48,Try.ntmps48;go_upto_region 1 with fail;generalize w.alloc (U (R p f1 f2 a1 a2 d1 d2 b1 b2) 29)=W0 at *
 have HC:=Ja (show ∀W,F W0 W->(G W w.heap.size 0 (.slice f1 p.funcs.length f2)/\G W w.heap.size 1 (.slice a1 p.args.length a2)/\G W w.heap.size 2 (A p.entry)/\G W w.heap.size 3 (A p.handler)/\G W w.heap.size 4 (.slice d1 p.data.length d2)/\G W w.heap.size 5 (.slice b1 p.banks.length b2))/\w.heap.size<W.heap.size from fun W hb=>by
  have h:=zH hb d0 (lt_of_block d0)
  exact⟨⟨zA h Zs,zA h Zs,zA h Zs,zA h Zs,zA h Zs,zA h Zs⟩,lt_of_block h⟩)
 obtain⟨⟨y0,y1,y2,y3,y4,y5⟩,yl⟩:=HC.out W0 (Below.refl _ _);have t:=Ja e6;clear e6 d0
 by_cases c1:2000<p.funcs.length
 ·skip
  have hr:=c.out.symm.trans (dh (.inl c1));subst hr;have i1:(2000:Int)<(p.funcs.length:Int):=Zo;go_wp2;go_ret;exact⟨rfl,t.out⟩
 have i1:¬(2000:Int)<(p.funcs.length:Int):=Zo
 by_cases c2:512<p.data.length
 ·skip
  have hr:=c.out.symm.trans (dh (.inr (.inl c2)));subst hr;have i2:(512:Int)<(p.data.length:Int):=Zo;go_wp2;go_ret;exact⟨rfl,t.out⟩
 have i2:¬(512:Int)<(p.data.length:Int):=Zo
 by_cases c3:64<p.banks.length
 ·skip
  have hr:=c.out.symm.trans (dh (.inr (.inr c3)));subst hr;have i3:(64:Int)<(p.banks.length:Int):=Zo;go_wp2;go_ret;exact⟨rfl,t.out⟩
 have i3:¬(64:Int)<(p.banks.length:Int):=Zo;have H1:=Ja (show ¬(2000<p.funcs.length∨512<p.data.length∨64<p.banks.length) by omega);go_upto_region 3 with fail
 by_cases g1:p.args.length=p.funcs.length
 rotate_left
 ·skip
  have hr:=c.out.symm.trans (dH H1.out (by unfold aL;simp;omega));subst hr;have j1:((p.args.length:Int)==(p.funcs.length:Int))=false:=Ze;have c5:((p.args.length:Int) !=(p.funcs.length:Int))=true:=by rw[bne_iff_ne];omega
  go_wp2;go_ret;exact⟨rfl,t.out⟩
 have j1:((p.args.length:Int)==(p.funcs.length:Int))=true:=by rw[beq_iff_eq];omega
 have c5:((p.args.length:Int) !=(p.funcs.length:Int))=false:=by rw[bne_eq_false_iff_eq];omega
 have b0:=Ja g1;clear g1
 by_cases g2:p.entry<0
 ·skip
  have hr:=c.out.symm.trans (dH H1.out (by have:=b0.out;unfold aL;simp;omega));subst hr;go_wp2;go_ret;exact⟨rfl,t.out⟩
 by_cases g3:(p.funcs.length:Int)<=p.entry
 ·skip
  have hr:=c.out.symm.trans (dH H1.out (by have:=b0.out;unfold aL;simp;omega));subst hr;go_wp2;go_ret;exact⟨rfl,t.out⟩
 by_cases g4:p.handler< -1
 ·skip
  have hr:=c.out.symm.trans (dH H1.out (by have:=b0.out;unfold aL;simp;omega));subst hr;go_wp2;go_ret;exact⟨rfl,t.out⟩
 by_cases g5:(p.funcs.length:Int)<=p.handler
 ·skip
  have hr:=c.out.symm.trans (dH H1.out (by have:=b0.out;unfold aL;simp;omega));subst hr;go_wp2;go_ret;exact⟨rfl,t.out⟩
 have H2:=Ja (show aL p=false by have:=b0.out;unfold aL;simp;omega);go_wp2;clear y0 y1 y2 y3 y4 y5 yl c1 c2 c3 i1 i2 i3 j1 c5 g2 g3 g4 g5 b0
 go_loopw [3] (fun kv wx=>∃k:Nat,k<=p.args.length/\kv=A k/\Hid (F W0 wx/\∀j x,j<k->p.args[j]? =some x->er p j x=false)) (fun kv _=>p.args.length-(intOf kv).toNat)
 case atStart=>exact⟨0,Jt _,rfl,Ja ⟨Below.refl _ _,fun j x hj=>absurd hj (Nat.not_lt_zero _)⟩⟩
 case round=>
  obtain⟨k,hk,rfl,l⟩:=hrel;obtain⟨⟨y0,y1,y2,y3,y4,y5⟩,yl⟩:=HC.out _ l.out.1;have m:=Ja (t.out.trans (l.out.1.mono t.out.size))
  by_cases d:k<p.args.length
  ·skip
   have b3:(k:Int)<p.args.length:=Zo;have a0:=Ja d;obtain⟨x,hx⟩:∃x,p.args[k]? =some x:=⟨_,Jd d⟩
   have HX:=Ja hx;obtain⟨bb,bo,rfl,g,hc,_⟩:=HP.out.args.get hx;rw[Nk] at hc;have hc:=zV m.out g hc;have b5:bb<wr.heap.size:=Jw _ _ hc;clear hx d g y0 y4 y5
   by_cases x1:x<0
   ·skip
    have hr:=c.out.symm.trans (dI H1.out H2.out HX.out (by unfold er;simp;omega));subst hr;go_wp2;go_ret;exact⟨rfl,m.out⟩
   by_cases x2:8<x
   ·skip
    have hr:=c.out.symm.trans (dI H1.out H2.out HX.out (by unfold er;simp;omega));subst hr;go_wp2;go_ret;exact⟨rfl,m.out⟩
   by_cases x3:0<x
   rotate_left
   ·skip
    have HA:=Ja (show er p k x=false by unfold er;simp;omega);go_wp2;go_roundw
    case rel=>exact⟨k+1,a0.out,by go_num,Ja ⟨l.out.1,fun j y hj hy=>by
     by_cases e:j=k
     ·subst e;rw[HX.out] at hy;cases hy;exact HA.out
     ·exact l.out.2 j y Zo hy⟩⟩
    case measure=>have:=a0.out;simp[intOf];omega
   by_cases x4:(k:Int)=p.entry
   ·skip
    have hr:=c.out.symm.trans (dI H1.out H2.out HX.out (by unfold er;simp;omega));subst hr;have j4:((k:Int)==p.entry)=true:=by rw[beq_iff_eq];omega
    have d8:((k:Int) !=p.entry)=false:=by rw[bne_eq_false_iff_eq];omega
    clear x4;go_wp2;go_ret;exact⟨rfl,m.out⟩
   by_cases x5:(k:Int)=p.handler
   ·skip
    have hr:=c.out.symm.trans (dI H1.out H2.out HX.out (by unfold er;simp;omega));subst hr;have j4:((k:Int)==p.entry)=false:=Ze;have d8:((k:Int) !=p.entry)=true:=by rw[bne_iff_ne];omega
    have j5:((k:Int)==p.handler)=true:=by rw[beq_iff_eq];omega
    have f8:((k:Int) !=p.handler)=false:=by rw[bne_eq_false_iff_eq];omega
    clear x5;go_wp2;go_ret;exact⟨rfl,m.out⟩
   have HA:=Ja (show er p k x=false by unfold er;simp;omega);have j4:((k:Int)==p.entry)=false:=Ze;have d8:((k:Int) !=p.entry)=true:=by rw[bne_iff_ne];omega
   have j5:((k:Int)==p.handler)=false:=Ze;have f8:((k:Int) !=p.handler)=true:=by rw[bne_iff_ne];omega
   go_wp2;go_roundw
   case rel=>exact⟨k+1,a0.out,by go_num,Ja ⟨l.out.1,fun j y hj hy=>by
    by_cases e:j=k
    ·subst e;rw[HX.out] at hy;cases hy;exact HA.out
    ·exact l.out.2 j y Zo hy⟩⟩
   case measure=>have:=a0.out;simp[intOf];omega
  ·skip
   obtain rfl:k=p.args.length:=by omega
   have b3:¬(p.args.length:Int)<p.args.length:=Zo;have H3:=Ja (cU H1.out H2.out (fun k x hx=>l.out.2 k x (Jh.1 hx).1 hx));have HD:=Ja l.out.1;clear d;go_wp2;clear y0 y1 y2 y3 y4 y5 yl
   go_loopw [4] (fun kv wx=>∃k:Nat,k<=p.banks.length/\kv=A k/\Hid (F W0 wx/\(p.banks.take k).all (fun s=>decide (s.size=4096))=true)) (fun kv _=>p.banks.length-(intOf kv).toNat)
   case atStart=>exact⟨0,Jt _,rfl,Ja ⟨HD.out,by simp⟩⟩
   case round=>
    obtain⟨k,hk,rfl,l⟩:=hrel;obtain⟨⟨y0,y1,y2,y3,y4,y5⟩,yl⟩:=HC.out _ l.out.1;have m:=Ja (t.out.trans (l.out.1.mono t.out.size))
    by_cases d:k<p.banks.length
    ·skip
     have b3:(k:Int)<p.banks.length:=Zo;have a0:=Ja d;obtain⟨s,hs⟩:∃s,p.banks[k]? =some s:=⟨_,Jd d⟩
     have HS:=Ja hs;obtain⟨bb,bo,rfl,g,hc,j3⟩:=HP.out.banks.get hs;rw[Nk] at hc;have hc:=zV m.out g hc;have b5:bb<wr.heap.size:=Jw _ _ hc;clear hs d g y0 y1 y2 y3 y4
     by_cases x1:s.size=4096
     ·have j1:((s.size:Int)==4096)=true:=by rw[beq_iff_eq];omega
      have c5:((s.size:Int) !=4096)=false:=by rw[bne_eq_false_iff_eq];omega
      have h5:=Ja x1;clear x1;go_wp2;go_roundw
      case rel=>exact⟨k+1,a0.out,by go_num,Ja ⟨l.out.1,by rw[aaL HS.out,l.out.2,Bool.true_and];exact decide_eq_true h5.out⟩⟩
      case measure=>have:=a0.out;simp[intOf];omega
     ·have j1:((s.size:Int)==4096)=false:=Ze;have c5:((s.size:Int) !=4096)=true:=by rw[bne_iff_ne];omega
      have hr:=c.out.symm.trans (H3.out.trans (if_pos (by unfold wB mh;rw[aaN _ HS.out (decide_eq_false x1)];rfl)));subst hr;go_wp2;go_ret;exact⟨rfl,m.out⟩
    ·skip
     obtain rfl:k=p.banks.length:=by omega
     have i4:¬(p.banks.length:Int)<p.banks.length:=Zo;have H4:=Ja (show mh p.banks=true by unfold mh;have:=l.out.2;rwa [Nl] at this);have h8:=Ja l.out.1;clear d;go_wp2;clear y0 y1 y2 y3 y4 y5 yl
     go_loopw [5] (fun kv wx=>∃k:Nat,k<=p.data.length/\kv=A k/\Hid (F W0 wx/\∀j,j<k->lm p.banks.length p.data j=true)) (fun kv _=>p.data.length-(intOf kv).toNat)
     case atStart=>exact⟨0,Jt _,rfl,Ja ⟨h8.out,fun j hj=>absurd hj (Nat.not_lt_zero _)⟩⟩
     case round=>
      obtain⟨k,hk,rfl,l⟩:=hrel;obtain⟨⟨y0,y1,y2,y3,y4,y5⟩,yl⟩:=HC.out _ l.out.1;have m:=Ja (t.out.trans (l.out.1.mono t.out.size))
      by_cases d:k<p.data.length
      ·skip
       have b3:(k:Int)<p.data.length:=Zo;have a0:=Ja d;obtain⟨o,ho⟩:∃o,p.data[k]? =some o:=⟨_,Jd d⟩
       have HO:=Ja ho;obtain⟨bb,bo,rfl,g,c0,c1,c2,f5,g9,g6⟩:=HP.out.data.get ho;have c0:=zV m.out g c0;have c1:=zV m.out g c1;have c2:=zV m.out g c2;have b5:bb<wr.heap.size:=Jw _ _ c0;have d3:wB p=false->res=37:=fun h=>c.out.symm.trans (H3.out.trans (if_pos h))
       have k4:=Ja d3;have d9:lm p.banks.length p.data k=(sW p.banks.length o && lF o (p.data.take k)):=by unfold lm;rw[ho]
       have d5:=Ja d9;have f4:=Ja (show lm p.banks.length p.data k=false->res=37 from fun h=>d3 (by unfold wB;rw[mO d h,Uh]));clear ho d g d3 d9 y1 y2 y3 y5;go_upto_region 19 with fail;have u:=zI (W:=wr) (o:=U #[A o.bank,I (o.addr:Int),I (o.size:Int)] 51) rfl;have a3:=(Below.refl wr.heap.size wr).alloc (Je _) (U #[A o.bank,I (o.addr:Int),I (o.size:Int)] 51);have a6:=Ja (l.out.1.trans (a3.mono l.out.1.size));generalize wr.alloc (U #[A o.bank,I (o.addr:Int),I (o.size:Int)] 51)=W2 at *;generalize h0:wr.heap.size=bx at *;obtain⟨⟨z0,z1,z2,z3,z4,z5⟩,zl⟩:=HC.out _ a6.out;have e0:=K0 u;have e1:=K1 u;have e2:=K2 u;have a5:=lt_of_block u;have e7:=Ja u;have b4:=f7.out W2 (t.out.trans (a6.out.mono t.out.size)) o ⟨f5,g9,g6⟩;obtain⟨ib,d4⟩:∃b,sW p.banks.length o=b:=⟨_,rfl⟩
       rw[d4] at b4;have f0:=Ja d4;have f3:=Ja b4;clear b4 d4 a3 u y0 y4 yl c0 c1 c2 b5 h0
       cases ib with
       |false=>
        have hr:=f4.out (by rw[d5.out,f0.out];rfl);subst hr;go_wp2_with (go_at_call 72;go_must (refine f3.out.mono ?_;rintro e w3 ⟨he,b7⟩;obtain rfl:e=.returned (.bool true):=he))
        go_ret
        exact⟨rfl,t.out.trans ((a6.out.trans (b7.mono a6.out.size)).mono t.out.size)⟩
       |true=>
        go_upto_region 22 with(go_at_call 72;go_must (refine f3.out.mono ?_;rintro e w3 ⟨he,b7⟩;obtain rfl:e=.returned (.bool false):=he))
        have e9:=Ja (a6.out.trans (b7.mono a6.out.size));have c9:=zH b7 e7.out (lt_of_block e7.out);have e8:=Ja (Jb c9 (lt_of_block c9));clear b7 c9 e0 e1 e2 z0 z1 z2 z3 z4 z5 zl a5;go_wp2
        go_loopw [8] (fun jv wx=>∃j:Nat,j<=k/\jv=A j/\Hid (F w3 wx/\lF o (p.data.take j)=true)) (fun jv _=>k-(intOf jv).toNat)
        case atStart=>exact⟨0,Jt _,rfl,Ja ⟨Below.refl _ _,by simp[lF]⟩⟩
        case round=>
         obtain⟨j,hj,rfl,HJ⟩:=hrel;have c8:=e9.out.trans (HJ.out.1.mono e9.out.size);obtain⟨⟨z0,z1,z2,z3,z4,z5⟩,zl⟩:=HC.out _ c8;have b9:=Ja (t.out.trans (c8.mono t.out.size));have b6:=zH HJ.out.1 e8.out.1 e8.out.2;have e0:=K0 b6;have e1:=K1 b6;have e2:=K2 b6;have a5:=lt_of_block b6;have i0:=Ja c8;clear c8 b6
         by_cases c7:j<k
         ·skip
          have f6:(j:Int)<(k:Int):=Zo;have a7:=Ja c7;have e5:j<p.data.length:=by have:=a0.out;omega
          have i6:(j:Int)<(p.data.length:Int):=Zo;obtain⟨x,hx⟩:∃x,p.data[j]? =some x:=⟨_,Jd e5⟩
          have HX:=Ja (show(p.data.take k)[j]? =some x by rw[Ug,if_pos c7];exact hx);have h4:=Ja hx;obtain⟨b',o',eb,g,c0,c1,c2,i5,j2,j0⟩:=HP.out.data.get hx;cases eb;have c0:=zV b9.out g c0;have c1:=zV b9.out g c1;have c2:=zV b9.out g c2;have b5:bb<wr.heap.size:=Jw _ _ c0;have h7:=Ja (show uK o x=true->res=37 from fun h=>f4.out (by rw[d5.out,show lF o (p.data.take k)=false from by unfold lF;exact aaN _ HX.out (by rw[h];rfl),Uh]))
          have d6:=Ja (show uK o x=false->lF o (p.data.take (j+1))=true from fun h=>by
           have h2:=HJ.out.2;unfold lF at h2 ⊢;rw[aaL h4.out,h2,h]
           rfl)
          clear hx c7 e5 g z0 z1 z2 z3 z5;go_upto_region 26 with fail;have u:=zI (W:=wr) (o:=U #[A x.bank,I (x.addr:Int),I (x.size:Int)] 51) rfl;have a3:=(Below.refl wr.heap.size wr).alloc (Je _) (U #[A x.bank,I (x.addr:Int),I (x.size:Int)] 51);have d7:=Ja (HJ.out.1.trans (a3.mono HJ.out.1.size));have h9:=Ja (b9.out.trans (a3.mono b9.out.size));have e0:=zV a3 a5 e0;have e1:=zV a3 a5 e1;have e2:=zV a3 a5 e2;generalize wr.alloc (U #[A x.bank,I (x.addr:Int),I (x.size:Int)] 51)=W4 at *;generalize wr.heap.size=by_ at *;have g0:=K0 u;have g1:=K1 u;have g2:=K2 u;have i7:=lt_of_block u;have a5:bx<W4.heap.size:=Jw _ _ e0;clear u a3 c0 c1 c2 b5 z4 zl
          by_cases u1:o.bank=x.bank
          ·have i1:(o.bank==x.bank)=true:=by rw[beq_iff_eq];exact u1
           have f9:(o.bank !=x.bank)=false:=by rw[bne_eq_false_iff_eq];exact u1
           by_cases u2:o.addr+o.size<=x.addr
           ·have a4:=d6.out (by unfold uK;simp;omega);have b8:=Ja a4;have i2:(o.addr:Int)+(o.size:Int)<=(x.addr:Int):=Zo;clear a4 u1;go_wp2;go_roundw
            case rel=>exact⟨j+1,a7.out,by go_num,Ja ⟨d7.out,b8.out⟩⟩
            case measure=>have:=a7.out;simp[intOf];omega
           ·have i2:¬(o.addr:Int)+(o.size:Int)<=(x.addr:Int):=Zo
            by_cases u3:x.addr+x.size<=o.addr
            ·have a4:=d6.out (by unfold uK;simp;omega);have b8:=Ja a4;have i3:(x.addr:Int)+(x.size:Int)<=(o.addr:Int):=Zo;clear a4 u1;go_wp2;go_roundw
             case rel=>exact⟨j+1,a7.out,by go_num,Ja ⟨d7.out,b8.out⟩⟩
             case measure=>have:=a7.out;simp[intOf];omega
            ·have i3:¬(x.addr:Int)+(x.size:Int)<=(o.addr:Int):=Zo;have hr:=h7.out (by unfold uK;simp;omega);subst hr;clear u1;go_wp2;go_ret;exact⟨rfl,h9.out⟩
          ·have i1:(o.bank==x.bank)=false:=by rw[beq_eq_false_iff_ne];exact u1
           have f9:(o.bank !=x.bank)=true:=by rw[bne_iff_ne];exact u1
           have a4:=d6.out (by unfold uK;simp[u1]);have b8:=Ja a4;clear a4;go_wp2;go_roundw
           case rel=>exact⟨j+1,a7.out,by go_num,Ja ⟨d7.out,b8.out⟩⟩
           case measure=>have:=a7.out;simp[intOf];omega
         ·skip
          obtain rfl:j=k:=by omega
          have f6:¬(j:Int)<(j:Int):=Zo;have h6:=Ja (show lm p.banks.length p.data j=true by rw[d5.out,f0.out,HJ.out.2];rfl);clear c7;go_wp2;go_roundw
          case rel=>exact⟨j+1,a0.out,by go_num,Ja ⟨i0.out,fun i hi=>by
           by_cases e:i=j
           ·subst e;exact h6.out
           ·exact l.out.2 i Zo⟩⟩
          case measure=>have:=a0.out;simp[intOf];omega
      ·skip
       obtain rfl:k=p.data.length:=by omega
       have b3:¬(p.data.length:Int)<p.data.length:=Zo;have hr:=c.out.symm.trans (H3.out.trans (if_neg (by unfold wB;rw[H4.out,Bool.true_and,Bool.not_eq_false];unfold ig;exact Oe.2 fun j hj=>l.out.2 j (Ol.1 hj))));subst hr;clear d;go_wp2;go_ret;exact⟨rfl,m.out⟩
structure FnB (w W:World) (pb fb:Array Value):Prop where
 bel:Below w.heap.size w W
 pbx:W.heap[w.heap.size]? =some (.cells pb 29 (0,0))
 fbx:W.heap[w.heap.size+1]? =some (.cells fb 43 (0,0))
theorem FnB.below{W W':World}{pb fb:Array Value}(h:FnB w W pb fb)(hb:F W W'):FnB w W' pb fb:=
 ⟨h.bel.trans (hb.mono h.bel.size),zH hb h.pbx (lt_of_block h.pbx),zH hb h.fbx (lt_of_block h.fbx)⟩
def GoodB (p:IProg)(blocks:List IBlk)(b:IBlk):Prop:=(∀o∈b.ops,opF p o=true)/\wn blocks b.term=true
theorem aaw {a b:Bool}(h:b=a):Ending.returned (.bool a)=.returned (.bool b):=by rw[h]
theorem ci{p:IProg}{l:List IOp}(h:l[k]? =some o)(d:∀x∈l.take k,opF p x=true)(ho:opF p o=true):∀x∈l.take (k+1),opF p x=true:=by
 intro x c;rw[Nh,h,Option.toList] at c;rcases Jl.1 c with c|c
 ·exact d x c
 ·rw[Jo.1 c];exact ho
theorem endF_ops{d:wO}{g:List (List Nat)}{b:IBlk}{i:Nat}(ho:b.ops[k]? =some o)(h:(rR o).all (yy d g i (k:Int))=false):aau d g b i=false:=by
 unfold aau aaC;rw[oA ho h];simp
theorem bZ{V:PV}{p:IProg}(hp:ProgIn w w.heap.size V p)(hl:p.args.length=p.funcs.length)(ha:p.args.all tX=true)(hs:∀f∈p.funcs,vZ f){n:Nat}(hn:n<p.funcs.length):
 Y 49 #[yH V p,A n] w (ym w (yi p n)):=by
 have HP:=Ja (show ProgIn w w.heap.size V p/\p.args.length=p.funcs.length/\p.args.all tX=true/\∀f∈p.funcs,vZ f from⟨hp,hl,ha,hs⟩);obtain⟨Vf,Va,Vd,Vb⟩:=V;obtain⟨f1,f2,e1,t4,j3⟩:=hp.funcs.form;have l4:=hp.funcs;have l5:=hp.args;obtain⟨a1,a2,e2,i4,i3⟩:=hp.args.form;obtain⟨d1,d2,e3,t6,j4⟩:=hp.data.form;obtain⟨b1,b2,e4,t8,t7⟩:=hp.banks.form;simp only at e1 e2 e3 e4 l4 l5;subst e1 e2 e3 e4;have x1:p.funcs.length<=9223372036854775807:=Zo;have x2:p.args.length<=9223372036854775807:=Zo;obtain⟨blocks,j5⟩:∃bl,p.funcs[n]? =some bl:=⟨_,Jd hn⟩
 obtain⟨x,hx⟩:∃x,p.args[n]? =some x:=⟨_,Jd Zo⟩
 obtain⟨fb,fo,rfl,r,bv,j0,m2⟩:=l4.get j5;obtain⟨ab,ao,rfl,q3,j1,u6⟩:=l5.get hx;rw[Nk] at j0 j1;obtain⟨ba,bc,rfl,s3,s2⟩:=m2.form;have v0:blocks.length<=9223372036854775807:=Zo;unfold yH;simp only;obtain⟨res,i6⟩:∃x,yi p n=x:=⟨_,rfl⟩
 rw[i6];have m5:=Ja i6;have t:=Ja (show p.funcs[n]? =some blocks/\wX w w.heap.size (.slice ba blocks.length bc) blocks/\vZ blocks/\p.args[n]? =some x from⟨j5,m2,hs _ (Ji j5),hx⟩);have m3:F w (w.alloc (U (R p (some ⟨fb,fo,none⟩) f2 (some ⟨ab,ao,none⟩) a2 d1 d2 b1 b2) 29)):=(Below.refl _ _).alloc (Je _) _;have cf:=zV m3 r j0;have w9:(n:Int)<p.funcs.length:=Zo;have x0:(n:Int)<p.args.length:=Zo;have s1:=Ja (show ab<w.heap.size/\G w ab (ao+n) (A x) from⟨q3,j1⟩);have l0:=zI (W:=w) (o:=U (R p (some ⟨fb,fo,none⟩) f2 (some ⟨ab,ao,none⟩) a2 d1 d2 b1 b2) 29) rfl;have n7:(w.alloc (U (R p (some ⟨fb,fo,none⟩) f2 (some ⟨ab,ao,none⟩) a2 d1 d2 b1 b2) 29)).heap.size=w.heap.size+1:=by simp
 clear hp l4 l5 hl ha hs hn t4 j3 i4 i3 t6 j4 t8 t7 j5 hx i6 m2 s3 s2 j0 j1 r q3;go_enter Try.func49,Try.ntmps49;go_upto_region 1 with fail;generalize u1:w.alloc (U (R p (some ⟨fb,fo,none⟩) f2 (some ⟨ab,ao,none⟩) a2 d1 d2 b1 b2) 29)=WP at *;have p0:=K0 l0;have p6:F w (WP.alloc (U #[.slice ba blocks.length bc] 43)):=m3.alloc Zo _;have k7:=zB (o:=U #[.slice ba blocks.length bc] 43) l0;have l1:L (WP.alloc (U #[.slice ba blocks.length bc] 43)) (w.heap.size+1) #[.slice ba blocks.length bc] 43:=zI n7;clear u1 m3 l0;go_upto_region 2 with fail;generalize u2:WP.alloc (U #[.slice ba blocks.length bc] 43)=WF at *;have q0:=K0 l1;have f3:=Ja (show FnB w WF (R p (some ⟨fb,fo,none⟩) f2 (some ⟨ab,ao,none⟩) a2 d1 d2 b1 b2) #[.slice ba blocks.length bc] from⟨p6,k7,l1⟩);clear u2 n7 p0 cf p6 k7 l1;rcases lp blocks with c7|⟨b0,bs,c7⟩
 ·have hr:res=true:=by rw[<-m5.out];exact dy (by rw[t.out.1,c7])
  have t0:((blocks.length:Int)==0)=true:=by rw[c7];rfl
  clear c7;go_wp2;go_ret;exact⟨aaw hr,f3.out.bel⟩
 ·have t0:((blocks.length:Int)==0)=false:=by rw[beq_eq_false_iff_ne,c7,Nq];omega
  have s0:=Ja c7;have u8:(0:Int)<blocks.length:=by rw[c7,Nq];omega
  have h0:blocks[0]? =some b0:=by rw[c7];rfl
  obtain⟨kb,ko,rfl,o6,_,_,_,pv,ov,tv,b6,_,_,b5,_,_⟩:=t.out.2.1.get h0;obtain⟨pa,pc,rfl,e8,e7⟩:=b5.form;have u9:b0.params.length<=9223372036854775807:=Zo;obtain⟨qe,l3⟩:∃q,decide ((b0.params.length:Int)=x)=q:=⟨_,rfl⟩
  have t1:((b0.params.length:Int) !=x)=!qe:=by rw[bne,vg l3]
  have l8:yi p n=(qe && ((wg p blocks).map (iM blocks)).getD false):=by
   rw[cJ t.out.1 (by rw[c7];simp),Jj,t.out.2.2.2,Ot,show xz blocks 0=b0 by rw[c7];rfl,l3]
  rw[m5.out] at l8;have m7:=Ja l8;have p0:=K0 f3.out.pbx;have p1:=K1 f3.out.pbx;have c2:G WF kb ko (.slice pa b0.params.length pc):=by have:=zV f3.out.bel o6 b6;simpa using this
  have c3:G WF ab (ao+n) (A x):=zV f3.out.bel s1.out.1 s1.out.2;clear l3 l8 c7 h0 o6 b6 b5 e8 e7;go_upto_region 4 with fail
  go_cut [39] (fun s wx=>s=.bool (!qe)/\∃n,wx=WF.drewN n)
  case first=>
   go_quiet (fail);go_wp2;go_meet;exact⟨rfl,_,rfl⟩
  case rest=>
  obtain⟨rfl,nq,rfl⟩:=hcut;have r5:=Ja (f3.out.below (yC (k:=nq) (Below.refl _ _)));clear q0 p0 p1 c2 c3;generalize WF.drewN nq=W1 at *
  cases qe with
  |false=>
   go_wp2;go_ret
   exact⟨aaw m7.out,r5.out.bel⟩
  |true=>
  have k3:=Ja (show res=((wg p blocks).map (iM blocks)).getD false from m7.out);clear t1 m7;go_wp2
  go_loopw [6] (fun iv wx=>∃i:Nat,i<=blocks.length/\iv=A i/\Hid (FnB w wx (R p (some ⟨fb,fo,none⟩) f2 (some ⟨ab,ao,none⟩) a2 d1 d2 b1 b2) #[.slice (some ⟨kb,ko,none⟩) blocks.length bc]/\∀b∈blocks.take i,GoodB p blocks b)) (fun iv _=>blocks.length-(intOf iv).toNat)
  case atStart=>exact⟨0,Jt _,rfl,Ja ⟨r5.out,fun b hb=>by simp at hb⟩⟩
  case round=>
   obtain⟨i,hi,rfl,HI⟩:=hrel;have q0:=K0 HI.out.1.fbx
   by_cases d3:i<blocks.length
   ·have f5:(i:Int)<blocks.length:=Zo;have c9:=Ja d3;obtain⟨bx,a0⟩:∃bx,blocks[i]? =some bx:=⟨_,Jd d3⟩
    obtain⟨b',o',e',r,e5,d9,b8,n4,ov2,n3,b6,d8,d7,b5,b7,b4⟩:=t.out.2.1.get a0;cases e';obtain⟨b3,a7,rfl,e8,e7⟩:=b5.form;obtain⟨oa,oc,rfl,h9,h8⟩:=b7.form;obtain⟨ta,tc,rfl,f9,f8⟩:=b4.form;have o1:bx.ops.length<=9223372036854775807:=Zo;have c:=HI.out.1.bel;have e0:=zV c r b6;have e1:=zV c r d8;have e2:=zV c r e5;have e3:=zV c r d9;have e4:=zV c r d7;have u:=Ja (show blocks[i]? =some bx/\mN w w.heap.size (.slice oa bx.ops.length oc) bx.ops/\wH w w.heap.size (.slice ta bx.term.to.length tc) bx.term.to/\(I64 bx.term.kind/\I64 bx.term.a)/\(bx.params.length<=2000000/\bx.ops.length<=2000000/\bx.term.to.length<=2000000) from⟨a0,b7,b4,b8,t.out.2.2.1.2 bx (Ji a0)⟩);have f7:=zI (W:=wr) (o:=U #[.slice b3 bx.params.length a7,.slice oa bx.ops.length oc,A bx.term.kind,A bx.term.a,.slice ta bx.term.to.length tc] 49) rfl;have i2:=HI.out.1.below ((Below.refl wr.heap.size wr).alloc (Je _) (U #[.slice b3 bx.params.length a7,.slice oa bx.ops.length oc,A bx.term.kind,A bx.term.a,.slice ta bx.term.to.length tc] 49));clear a0 e5 d9 b8 b6 d8 d7 b5 b7 b4 e8 e7 h9 h8 f9 f8 c r d3;go_upto_region 10 with fail;generalize wr.alloc (U #[.slice b3 bx.params.length a7,.slice oa bx.ops.length oc,A bx.term.kind,A bx.term.a,.slice ta bx.term.to.length tc] 49)=W9 at *;generalize wr.heap.size=b9 at *;have H9:=Ja (Jb i2 f7);clear f7 i2 e0 e1 e2 e3 e4;go_wp2
    go_loopw [8] (fun kv wx=>∃k:Nat,k<=bx.ops.length/\kv=A k/\Hid ((FnB w wx (R p (some ⟨fb,fo,none⟩) f2 (some ⟨ab,ao,none⟩) a2 d1 d2 b1 b2) #[.slice (some ⟨kb,ko,none⟩) blocks.length bc]/\L wx b9 #[.slice b3 bx.params.length a7,.slice oa bx.ops.length oc,A bx.term.kind,A bx.term.a,.slice ta bx.term.to.length tc] 49)/\∀o∈bx.ops.take k,opF p o=true)) (fun kv _=>bx.ops.length-(intOf kv).toNat)
    case atStart=>exact⟨0,Jt _,rfl,Ja ⟨H9.out,fun o ho=>by simp at ho⟩⟩
    case round=>
     obtain⟨k,hk,rfl,m⟩:=hrel;have z1:=K1 m.out.1.2
     by_cases a6:k<bx.ops.length
     ·have f4:(k:Int)<bx.ops.length:=Zo;have d0:=Ja a6;obtain⟨o,ho⟩:∃o,bx.ops[k]? =some o:=⟨_,Jd a6⟩
      obtain⟨qb,qo,rfl,a4,h7,h6,h5,h4,g9,i7,av,g6,f0⟩:=u.out.2.1.get ho;obtain⟨aa,ac,rfl,i4,i3⟩:=f0.form;have c:=m.out.1.1.bel;have c0:=zV c a4 h7;have c1:=zV c a4 h6;have c2:=zV c a4 h5;have c3:=zV c a4 h4;have c4:=zV c a4 g9;have c5:=zV c a4 g6;have g0:=K0 m.out.1.1.pbx;have g1:=K1 m.out.1.1.pbx;have g2:=K2 m.out.1.1.pbx;have g3:=K3 m.out.1.1.pbx;have g4:=K4 m.out.1.1.pbx;have g5:=K5 m.out.1.1.pbx;obtain⟨q,hq⟩:∃q,opF p o=q:=⟨_,rfl⟩
      have j3:Y 73 #[.agg (R p (some ⟨fb,fo,none⟩) f2 (some ⟨ab,ao,none⟩) a2 d1 d2 b1 b2),.agg (D o aa ac)] wr.drew (ym wr.drew q):=by
       rw[<-hq];have hb:=c.drew;exact formed_q ((HP.out.1.below hb).mono hb.size) HP.out.2.1 o ((f0.below zO hb).mono zO hb.size)
      have r4:=Ja j3;have HO:=Ja (Jb ho hq);have k6:=Ja ((Below.refl wr.heap.size wr).drew);clear ho hq h7 h6 h5 h4 g9 g6 f0 i4 i3 c a6 j3;go_upto_region 13 with fail;refine zt 6 Zk Zk ?_;simp only[Qo,Uc,Qp,Ui]
      repeat (go_big_quiet_step (fail))
      refine wpQuiet_nil ?_;clear z1 c0 c1 c2 c3 c4 c5 g0 g1 g2 g3 g4 g5 q0
      cases q with
      |false=>
       go_wp2_with (first|(go_at_call 73;go_must (refine r4.out.mono ?_;rintro e w3 ⟨rfl,a3⟩))|go_in)
       go_ret;refine⟨aaw ?_,(m.out.1.1.below (k6.out.trans (a3.mono k6.out.size))).bel⟩;rw[k3.out,dg (fun h=>by have:=(h bx (Ji u.out.1)).1 o (Ji HO.out.1);rw[HO.out.2] at this;cases this)]
       rfl
      |true=>
       go_wp2_with (first|(go_at_call 73;go_must (refine r4.out.mono ?_;rintro e w3 ⟨rfl,a3⟩))|go_in)
       have c8:=k6.out.trans (a3.mono k6.out.size);have HN:=Ja (Jb (Jb (m.out.1.1.below c8) (zH c8 m.out.1.2 (lt_of_block m.out.1.2))) (ci HO.out.1 m.out.2 HO.out.2));clear a3 c8;go_roundw
       case rel=>first|exact⟨k+1,d0.out,by go_num,HN⟩|((repeat apply Exists.intro);exact⟨⟨k+1,d0.out,by go_num,HN⟩,rfl⟩)
       case measure=>have:=d0.out;simp[intOf];omega
     ·obtain rfl:k=bx.ops.length:=by omega
      have f4:¬(bx.ops.length:Int)<bx.ops.length:=Zo;have d4:=m.out.2;rw[Nl] at d4;have s4:=Ja d4;have q1:=K0 m.out.1.1.fbx;have z2:=K2 m.out.1.2;have z3:=K3 m.out.1.2;have z4:=K4 m.out.1.2;obtain⟨q,hq⟩:∃q,wn blocks bx.term=q:=⟨_,rfl⟩
      have i0:Y 74 #[.agg #[.slice (some ⟨kb,ko,none⟩) blocks.length bc],.agg #[A bx.term.kind,A bx.term.a,.slice ta bx.term.to.length tc]] wr (ym wr q):=by
       rw[<-hq];have hb:=m.out.1.1.bel;exact ended_q ((t.out.2.1.below yT hb).mono yT hb.size) bx.term ((u.out.2.2.1.below xL hb).mono xL hb.size)
      have k5:=Ja i0;have HQ:=Ja hq;clear d4 a6 hq i0 q0
      cases q with
      |false=>
       go_wp2_with (first|(go_at_call 74;go_must (refine k5.out.mono ?_;rintro e w3 ⟨rfl,a3⟩))|go_in)
       go_ret;refine⟨aaw ?_,(m.out.1.1.below a3).bel⟩;rw[k3.out,dg (fun h=>by have:=(h bx (Ji u.out.1)).2;rw[HQ.out] at this;cases this)]
       rfl
      |true=>
       go_wp2_with (first|(go_at_call 74;go_must (refine k5.out.mono ?_;rintro e w3 ⟨rfl,a3⟩))|go_in)
       have HN:=Ja (show FnB w w3 (R p (some ⟨fb,fo,none⟩) f2 (some ⟨ab,ao,none⟩) a2 d1 d2 b1 b2) #[.slice (some ⟨kb,ko,none⟩) blocks.length bc]/\∀b∈blocks.take (i+1),GoodB p blocks b from⟨m.out.1.1.below a3,fun b hb=>by
        rw[Nh,u.out.1,Option.toList] at hb;rcases Jl.1 hb with hb|hb
        ·exact HI.out.2 b hb
        ·rw[Jo.1 hb];exact⟨s4.out,HQ.out⟩⟩)
       clear a3 z1 z2 z3 z4 q1;go_roundw
       case rel=>first|exact⟨i+1,c9.out,by go_num,HN⟩|((repeat apply Exists.intro);exact⟨⟨i+1,c9.out,by go_num,HN⟩,rfl⟩)
       case measure=>have:=c9.out;simp[intOf];omega
   ·obtain rfl:i=blocks.length:=by omega
    have f5:¬(blocks.length:Int)<blocks.length:=Zo;have e9:=HI.out.2;rw[Nl] at e9;have n6:=bE (p:=p) (blocks:=blocks) e9;have c:=HI.out.1.bel;have i1:=defs_q ((t.out.2.1.below yT c).mono yT c.size) t.out.2.2.1 (fun b hb o ho=>ct ((e9 b hb).1 o ho));have n0:=Ja i1;have d5:=Ja (Jb e9 n6);clear d3 e9 n6 i1 c;go_upto_region 20 with(first|(go_at_call 75;go_must (refine n0.out.mono ?_;rintro e w5 ⟨dv,ok,xs,rfl,e6,m1,p5⟩))|go_in)
    have n1:=Ja (Jb e6 (Jb m1 p5));have i5:=HI.out.1.below e6;have u4:=Ja i5;have q5:=K0 i5.fbx;have o9:=kn (t.out.2.1.below yT i5.bel) i5.bel.size t.out.2.2.1;have HG:=Ja o9;obtain⟨da,dc,rfl,_,_⟩:=m1.form;clear e6 m1 p5 i5 o9 q0;have j4:∀W sv,pV W w5.heap.size sv (zk blocks)->Y 76 #[.agg #[sv]] W (aar W (fe (zy blocks))):=fun W sv h=>doms_any (graph_q t.out.2.2.1 (by rw[s0.out];simp) (fun b hb=>(d5.out.1 b hb).2) h)
    have u5:=Ja j4;clear j4;go_upto_region 21 with(first|(go_at_call 39;go_must (refine HG.out.mono ?_;rintro e w6 ⟨ga,gn,gc,rfl,p2,m4⟩))|(go_at_call 76;go_must (refine(u5.out _ _ p2).mono ?_;rintro e w7 ⟨mv,rfl,l6,q2⟩))|go_in)
    obtain⟨ma,mc,rfl,s7⟩:=l6.form;have f6:=m4.trans (q2.mono m4.size);have q8:=u4.out.below f6;have m0:=(n1.out.2.1.below aa5 f6).mono aa5 f6.size;have k1:(fe (zy blocks)).length=blocks.length:=by unfold fe;rw[Nr,Un,xu]
    have q4:=nO (blocks:=blocks) (by rw[s0.out];simp) (fun b hb=>(d5.out.1 b hb).2);have H7:=Ja (Jb q8 (Jb m0 (Jb l6 q4)));clear p2 m4 l6 q2 f6 q8 m0 s7 q4 q5
    cases ok with
    |false=>
     have o2:res=false:=by
      rcases n1.out.2.2 with⟨d,_,h,_⟩|⟨h,_⟩
      ·cases h
      ·rw[k3.out,d5.out.2,h];rfl
     have u3:=Ja o2;clear o2;go_wp2
     go_loopw [14] (fun iv wx=>∃i:Nat,i<blocks.length/\iv=A i/\Hid (FnB w wx (R p (some ⟨fb,fo,none⟩) f2 (some ⟨ab,ao,none⟩) a2 d1 d2 b1 b2) #[.slice (some ⟨kb,ko,none⟩) blocks.length bc])) (fun iv _=>0)
     case atStart=>exact⟨0,by omega,rfl,Ja H7.out.1⟩
     case round=>
      obtain⟨i,hi,rfl,a5⟩:=hrel;have q0:=K0 a5.out.fbx;have f5:(i:Int)<blocks.length:=Zo;obtain⟨bx,a0⟩:∃bx,blocks[i]? =some bx:=⟨_,Jd hi⟩
      obtain⟨b',o',e',r,e5,d9,b8,n4,ov2,n3,b6,d8,d7,b5,b7,b4⟩:=t.out.2.1.get a0;cases e';obtain⟨b3,a7,rfl,e8,e7⟩:=b5.form;obtain⟨oa,oc,rfl,h9,h8⟩:=b7.form;obtain⟨ta,tc,rfl,f9,f8⟩:=b4.form;have o1:bx.ops.length<=9223372036854775807:=Zo;have c:=a5.out.bel;have e0:=zV c r b6;have e1:=zV c r d8;have e2:=zV c r e5;have e3:=zV c r d9;have e4:=zV c r d7;have u:=Ja (show blocks[i]? =some bx/\mN w w.heap.size (.slice oa bx.ops.length oc) bx.ops/\wH w w.heap.size (.slice ta bx.term.to.length tc) bx.term.to/\(I64 bx.term.kind/\I64 bx.term.a)/\(bx.params.length<=2000000/\bx.ops.length<=2000000/\bx.term.to.length<=2000000) from⟨a0,b7,b4,b8,t.out.2.2.1.2 bx (Ji a0)⟩);clear a0 e5 d9 b8 b6 d8 d7 b5 b7 b4 e8 e7 h9 h8 f9 f8 c r;go_wp2;go_ret
      exact⟨aaw u3.out,(a5.out.bel).alloc a5.out.bel.size _⟩
    |true=>
     obtain⟨d,hd,p4⟩:∃d,dD blocks 0 aaZ=some d/\dE xs blocks.length d:=by
      rcases n1.out.2.2 with⟨d,h1,_,h2⟩|⟨_,h⟩
      ·exact⟨d,h1,h2⟩
      ·cases h
     have k4:=Ja (show res=iM blocks d from by rw[k3.out,d5.out.2,hd];rfl);have r6:=Ja (show dE xs (zy blocks).length d from by rw[xu];exact p4);obtain⟨g,hg⟩:∃g,zy blocks=g:=⟨_,rfl⟩
     have p3:g.length=blocks.length:=by rw[<-hg,xu]
     rw[hg] at H7 r6 k1 ⊢;have y:=Ja (Jb hg p3)
     have o5:∀(i:Nat) (k:Int) W lv l,i<blocks.length->F w7 W->zY W W.heap.size lv l->Y 77 #[lv,A i,A k,.slice da xs.length dc,.slice ma (fe g).length mc] W (ym W (l.all (yy d g i k))):=fun i k W lv l hi hb hl=>
      known_q hl ((H7.out.2.1.below aa5 hb).mono aa5 hb.size) ((H7.out.2.2.1.below hb).mono hb.size) r6.out (by rw[y.out.2];exact k1) dj (by rw[y.out.2];exact hi) (by rw[y.out.2];exact t.out.2.2.1.1)
     have r3:=Ja o5;clear hd p4 hg p3 o5;generalize q7:(fe g).length=ML at *;have v1:=Ja (Jb k1 q7);have x5:(0:Int)<ML:=Zo;have x4:0<ML:=Zo;have x3:ML<=9223372036854775807:=Zo;clear k1 q7;go_wp2
     go_loopw [14] (fun iv wx=>∃i:Nat,i<=blocks.length/\iv=A i/\Hid (FnB w wx (R p (some ⟨fb,fo,none⟩) f2 (some ⟨ab,ao,none⟩) a2 d1 d2 b1 b2) #[.slice (some ⟨kb,ko,none⟩) blocks.length bc]/\F w7 wx/\∀j b,j<i->blocks[j]? =some b->aau d g b j=true)) (fun iv _=>blocks.length-(intOf iv).toNat)
     case atStart=>exact⟨0,Jt _,rfl,Ja ⟨H7.out.1,Below.refl _ _,fun j b hj=>by omega⟩⟩
     case round=>
      obtain⟨i,hi,rfl,a5⟩:=hrel;have q0:=K0 a5.out.1.fbx
      by_cases d3:i<blocks.length
      ·have f5:(i:Int)<blocks.length:=Zo;have c9:=Ja d3;obtain⟨bx,a0⟩:∃bx,blocks[i]? =some bx:=⟨_,Jd d3⟩
       obtain⟨b',o',e',r,e5,d9,b8,n4,ov2,n3,b6,d8,d7,b5,b7,b4⟩:=t.out.2.1.get a0;cases e';obtain⟨b3,a7,rfl,e8,e7⟩:=b5.form;obtain⟨oa,oc,rfl,h9,h8⟩:=b7.form;obtain⟨ta,tc,rfl,f9,f8⟩:=b4.form;have o1:bx.ops.length<=9223372036854775807:=Zo;have c:=a5.out.1.bel;have e0:=zV c r b6;have e1:=zV c r d8;have e2:=zV c r e5;have e3:=zV c r d9;have e4:=zV c r d7;have u:=Ja (show blocks[i]? =some bx/\mN w w.heap.size (.slice oa bx.ops.length oc) bx.ops/\wH w w.heap.size (.slice ta bx.term.to.length tc) bx.term.to/\(I64 bx.term.kind/\I64 bx.term.a)/\(bx.params.length<=2000000/\bx.ops.length<=2000000/\bx.term.to.length<=2000000) from⟨a0,b7,b4,b8,t.out.2.2.1.2 bx (Ji a0)⟩);have f7:=zI (W:=wr) (o:=U #[.slice b3 bx.params.length a7,.slice oa bx.ops.length oc,A bx.term.kind,A bx.term.a,.slice ta bx.term.to.length tc] 49) rfl;have i2:=a5.out.1.below ((Below.refl wr.heap.size wr).alloc (Je _) (U #[.slice b3 bx.params.length a7,.slice oa bx.ops.length oc,A bx.term.kind,A bx.term.a,.slice ta bx.term.to.length tc] 49));clear a0 e5 d9 b8 b6 d8 d7 b5 b7 b4 e8 e7 h9 h8 f9 f8 c r;have k2:=a5.out.2.1.alloc a5.out.2.1.size (U #[.slice b3 bx.params.length a7,.slice oa bx.ops.length oc,A bx.term.kind,A bx.term.a,.slice ta bx.term.to.length tc] 49);go_upto_region 25 with fail;generalize wr.alloc (U #[.slice b3 bx.params.length a7,.slice oa bx.ops.length oc,A bx.term.kind,A bx.term.a,.slice ta bx.term.to.length tc] 49)=W9 at *;generalize wr.heap.size=b9 at *;obtain⟨r0,o0,l2,n9⟩:=dj (g:=g) 0 (by rw[y.out.2];omega);have q6:aaB uo W9 W9.heap.size (.slice ma ML mc) (fe g):=by have:=(H7.out.2.2.1.below k2).mono k2.size;exact this
       obtain⟨mb,mo,ra,rc,rfl,s8,o3,s5,n8⟩:=q6.row o0;obtain⟨rb,ro,rfl,s6,l7⟩:=n8 i _ (n9 i (by rw[y.out.2];exact c9.out));obtain⟨q,hq⟩:∃q,wE g 0 i=q:=⟨_,rfl⟩
       rw[hq] at l7;unfold uo at l7;rw[Uk] at o3;have w8:(i:Int)<r0.length:=by rw[l2,y.out.2];omega
       have hrl:r0.length<=9223372036854775807:=by rw[l2,y.out.2];omega
       have H9:=Ja (Jb i2 (Jb f7 k2));have HQ:=Ja hq;clear f7 i2 e0 e1 e2 e3 e4 k2 o0 l2 n9 q6 s8 s5 n8 s6 hq d3 q0
       cases q with
       |false=>
        go_wp2;go_ret;refine⟨aaw ?_,H9.out.1.bel⟩;rw[k4.out];have hv:=H7.out.2.2.2
        exact dz (by rw[y.out.1];exact hv) u.out.1 (by unfold aau;rw[y.out.1,HQ.out];rfl)
       |true=>
        go_upto_region 27 with fail;clear o3 l7;go_wp2
        go_loopw [16] (fun kv wx=>∃k:Nat,k<=bx.ops.length/\kv=A k/\Hid ((FnB w wx (R p (some ⟨fb,fo,none⟩) f2 (some ⟨ab,ao,none⟩) a2 d1 d2 b1 b2) #[.slice (some ⟨kb,ko,none⟩) blocks.length bc]/\L wx b9 #[.slice b3 bx.params.length a7,.slice oa bx.ops.length oc,A bx.term.kind,A bx.term.a,.slice ta bx.term.to.length tc] 49/\F w7 wx)/\∀j o,j<k->bx.ops[j]? =some o->(rR o).all (yy d g i (0+(j:Int)))=true)) (fun kv _=>bx.ops.length-(intOf kv).toNat)
        case atStart=>exact⟨0,Jt _,rfl,Ja ⟨H9.out,fun j o hj=>by omega⟩⟩
        case round=>
         obtain⟨k,hk,rfl,m⟩:=hrel;have z1:=K1 m.out.1.2.1
         by_cases a6:k<bx.ops.length
         ·have f4:(k:Int)<bx.ops.length:=Zo;have d0:=Ja a6;obtain⟨o,ho⟩:∃o,bx.ops[k]? =some o:=⟨_,Jd a6⟩
          obtain⟨qb,qo,rfl,a4,h7,h6,h5,h4,g9,i7,av,g6,f0⟩:=u.out.2.1.get ho;obtain⟨aa,ac,rfl,i4,i3⟩:=f0.form;have c:=m.out.1.1.bel;have c0:=zV c a4 h7;have c1:=zV c a4 h6;have c2:=zV c a4 h5;have c3:=zV c a4 h4;have c4:=zV c a4 g9;have c5:=zV c a4 g6;have n5:=uses_q o i7 c.size (f0.below zO c) (aU HP.out.2.2.1 ((d5.out.1 bx (Ji u.out.1)).1 o (Ji ho)));have q9:=Ja n5;have HO:=Ja ho;obtain⟨q,hq⟩:∃q,(rR o).all (yy d g i (k:Int))=q:=⟨_,rfl⟩
          have m6:=Ja hq;clear n5 ho hq h7 h6 h5 h4 g9 g6 f0 i4 i3 c a6 i7
          have o4:∀W lv,F wr W->zY W W.heap.size lv (rR o)->Y 77 #[lv,A i,A k,.slice da xs.length dc,.slice (some ⟨mb,mo,none⟩) ML mc] W (ym W q):=fun W lv hb hin=>by
           have:=r3.out i (k:Int) W lv _ c9.out (m.out.1.2.2.trans (hb.mono m.out.1.2.2.size)) hin
           rwa [m6.out] at this
          have r2:=Ja o4;clear o4
          cases q with
          |false=>
           go_wp2_with (first|(go_at_call 78;go_must (refine q9.out.mono ?_;rintro e wu ⟨uv,rfl,j2,d6⟩))|(go_at_call 77;go_must (refine(r2.out _ _ d6 j2).mono ?_;rintro e wd ⟨rfl,k0⟩))|go_in)
           go_ret;refine⟨aaw ?_,(m.out.1.1.below (d6.trans (k0.mono d6.size))).bel⟩;rw[k4.out];have hv:=H7.out.2.2.2;refine dz (by rw[y.out.1];exact hv) u.out.1 ?_;rw[y.out.1]
           exact endF_ops HO.out m6.out
          |true=>
           go_wp2_with (first|(go_at_call 78;go_must (refine q9.out.mono ?_;rintro e wu ⟨uv,rfl,j2,d6⟩))|(go_at_call 77;go_must (refine(r2.out _ _ d6 j2).mono ?_;rintro e wd ⟨rfl,k0⟩))|go_in)
           have c8:=d6.trans (k0.mono d6.size)
           have HN:=Ja (Jb (Jb (m.out.1.1.below c8) (Jb (zH c8 m.out.1.2.1 (lt_of_block m.out.1.2.1)) (m.out.1.2.2.trans (c8.mono m.out.1.2.2.size)))) (show ∀j o,j<k+1->bx.ops[j]? =some o->(rR o).all (yy d g i (0+(j:Int)))=true from fun j o' hj ho'=>by
            by_cases t2:j=k
            ·subst t2;rw[HO.out] at ho';cases ho';rw[Ub];exact m6.out
            ·exact m.out.2 j o' Zo ho'))
           clear d6 k0 j2 c8 z1;go_roundw
           case rel=>first|exact⟨k+1,d0.out,by go_num,HN⟩|((repeat apply Exists.intro);exact⟨⟨k+1,d0.out,by go_num,HN⟩,rfl⟩)
           case measure=>have:=d0.out;simp[intOf];omega
         ·obtain rfl:k=bx.ops.length:=by omega
          have f4:¬(bx.ops.length:Int)<bx.ops.length:=Zo;have z2:=K2 m.out.1.2.1;have z3:=K3 m.out.1.2.1;have z4:=K4 m.out.1.2.1;have l9:=lt_of_block m.out.1.2.1;have k9:=Below.refl wr.heap.size wr;have d4:xF d g i bx.ops 0=true:=(dF bx.ops 0).2 fun j o ho=>m.out.2 j o (Jh.1 ho).1 ho
          obtain⟨q,hq⟩:∃q,(mE bx.term).all (yy d g i bx.ops.length)=q:=⟨_,rfl⟩
          have i0:∀W,F wr W->Y 79 #[.agg #[A bx.term.kind,A bx.term.a,.slice ta bx.term.to.length tc]] W (wG W (mE bx.term)):=fun W hb=>by
           have c:=m.out.1.1.bel.trans (hb.mono m.out.1.1.bel.size);exact ends_q bx.term u.out.2.2.2.1 c.size (u.out.2.2.1.below xL c) ⟨u.out.2.2.2.2.2.2,lD t.out.2.2.1 (d5.out.1 bx (Ji u.out.1)).2⟩
          have i1:∀W lv,F wr W->zY W W.heap.size lv (mE bx.term)->Y 77 #[lv,A i,A (bx.ops.length:Int),.slice da xs.length dc,.slice (some ⟨mb,mo,none⟩) ML mc] W (ym W q):=fun W lv hb hin=>by
           have:=r3.out i (bx.ops.length:Int) W lv _ c9.out (m.out.1.2.2.trans (hb.mono m.out.1.2.2.size)) hin
           rwa [hq] at this
          have k5:=Ja i0;have n0:=Ja i1;have r1:=Ja (show aau d g bx i=q from by unfold aau aaC;rw[HQ.out,d4,hq];rfl);clear hq i0 i1 d4 a6;go_upto_region 33 with fail
          go_cut [18] (fun s wx=>s=.bool q/\Hid (F wr wx))
          case first=>
           go_region_held3 (fun w'=>G w' b9 1 (.slice oa bx.ops.length oc)/\G w' b9 2 (A bx.term.kind)/\G w' b9 3 (A bx.term.a)/\G w' b9 4 (.slice ta bx.term.to.length tc)/\F wr w')
            (first
              |(go_split_ands;refine⟨?_,?_,?_,?_,?_⟩<;>assumption)
              |(go_split_ands;refine⟨?_,?_,?_,?_,uG ?_⟩<;>assumption))
            (first
              |(go_at_call 79;go_must (refine(k5.out _ (by repeat' (first|assumption|(with_reducible refine Below.drew ?_)))).mono ?_;rintro e w2 ⟨ev,rfl,t5,u0⟩;have a3:Below wr.heap.size wr w2:=Below.trans (by repeat' (first|assumption|(with_reducible refine Below.drew ?_))) (u0.mono (Below.size (B:=wr.heap.size) (w:=wr) (by repeat' (first|assumption|(with_reducible refine Below.drew ?_)))));have v5:=zV a3 l9 z1;have v4:=zV a3 l9 z2;have v3:=zV a3 l9 z3;have v2:=zV a3 l9 z4))
              |(go_at_call 77;go_must (refine(n0.out _ _ (by repeat' (first|assumption|(with_reducible refine Below.drew ?_))) t5).mono ?_;rintro e w4 ⟨rfl,c8⟩;have e6:Below wr.heap.size wr w4:=Below.trans (by repeat' (first|assumption|(with_reducible refine Below.drew ?_))) (c8.mono (Below.size (B:=wr.heap.size) (w:=wr) (by repeat' (first|assumption|(with_reducible refine Below.drew ?_)))));have w1:=zV e6 l9 z1;have w0:=zV e6 l9 z2;have v9:=zV e6 l9 z3;have v6:=zV e6 l9 z4)))
           all_goals
            go_wp2_with fail;go_meet;exact⟨rfl,Ja (by repeat' (first|assumption|(with_reducible refine Below.drew ?_)))⟩
          case rest=>
           obtain⟨rfl,n2⟩:=hcut
           cases q with
           |false=>
            go_wp2;go_ret;refine⟨aaw ?_,(m.out.1.1.below n2.out).bel⟩;rw[k4.out];have hv:=H7.out.2.2.2
            exact dz (by rw[y.out.1];exact hv) u.out.1 (by rw[y.out.1];exact r1.out)
           |true=>
            have HN:=Ja (show FnB w wc (R p (some ⟨fb,fo,none⟩) f2 (some ⟨ab,ao,none⟩) a2 d1 d2 b1 b2) #[.slice (some ⟨kb,ko,none⟩) blocks.length bc]/\F w7 wc/\∀j b,j<i+1->blocks[j]? =some b->aau d g b j=true from
             ⟨m.out.1.1.below n2.out,m.out.1.2.2.trans (n2.out.mono m.out.1.2.2.size),fun j b hj hb=>by
               by_cases t3:j=i
               ·subst t3;rw[u.out.1] at hb;cases hb;exact r1.out
               ·exact a5.out.2.2 j b Zo hb⟩)
            clear z1 z2 z3 z4 l9 k9;go_wp2;go_roundw
            case rel=>first|exact⟨i+1,c9.out,by go_num,HN⟩|((repeat apply Exists.intro);exact⟨⟨i+1,c9.out,by go_num,HN⟩,rfl⟩)
            case measure=>have:=c9.out;simp[intOf];omega
      ·obtain rfl:i=blocks.length:=by omega
       have f5:¬(blocks.length:Int)<blocks.length:=Zo;clear d3;go_wp2;go_ret;refine⟨aaw ?_,a5.out.1.bel⟩;rw[k4.out];have hv:=H7.out.2.2.2;exact(bI (by rw[y.out.1];exact hv)).2 fun j b hb=>by rw[y.out.1];exact a5.out.2.2 j b (Jh.1 hb).1 hb
theorem ab0{V:PV}{p:IProg}(hp:ProgIn w w.heap.size V p)(hs:∀f∈p.funcs,vZ f):
 Y 21 #[yH V p] w (m9 w (vC p)):=by
 have d:∀W,F w W->Y 48 #[yH V p] W (m9 W (sR p)):=fun W hb=>hdr_q ((hp.below hb).mono hb.size)
 have j:∀W n,F w W->sR p=0->n<p.funcs.length->Y 49 #[yH V p,A n] W (ym W (yi p n)):=fun W n hb h0 hn=>by
  obtain⟨_,h1,h2,_⟩:=se h0;exact bZ ((hp.below hb).mono hb.size) h1 h2 hs hn
 obtain⟨Vf,Va,Vd,Vb⟩:=V;obtain⟨f1,f2,e1,_,_⟩:=hp.funcs.form;obtain⟨a1,a2,e2,_,_⟩:=hp.args.form;obtain⟨d1,d2,e3,_,_⟩:=hp.data.form;obtain⟨b1,b2,e4,_,_⟩:=hp.banks.form;simp only at e1 e2 e3 e4;subst e1 e2 e3 e4;have b5:p.funcs.length<=9223372036854775807:=Zo;unfold yH at d j ⊢;simp only at d j ⊢;have HH:=Ja d;have HF:=Ja j;have a7:F w (w.alloc (U (R p f1 f2 a1 a2 d1 d2 b1 b2) 29)):=(Below.refl _ _).alloc (Je _) _;have c:=zI (W:=w) (o:=U (R p f1 f2 a1 a2 d1 d2 b1 b2) 29) rfl;obtain⟨res,r⟩:∃x,vC p=x:=⟨_,rfl⟩
 rw[r];have t:=Ja r;obtain⟨eh,a3⟩:∃x,sR p=x:=⟨_,rfl⟩
 rw[a3] at HH;have m:=Ja a3;clear hp hs d j r a3;go_enter Try.func21,Try.ntmps21;go_upto_region 1 with fail;generalize b4:w.alloc (U (R p f1 f2 a1 a2 d1 d2 b1 b2) 29)=W0 at *;have y0:=K0 c;have y1:=K1 c;have y2:=K2 c;have y3:=K3 c;have y4:=K4 c;have y5:=K5 c;have H0:=Ja (show F w W0/\L W0 w.heap.size (R p f1 f2 a1 a2 d1 d2 b1 b2) 29 from⟨a7,c⟩);clear a7 c b4;go_upto_region 2 with(first|(go_at_call 48;go_must (refine(HH.out _ H0.out.1).mono ?_;rintro e w1 ⟨rfl,a4⟩))|go_in)
 have l:=Ja (show F w w1/\L w1 w.heap.size (R p f1 f2 a1 a2 d1 d2 b1 b2) 29 from⟨H0.out.1.trans (a4.mono H0.out.1.size),zH a4 H0.out.2 (lt_of_block H0.out.2)⟩);clear a4 y0 y1 y2 y3 y4 y5
 by_cases hz:eh=0
 ·subst hz;go_wp2
  go_loopw [4] (fun iv wx=>∃i:Nat,i<=p.funcs.length/\iv=A i/\Hid (F w1 wx/\∀n,n<i->yi p n=true)) (fun iv _=>p.funcs.length-(intOf iv).toNat)
  case atStart=>exact⟨0,Jt _,rfl,Ja ⟨Below.refl _ _,fun n hn=>by omega⟩⟩
  case round=>
   obtain⟨i,hi,rfl,k⟩:=hrel;have g:=zH k.out.1 l.out.2 (lt_of_block l.out.2);have z0:=K0 g
   by_cases u:i<p.funcs.length
   ·have b0:(i:Int)<p.funcs.length:=Zo;have a0:=Ja u;have z1:=K1 g;have z2:=K2 g;have z3:=K3 g;have z4:=K4 g;have z5:=K5 g;have a6:=Ja (HF.out wr i (l.out.1.trans (k.out.1.mono l.out.1.size)) m.out u);obtain⟨q,hq⟩:∃q,yi p i=q:=⟨_,rfl⟩
    rw[hq] at a6;have HQ:=Ja hq;clear hq g u
    cases q with
    |false=>
     go_wp2_with (first|(go_at_call 49;go_must (refine a6.out.mono ?_;rintro e w2 ⟨rfl,y⟩))|go_in)
     go_ret
     have hr:res=51:=by
      rw[<-t.out];unfold vC;rw[if_neg (by rw[m.out];simp),if_neg];intro b3;have:=Oe.1 b3 i (Ol.2 a0.out);rw[HQ.out] at this;cases this
     exact⟨zh hr.symm,l.out.1.trans ((k.out.1.trans (y.mono k.out.1.size)).mono l.out.1.size)⟩
    |true=>
     go_wp2_with (first|(go_at_call 49;go_must (refine a6.out.mono ?_;rintro e w2 ⟨rfl,y⟩))|go_in)
     have a5:=Ja (show F w1 w2/\∀n,n<i+1->yi p n=true from⟨k.out.1.trans (y.mono k.out.1.size),fun n hn=>by
      rcases Nat.lt_succ_iff_lt_or_eq.1 hn with h|rfl
      ·exact k.out.2 n h
      ·exact HQ.out⟩)
     clear y;go_roundw
     case rel=>first|exact⟨i+1,a0.out,by go_num,a5⟩|((repeat apply Exists.intro);exact⟨⟨i+1,a0.out,by go_num,a5⟩,rfl⟩)
     case measure=>have:=a0.out;simp[intOf];omega
   ·obtain rfl:i=p.funcs.length:=by omega
    have b0:¬(p.funcs.length:Int)<p.funcs.length:=Zo
    have hr:=Ja (show res=0 by
     rw[<-t.out];unfold vC;rw[if_neg (by rw[m.out];simp),if_pos]
     exact Oe.2 fun n hn=>k.out.2 n (Ol.1 hn))
    clear u;go_wp2;go_ret;exact⟨zh hr.out.symm,l.out.1.trans (k.out.1.mono l.out.1.size)⟩
 ·have t1:(eh !=0)=true:=by rw[bne_iff_ne];exact hz
  have hr:=Ja (show res=eh by
   rw[<-t.out];unfold vC
   rw[if_pos (by rw[m.out];exact hz),m.out])
  clear hz;go_wp2;go_ret;exact⟨zh hr.out.symm,l.out.1⟩
end Go.Proofs.Ytojclalkfhoooaa
