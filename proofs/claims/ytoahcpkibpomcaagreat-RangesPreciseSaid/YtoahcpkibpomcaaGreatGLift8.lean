/- Part of a proof. -/
import Derived.Test.YtoahcpkibpomcaaGreatGLift7
set_option linter.all false
set_option maxHeartbeats 16000000
set_option maxRecDepth 100000
namespace Go.Proofs.YtoahcpkibpomcaaGreat
open Go.RowKit
variable {W w w' w1 w2:World}{c:Int}{K:SK}{t:List IBlk}{k:Nat}{o:IOp}
def acg (f:Flds):Value:=.agg #[.bool f.is,.bool f.res,.bool f.a,.bool f.b,.bool f.n]
def wL (w:World)(f:Flds)(e:Ending)(w':World):Prop:=e=.returned (acg f)/\O w w'
theorem shp_1 (w:World):A 52 #[I 1] w (wL w ⟨true,true,false,false,true⟩):=by
 go_enter Tryz.func52,Tryz.ntmps52;go_wp2;refine bodyPost_ret (v:=.agg #[.bool true,.bool true,.bool false,.bool false,.bool true]) ?_ rfl ?_
 ·rw[zM rfl];go_simp
 ·exact⟨rfl,Zr⟩
theorem shp_2 (w:World):A 52 #[I 2] w (wL w ⟨true,true,false,false,true⟩):=by
 go_enter Tryz.func52,Tryz.ntmps52;go_wp2;refine bodyPost_ret (v:=.agg #[.bool true,.bool true,.bool false,.bool false,.bool true]) ?_ rfl ?_
 ·rw[zM rfl];go_simp
 ·exact⟨rfl,Zr⟩
theorem shp_3 (w:World):A 52 #[I 3] w (wL w ⟨true,true,true,false,false⟩):=by
 go_enter Tryz.func52,Tryz.ntmps52;go_wp2;refine bodyPost_ret (v:=.agg #[.bool true,.bool true,.bool true,.bool false,.bool false]) ?_ rfl ?_
 ·rw[zM rfl];go_simp
 ·exact⟨rfl,Zr⟩
theorem shp_4 (w:World):A 52 #[I 4] w (wL w ⟨true,true,true,false,false⟩):=by
 go_enter Tryz.func52,Tryz.ntmps52;go_wp2;refine bodyPost_ret (v:=.agg #[.bool true,.bool true,.bool true,.bool false,.bool false]) ?_ rfl ?_
 ·rw[zM rfl];go_simp
 ·exact⟨rfl,Zr⟩
theorem shp_18 (w:World):A 52 #[I 18] w (wL w ⟨true,true,true,false,false⟩):=by
 go_enter Tryz.func52,Tryz.ntmps52;go_wp2;refine bodyPost_ret (v:=.agg #[.bool true,.bool true,.bool true,.bool false,.bool false]) ?_ rfl ?_
 ·rw[zM rfl];go_simp
 ·exact⟨rfl,Zr⟩
theorem shp_19 (w:World):A 52 #[I 19] w (wL w ⟨true,true,true,false,false⟩):=by
 go_enter Tryz.func52,Tryz.ntmps52;go_wp2;refine bodyPost_ret (v:=.agg #[.bool true,.bool true,.bool true,.bool false,.bool false]) ?_ rfl ?_
 ·rw[zM rfl];go_simp
 ·exact⟨rfl,Zr⟩
theorem shp_20 (w:World):A 52 #[I 20] w (wL w ⟨true,false,true,true,false⟩):=by
 go_enter Tryz.func52,Tryz.ntmps52;go_wp2;refine bodyPost_ret (v:=.agg #[.bool true,.bool false,.bool true,.bool true,.bool false]) ?_ rfl ?_
 ·rw[zM rfl];go_simp
 ·exact⟨rfl,Zr⟩
theorem shp_21 (w:World):A 52 #[I 21] w (wL w ⟨true,false,true,true,false⟩):=by
 go_enter Tryz.func52,Tryz.ntmps52;go_wp2;refine bodyPost_ret (v:=.agg #[.bool true,.bool false,.bool true,.bool true,.bool false]) ?_ rfl ?_
 ·rw[zM rfl];go_simp
 ·exact⟨rfl,Zr⟩
theorem shp_22 (w:World):A 52 #[I 22] w (wL w ⟨true,true,true,false,true⟩):=by
 go_enter Tryz.func52,Tryz.ntmps52;go_wp2;refine bodyPost_ret (v:=.agg #[.bool true,.bool true,.bool true,.bool false,.bool true]) ?_ rfl ?_
 ·rw[zM rfl];go_simp
 ·exact⟨rfl,Zr⟩
theorem shp_23 (w:World):A 52 #[I 23] w (wL w ⟨true,true,true,false,true⟩):=by
 go_enter Tryz.func52,Tryz.ntmps52;go_wp2;refine bodyPost_ret (v:=.agg #[.bool true,.bool true,.bool true,.bool false,.bool true]) ?_ rfl ?_
 ·rw[zM rfl];go_simp
 ·exact⟨rfl,Zr⟩
theorem shp_24 (w:World):A 52 #[I 24] w (wL w ⟨true,true,false,false,true⟩):=by
 go_enter Tryz.func52,Tryz.ntmps52;go_wp2;refine bodyPost_ret (v:=.agg #[.bool true,.bool true,.bool false,.bool false,.bool true]) ?_ rfl ?_
 ·rw[zM rfl];go_simp
 ·exact⟨rfl,Zr⟩
theorem shp_25 (w:World):A 52 #[I 25] w (wL w ⟨true,false,true,false,true⟩):=by
 go_enter Tryz.func52,Tryz.ntmps52;go_wp2;refine bodyPost_ret (v:=.agg #[.bool true,.bool false,.bool true,.bool false,.bool true]) ?_ rfl ?_
 ·rw[zM rfl];go_simp
 ·exact⟨rfl,Zr⟩
theorem shp_26 (w:World):A 52 #[I 26] w (wL w ⟨true,false,false,false,false⟩):=by
 go_enter Tryz.func52,Tryz.ntmps52;go_wp2;refine bodyPost_ret (v:=.agg #[.bool true,.bool false,.bool false,.bool false,.bool false]) ?_ rfl ?_
 ·rw[zM rfl];go_simp
 ·exact⟨rfl,Zr⟩
theorem shp_27 (w:World):A 52 #[I 27] w (wL w ⟨true,false,false,false,false⟩):=by
 go_enter Tryz.func52,Tryz.ntmps52;go_wp2;refine bodyPost_ret (v:=.agg #[.bool true,.bool false,.bool false,.bool false,.bool false]) ?_ rfl ?_
 ·rw[zM rfl];go_simp
 ·exact⟨rfl,Zr⟩
theorem aao (c:Int)(h:5<=c/\c<=17)(w:World):A 52 #[I c] w (wL w ⟨true,true,true,true,false⟩):=by
 have t1:((c:Int)==1)=false:=Ze;have t2:((c:Int)==2)=false:=Ze;have t3:((c:Int)==3)=false:=Ze;have t4:((c:Int)==4)=false:=Ze;have t:((c:Int)==18)=false:=Ze;have q:((c:Int)==19)=false:=Ze;have o:((c:Int)==20)=false:=Ze;have m:((c:Int)==21)=false:=Ze;have l:((c:Int)==22)=false:=Ze;have k:((c:Int)==23)=false:=Ze;have j:((c:Int)==24)=false:=Ze;have i:((c:Int)==25)=false:=Ze;have g:((c:Int)==26)=false:=Ze;have d:((c:Int)==27)=false:=Ze;have d1:decide (5<=c)=true:=by rw[decide_eq_true_eq];omega
 have d2:decide (c<=17)=true:=by rw[decide_eq_true_eq];omega
 clear h;go_enter Tryz.func52,Tryz.ntmps52;go_wp2;refine bodyPost_ret (v:=.agg #[.bool true,.bool true,.bool true,.bool true,.bool false]) ?_ rfl ?_
 ·rw[zM rfl];go_simp
 ·exact⟨rfl,Zr⟩
theorem shp_low (c:Int)(h:c<1)(w:World):A 52 #[I c] w (wL w ⟨false,false,false,false,false⟩):=by
 have t1:((c:Int)==1)=false:=Ze;have t2:((c:Int)==2)=false:=Ze;have t3:((c:Int)==3)=false:=Ze;have t4:((c:Int)==4)=false:=Ze;have t:((c:Int)==18)=false:=Ze;have q:((c:Int)==19)=false:=Ze;have o:((c:Int)==20)=false:=Ze;have m:((c:Int)==21)=false:=Ze;have l:((c:Int)==22)=false:=Ze;have k:((c:Int)==23)=false:=Ze;have j:((c:Int)==24)=false:=Ze;have i:((c:Int)==25)=false:=Ze;have g:((c:Int)==26)=false:=Ze;have d:((c:Int)==27)=false:=Ze;have d1:decide (5<=c)=false:=by rw[decide_eq_false_iff_not];omega
 have d2:decide (c<=17)=true:=by rw[decide_eq_true_eq];omega
 clear h;go_enter Tryz.func52,Tryz.ntmps52;go_wp2;refine bodyPost_ret (v:=.agg #[.bool false,.bool false,.bool false,.bool false,.bool false]) ?_ rfl ?_
 ·rw[zM rfl];go_simp
 ·exact⟨rfl,Zr⟩
theorem shp_high (c:Int)(h:27<c)(w:World):A 52 #[I c] w (wL w ⟨false,false,false,false,false⟩):=by
 have t1:((c:Int)==1)=false:=Ze;have t2:((c:Int)==2)=false:=Ze;have t3:((c:Int)==3)=false:=Ze;have t4:((c:Int)==4)=false:=Ze;have t:((c:Int)==18)=false:=Ze;have q:((c:Int)==19)=false:=Ze;have o:((c:Int)==20)=false:=Ze;have m:((c:Int)==21)=false:=Ze;have l:((c:Int)==22)=false:=Ze;have k:((c:Int)==23)=false:=Ze;have j:((c:Int)==24)=false:=Ze;have i:((c:Int)==25)=false:=Ze;have g:((c:Int)==26)=false:=Ze;have d:((c:Int)==27)=false:=Ze;have d1:decide (5<=c)=true:=by rw[decide_eq_true_eq];omega
 have d2:decide (c<=17)=false:=by rw[decide_eq_false_iff_not];omega
 clear h;go_enter Tryz.func52,Tryz.ntmps52;go_wp2;refine bodyPost_ret (v:=.agg #[.bool false,.bool false,.bool false,.bool false,.bool false]) ?_ rfl ?_
 ·rw[zM rfl];go_simp
 ·exact⟨rfl,Zr⟩
theorem aaK (c:Int)(w:World):A 52 #[I c] w (wL w (zi c)):=by
 rcases rJ c with⟨h,e⟩|⟨h,e⟩|⟨h,e⟩|⟨h,e⟩|⟨h,e⟩|⟨h,e⟩|⟨h,e⟩|⟨h,e⟩<;>rw[e]
 ·rcases h with rfl|rfl|rfl
  ·exact shp_1 w
  ·exact shp_2 w
  ·exact shp_24 w
 ·rcases h with rfl|rfl|rfl|rfl
  ·exact shp_3 w
  ·exact shp_4 w
  ·exact shp_18 w
  ·exact shp_19 w
 ·exact aao c h w
 ·rcases h with rfl|rfl
  ·exact shp_20 w
  ·exact shp_21 w
 ·rcases h with rfl|rfl
  ·exact shp_22 w
  ·exact shp_23 w
 ·subst h;exact shp_25 w
 ·rcases h with rfl|rfl
  ·exact shp_26 w
  ·exact shp_27 w
 ·rcases h with h|h
  ·exact shp_low c h w
  ·exact shp_high c h w
end Go.Proofs.YtoahcpkibpomcaaGreat
set_option maxRecDepth 8000
namespace Go.Proofs.YtoahcpkibpomcaaGreat
open Go.RowKit
variable {W w w' w1 w2:World}{c:Int}{K:SK}{t:List IBlk}{k:Nat}{o:IOp}
theorem ahd (w:World)(sv:Value)(g:List (List Int))(B:Nat)(hB:B<=w.heap.size)(h:aaB zN w B sv g)(hn:g.length<=2000000)(hr:∀row∈g,row.length<=2000000):
 A 105 #[.agg #[sv]] w fun e w'=>e=.returned (.bool (decide (0<g.length) && pB g))/\O w w':=by
 obtain⟨a,c,rfl,b4⟩:=h.form;have HR:=Ja hr;clear hr;have m:O w (w.alloc (G #[.slice a g.length c] 105)):=(Below.refl _ _).alloc (Je _) _;have a3:∀n,O w ((w.alloc (G #[.slice a g.length c] 105)).drewN n):=fun n=>m.trans (yL _ _ _)
 have a4:=Ja a3;clear a3;go_enter Tryz.func105,Tryz.ntmps105;go_wp2
 go_loopw [3] (fun i wr=>∃k:Nat,k<=g.length/\i=I k/\(g.take k).all (fun l=>l.all (okS g.length))=true/\∃n,wr=(w.alloc (G #[.slice a g.length c] 105)).drewN n) (fun i _=>g.length-(intOf i).toNat)
 case atStart=>exact⟨0,Jt _,rfl,by simp,0,rfl⟩
 case round=>
  obtain⟨k,hk,rfl,a0,n,rfl⟩:=hrel;have HA:=Ja a0;clear a0
  by_cases a9:k<g.length
  ·obtain⟨row,d⟩:∃row,g[k]? =some row:=⟨_,Jd a9⟩
   obtain⟨b,o,a2,a8,rfl,hb,hc,b0,hx⟩:=h.row d;have hrl:=HR.out row (Ji d);have b7:T (w.alloc (G #[.slice (some ⟨b,o,none⟩) g.length c] 105)) b (o+k) (.slice a2 row.length a8):=(m.cell (p:=⟨b,o+k,none⟩) (show b<w.heap.size by omega)).trans hc;have q:=Ja d;clear d;have HX:=Ja hx;clear hx h hc;have b3:(k:Int)<g.length:=Zo;go_wp2
   go_loopw [4] (fun i wr=>∃j:Nat,j<=row.length/\i=I j/\(row.take j).all (okS g.length)=true/\∃n,wr=(w.alloc (G #[.slice (some ⟨b,o,none⟩) g.length c] 105)).drewN n) (fun i _=>row.length-(intOf i).toNat)
   case atStart=>exact⟨0,Jt _,rfl,by simp,_,rfl⟩
   case round=>
    obtain⟨j,hj,rfl,t,n2,rfl⟩:=hrel;have a6:=Ja t;clear t
    by_cases a7:j<row.length
    ·obtain⟨x,u⟩:∃x,row[j]? =some x:=⟨_,Jd a7⟩
     obtain⟨b2,o2,rfl,b8,y⟩:=HX.out j x u;simp only[zN] at y;have b6:T (w.alloc (G #[.slice (some ⟨b,o,none⟩) g.length c] 105)) b2 (o2+j) (I x):=(m.cell (p:=⟨b2,o2+j,none⟩) (show b2<w.heap.size by omega)).trans y;have a1:=Ja u;clear u y;have b1:(j:Int)<row.length:=Zo
     by_cases a5:x<0
     ·have hf:pB g=false:=vU _ g k row q.out (vU _ row j x a1.out (by simp[okS];omega));have HF:=Ja hf;clear hf;have hd:decide (x<0)=true:=by simpa using a5
      go_wp2;go_quiet (fail);go_wp2;go_ret;exact⟨by rw[HF.out];simp,by simpa using a4.out _⟩
     ·have hd:decide (x<0)=false:=by simpa using a5
      by_cases b5:x<g.length
      ·go_wp2;go_quiet (fail);go_wp2;go_roundw
       case rel=>exact⟨j+1,by omega,by go_num,tm _ row j x a1.out a6.out (by simp[okS];omega),_,rfl⟩
       case measure=>simp[intOf];omega
      ·have hf:pB g=false:=vU _ g k row q.out (vU _ row j x a1.out (by simp[okS];omega));have HF:=Ja hf;clear hf;go_wp2;go_quiet (fail);go_wp2;go_ret;exact⟨by rw[HF.out];simp,by simpa using a4.out _⟩
    ·go_wp2;go_roundw
     case rel=>exact⟨k+1,by omega,by go_num,tm _ g k row q.out HA.out (by have:=a6.out;rwa [Oy Zo] at this),_,rfl⟩
     case measure=>simp[intOf];omega
  ·have hf:pB g=true:=by have:=HA.out;rwa [Oy Zo] at this
   have HF:=Ja hf;clear hf;go_wp2;go_ret;exact⟨by rw[HF.out];simp,a4.out _⟩
theorem ae8 (w0:World)(B0 bs:Nat)(g:List (List Nat))(a:Option Addr)(i:Nat)(hR:aaB zj w0 B0 (.slice a g.length i) g)(hv:zw g)(hn:g.length<=2000000)(hr:∀row∈g,row.length<=2000000):∀(f:Nat) (w:World) (seen:List Bool) (pv:Value) (post:List Nat) (n:Nat),
 SMem w0 w B0 bs seen pv post->n<g.length->seen.length=g.length->seen[n]? =some false->ey seen<=f->post.length+ey seen<=2000000->
 A 106 #[.agg #[.slice a g.length i],I n,Y bs g.length g.length,pv] w fun e w'=>∃pv',e=.returned pv'/\SMem w0 w' B0 bs (oy g f (seen,post) n).1 pv' (oy g f (seen,post) n).2/\ST w w' bs pv pv'
 |0,w,seen,pv,post,n,hM,hng,hl,hs,hu,hp=>by
  have:=dN hs;omega
 |f+1,w,seen,pv,post,n,hM,hng,hl,hs,hu,hp=>by
  obtain⟨ap,cp,rfl⟩:=zG hM.hp;obtain⟨R,a6⟩:∃R,R=oy g (f+1) (seen,post) n:=⟨_,rfl⟩
  rw[<-a6];have e1:=Ja a6;clear a6;have ih:=ae8 w0 B0 bs g a i hR hv hn hr f;have a8:=hM.box (G #[.slice a g.length i] 105);have cs:T (w.alloc (G #[.slice a g.length i] 105)) bs n (.bool false):=zA a8.hs (by simp[hs,sl]);have fs:N (w.alloc (G #[.slice a g.length i] 105)) bs n:=zE a8.hs;have c2:=(hM.mark (n:=n)).box (G #[.slice a g.length i] 105);have e4:Hid (∀k,(Value.slice ap post.length cp).ownBlock=some k->k<w.heap.size):=fun k e=>(hM.hp.lt k e).2
  have f4:(n:Int)<g.length:=Zo;have f9:bs<w.heap.size:=lt_of_block hM.hs;have e6:=Ja c2;have HR:=Ja hR;have e7:=Ja ih;clear a8 c2 hM hR ih;go_enter Tryz.func106,Tryz.ntmps106;obtain⟨row,q⟩:∃row,g[n]? =some row:=⟨_,Jd hng⟩
  have x:succ g n=row:=by unfold succ;rw[Jj,q];rfl
  obtain⟨bg,og,a2,a9,rfl,b8,hc,f0,hx⟩:=HR.out.row q;have hrl:=hr row (Ji q);have a5:ST w ((w.setCell ⟨bs,n,none⟩ (.bool true)).alloc (G #[.slice (some ⟨bg,og,none⟩) g.length i] 105)) bs (.slice ap post.length cp) (.slice ap post.length cp):=(ST.mark w bs n _ _).trans (ST.box _ _ bs _);have f3:=dN hs;have b7:L ((w.setCell ⟨bs,n,none⟩ (.bool true)).alloc (G #[.slice (some ⟨bg,og,none⟩) g.length i] 105)) w.heap.size #[.slice (some ⟨bg,og,none⟩) g.length i] 105:=zI Zs;have b4:=Ja (Jb q x);have HX:=Ja hx;have HC:=Ja hc;have d2:=Ja a5;have e8:=Ja b7;clear q x hx hc a5 b7;go_wp2
  go_loopw [3,9] (fun v k wr=>∃(j:Nat),j<=row.length/\k=I j/\Hid (SMem w0 wr B0 bs ((row.take j).foldl (vx g f) (seen.set n true,post)).1 v ((row.take j).foldl (vx g f) (seen.set n true,post)).2/\ST w wr bs (.slice ap post.length cp) v/\L wr w.heap.size #[.slice (some ⟨bg,og,none⟩) g.length i] 105/\v.ownBlock≠some w.heap.size)) (fun _ k _=>row.length-(intOf k).toNat)
  case atStart=>exact⟨0,Jt _,rfl,e6.out,d2.out,e8.out,fun e=>by have:=e4.out _ e;omega⟩
  case round=>
   obtain⟨j,hj,rfl,c⟩:=hrel;generalize o:(row.take j).foldl (vx g f) (seen.set n true,post)=st at c;obtain⟨sn,ps⟩:=st
   dsimp only at c
   have b1:=Ja o;clear o;have f8:=cell_of_one c.out.2.2.1;have f7:=(c.out.1.hb.cell (p:=⟨bg,og+n,none⟩) b8).trans HC.out;obtain⟨av,cv,rfl⟩:=zG c.out.1.hp;have c0:w.heap.size<wr.heap.size:=lt_of_block c.out.2.2.1
   by_cases f5:(j:Int)<row.length
   ·obtain⟨s,a0⟩:∃s,row[j]? =some s:=⟨_,Jd Zo⟩
    have d3:s<g.length:=hv.2 row (Ji b4.out.1) s (Ji a0);obtain⟨b2,o2,rfl,b9,c3⟩:=HX.out j s a0;have e0:=(c.out.1.hb.cell (p:=⟨b2,o2+j,none⟩) b9).trans c3;simp only[zj] at e0
    have y:(row.take (j+1)).foldl (vx g f) (seen.set n true,post)=vx g f (sn,ps) s:=by
     rw[Nh,a0,List.foldl_append,b1.out];rfl
    have t:sn.length=g.length/\ey sn<=f/\ps.length+ey sn<=2000000:=by
     have:=aeD g f (row.take j) (seen.set n true,post);rw[b1.out] at this;simp only[Nd] at this;omega
    obtain⟨b0,u⟩:∃b0,sn[s]? =some b0:=⟨_,Jd Zo⟩
    have g1:T wr bs s (.bool b0):=zA c.out.1.hs (by simp[u,sl]);have f6:(j:Int)<=row.length:=Zo;have c9:=a0;have f1:(s:Int)<g.length:=Zo;have l:=Ja (Jb y (Jb t u));clear y t u c3 cs fs
    cases b0 with
    |true=>
     go_wp2;go_roundw
     case rel=>exact⟨j+1,by omega,by go_num,by rw[l.out.1,show vx g f (sn,ps) s=(sn,ps) by unfold vx;rw[if_pos (by rw[Jj,l.out.2.2];rfl)]];exact c⟩
     case measure=>simp[intOf];omega
    |false=>
     have a1:A 106 #[.agg #[.slice (some ⟨bg,og,none⟩) g.length i],I s,Y bs g.length g.length,.slice av ps.length cv] wr.drew fun e w'=>∃a7 c7,e=.returned (.slice a7 (oy g f (sn,ps) s).2.length c7)/\
      T w' w.heap.size 0 (.slice (some ⟨bg,og,none⟩) g.length i)/\T w' bg (og+n) (.slice (some ⟨b2,o2,none⟩) row.length a9)/\T w' b2 (o2+j) (I s)/\
      Hid (SMem w0 w' B0 bs (oy g f (sn,ps) s).1 (.slice a7 (oy g f (sn,ps) s).2.length c7) (oy g f (sn,ps) s).2/\ST wr w' bs (.slice av ps.length cv) (.slice a7 (oy g f (sn,ps) s).2.length c7)):=by
      refine(e7.out wr.drew sn _ ps s ⟨c.out.1.hs,c.out.1.hp,c.out.1.hb.drew,c.out.1.lt⟩ d3 l.out.2.1.1 l.out.2.2 l.out.2.1.2.1 l.out.2.1.2.2).mono ?_;rintro e w' ⟨pv',rfl,hm,hT⟩;obtain⟨a7,c7,rfl⟩:=zG hm.hp;have c1:ST wr w' bs (.slice av ps.length cv) (.slice a7 (oy g f (sn,ps) s).2.length c7):=⟨hT.size,hT.blk,hT.own⟩
      refine⟨a7,c7,rfl,?_,(hm.hb.cell (p:=⟨bg,og+n,none⟩) b8).trans HC.out,?_,hm,c1⟩
      ·exact cell_of_one ((c1.blk _ c0 Zo c.out.2.2.2).trans c.out.2.2.1)
      ·obtain⟨b3,o3,e3,_,h3⟩:=HX.out j s c9;cases e3;have:=(hm.hb.cell (p:=⟨b2,o2+j,none⟩) b9).trans h3
       simpa[zj] using this
     have b5:=Ja a1;clear a1;go_wp2
     go_region_held3 (fun w'=>T w' w.heap.size 0 (.slice (some ⟨bg,og,none⟩) g.length i)/\T w' bg (og+n) (.slice (some ⟨b2,o2,none⟩) row.length a9)/\T w' b2 (o2+j) (I s))
      (first
        |(go_split_ands;refine⟨?_,?_,?_⟩<;>assumption))
      ((go_at_call 106;refine b5.out.mono ?_;rintro e w7 ⟨a7,c7,rfl,k1,k2,k3,a3⟩))
     all_goals
      go_wp2;go_roundw
      case rel=>
       refine⟨j+1,by omega,by go_num,?_⟩;rw[l.out.1,show vx g f (sn,ps) s=oy g f (sn,ps) s by unfold vx;rw[if_neg (by rw[Jj,l.out.2.2];simp)]];have d7:=(a3.out.2.blk _ c0 Zo c.out.2.2.2).trans c.out.2.2.1;exact⟨a3.out.1,c.out.2.1.trans a3.out.2,d7,fun e=>by rcases a3.out.2.own _ e with h|h;exact c.out.2.2.2 h;omega⟩
      case measure=>simp[intOf];omega
   ·obtain rfl:j=row.length:=by omega
    obtain⟨ii,d6,c8,c5,c4⟩:=info_parts Tryz.info_int;have o:=b1.out;rw[Nl] at o
    have t:ps.length<=2000000:=by
     have:=aeD g f row (seen.set n true,post);rw[o] at this;simp only[Nd] at this;omega
    have b6:oy g (f+1) (seen,post) n=(sn,ps++ [n]):=by rw[afc,b4.out.2,o]
    have e2:=Ja (e1.out.trans b6);clear b6 o cs fs;go_wp2_with (at_builtin;go_must (refine wpList_append_lies _ rfl (.tmp 47) (.tmp 49) 22 rfl B0 3 ii (I 0) 1 8 Tryz.underlying22 d6 c8 c5 c4 rfl Zd _ ps.length (ps.map zj) rfl (c.out.1.hp.alloc _) ⟨wr.heap.size,0,none⟩ 1 1 [I n] rfl rfl (Oi (cs:=#[I n]) (zI Zs)) (by simp[Value.oneCell']) Zd (by unfold maxLen;omega) Zo (by have:=lt_of_block c.out.1.hs;have:=c.out.1.lt;simp;omega) (wr.heap.size+1) Zs ?_;intro gq d1 w6 m d d0 a4;have e5:=Ja (Jb m d);clear m d))
    go_ret;obtain⟨m,d⟩:=e5.out;have d4:=zL d (zB c.out.1.hs) (zC (b:=bs) c.out.1.hp c.out.1.hs (.inr Zd));have g0:=c.out.1.hb.size;have f2:=lt_of_block c.out.1.hs;have a4:=c.out.1.lt;rw[e2.out];refine⟨_,rfl,⟨d4,by simpa[zj] using m,(c.out.1.hb.alloc Zo _).grown d Zt (fun k e=>by have:=(c.out.1.hp.lt k e).1;omega),a4⟩,c.out.2.1.trans ⟨?_,?_,?_⟩⟩
    ·have:=d.size;simp at this;omega
    ·intro k hk _ d5;rw[d.block k Zt (fun e=>d5 e.symm),Below.heap_alloc _ _ _ hk]
    ·intro k e;have e:(Value.slice (some ⟨gq,0,none⟩) (ps.length+1) d1).ownBlock=some k:=e;simp only[Value.ownBlock,Option.some.injEq] at e;subst e;rcases d0 with h|h
     ·exact .inl h
     ·right;omega
theorem afp (w:World)(sv:Value)(g:List (List Nat))(B:Nat)(hB:B<=w.heap.size)(h:aaB zj w B sv g)(hv:zw g)(c:g.length<=2000000)(hr:∀row∈g,row.length<=2000000):
 A 105 #[.agg #[sv]] w fun e w'=>e=.returned (.bool true)/\O w w':=by
 have:=ahd w sv (g.map (List.map Int.ofNat)) B hB (agm h) (by simpa using c) (by intro row hm;simp only[Nu] at hm;obtain⟨l,hl,rfl⟩:=hm;simpa using hr l hl);rw[k8 hv] at this;exact this
theorem ro_alloc{n C:Nat}{W0:World}{v:Value}(c:T w' n 0 v)(h:Below C W0 w')(d:C<=W0.heap.size)(o:Obj):T (w'.alloc o) n 0 v/\Below C W0 (w'.alloc o):=
 ⟨(Ok _ _ _ (jU c)).trans c,h.alloc (by have:=h.size;omega) o⟩
theorem mo (n:Nat):ey (List.replicate n false)=n:=by simp[ey]
theorem ahW (g:List (List Nat)):(ul g).length<=g.length:=by
 unfold ul
 by_cases h:0<g.length
 ·have:=fu g g.length (List.replicate g.length false,[]) 0 (by rw[Nm,if_pos h]);simp only[mo,Ow] at this;omega
 ·have h0:g.length=0:=Zo;rw[h0];simp[oy]
theorem afr (w:World)(sv:Value)(g:List (List Nat))(B:Nat)(hB:B<=w.heap.size)(h:aaB zj w B sv g)(hv:zw g)(hn:g.length<=2000000)(hr:∀row∈g,row.length<=2000000):
 A 51 #[.agg #[sv]] w (fJ w (vD g)):=by
 obtain⟨a,i,rfl,c1⟩:=h.form;obtain⟨ii,b4,a8,a7,a6⟩:=info_parts Tryz.info_int;have q:O w (w.alloc (G #[.slice a g.length i] 105)):=(Below.refl _ _).alloc (Je _) _;have cg:T (w.alloc (G #[.slice a g.length i] 105)) w.heap.size 0 (.slice a g.length i):=cell_of_one (zI rfl);have HV:=Ja hv;have HR:=Ja hr;clear hv hr;have b2:=run_make_row' (P:=Tryz.prog) 97 4 (.bool false) 1 Tryz.underlying97 Tryz.info_bool rfl .i64 .i64 g.length Zo Zo;go_enter Tryz.func51,Tryz.ntmps51;go_wp2_with (go_at_call 105;go_must (refine(afp _ _ g B Zt (h.below (q.mono hB)) HV.out hn HR.out).mono ?_;rintro e w1 ⟨rfl,x⟩;have c:=q.trans (x.mono Zs);have a3:=(x.cell (p:=⟨w.heap.size,0,none⟩) Zs).trans cg;clear cg))
 have t:=(h.below (c.mono hB)).mono (B':=w1.heap.size) (by have:=c.size;omega);have b3:w.heap.size<w1.heap.size:=jU a3;have a0:=Ja t;have d3:=Below.refl w1.heap.size w1
 have d:∀W:World,L W w1.heap.size (madeCells #[.bool false] g.length) 4->O w1 W->A 106 #[.agg #[.slice a g.length i],I 0,Y w1.heap.size g.length g.length,F] W fun e w'=>
  ∃a4 c4,e=.returned (.slice a4 (ul g).length c4)/\(w'.ownsRow w1.heap.size 3 1 (.slice a4 (ul g).length c4) (ul g).length ((ul g).map zj)/\O w1 w'):=by
  intro W hW hb;refine(ae8 w1 w1.heap.size w1.heap.size g a i a0.out HV.out hn HR.out g.length W (List.replicate g.length false) (.slice none 0 0) [] 0 ⟨by rw[hW,yA];simp[sl],⟨rfl,.inl ⟨rfl,rfl⟩⟩,hb,Je _⟩ HV.out.1 Zs (by rw[Nm,if_pos HV.out.1]) (by rw[mo];exact Je _) (by rw[mo];simpa using hn)).mono ?_;rintro e w' ⟨c5,rfl,hm,_⟩;obtain⟨a4,c4,rfl⟩:=zG hm.hp;exact⟨a4,c4,rfl,hm.hp,hm.hb⟩
 have b7:=Ja d;clear d;clear t q x
 go_cut [4] (fun v wx=>∃a4 c4,v=.slice a4 (ul g).length c4/\Hid (wx.ownsRow w1.heap.size 3 1 (.slice a4 (ul g).length c4) (ul g).length ((ul g).map zj)/\O w1 wx))
 case first=>
  go_region_held3 (fun w'=>T w' w.heap.size 0 (.slice a g.length i)/\O w1 w')
   (first
     |(go_split_ands;refine⟨?_,?_⟩<;>assumption)
     |(go_split_ands;refine⟨?_,Below.drew ?_⟩<;>assumption)
     |(go_split_ands;exact ro_alloc ‹_› ‹_› (Je _) _))
   ((go_at_call 106;refine(b7.out _ (by first|exact zI (W:=w1) rfl|exact zI (W:=w1.drew) rfl) (by repeat' (first|assumption|(with_reducible refine Below.drew ?_)|(with_reducible refine Below.alloc ?_ ?_ _)|exact Je _))).mono ?_;rintro e w5 ⟨a4,c4,rfl,l⟩;have b6:=l.2;have d2:=(b6.cell (p:=⟨w.heap.size,0,none⟩) b3).trans a3;have b8:=Ja l;clear l))
  all_goals (go_wp2_with fail;go_meet;exact⟨a4,c4,rfl,b8⟩)
 case rest=>
  obtain⟨a4,c4,rfl,l⟩:=hcut;clear b2;have c9:=ahW g;have c7:=l.out.2.size;go_wp2_with fail
  go_loopw [5,6] (fun v k wr=>∃m:Nat,m<=(ul g).length/\k=I ((ul g).length-1-m:Int)/\Hid (wr.ownsRow wc.heap.size 3 1 v m (((ul g).reverse.take m).map zj)/\O wc wr)) (fun _ k _=>((intOf k)+1).toNat)
  case atStart=>exact⟨0,Jt _,by simp,⟨rfl,.inl ⟨rfl,rfl⟩⟩,Below.refl _ _⟩
  case round=>
   obtain⟨m,hm,rfl,o⟩:=hrel;obtain⟨ao,co,rfl⟩:=zG o.out.1
   by_cases d0:m<(ul g).length
   ·obtain⟨p,hp⟩:∃p:Nat,p=(ul g).length-1-m:=⟨_,rfl⟩
    have a2:((ul g).length-1-m:Int)=(p:Int):=Zo;rw[a2];have a9:p<(ul g).length:=Zo;have b9:(p:Int)<(ul g).length:=Zo;obtain⟨y,hy⟩:∃y,(ul g)[p]? =some y:=⟨_,Jd a9⟩
    obtain⟨gp,d4,e4,d1,b5⟩:=l.out.1.form Zo;cases e4;have cy:T wr gp p (I y):=(o.out.2.cell (p:=⟨gp,p,none⟩) b5).trans ((l.out.1.cellAt p Zo).trans (by simp[hy,zj]))
    have a1:(ul g).reverse.take (m+1)=(ul g).reverse.take m++ [y]:=by
     rw[Nh,List.getElem?_reverse Zo,<-hp,hy];rfl
    have HY:=Ja a1;have b1:=o.out.2.size;have HP:Hid (p+m+1=(ul g).length):=by unfold Hid;omega
    clear hy a1 hp a2;go_wp2_with (at_builtin;go_must (refine wpList_append_lies _ rfl (.tmp 24) (.tmp 29) 22 rfl wc.heap.size 3 ii (I 0) 1 8 Tryz.underlying22 b4 a8 a7 a6 rfl Zd _ m _ rfl (o.out.1.alloc _) ⟨wr.heap.size,0,none⟩ 1 1 [I y] rfl rfl (Oi (cs:=#[I y]) (zI Zs)) (by simp[Value.oneCell']) Zd (by unfold maxLen;omega) Zo Zt (wr.heap.size+1) Zs ?_;intro gq c3 w6 u j c2 c0;have a5:=Ja (Jb u j);clear u j))
    go_roundw
    case rel=>
     have hP:=HP.out;refine⟨m+1,by omega,by rw[show((ul g).length-1-((m+1:Nat):Int):Int)=(p:Int)-1 by omega],?_,?_⟩
     ·rw[HY.out];simpa[zj] using a5.out.1
     ·exact(o.out.2.alloc (Jn b1 (Je _)) _).grown a5.out.2 Zt (fun k e=>by have:=(o.out.1.lt k e).1;omega)
    case measure=>simp[intOf]<;>omega
   ·obtain rfl:m=(ul g).length:=by omega
    have b0:((ul g).length-1-(ul g).length:Int)=-1:=Zo;rw[b0];go_wp2;go_ret;have hb:=c.trans (l.out.2.mono c.size);have c8:=c.size;refine⟨_,rfl,?_,hb.trans (o.out.2.mono hb.size)⟩;have:=vY o.out.1 (base':=w.heap.size) hb.size;rw[Oy Zs] at this;unfold vD;rw[List.length_reverse];exact this
theorem ruG_ge{f:Nat}(h:ruG c=some f):3<=c:=by
 by_cases d:3<=c
 ·exact d
 ·simp only[ruG,putR] at h
  iterate 17 rw[if_neg Zo] at h
  cases h
theorem af5{p:IProg}{s:Slv}(h:SlvAt w K p t k s)(av:Value)(h1:o.code≠1)(h2:o.code≠2)(h64:I64 o.code)(hr:ruG o.code=none):
 A 96 #[Q K.sb,aam o av] w (re w (i4 p s o)):=by
 rw[show i4 p s o=y7 by unfold i4;rw[if_neg h1,if_neg h2];unfold afy;rw[ruG_none hr]];obtain⟨c,d,a,b,n,al⟩:=o;have h1:c≠1:=h1;have h2:c≠2:=h2;have e1:(c==1)=false:=by simpa using h1
 have e2:(c==2)=false:=by simpa using h2
 have hr:ruG c=none:=hr
 have u:=Ja (show ∀W,O w W->(Instr.lookup 95 (.map (some K.rm)) (I c) true).run Tryz.prog W=.ok (.tuple #[.nilFunc,.bool false]) W from fun W hb=>by
  have:=(h.below hb).map.lookOk h64
  rw[hr] at this;exact this)
 have x:=Ja (show ∀W,O w W->T W K.sb 7 (.map (some K.rm)) from fun W hb=>(h.below hb).cells.2.1);unfold aam;clear h h1 h2 h64 hr;go_enter Tryz.func96,Tryz.ntmps96;go_upto_region 6 with(go_at_call 999999;skip)
 obtain⟨X,q⟩:∃X,(w.alloc (G #[I c,I d,I a,I b,U n,av] 76)).alloc (G #[U 0,U 0] 45)=X:=⟨_,rfl⟩
 have g:=Ja (show O w X/\L X w.heap.size #[I c,I d,I a,I b,U n,av] 76/\L X (w.heap.size+1) #[U 0,U 0] 45 from by
  rw[<-q];exact⟨by repeat' (first|exact Below.refl _ _|(refine Below.alloc ?_ (by first|(simp;done)|(simp;omega)) _)),zB (zI rfl),zI Zs⟩)
 rw[q];clear q;have m:=Ja (show ∀W,O X W->T W K.sb 7 (.map (some K.rm))/\T W w.heap.size 0 (I c) from fun W hb=>⟨x.out W (g.out.1.trans (hb.mono g.out.1.size)),zA (zH hb g.out.2.1 (lt_of_block g.out.2.1)) rfl⟩);obtain⟨c0,c1⟩:=m.out X (Below.refl _ _);have hl:=u.out X.drew g.out.1.drew
 go_region_held3 (fun w'=>T w' K.sb 7 (.map (some K.rm))/\T w' w.heap.size 0 (I c)) ((refine m.out _ ?_;repeat' (first|with_reducible exact Below.refl _ _|with_reducible assumption|with_reducible refine Below.drew ?_)))
  (fail)
 all_goals go_wp2_with (go_at_call 39;go_must (refine(m0 _).mono ?_;rintro e w1 ⟨rfl,l⟩;have j:O X w1:=Below.trans (show O X _ from by repeat' (first|with_reducible exact Below.refl _ _|with_reducible refine Below.drew ?_)) (l.mono (Je _));clear l;have hk:=zH j g.out.2.2 (lt_of_block g.out.2.2);have f0:=zA (i:=0) hk rfl;have f1:=zA (i:=1) hk rfl;have g0:=zE (i:=0) hk;have g1:=zE (i:=1) hk;have y:=lt_of_block hk;have a0:=g.out.1.trans (j.mono g.out.1.size)))
 all_goals (refine bodyPost_ret (v:=.agg #[U 0,U 65535]) ?_ rfl ⟨rfl,by repeat' (first|exact Below.refl _ _|assumption|(refine Below.drew ?_)|(refine Below.alloc ?_ (by first|(simp;done)|(simp;omega)) _)|(refine Below.setCell ?_ (by first|(simp;done)|(simp;omega)) _))⟩;rw[zM rfl];go_simp)
theorem ruG_mem{f:Nat}(h:ruG c=some f):f=70∨f=72∨f=73∨f=74∨f=75∨f=77∨f=78∨f=79∨f=81∨f=82∨f=84∨f=85∨f=86∨f=88∨f=89∨f=90∨f=91:=by
 simp only[ruG,putR] at h
 by_cases d:c=23
 ·rw[if_pos d] at h;cases h;simp
 rw[if_neg d] at h
 by_cases g:c=19
 ·rw[if_pos g] at h;cases h;simp
 rw[if_neg g] at h
 by_cases i:c=17
 ·rw[if_pos i] at h;cases h;simp
 rw[if_neg i] at h
 by_cases j:c=16
 ·rw[if_pos j] at h;cases h;simp
 rw[if_neg j] at h
 by_cases k:c=15
 ·rw[if_pos k] at h;cases h;simp
 rw[if_neg k] at h
 by_cases l:c=14
 ·rw[if_pos l] at h;cases h;simp
 rw[if_neg l] at h
 by_cases m:c=13
 ·rw[if_pos m] at h;cases h;simp
 rw[if_neg m] at h
 by_cases o:c=12
 ·rw[if_pos o] at h;cases h;simp
 rw[if_neg o] at h
 by_cases q:c=11
 ·rw[if_pos q] at h;cases h;simp
 rw[if_neg q] at h
 by_cases t:c=10
 ·rw[if_pos t] at h;cases h;simp
 rw[if_neg t] at h
 by_cases u:c=9
 ·rw[if_pos u] at h;cases h;simp
 rw[if_neg u] at h
 by_cases w:c=8
 ·rw[if_pos w] at h;cases h;simp
 rw[if_neg w] at h
 by_cases x:c=7
 ·rw[if_pos x] at h;cases h;simp
 rw[if_neg x] at h
 by_cases y:c=6
 ·rw[if_pos y] at h;cases h;simp
 rw[if_neg y] at h
 by_cases h5:c=5
 ·rw[if_pos h5] at h;cases h;simp
 rw[if_neg h5] at h
 by_cases h4:c=4
 ·rw[if_pos h4] at h;cases h;simp
 rw[if_neg h4] at h
 by_cases h3:c=3
 ·rw[if_pos h3] at h;cases h;simp
 rw[if_neg h3] at h;cases h
theorem appF_by{x y r:Rg}(hr:ky c x y=some r):afy c x y=if(decide (c<=17) && (yf x && (((c==3)||(c==4))||yf y)))=true then(if exF c y.lo=true then afw (exV c x.lo y.lo) else y7) else r:=by
 unfold afy;rw[hr];simp only[Jm,Bool.or_eq_true,decide_eq_true_eq,beq_iff_eq]
 split
 ·unfold exF exV;simp only[decide_eq_true_eq]
  by_cases h:c=8/\y.lo=0
  ·rw[if_pos h,if_neg (fun k=>k h)]
  ·rw[if_neg h,if_pos h,if_neg h]
 ·rfl
theorem af0{p:IProg}{e0:List IBlk}{s:Slv}(h:SlvAt w K p e0 k s)(av:Value)(h1:o.code≠1)(h2:o.code≠2)(h64:I64 o.code){f:Nat}(hr:ruG o.code=some f)
 (ha:0<=o.a/\o.a<K.n) (hb:0<=o.b/\o.b<K.n):
 A 96 #[.pointer (some ⟨K.sb,0,none⟩),aam o av] w (re w (i4 p s o)):=by
 rw[show i4 p s o=afy o.code (s.get o.a) (s.get o.b) by unfold i4;rw[if_neg h1,if_neg h2]];obtain⟨c,d,a,b,n,al⟩:=o;have h1:c≠1:=h1;have h2:c≠2:=h2;have e1:(c==1)=false:=by simpa using h1
 have e2:(c==2)=false:=by simpa using h2
 have hr:ruG c=some f:=hr;have h64:I64 c:=h64;have ha:0<=a/\a<K.n:=ha;have hb:0<=b/\b<K.n:=hb
 show Calls _ _ _ _ (re w (afy c (s.get a) (s.get b)))
 have b2:=fun(W:World) (hW:O w W)=>(h.below hW).rcell ha
 have b1:=fun(W:World) (hW:O w W)=>(h.below hW).rcell hb
 have b9:=h.oks.get a;have b6:=h.oks.get b;obtain⟨u,rfl⟩:∃u:Nat,a=u:=⟨a.toNat,by omega⟩
 obtain⟨v,rfl⟩:∃v:Nat,b=v:=⟨b.toNat,by omega⟩
 generalize s.get (u:Int)=x at *;generalize s.get (v:Int)=y at *;have hn:=h.n64;have hu:u<K.n:=Zo;have hv:v<K.n:=Zo
 have HL:=Ja (show ∀W,O w W->(Instr.lookup 95 (.map (some K.rm)) (I c) true).run Tryz.prog W=.ok (.tuple #[.func (.func f) #[] #[],.bool true]) W from fun W hb=>by
  have:=(h.below hb).map.lookOk h64
  rw[hr] at this;exact this)
 have HC:=Ja (show ∀W,O w W->T W K.sb 7 (.map (some K.rm))/\T W K.sb 8 (.slice (some ⟨K.rb,0,none⟩) K.n K.n)/\T W K.rb (u*2) (U (x.lo:Int))/\T W K.rb (u*2+1) (U (x.hi:Int))/\T W K.rb (v*2) (U (y.lo:Int))/\T W K.rb (v*2+1) (U (y.hi:Int)) from fun W hb=>⟨(h.below hb).cells.2.1,(h.below hb).cells.2.2.1,(b2 W hb).1,(b2 W hb).2,(b1 W hb).1,(b1 W hb).2⟩);obtain⟨R,hR⟩:∃R,afy c x y=R:=⟨_,rfl⟩
 have l:=Ja (Jb hr (Jb b9 (Jb b6 hR)));rw[hR];unfold aam;clear h h1 h2 h64 hr b2 b1 b9 b6 ha hb hR;go_enter Tryz.func96,Tryz.ntmps96;go_upto_region 6 with(go_at_call 999999;skip)
 obtain⟨X,hX⟩:∃X,(w.alloc (G #[I c,I d,I u,I v,U n,av] 76)).alloc (G #[U 0,U 0] 45)=X:=⟨_,rfl⟩
 have j:=Ja (show O w X/\L X w.heap.size #[I c,I d,I u,I v,U n,av] 76/\L X (w.heap.size+1) #[U 0,U 0] 45 from by
  rw[<-hX];exact⟨by repeat' (first|exact Below.refl _ _|(refine Below.alloc ?_ (by first|(simp;done)|(simp;omega)) _)),zB (zI rfl),zI Zs⟩)
 rw[hX];clear hX;have b4:=Ja (show ∀W,O X W->T W K.sb 7 (.map (some K.rm))/\T W w.heap.size 0 (I c) from fun W hb=>⟨(HC.out W (j.out.1.trans (hb.mono j.out.1.size))).1,zA (zH hb j.out.2.1 (lt_of_block j.out.2.1)) rfl⟩);have b3:=Ja (show ∀W,O X W->(T W w.heap.size 2 (I u)/\T W w.heap.size 3 (I v))/\(T W K.sb 8 (.slice (some ⟨K.rb,0,none⟩) K.n K.n)/\T W K.rb (u*2) (U (x.lo:Int))/\T W K.rb (u*2+1) (U (x.hi:Int))/\T W K.rb (v*2) (U (y.lo:Int))/\T W K.rb (v*2+1) (U (y.hi:Int))) from fun W hb=>⟨⟨zA (zH hb j.out.2.1 (lt_of_block j.out.2.1)) rfl,zA (zH hb j.out.2.1 (lt_of_block j.out.2.1)) rfl⟩,(HC.out W (j.out.1.trans (hb.mono j.out.1.size))).2⟩);obtain⟨c0,c1⟩:=b4.out X (Below.refl _ _);have hl:=HL.out X.drew j.out.1.drew
 go_region_held3 (fun w'=>T w' K.sb 7 (.map (some K.rm))/\T w' w.heap.size 0 (I c)) ((refine b4.out _ ?_;repeat' (first|with_reducible exact Below.refl _ _|with_reducible assumption|with_reducible refine Below.drew ?_)))
  (fail)
 all_goals go_upto_region 9 with(go_at_call 999999;skip)
 all_goals clear c0 c1 hl
 go_cut [7,8] (fun s t wx=>∃b7 b8,s=.pointer (some ⟨b7,0,none⟩)/\t=.pointer (some ⟨b8,0,none⟩)/\Hid (L wx b7 #[U (x.lo:Int),U (x.hi:Int)] 45/\L wx b8 #[U (y.lo:Int),U (y.hi:Int)] 45/\O X wx))
 case first=>
  obtain⟨⟨c0,c1⟩,c2,c3,c4,c5,c6⟩:=b3.out X.drew (Below.refl _ _).drew
  go_region_held3 (fun w'=>(T w' w.heap.size 2 (I u)/\T w' w.heap.size 3 (I v))/\(T w' K.sb 8 (.slice (some ⟨K.rb,0,none⟩) K.n K.n)/\T w' K.rb (u*2) (U (x.lo:Int))/\T w' K.rb (u*2+1) (U (x.hi:Int))/\T w' K.rb (v*2) (U (y.lo:Int))/\T w' K.rb (v*2+1) (U (y.hi:Int)))) ((refine b3.out _ ?_;repeat' (first|with_reducible exact Below.refl _ _|with_reducible assumption|with_reducible refine Below.drew ?_|with_reducible refine Below.alloc ?_ Zn _|with_reducible refine Below.setCell ?_ Zn _)))
  (fail)
  all_goals go_wp2_with fail
  all_goals go_meet
  all_goals exact⟨_,_,rfl,rfl,by first|exact zB (zI rfl)|exact zI Zs,by first|exact zB (zI rfl)|exact zI Zs,by repeat' (first|with_reducible exact Below.refl _ _|with_reducible assumption|with_reducible refine Below.drew ?_|with_reducible refine Below.alloc ?_ Zn _|with_reducible refine Below.setCell ?_ Zn _)⟩
 case rest=>
  obtain⟨b7,b8,rfl,rfl,HY⟩:=hcut
  rename World=>Y
  have c9:=j.out.1.trans (HY.out.2.2.mono j.out.1.size);have d0:=zH HY.out.2.2 j.out.2.2 (lt_of_block j.out.2.2);have d1:=zH HY.out.2.2 j.out.2.1 (lt_of_block j.out.2.1);have HB:=Ja (Jb c9 (Jb d1 d0));clear c9 d0 d1 b3 b4 HC HL;have HZ:=Ja (show ∀W,O Y W->T W b7 0 (U (x.lo:Int))/\T W b7 1 (U (x.hi:Int))/\T W b8 0 (U (y.lo:Int))/\T W b8 1 (U (y.hi:Int))/\T W w.heap.size 0 (I c) from fun W hb=>⟨zA (zH hb HY.out.1 (lt_of_block HY.out.1)) rfl,zA (zH hb HY.out.1 (lt_of_block HY.out.1)) rfl,zA (zH hb HY.out.2.1 (lt_of_block HY.out.2.1)) rfl,zA (zH hb HY.out.2.1 (lt_of_block HY.out.2.1)) rfl,zA (zH hb HB.out.2.1 (lt_of_block HB.out.2.1)) rfl⟩);obtain⟨q3,h3⟩:∃q,(c==3)=q:=⟨_,rfl⟩
  obtain⟨q4,h4⟩:∃q,(c==4)=q:=⟨_,rfl⟩
  obtain⟨z0,z1,z2,z3,z4⟩:=HZ.out Y (Below.refl _ _);go_upto_region 10 with(go_at_call 999999;skip)
  go_cut [9] (fun s wx=>s=.bool (q3||q4)/\wx=Y)
  case first=>
   cases q3;cases q4
   all_goals go_wp2_with fail
   all_goals go_meet
   all_goals exact⟨rfl,rfl⟩
  case rest=>
   obtain⟨rfl,b5⟩:=hcut;rw[b5];clear b5;obtain⟨q9,h9⟩:∃q,(q3||q4)=q:=⟨_,rfl⟩
   obtain⟨sx,a6⟩:∃q,yf x=q:=⟨_,rfl⟩
   obtain⟨sy,a5⟩:∃q,yf y=q:=⟨_,rfl⟩
   obtain⟨Q,hQ⟩:∃Q,(decide (c<=17) && (sx && (q9||sy)))=Q:=⟨_,rfl⟩
   have a4:=Ja (fun W=>i5 W x);have d5:=Ja (fun W=>i5 W y);rw[a6] at a4;rw[a5] at d5;rw[h9];go_upto_region 11 with(go_at_call 999999;skip)
   have HQ:=Ja (Jb h3 (Jb h4 (Jb h9 (Jb a6 (Jb a5 hQ)))));clear h3 h4 h9 a6 a5
   go_cut [85] (fun s wx=>s=.bool Q/\Hid (O Y wx))
   case first=>
    by_cases d3:c<=17
    ·rw[decide_eq_true d3,Bool.true_and] at hQ;cases sx
     ·go_wp2_with (go_at_call 83;go_must (refine(a4.out _).mono ?_;rintro e w1 ⟨rfl,g⟩))
      go_meet;exact⟨by rw[<-hQ];rfl,g⟩
     ·cases q9
      ·go_wp2_with (go_at_call 83;go_must (first|(refine(a4.out Y).mono ?_;rintro e w1 ⟨rfl,g⟩;obtain⟨z0,z1,z2,z3,z4⟩:=HZ.out w1 g)|(refine(d5.out _).mono ?_;rintro e w2 ⟨rfl,a1⟩)))
       go_meet;exact⟨by rw[<-hQ];rfl,g.trans (a1.mono g.size)⟩
      ·go_wp2_with (go_at_call 83;go_must (refine(a4.out _).mono ?_;rintro e w1 ⟨rfl,g⟩))
       go_meet;exact⟨by rw[<-hQ];rfl,g⟩
    ·rw[decide_eq_false d3,Bool.false_and] at hQ;subst hQ;go_wp2_with fail;go_meet;exact⟨rfl,Below.refl _ _⟩
   case rest=>
    obtain⟨rfl,HW⟩:=hcut
    rename World=>Z
    have d2:=HB.out.1.trans (HW.out.mono HB.out.1.size);have a7:=zH HW.out HB.out.2.2 (lt_of_block HB.out.2.2);have HR:=Ja (Jb d2 a7);clear d2 a7;obtain⟨r,a2,_⟩:=ago l.out.1 l.out.2.1 l.out.2.2.1 Z
    have HF:=Ja (show ∀W,A f #[.agg #[U (x.lo:Int),U (x.hi:Int)],.agg #[U (y.lo:Int),U (y.hi:Int)]] W (fun e w'=>e=.returned (.agg #[U (r.lo:Int),U (r.hi:Int)])/\O W w') from fun W=>by
     obtain⟨r',h1,h2⟩:=ago l.out.1 l.out.2.1 l.out.2.2.1 W;rw[a2] at h1;cases h1
     exact h2)
    have hR:=appF_by a2;rw[l.out.2.2.2,HQ.out.1,HQ.out.2.1,HQ.out.2.2.1,HQ.out.2.2.2.1,HQ.out.2.2.2.2.1,HQ.out.2.2.2.2.2] at hR;have d7:=ruG_ge l.out.1;clear z0 z1 z2 z3 z4;obtain⟨z0,z1,z2,z3,z4⟩:=HZ.out Z HW.out;cases Q
    ·rw[if_neg Zd] at hR;subst hR;clear a2;rcases ruG_mem l.out.1 with rfl|rfl|rfl|rfl|rfl|rfl|rfl|rfl|rfl|rfl|rfl|rfl|rfl|rfl|rfl|rfl|rfl
     all_goals go_wp2_with ((first|go_at_call 70|go_at_call 72|go_at_call 73|go_at_call 74|go_at_call 75|go_at_call 77|go_at_call 78|go_at_call 79|go_at_call 81|go_at_call 82|go_at_call 84|go_at_call 85|go_at_call 86|go_at_call 88|go_at_call 89|go_at_call 90|go_at_call 91);go_must (refine(HF.out _).mono ?_;rintro e w1 ⟨rfl,g⟩;have m:O Z w1:=Below.trans (show O Z _ from by repeat' (first|with_reducible exact Below.refl _ _|with_reducible refine Below.drew ?_)) (g.mono (Je _));clear g;have hk:=zH m HR.out.2 (lt_of_block HR.out.2);have f0:=zA (i:=0) hk rfl;have f1:=zA (i:=1) hk rfl;have g0:=zE (i:=0) hk;have g1:=zE (i:=1) hk;have c7:=lt_of_block hk;have c8:=HR.out.1.trans (m.mono HR.out.1.size)))
     all_goals (refine bodyPost_ret (v:=.agg #[U (R.lo:Int),U (R.hi:Int)]) ?_ rfl ⟨rfl,by repeat' (first|exact Below.refl _ _|assumption|(refine Below.drew ?_)|(refine Below.alloc ?_ (by first|(simp;done)|(simp;omega)) _)|(refine Below.setCell ?_ (by first|(simp;done)|(simp;omega)) _))⟩;rw[zM rfl];go_simp)
    ·rw[if_pos rfl] at hR
     have d6:c<=17:=by
      have:=HQ.out.2.2.2.2.2;simp only[Jm,decide_eq_true_eq] at this;exact this.1
     obtain⟨fv,a8⟩:∃q,exF c y.lo=q:=⟨_,rfl⟩
     obtain⟨ev,a9⟩:∃q,exV c x.lo y.lo=q:=⟨_,rfl⟩
     have b0:=fun W=>aha ⟨d7,d6⟩ (Nat.lt_of_le_of_lt (Jn l.out.2.1.1 l.out.2.1.2) Zd) (Nat.lt_of_le_of_lt (Jn l.out.2.2.1.1 l.out.2.2.1.2) Zd) W (a:=x.lo) (b:=y.lo)
     have a3:R=if fv=true then afw ev else y7:=by rw[<-a8,<-a9];exact hR
     rw[a8,a9] at b0;have d4:=Ja b0;have HO:=Ja (fun W=>ae3 W ev);clear b0 hR a8 a9 a2;cases fv
     ·rw[if_neg Zd] at a3;subst a3
      go_wp2_with (first
       |(go_at_call 123;go_must (refine(d4.out _).mono ?_;rintro e w1 ⟨rfl,g⟩;have a0:Below Z.heap.size Z w1:=Below.trans (show Below Z.heap.size Z _ from by repeat' (first|with_reducible exact Below.refl _ _|with_reducible refine Below.drew ?_)) (g.mono (Je _));clear g))
       |(go_at_call 39;go_must (refine(m0 _).mono ?_;rintro e w2 ⟨rfl,a1⟩;have m:=a0.trans (a1.mono a0.size);clear a1 a0;have hk:=zH m HR.out.2 (lt_of_block HR.out.2);have f0:=zA (i:=0) hk rfl;have f1:=zA (i:=1) hk rfl;have g0:=zE (i:=0) hk;have g1:=zE (i:=1) hk;have c7:=lt_of_block hk;have c8:=HR.out.1.trans (m.mono HR.out.1.size))))
      refine bodyPost_ret (v:=.agg #[U 0,U 65535]) ?_ rfl ⟨rfl,by repeat' (first|exact Below.refl _ _|assumption|(refine Below.drew ?_)|(refine Below.alloc ?_ (by first|(simp;done)|(simp;omega)) _)|(refine Below.setCell ?_ (by first|(simp;done)|(simp;omega)) _))⟩;rw[zM rfl];go_simp
     ·rw[if_pos rfl] at a3;subst a3
      go_wp2_with (first
       |(go_at_call 123;go_must (refine(d4.out _).mono ?_;rintro e w1 ⟨rfl,g⟩;have a0:Below Z.heap.size Z w1:=Below.trans (show Below Z.heap.size Z _ from by repeat' (first|with_reducible exact Below.refl _ _|with_reducible refine Below.drew ?_)) (g.mono (Je _));clear g))
       |(go_at_call 122;go_must (refine(HO.out _).mono ?_;rintro e w2 ⟨rfl,a1⟩;have m:=a0.trans (a1.mono a0.size);clear a1 a0;have hk:=zH m HR.out.2 (lt_of_block HR.out.2);have f0:=zA (i:=0) hk rfl;have f1:=zA (i:=1) hk rfl;have g0:=zE (i:=0) hk;have g1:=zE (i:=1) hk;have c7:=lt_of_block hk;have c8:=HR.out.1.trans (m.mono HR.out.1.size))))
      refine bodyPost_ret (v:=.agg #[U ev,U ev]) ?_ rfl ⟨rfl,by repeat' (first|exact Below.refl _ _|assumption|(refine Below.drew ?_)|(refine Below.alloc ?_ (by first|(simp;done)|(simp;omega)) _)|(refine Below.setCell ?_ (by first|(simp;done)|(simp;omega)) _))⟩;rw[zM rfl];go_simp
theorem agG{p:IProg}{g:List IBlk}{s:Slv}(h:SlvAt w K p g k s)(av:Value)(h64:I64 o.code)(i:o.n<65536)(c:o.code=2->0<=o.a/\o.a<p.data.length)
 (d:o.code≠1->o.code≠2->ruG o.code≠none->(0<=o.a/\o.a<K.n)/\0<=o.b/\o.b<K.n):
 A 96 #[Q K.sb,aam o av] w (re w (i4 p s o)):=by
 by_cases h1:o.code=1
 ·exact af8 _ av h1 p s
 by_cases h2:o.code=2
 ·exact agS h av h2 (c h2) i
 cases hr:ruG o.code with
 |none=>exact af5 h av h1 h2 h64 hr
 |some f=>
  obtain⟨j,hb⟩:=d h1 h2 (by rw[hr];exact fun e=>by cases e);exact af0 h av h1 h2 h64 hr j hb
structure SlvTo (w w':World) (K:SK):Prop where
 os:w'.os=w.os
 tape:w'.tape=w.tape
 output:w'.output=w.output
 size:w.heap.size<=w'.heap.size
 block:∀i,i<w.heap.size->i≠K.rb->i≠K.kb->i≠K.sb->w'.heap[i]? =w.heap[i]?
theorem SlvTo.refl (w:World)(K:SK):SlvTo w w K:=⟨rfl,rfl,rfl,Je _,fun _ _ _ _ _=>rfl⟩
theorem SlvTo.trans(h:SlvTo w w1 K)(d:SlvTo w1 w2 K):SlvTo w w2 K:=
 ⟨d.os.trans h.os,d.tape.trans h.tape,d.output.trans h.output,Jn h.size d.size,fun i hi a b c=>(d.block i (Jy hi h.size) a b c).trans (h.block i hi a b c)⟩
theorem SlvTo.of_below(h:O w w'):SlvTo w w' K:=⟨h.os,h.tape,h.output,h.size,fun i hi _ _ _=>h.block i hi⟩
theorem SlvTo.below(h:SlvTo w w' K){B:Nat}(hB:B<=K.rb/\B<=K.kb/\B<=K.sb/\B<=w.heap.size):Below B w w':=
 ⟨h.os,h.tape,h.output,h.size,fun i hi=>h.block i Zo Zo Zo Zo⟩
theorem afk (l:List Rg)(v:Nat)(a:Rg)(h:v<l.length):(((l.flatMap wb).toArray.setIfInBounds (v*2) (U (a.lo:Int))).setIfInBounds (v*2+1) (U (a.hi:Int)))=((l.set v a).flatMap wb).toArray:=by
 simp only[Jc]
 congr 1
 induction l generalizing v with
 |nil=>simp at h
 |cons x l ih=>
  cases v with
  |zero=>rfl
  |succ v=>
   have:=ih v (by simpa using h);rw[show(v+1)*2=v*2+1+1 by omega];simp only[Qa,Jg];rw[<-this];rfl
theorem qf{p:IProg}{c:List IBlk}{s:Slv}(h:SlvAt w K p c k s){v:Nat}(hv:v<K.n):T w K.kb v (.bool (s.knw v)):=by
 refine zA h.kn ?_;have hl:v<s.kn.length:=by rw[h.oks.kl];exact hv
 unfold Slv.knw;simp[Jj,Jd hl,hl]
theorem SlvAt.put{X:World}{p:IProg}{j:List IBlk}{s:Slv}(h:SlvAt X K p j k s){v:Nat}(hv:v<K.n){a:Rg}(t:a.ok)
 (d:((X.setCell ⟨K.kb,v,none⟩ (.bool true)).setCell ⟨K.rb,v*2,none⟩ (U (a.lo:Int))).setCell ⟨K.rb,v*2+1,none⟩ (U (a.hi:Int))=W):
 SlvAt W K p j k (s.put v a)/\SlvTo X W K:=by
 have m:=h.ne;have c:=h.lt;have o:=zD (i:=v) h.kn (.bool true)
 have q:W.heap[K.kb]? =(X.setCell ⟨K.kb,v,none⟩ (.bool true)).heap[K.kb]?:=by
  rw[<-d,Below.heap_setCell _ _ _ _ (by show K.kb≠K.rb;omega),Below.heap_setCell _ _ _ _ (by show K.kb≠K.rb;omega)]
 have l:L (X.setCell ⟨K.kb,v,none⟩ (.bool true)) K.rb (s.r.flatMap wb).toArray 45:=by
  rw[Below.heap_setCell _ _ _ _ (by show K.rb≠K.kb;omega)];exact h.row
 have g:=zD (i:=v*2+1) (zD (i:=v*2) l (U (a.lo:Int))) (U (a.hi:Int));rw[d] at g
 have hb:Below K.B X W:=by
  rw[<-d];exact(((Below.refl K.B X).setCell c.2.2.1 _).setCell c.2.1 _).setCell c.2.1 _
 have ho:∀i,i≠K.rb->i≠K.kb->W.heap[i]? =X.heap[i]?:=fun i h1 h2=>by
  rw[<-d,Below.heap_setCell _ _ _ _ h1,Below.heap_setCell _ _ _ _ h1,Below.heap_setCell _ _ _ _ h2]
 refine⟨⟨h.prog.below hb,h.blks.below yT hb,h.map.same (ho _ Zo Zo),(ho _ Zo Zo).trans h.cell,?_,?_,h.oks.put _ t,h.n64,c,m⟩,⟨hb.os,hb.tape,hb.output,hb.size,fun i _ h1 h2 _=>ho i h1 h2⟩⟩
 ·have:=afk s.r v a (by rw[h.oks.rl];exact hv);rw[show(s.put (v:Int) a).r=s.r.set v a from rfl,<-this];exact g
 ·rw[q,o,show(s.put (v:Int) a).kn=s.kn.set v true from rfl];simp[Ox]
def j5 (w:World)(K:SK)(p:IProg)(bls:List IBlk)(k:Nat)(q:Slv×Bool)(e:Ending)(w':World):Prop:=e=.returned (.bool q.2)/\SlvAt w' K p bls k q.1/\SlvTo w w' K
theorem set_new{p:IProg}{l:List IBlk}{s:Slv}(h:SlvAt w K p l k s){v:Nat}(hv:v<K.n){a:Rg}(o:a.ok)(hk:¬4<k)(j:s.knw v=false):
 A 38 #[Q K.sb,I v,.agg #[U (a.lo:Int),U (a.hi:Int)]] w (j5 w K p l k (s.put v a,true)):=by
 have g:=qf h hv;rw[j] at g;have a0:¬(4:Int)<(k:Int):=Zo;have H:=Ja (Jb h o);have hn:=h.n64;have l1:=lt_of_block h.cell;have l2:=lt_of_block h.row;have l3:=lt_of_block h.kn;obtain⟨s4,s7,s8,s9,s10,s6⟩:=h.cells;have y:=h.ne;clear h o hk j s4 s7 s6;go_enter Tryz.func38,Tryz.ntmps38;go_upto_region 7 with(go_at_call 999999;skip)
 obtain⟨X,m⟩:∃X,w.alloc (G #[U (a.lo:Int),U (a.hi:Int)] 45)=X:=⟨_,rfl⟩
 have d:=Ja (show O w X/\L X w.heap.size #[U (a.lo:Int),U (a.hi:Int)] 45/\w.heap.size<X.heap.size from by
  rw[<-m];exact⟨Below.alloc (Below.refl _ _) (Je _) _,zI rfl,by simp⟩)
 rw[m];clear m;clear g s8 s9 s10;have c:=Ja (H.out.1.below d.out.1);have t:=Ja (show ∀W:World,W.heap[K.sb]? =X.heap[K.sb]?->W.heap[w.heap.size]? =X.heap[w.heap.size]?->T W K.sb 8 (Y K.rb K.n K.n)/\T W K.sb 9 (Y K.kb K.n K.n)/\T W w.heap.size 0 (U (a.lo:Int))/\T W w.heap.size 1 (U (a.hi:Int)) from fun W h1 h2=>⟨zA (h1.trans c.out.cell) rfl,zA (h1.trans c.out.cell) rfl,zA (h2.trans d.out.2.1) rfl,zA (h2.trans d.out.2.1) rfl⟩);obtain⟨c0,c1,c2,c3⟩:=t.out X rfl rfl;have kx:=qf c.out hv;have kf:=zE (i:=v) c.out.kn;obtain⟨r0,r1⟩:=c.out.rcell (v:=(v:Int)) Zo;rw[Ni] at r0 r1;have x:=zE (i:=v*2) c.out.row;have u:=zE (i:=v*2+1) c.out.row;have m1:=lt_of_block c.out.cell;have m2:=lt_of_block c.out.row;have m3:=lt_of_block c.out.kn;have m4:=d.out.2.2;go_region_held3 (fun w'=>T w' K.sb 8 (Y K.rb K.n K.n)/\T w' K.sb 9 (Y K.kb K.n K.n)/\T w' w.heap.size 0 (U (a.lo:Int))/\T w' w.heap.size 1 (U (a.hi:Int))) ((refine t.out _ ?_ ?_<;>(repeat' (first|(rw[Below.heap_setCell _ _ _ _ (by first|(show K.sb≠K.kb;omega)|(show K.sb≠K.rb;omega)|(show w.heap.size≠K.kb;omega)|(show w.heap.size≠K.rb;omega))])|(rw[show ∀v:World,v.drew.heap=v.heap from fun _=>rfl])|exact rfl)))) (fail)
 all_goals go_wp2
 all_goals (
  obtain⟨W,q⟩:∃W,((X.setCell ⟨K.kb,v,none⟩ (.bool true)).setCell ⟨K.rb,v*2,none⟩ (U (a.lo:Int))).setCell ⟨K.rb,v*2+1,none⟩ (U (a.hi:Int))=W:=⟨_,rfl⟩
  rw[q];obtain⟨j1,j2⟩:=c.out.put hv H.out.2 q;go_ret
  exact⟨rfl,j1.below (Below.refl _ _).drew,((SlvTo.of_below d.out.1).trans j2).trans (SlvTo.of_below (Below.refl _ _).drew)⟩)
theorem afR{p:IProg}{s:Slv}(h:SlvAt w K p t k s){v:Nat}(hv:v<K.n){a0:Rg}(hk:4<k)(o:s.knw v=false):
 A 38 #[Q K.sb,I v,.agg #[U (a0.lo:Int),U (a0.hi:Int)]] w (j5 w K p t k (s.put v y7,true)):=by
 have m:=qf h hv;rw[o] at m;have a4:(4:Int)<(k:Int):=Zo;obtain⟨a,j⟩:∃a,y7=a:=⟨_,rfl⟩
 have H:=Ja (Jb h (show a.ok from j ▸ vu));have hn:=h.n64;have l1:=lt_of_block h.cell;have l2:=lt_of_block h.row;have l3:=lt_of_block h.kn;obtain⟨s4,s7,s8,s9,s10,s6⟩:=h.cells;have a3:=h.ne;have HZ:=Ja j;rw[j];clear h hk o s4 s7 s6 j;go_enter Tryz.func38,Tryz.ntmps38;go_upto_region 7 with(go_at_call 39;go_must (refine(m0 _).mono ?_;rintro e w1 ⟨rfl,d⟩;have hk:=zH d (zI rfl) Zs;have f0:=zA (i:=0) hk rfl;have f1:=zA (i:=1) hk rfl;have g0:=zE (i:=0) hk;have g1:=zE (i:=1) hk;have x:=lt_of_block hk;have q:=Below.trans (show O w _ from by repeat' (first|exact Below.refl _ _|(refine Below.alloc ?_ (by first|(simp;done)|(simp;omega)) _))) (d.mono (by first|(simp;done)|(simp;omega)))))
 obtain⟨X,l⟩:∃X,(w1.setCell ⟨w.heap.size,0,none⟩ (U 0)).setCell ⟨w.heap.size,1,none⟩ (U 65535)=X:=⟨_,rfl⟩
 have g:=Ja (show O w X/\L X w.heap.size #[U (a.lo:Int),U (a.hi:Int)] 45/\w.heap.size<X.heap.size from by
  have u:=zD (i:=1) (zD (i:=0) hk (U 0)) (U 65535);rw[l] at u;refine⟨by rw[<-l];exact(q.setCell (Je _) _).setCell (Je _) _,?_,lt_of_block u⟩;rw[<-HZ.out]
  exact u)
 rw[l];clear l hk f0 f1 g0 g1 x q d;clear m s8 s9 s10;have c:=Ja (H.out.1.below g.out.1);have HC:=Ja (show ∀W:World,W.heap[K.sb]? =X.heap[K.sb]?->W.heap[w.heap.size]? =X.heap[w.heap.size]?->T W K.sb 8 (Y K.rb K.n K.n)/\T W K.sb 9 (Y K.kb K.n K.n)/\T W w.heap.size 0 (U (a.lo:Int))/\T W w.heap.size 1 (U (a.hi:Int)) from fun W h1 h2=>⟨zA (h1.trans c.out.cell) rfl,zA (h1.trans c.out.cell) rfl,zA (h2.trans g.out.2.1) rfl,zA (h2.trans g.out.2.1) rfl⟩);obtain⟨c0,c1,c2,c3⟩:=HC.out X rfl rfl;have kx:=qf c.out hv;have kf:=zE (i:=v) c.out.kn;obtain⟨r0,r1⟩:=c.out.rcell (v:=(v:Int)) Zo;rw[Ni] at r0 r1;have a2:=zE (i:=v*2) c.out.row;have a1:=zE (i:=v*2+1) c.out.row;have m1:=lt_of_block c.out.cell;have m2:=lt_of_block c.out.row;have m3:=lt_of_block c.out.kn;have m4:=g.out.2.2;go_region_held3 (fun w'=>T w' K.sb 8 (Y K.rb K.n K.n)/\T w' K.sb 9 (Y K.kb K.n K.n)/\T w' w.heap.size 0 (U (a.lo:Int))/\T w' w.heap.size 1 (U (a.hi:Int))) ((refine HC.out _ ?_ ?_<;>(repeat' (first|(rw[Below.heap_setCell _ _ _ _ (by first|(show K.sb≠K.kb;omega)|(show K.sb≠K.rb;omega)|(show w.heap.size≠K.kb;omega)|(show w.heap.size≠K.rb;omega))])|(rw[show ∀v:World,v.drew.heap=v.heap from fun _=>rfl])|exact rfl)))) (fail)
 all_goals go_wp2
 all_goals (
  obtain⟨W,y⟩:∃W,((X.setCell ⟨K.kb,v,none⟩ (.bool true)).setCell ⟨K.rb,v*2,none⟩ (U (a.lo:Int))).setCell ⟨K.rb,v*2+1,none⟩ (U (a.hi:Int))=W:=⟨_,rfl⟩
  rw[y];obtain⟨j1,j2⟩:=c.out.put hv H.out.2 y;go_ret
  exact⟨rfl,j1.below (Below.refl _ _).drew,((SlvTo.of_below g.out.1).trans j2).trans (SlvTo.of_below (Below.refl _ _).drew)⟩)
theorem afj (w:World)(a b:Rg):A 92 #[.agg #[U (a.lo:Int),U (a.hi:Int)],.agg #[U (b.lo:Int),U (b.hi:Int)]] w (fun e w'=>e=.returned (.agg #[U ((sq a b).lo:Int),U ((sq a b).hi:Int)])/\O w w'):=hull_any w a b
theorem ahI{p:IProg}{a3:List IBlk}{s:Slv}(h:SlvAt w K p a3 k s){v:Nat}(hv:v<K.n){a:Rg}(a1:s.knw v=true)(c:lf (sq a (s.get v)) (s.get v)=true):
 A 38 #[Q K.sb,I v,.agg #[U (a.lo:Int),U (a.hi:Int)]] w (j5 w K p a3 k (s,false)):=by
 have a0:=qf h hv;rw[a1] at a0;have l:=fun(W:World) (hW:O w W)=>(h.below hW).rcell (v:=(v:Int)) Zo
 generalize hg:s.get (v:Int)=g at *;obtain⟨q,hq⟩:∃q,sq a g=q:=⟨_,rfl⟩
 have HH:=Ja (fun W=>afj W a g);rw[hq] at HH c
 have y:q.lo=g.lo/\q.hi=g.hi:=by
  unfold lf at c
  simpa only[Jm,decide_eq_true_eq] using c
 rw[Ni] at l;have H:=Ja h;have hn:=h.n64;obtain⟨s4,s7,s8,s9,s10,s6⟩:=h.cells;have HC:=Ja (show ∀W:World,O w W->T W K.sb 8 (.slice (some ⟨K.rb,0,none⟩) K.n K.n)/\T W K.rb (v*2) (U (g.lo:Int))/\T W K.rb (v*2+1) (U (g.hi:Int)) from fun W hb=>⟨(h.below hb).cells.2.2.1,(l W hb).1,(l W hb).2⟩);have l1:=lt_of_block h.cell;have l2:=lt_of_block h.row;have l3:=lt_of_block h.kn;have a4:=Ja y;clear h y a1 c s4 s7 s6 s8 s10 l hg hq;go_enter Tryz.func38,Tryz.ntmps38;go_upto_region 2 with(go_at_call 999999;skip)
 obtain⟨X,hX⟩:∃X,w.alloc (G #[U (a.lo:Int),U (a.hi:Int)] 45)=X:=⟨_,rfl⟩
 have d:=Ja (show O w X/\L X w.heap.size #[U (a.lo:Int),U (a.hi:Int)] 45/\w.heap.size<X.heap.size from by
  rw[<-hX];exact⟨Below.alloc (Below.refl _ _) (Je _) _,zI rfl,by simp⟩)
 rw[hX];clear hX a0 s9;have u:=Ja (show ∀W:World,Below w.heap.size X W->T W K.sb 8 (.slice (some ⟨K.rb,0,none⟩) K.n K.n)/\T W K.rb (v*2) (U (g.lo:Int))/\T W K.rb (v*2+1) (U (g.hi:Int)) from fun W hb=>HC.out W (d.out.1.trans hb));obtain⟨c0,c1,c2⟩:=u.out X (Below.refl _ _);have x0:=zA (i:=0) d.out.2.1 rfl;have x1:=zA (i:=1) d.out.2.1 rfl;have a6:=d.out.2.2;refine wp_region_noPanic ?_;refine yQ (S:=(fun w'=>T w' K.sb 8 (.slice (some ⟨K.rb,0,none⟩) K.n K.n)/\T w' K.rb (v*2) (U (g.lo:Int))/\T w' K.rb (v*2+1) (U (g.hi:Int))/\T w' w.heap.size 0 (U (a.lo:Int))/\T w' w.heap.size 1 (U (a.hi:Int)))) 9 Zk ⟨c0,c1,c2,x0,x1⟩ (fun hHeld=>?_);refine Tl 0 ?_
 try simp only[Yp]
 refine Tl 1 ?_
 try simp only[Yp]
 refine Tl 2 ?_
 try simp only[Yp]
 refine Tl 3 ?_
 try simp only[Yp]
 refine Tl 4 ?_
 try simp only[Yp]
 refine Tl 5 ?_
 try simp only[Yp]
 refine Tl 6 ?_
 try simp only[Yp]
 refine Tl 7 ?_
 try simp only[Yp]
 refine z8 (rs:=[8]) Zk Zs ?_;refine zS.cons (o:=_) rfl (fun K hK=>?_) ?_
 ·skip
  (go_simp;refine(HH.out _).mono ?_;rintro e w1 ⟨rfl,a2⟩;have m:O X w1:=(Below.refl X.heap.size X).drew.trans a2;clear a2;have hk:=zH m d.out.2.1 (lt_of_block d.out.2.1);have f0:=zA (i:=0) hk rfl;have f1:=zA (i:=1) hk rfl;have g0:=zE (i:=0) hk;have g1:=zE (i:=1) hk;have a7:=lt_of_block hk;have t:=u.out w1 (m.mono (Qd d.out.2.2)))
  refine hK.out _ _ ⟨t.1,t.2.1,t.2.2,f0,f1⟩ (fun hHeld=>?_);clear hK K
  try simp only[Yp]
  refine z8 (rs:=[9]) Zk Zs ?_;refine zS.last (o:=_) rfl (fun K hK=>?_);go_simp;refine hK.out _ _ ?_;clear hK K
  try simp only[Yp]
  refine xj Zk (NoPanic.normal ?_) _;go_upto_region 3 with(go_at_call 999999;skip)
  obtain⟨Y,x⟩:∃Y,(w1.setCell ⟨w.heap.size,0,none⟩ (U (q.lo:Int))).setCell ⟨w.heap.size,1,none⟩ (U (q.hi:Int))=Y:=⟨_,rfl⟩
  have j:=Ja (show O w Y/\L Y w.heap.size #[U (q.lo:Int),U (q.hi:Int)] 45/\w.heap.size<Y.heap.size from by
   have hh:=zD (i:=1) (zD (i:=0) hk (U (q.lo:Int))) (U (q.hi:Int));rw[x] at hh
   exact⟨by rw[<-x];exact((d.out.1.trans (m.mono (Qd d.out.2.2))).setCell (Je _) _).setCell (Je _) _,hh,lt_of_block hh⟩)
  rw[x];clear x hk f0 f1 g0 g1 a7 m t u c0 c1 c2 x0 x1 a6;have a5:=Ja (show ∀W:World,O Y W->(T W K.sb 8 (.slice (some ⟨K.rb,0,none⟩) K.n K.n)/\T W K.rb (v*2) (U (g.lo:Int))/\T W K.rb (v*2+1) (U (g.hi:Int)))/\T W w.heap.size 0 (U (q.lo:Int))/\T W w.heap.size 1 (U (q.hi:Int)) from fun W hb=>⟨HC.out W (j.out.1.trans (hb.mono (Qd j.out.2.2))),zA (zH hb j.out.2.1 (lt_of_block j.out.2.1)) rfl,zA (zH hb j.out.2.1 (lt_of_block j.out.2.1)) rfl⟩);obtain⟨⟨c0,c1,c2⟩,x0,x1⟩:=a5.out Y (Below.refl _ _);have e0:((q.lo:Int)==(g.lo:Int))=true:=by rw[a4.out.1];exact beq_self_eq_true _
  have e1:((q.hi:Int)==(g.hi:Int))=true:=by rw[a4.out.2];exact beq_self_eq_true _
  go_region_held3 (fun w'=>(T w' K.sb 8 (.slice (some ⟨K.rb,0,none⟩) K.n K.n)/\T w' K.rb (v*2) (U (g.lo:Int))/\T w' K.rb (v*2+1) (U (g.hi:Int)))/\T w' w.heap.size 0 (U (q.lo:Int))/\T w' w.heap.size 1 (U (q.hi:Int)))
   ((refine a5.out _ ?_;repeat' (first|with_reducible exact Below.refl _ _|with_reducible assumption|with_reducible refine Below.drew ?_)))
   (fail)
  all_goals go_wp2
  all_goals go_ret
  all_goals exact⟨rfl,H.out.below j.out.1.drew,SlvTo.of_below j.out.1.drew⟩
 exact zS.nil
structure RuTo (rb kb:Nat) (w w':World):Prop where
 os:w'.os=w.os
 tape:w'.tape=w.tape
 output:w'.output=w.output
 size:w.heap.size<=w'.heap.size
 block:∀i,i<w.heap.size->i≠rb->i≠kb->w'.heap[i]? =w.heap[i]?
theorem RuTo.refl (rb kb:Nat)(w:World):RuTo rb kb w w:=⟨rfl,rfl,rfl,Je _,fun _ _ _ _=>rfl⟩
theorem RuTo.trans{rb kb:Nat}(h:RuTo rb kb w w1)(c:RuTo rb kb w1 w2):RuTo rb kb w w2:=
 ⟨c.os.trans h.os,c.tape.trans h.tape,c.output.trans h.output,Jn h.size c.size,fun i hi a b=>(c.block i (Jy hi h.size) a b).trans (h.block i hi a b)⟩
theorem RuTo.of_below{rb kb:Nat}(h:O w w'):RuTo rb kb w w':=⟨h.os,h.tape,h.output,h.size,fun i hi _ _=>h.block i hi⟩
theorem RuTo.below{rb kb:Nat}(h:RuTo rb kb w w'){B:Nat}(hB:B<=rb/\B<=kb/\B<=w.heap.size):Below B w w':=
 ⟨h.os,h.tape,h.output,h.size,fun i hi=>h.block i Zo Zo Zo⟩
theorem RuTo.blk{rb kb:Nat}(h:RuTo rb kb w w'){b:Nat}{o:Option Obj}(hb:w.heap[b]? =o)(d:b<w.heap.size)(c:b≠rb/\b≠kb):w'.heap[b]? =o:=(h.block b d c.1 c.2).trans hb
structure RuAt (w:World) (rb kb N:Nat) (s:Slv):Prop where
 row:w.heap[rb]? =some (.cells (s.r.flatMap wb).toArray 45 (0,0))
 kn:w.heap[kb]? =some (.cells (s.kn.map Value.bool).toArray 4 (0,0))
 oks:OkS N s
 ne:rb≠kb
 n64:N<=1000000
theorem RuAt.same{rb kb N:Nat}{s:Slv}(h:RuAt w rb kb N s)(h1:w'.heap[rb]? =w.heap[rb]?)(h2:w'.heap[kb]? =w.heap[kb]?):RuAt w' rb kb N s:=⟨h1.trans h.row,h2.trans h.kn,h.oks,h.ne,h.n64⟩
theorem RuAt.below{rb kb N:Nat}{s:Slv}(h:RuAt w rb kb N s)(hb:O w w'):RuAt w' rb kb N s:=h.same (hb.block _ (lt_of_block h.row)) (hb.block _ (lt_of_block h.kn))
theorem RuAt.rcell{rb kb N:Nat}{s:Slv}(h:RuAt w rb kb N s){v:Nat}(h0:v<N):
 T w rb (v*2) (U ((s.get (v:Int)).lo:Int))/\T w rb (v*2+1) (U ((s.get (v:Int)).hi:Int)):=by
 have hl:v<s.r.length:=by rw[h.oks.rl];exact h0
 have hg:s.r[v]? =some (s.get (v:Int)):=by
  unfold Slv.get;rw[Ni,Jj,Jd hl];rfl
 exact⟨by have:=oW (f:=wb) (n:=2) (fun _=>rfl) h.row hg (j:=0) rfl;rw[Ng,Uk] at this;exact this,by have:=oW (f:=wb) (n:=2) (fun _=>rfl) h.row hg (j:=1) rfl;rw[Ng] at this;exact this⟩
theorem RuAt.kcell{rb kb N:Nat}{s:Slv}(h:RuAt w rb kb N s){v:Nat}(h0:v<N):T w kb v (.bool (s.knw (v:Int))):=by
 refine zA h.kn ?_;have hl:v<s.kn.length:=by rw[h.oks.kl];exact h0
 unfold Slv.knw;rw[Ni,Jj,Jd hl];simp[hl]
theorem RuAt.free{rb kb N:Nat}{s:Slv}(h:RuAt w rb kb N s)(v:Nat):w.frozen? ⟨rb,v,none⟩=false/\w.frozen? ⟨kb,v,none⟩=false:=⟨zE h.row,zE h.kn⟩
theorem RuAt.lt{rb kb N:Nat}{s:Slv}(h:RuAt w rb kb N s):rb<w.heap.size/\kb<w.heap.size:=⟨lt_of_block h.row,lt_of_block h.kn⟩
theorem RuAt.setR{rb kb N:Nat}{s:Slv}(h:RuAt w rb kb N s){v:Nat}(hv:v<N){a:Rg}(j:a.ok)
 (g:(w.setCell ⟨rb,v*2,none⟩ (U (a.lo:Int))).setCell ⟨rb,v*2+1,none⟩ (U (a.hi:Int))=W):RuAt W rb kb N ⟨s.r.set v a,s.kn⟩/\RuTo rb kb w W:=by
 have d:=h.ne;have c:=zD (i:=v*2+1) (zD (i:=v*2) h.row (U (a.lo:Int))) (U (a.hi:Int));rw[g] at c;have ho:∀i,i≠rb->W.heap[i]? =w.heap[i]?:=fun i h1=>by rw[<-g,Below.heap_setCell _ _ _ _ h1,Below.heap_setCell _ _ _ _ h1]
 have hb:Below (min rb w.heap.size) w W:=by
  rw[<-g];exact((Below.refl _ w).setCell (show min rb w.heap.size<=rb from Nat.min_le_left _ _) _).setCell (show min rb w.heap.size<=rb from Nat.min_le_left _ _) _
 refine⟨⟨?_,(ho kb (fun e=>d e.symm)).trans h.kn,h.oks.setR v j,d,h.n64⟩,⟨hb.os,hb.tape,hb.output,hb.size,fun i _ h1 _=>ho i h1⟩⟩;rw[c,afk s.r v a (by rw[h.oks.rl];exact hv)]
theorem RuAt.setK{rb kb N:Nat}{s:Slv}(h:RuAt w rb kb N s){v:Nat}:RuAt (w.setCell ⟨kb,v,none⟩ (.bool true)) rb kb N ⟨s.r,s.kn.set v true⟩/\RuTo rb kb w (w.setCell ⟨kb,v,none⟩ (.bool true)):=by
 have c:=h.ne;have d:=zD (i:=v) h.kn (.bool true);have ho:∀i,i≠kb->(w.setCell ⟨kb,v,none⟩ (.bool true)).heap[i]? =w.heap[i]?:=fun i h1=>Below.heap_setCell _ _ _ _ h1
 have hb:Below (min kb w.heap.size) w (w.setCell ⟨kb,v,none⟩ (.bool true)):=(Below.refl _ w).setCell (show min kb w.heap.size<=kb from Nat.min_le_left _ _) _;refine⟨⟨(ho rb c).trans h.row,?_,⟨h.oks.rl,by show(s.kn.set v true).length=N;rw[Nd,h.oks.kl],h.oks.ok⟩,c,h.n64⟩,⟨hb.os,hb.tape,hb.output,hb.size,fun i _ _ h2=>ho i h2⟩⟩;rw[d];simp[Ox]
end Go.Proofs.YtoahcpkibpomcaaGreat
set_option maxRecDepth 100000
namespace Go.Proofs.YtoahcpkibpomcaaGreat
open Go.ChangeShapes Go.WideShapes Go.ChangeAt Go.RowKit
variable {W w w' w1 w2:World}{c:Int}{K:SK}{t:List IBlk}{k:Nat}{o:IOp}
theorem jd{a:Addr}{v:Value}(h:w.cell? a=some v):a.spot=none:=by
 unfold World.cell? at h
 split at h
 ·split at h
  ·simp at h
  ·rename_i h2;simpa using h2
 ·simp at h
theorem ag9 (b o k:Nat):(⟨b,o,none⟩:Addr).add k=⟨b,o+k,none⟩:=by
 unfold Addr.add;split
 ·rename_i h;subst h;rfl
 ·rfl
theorem fP{α:Type}{P:Program}{H:Type}{enc:TypeId×Value->H}{fuel:Nat}{u:Value}{x:DataW H×List MemPlace}{t e:TypeId}{q:IntKind}(ht:P.underlying t=some (.slice e))(he:P.underlying e=some (.int q))(c1:P.cellsOf e=1)
 (R:World->Nat->Nat->Nat->α->Prop) (h:Int->α) (hR:∀b o z,(Lit.int q z).wf=true->T W b o (.int q z)->R W W.heap.size b o (h z))
 (hf:DataW.trod enc P W 0 (fun _=>true) true fuel t [u]=some x):∃row:List α,yN 1 R W W.heap.size u row:=by
 rcases open_ints ht he c1 hf with⟨h1,_⟩|⟨a,len,w,zs,h1,hb,hl,hm,d,_,c,i⟩
 ·simp at h1;subst h1;exact⟨[],yN.nil⟩
 ·simp at h1;subst h1;simp only[if_true] at d;refine⟨(zs.take len).map h,some a,w,by simp[d,Ud hl],by simp[d];omega,by unfold maxLen at hm;omega,fun k y hk=>?_⟩;have l:=(Jh.1 hk).1;simp[d] at l;rw[Jr,Ug,if_pos Zo,Jd Zo] at hk;have j:=Nt hk;have g:=c k Zo;have hs:=jd (c 0 Zo)
  have m:a=⟨a.block,a.off,none⟩:=by
   cases a;simp[Addr.add] at hs;simp[hs]
  rw[m,ag9] at g;rw[Jj,Jd Zo,Ot] at g;refine⟨a.block,a.off,by rw[<-m],jU g,?_⟩;rw[<-j,Nk];exact hR _ _ _ (i _ (Uf Zo)) g
section
variable {H:Type} {enc:TypeId×Value->H} {W:World} {fuel:Nat} {u:Value} {x:DataW H×List MemPlace}
theorem iR (hf:DataW.trod enc Tryz.prog W 0 (fun _=>true) true fuel 22 [u]=some x):∃row:List Int,zY W W.heap.size u row:=
 fP Tryz.underlying22 Tryz.underlying3 Zk IntR id (fun b o z hz hc=>⟨hc,by unfold I64;simpa[Lit.wf,IntKind.min,IntKind.max,IntKind.signed,IntKind.bits] using hz⟩) hf
end
section
variable {H:Type} {enc:TypeId×Value->H} {W:World} {v:Value} {d:DataW H} {p:List MemPlace} {r:Go.Reach} {base:Nat}
theorem iX (hv:Value.okWide Tryz.prog W r base 22 v)(h0:DataW.Trod enc Tryz.prog W 0 (fun _=>true) true 22 v d p):∃row:List Int,zY W W.heap.size v row:=by
 obtain⟨a0,c,g,rfl⟩:=okWide_slice Tryz.underlying22 hv;obtain⟨fuel,hf⟩:=h0;exact iR hf
end
end Go.Proofs.YtoahcpkibpomcaaGreat
