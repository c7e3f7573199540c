/- Part of a proof. -/
import Derived.Test.YtoahcpkibpomcaaGreatGZr2
set_option maxRecDepth 8000
set_option linter.all false
set_option maxHeartbeats 16000000
set_option maxRecDepth 100000
namespace Go.Proofs.YtoahcpkibpomcaaGreat
open Go.RowKit
variable {w w' w9 wx:World}{K:SK}{fb g2 g3 k:Nat}{c gv lv:Value}{xs:List Int}{o:IOp}
theorem ag0 (w:World)(sv:Value)(g:List (List Int))(B:Nat)(hB:B<=w.heap.size)(h:aaB zN w B sv g)(hn:g.length<=2000000)(hr:∀row∈g,row.length<=2000000):
 O 105 #[.agg #[sv]] w fun e w'=>e=.returned (.bool (decide (0<g.length) && pB g))/\Q w w':=by
 obtain⟨a,c,rfl,b5⟩:=h.form;have HR:=Ja hr;clear hr;have f:Q w (w.alloc (G #[.slice a g.length c] 105)):=(Below.refl _ _).alloc (Je _) _;have a1:∀n,Q w ((w.alloc (G #[.slice a g.length c] 105)).drewN n):=fun n=>f.trans (yL _ _ _)
 have a3:=Ja a1;clear a1;go_enter Tryz.func105,Tryz.ntmps105;go_wp2
 go_loopw [3] (fun i wr=>∃k:Nat,k<=g.length/\i=I k/\(g.take k).all (fun l=>l.all (okS g.length))=true/\∃n,wr=(w.alloc (G #[.slice a g.length c] 105)).drewN n) (fun i _=>g.length-(intOf i).toNat)
 case atStart=>exact⟨0,Jt _,rfl,by simp,0,rfl⟩
 case round=>
  obtain⟨k,hk,rfl,y,n,rfl⟩:=hrel;have HA:=Ja y;clear y
  by_cases b0:k<g.length
  ·obtain⟨row,d⟩:∃row,g[k]? =some row:=⟨_,Jd b0⟩
   obtain⟨b,o,a2,a7,rfl,hb,hc,b1,hx⟩:=h.row d;have hrl:=HR.out row (Ji d);have b8:T (w.alloc (G #[.slice (some ⟨b,o,none⟩) g.length c] 105)) b (o+k) (.slice a2 row.length a7):=(f.cell (p:=⟨b,o+k,none⟩) (show b<w.heap.size by omega)).trans hc;have m:=Ja d;clear d;have HX:=Ja hx;clear hx h hc;have b4:(k:Int)<g.length:=Zo;go_wp2
   go_loopw [4] (fun i wr=>∃j:Nat,j<=row.length/\i=I j/\(row.take j).all (okS g.length)=true/\∃n,wr=(w.alloc (G #[.slice (some ⟨b,o,none⟩) g.length c] 105)).drewN n) (fun i _=>row.length-(intOf i).toNat)
   case atStart=>exact⟨0,Jt _,rfl,by simp,_,rfl⟩
   case round=>
    obtain⟨j,hj,rfl,q,n2,rfl⟩:=hrel;have a5:=Ja q;clear q
    by_cases a6:j<row.length
    ·obtain⟨x,t⟩:∃x,row[j]? =some x:=⟨_,Jd a6⟩
     obtain⟨b2,o2,rfl,b9,u⟩:=HX.out j x t;simp only[zN] at u;have b7:T (w.alloc (G #[.slice (some ⟨b,o,none⟩) g.length c] 105)) b2 (o2+j) (I x):=(f.cell (p:=⟨b2,o2+j,none⟩) (show b2<w.heap.size by omega)).trans u;have a0:=Ja t;clear t u;have b3:(j:Int)<row.length:=Zo
     by_cases a4:x<0
     ·have hf:pB g=false:=vU _ g k row m.out (vU _ row j x a0.out (by simp[okS];omega));have HF:=Ja hf;clear hf;have hd:decide (x<0)=true:=by simpa using a4
      go_wp2;go_quiet (fail);go_wp2;go_ret;exact⟨by rw[HF.out];simp,by simpa using a3.out _⟩
     ·have hd:decide (x<0)=false:=by simpa using a4
      by_cases b6:x<g.length
      ·go_wp2;go_quiet (fail);go_wp2;go_roundw
       case rel=>exact⟨j+1,by omega,by go_num,tm _ row j x a0.out a5.out (by simp[okS];omega),_,rfl⟩
       case measure=>simp[intOf];omega
      ·have hf:pB g=false:=vU _ g k row m.out (vU _ row j x a0.out (by simp[okS];omega));have HF:=Ja hf;clear hf;go_wp2;go_quiet (fail);go_wp2;go_ret;exact⟨by rw[HF.out];simp,by simpa using a3.out _⟩
    ·go_wp2;go_roundw
     case rel=>exact⟨k+1,by omega,by go_num,tm _ g k row m.out HA.out (by have:=a5.out;rwa [Oy Zo] at this),_,rfl⟩
     case measure=>simp[intOf];omega
  ·have hf:pB g=true:=by have:=HA.out;rwa [Oy Zo] at this
   have HF:=Ja hf;clear hf;go_wp2;go_ret;exact⟨by rw[HF.out];simp,a3.out _⟩
theorem aeF (w0:World)(B0 bs:Nat)(g:List (List Nat))(a:Option Addr)(i:Nat)(hR:aaB zj w0 B0 (.slice a g.length i) g)(hv:zw g)(hn:g.length<=2000000)(hr:∀row∈g,row.length<=2000000):∀(f:Nat) (w:World) (seen:List Bool) (pv:Value) (post:List Nat) (n:Nat),
 SMem w0 w B0 bs seen pv post->n<g.length->seen.length=g.length->seen[n]? =some false->ey seen<=f->post.length+ey seen<=2000000->
 O 106 #[.agg #[.slice a g.length i],I n,L bs g.length g.length,pv] w fun e w'=>∃pv',e=.returned pv'/\SMem w0 w' B0 bs (oy g f (seen,post) n).1 pv' (oy g f (seen,post) n).2/\ST w w' bs pv pv'
 |0,w,seen,pv,post,n,hM,hng,hl,hs,hu,hp=>by
  have:=dN hs;omega
 |f+1,w,seen,pv,post,n,hM,hng,hl,hs,hu,hp=>by
  obtain⟨ap,cp,rfl⟩:=zG hM.hp;obtain⟨R,a6⟩:∃R,R=oy g (f+1) (seen,post) n:=⟨_,rfl⟩
  rw[<-a6];have e1:=Ja a6;clear a6;have ih:=aeF w0 B0 bs g a i hR hv hn hr f;have b1:=hM.box (G #[.slice a g.length i] 105);have cs:T (w.alloc (G #[.slice a g.length i] 105)) bs n (.bool false):=zA b1.hs (by simp[hs,qy]);have fs:Y (w.alloc (G #[.slice a g.length i] 105)) bs n:=zE b1.hs;have c4:=(hM.mark (n:=n)).box (G #[.slice a g.length i] 105);have e4:Hid (∀k,(Value.slice ap post.length cp).ownBlock=some k->k<w.heap.size):=fun k e=>(hM.hp.lt k e).2
  have f4:(n:Int)<g.length:=Zo;have g0:bs<w.heap.size:=lt_of_block hM.hs;have e6:=Ja c4;have HR:=Ja hR;have e7:=Ja ih;clear b1 c4 hM hR ih;go_enter Tryz.func106,Tryz.ntmps106;obtain⟨row,q⟩:∃row,g[n]? =some row:=⟨_,Jd hng⟩
  have x:succ g n=row:=by unfold succ;rw[Jj,q];rfl
  obtain⟨bg,og,a2,b4,rfl,c0,hc,f0,hx⟩:=HR.out.row q;have hrl:=hr row (Ji q);have a5:ST w ((w.setCell ⟨bs,n,none⟩ (.bool true)).alloc (G #[.slice (some ⟨bg,og,none⟩) g.length i] 105)) bs (.slice ap post.length cp) (.slice ap post.length cp):=(ST.mark w bs n _ _).trans (ST.box _ _ bs _);have f3:=dN hs;have b9:A ((w.setCell ⟨bs,n,none⟩ (.bool true)).alloc (G #[.slice (some ⟨bg,og,none⟩) g.length i] 105)) w.heap.size #[.slice (some ⟨bg,og,none⟩) g.length i] 105:=zI Zs;have b6:=Ja (Jb q x);have HX:=Ja hx;have HC:=Ja hc;have d4:=Ja a5;have e8:=Ja b9;clear q x hx hc a5 b9;go_wp2
  go_loopw [3,9] (fun v k wr=>∃(j:Nat),j<=row.length/\k=I j/\Hid (SMem w0 wr B0 bs ((row.take j).foldl (vc g f) (seen.set n true,post)).1 v ((row.take j).foldl (vc g f) (seen.set n true,post)).2/\ST w wr bs (.slice ap post.length cp) v/\A wr w.heap.size #[.slice (some ⟨bg,og,none⟩) g.length i] 105/\v.ownBlock≠some w.heap.size)) (fun _ k _=>row.length-(intOf k).toNat)
  case atStart=>exact⟨0,Jt _,rfl,e6.out,d4.out,e8.out,fun e=>by have:=e4.out _ e;omega⟩
  case round=>
   obtain⟨j,hj,rfl,c⟩:=hrel;generalize o:(row.take j).foldl (vc g f) (seen.set n true,post)=st at c;obtain⟨sn,ps⟩:=st
   dsimp only at c
   have b5:=Ja o;clear o;have f9:=cell_of_one c.out.2.2.1;have f8:=(c.out.1.hb.cell (p:=⟨bg,og+n,none⟩) c0).trans HC.out;obtain⟨av,cv,rfl⟩:=zG c.out.1.hp;have c2:w.heap.size<wr.heap.size:=lt_of_block c.out.2.2.1
   by_cases f5:(j:Int)<row.length
   ·obtain⟨s,a0⟩:∃s,row[j]? =some s:=⟨_,Jd Zo⟩
    have d5:s<g.length:=hv.2 row (Ji b6.out.1) s (Ji a0);obtain⟨b2,o2,rfl,c1,c5⟩:=HX.out j s a0;have e0:=(c.out.1.hb.cell (p:=⟨b2,o2+j,none⟩) c1).trans c5;simp only[zj] at e0
    have y:(row.take (j+1)).foldl (vc g f) (seen.set n true,post)=vc g f (sn,ps) s:=by
     rw[Nh,a0,List.foldl_append,b5.out];rfl
    have t:sn.length=g.length/\ey sn<=f/\ps.length+ey sn<=2000000:=by
     have:=i3 g f (row.take j) (seen.set n true,post);rw[b5.out] at this;simp only[Nd] at this;omega
    obtain⟨b0,u⟩:∃b0,sn[s]? =some b0:=⟨_,Jd Zo⟩
    have g2:T wr bs s (.bool b0):=zA c.out.1.hs (by simp[u,qy]);have f6:(j:Int)<=row.length:=Zo;have d1:=a0;have f1:(s:Int)<g.length:=Zo;have l:=Ja (Jb y (Jb t u));clear y t u c5 cs fs
    cases b0 with
    |true=>
     go_wp2;go_roundw
     case rel=>exact⟨j+1,by omega,by go_num,by rw[l.out.1,show vc g f (sn,ps) s=(sn,ps) by unfold vc;rw[if_pos (by rw[Jj,l.out.2.2];rfl)]];exact c⟩
     case measure=>simp[intOf];omega
    |false=>
     have a1:O 106 #[.agg #[.slice (some ⟨bg,og,none⟩) g.length i],I s,L bs g.length g.length,.slice av ps.length cv] wr.drew fun e w'=>∃a7 c7,e=.returned (.slice a7 (oy g f (sn,ps) s).2.length c7)/\
      T w' w.heap.size 0 (.slice (some ⟨bg,og,none⟩) g.length i)/\T w' bg (og+n) (.slice (some ⟨b2,o2,none⟩) row.length b4)/\T w' b2 (o2+j) (I s)/\
      Hid (SMem w0 w' B0 bs (oy g f (sn,ps) s).1 (.slice a7 (oy g f (sn,ps) s).2.length c7) (oy g f (sn,ps) s).2/\ST wr w' bs (.slice av ps.length cv) (.slice a7 (oy g f (sn,ps) s).2.length c7)):=by
      refine(e7.out wr.drew sn _ ps s ⟨c.out.1.hs,c.out.1.hp,c.out.1.hb.drew,c.out.1.lt⟩ d5 l.out.2.1.1 l.out.2.2 l.out.2.1.2.1 l.out.2.1.2.2).mono ?_;rintro e w' ⟨pv',rfl,hm,hT⟩;obtain⟨a7,c7,rfl⟩:=zG hm.hp;have c3:ST wr w' bs (.slice av ps.length cv) (.slice a7 (oy g f (sn,ps) s).2.length c7):=⟨hT.size,hT.blk,hT.own⟩
      refine⟨a7,c7,rfl,?_,(hm.hb.cell (p:=⟨bg,og+n,none⟩) c0).trans HC.out,?_,hm,c3⟩
      ·exact cell_of_one ((c3.blk _ c2 Zo c.out.2.2.2).trans c.out.2.2.1)
      ·obtain⟨b3,o3,e3,_,h3⟩:=HX.out j s d1;cases e3;have:=(hm.hb.cell (p:=⟨b2,o2+j,none⟩) c1).trans h3
       simpa[zj] using this
     have b7:=Ja a1;clear a1;go_wp2
     go_region_held3 (fun w'=>T w' w.heap.size 0 (.slice (some ⟨bg,og,none⟩) g.length i)/\T w' bg (og+n) (.slice (some ⟨b2,o2,none⟩) row.length b4)/\T w' b2 (o2+j) (I s))
      (first
        |(go_split_ands;refine⟨?_,?_,?_⟩<;>assumption))
      ((go_at_call 106;refine b7.out.mono ?_;rintro e w7 ⟨a7,c7,rfl,k1,k2,k3,a3⟩))
     all_goals
      go_wp2;go_roundw
      case rel=>
       refine⟨j+1,by omega,by go_num,?_⟩;rw[l.out.1,show vc g f (sn,ps) s=oy g f (sn,ps) s by unfold vc;rw[if_neg (by rw[Jj,l.out.2.2];simp)]];have d9:=(a3.out.2.blk _ c2 Zo c.out.2.2.2).trans c.out.2.2.1;exact⟨a3.out.1,c.out.2.1.trans a3.out.2,d9,fun e=>by rcases a3.out.2.own _ e with h|h;exact c.out.2.2.2 h;omega⟩
      case measure=>simp[intOf];omega
   ·obtain rfl:j=row.length:=by omega
    obtain⟨ii,d8,d0,c9,c8⟩:=info_parts Tryz.info_int;have o:=b5.out;rw[Nl] at o
    have t:ps.length<=2000000:=by
     have:=i3 g f row (seen.set n true,post);rw[o] at this;simp only[Nd] at this;omega
    have b8:oy g (f+1) (seen,post) n=(sn,ps++ [n]):=by rw[aeM,b6.out.2,o]
    have e2:=Ja (e1.out.trans b8);clear b8 o cs fs;go_wp2_with (at_builtin;go_must (refine wpList_append_lies _ rfl (.tmp 47) (.tmp 49) 22 rfl B0 3 ii (I 0) 1 8 Tryz.underlying22 d8 d0 c9 c8 rfl Zd _ ps.length (ps.map zj) rfl (c.out.1.hp.alloc _) ⟨wr.heap.size,0,none⟩ 1 1 [I n] rfl rfl (Oi (cs:=#[I n]) (zI Zs)) (by simp[Value.oneCell']) Zd (by unfold maxLen;omega) Zo (by have:=lt_of_block c.out.1.hs;have:=c.out.1.lt;simp;omega) (wr.heap.size+1) Zs ?_;intro gq d3 w6 m d d2 a4;have e5:=Ja (Jb m d);clear m d))
    go_ret;obtain⟨m,d⟩:=e5.out;have d6:=zL d (zB c.out.1.hs) (zC (b:=bs) c.out.1.hp c.out.1.hs (.inr Zd));have g1:=c.out.1.hb.size;have f2:=lt_of_block c.out.1.hs;have a4:=c.out.1.lt;rw[e2.out];refine⟨_,rfl,⟨d6,by simpa[zj] using m,(c.out.1.hb.alloc Zo _).grown d Zt (fun k e=>by have:=(c.out.1.hp.lt k e).1;omega),a4⟩,c.out.2.1.trans ⟨?_,?_,?_⟩⟩
    ·have:=d.size;simp at this;omega
    ·intro k hk _ d7;rw[d.block k Zt (fun e=>d7 e.symm),Below.heap_alloc _ _ _ hk]
    ·intro k e;have e:(Value.slice (some ⟨gq,0,none⟩) (ps.length+1) d3).ownBlock=some k:=e;simp only[Value.ownBlock,Option.some.injEq] at e;subst e;rcases d2 with h|h
     ·exact .inl h
     ·right;omega
theorem aeW (w:World)(sv:Value)(g:List (List Nat))(B:Nat)(d:B<=w.heap.size)(h:aaB zj w B sv g)(hv:zw g)(c:g.length<=2000000)(hr:∀row∈g,row.length<=2000000):
 O 105 #[.agg #[sv]] w fun e w'=>e=.returned (.bool true)/\Q w w':=by
 have:=ag0 w sv (g.map (List.map Int.ofNat)) B d (afU h) (by simpa using c) (by intro row hm;simp only[Nu] at hm;obtain⟨l,hl,rfl⟩:=hm;simpa using hr l hl);rw[k8 hv] at this;exact this
theorem ro_alloc{n C:Nat}{W0:World}{v:Value}(c:T w' n 0 v)(h:Below C W0 w')(d:C<=W0.heap.size)(o:Obj):T (w'.alloc o) n 0 v/\Below C W0 (w'.alloc o):=
 ⟨(Ok _ _ _ (jU c)).trans c,h.alloc (by have:=h.size;omega) o⟩
theorem qm (n:Nat):ey (List.replicate n false)=n:=by simp[ey]
theorem ag3 (g:List (List Nat)):(ul g).length<=g.length:=by
 unfold ul
 by_cases h:0<g.length
 ·have:=mn g g.length (List.replicate g.length false,[]) 0 (by rw[Nm,if_pos h]);simp only[qm,Ow] at this;omega
 ·have h0:g.length=0:=Zo;rw[h0];simp[oy]
theorem ae0 (w:World)(sv:Value)(g:List (List Nat))(B:Nat)(hB:B<=w.heap.size)(h:aaB zj w B sv g)(hv:zw g)(hn:g.length<=2000000)(hr:∀row∈g,row.length<=2000000):
 O 51 #[.agg #[sv]] w (fJ w (vD g)):=by
 obtain⟨a,f,rfl,c3⟩:=h.form;obtain⟨ii,b6,b0,a7,a6⟩:=info_parts Tryz.info_int;have o:Q w (w.alloc (G #[.slice a g.length f] 105)):=(Below.refl _ _).alloc (Je _) _;have cg:T (w.alloc (G #[.slice a g.length f] 105)) w.heap.size 0 (.slice a g.length f):=cell_of_one (zI rfl);have x:=Ja hv;have HR:=Ja hr;clear hv hr;have b4:=run_make_row' (P:=Tryz.prog) 97 4 (.bool false) 1 Tryz.underlying97 Tryz.info_bool rfl .i64 .i64 g.length Zo Zo;go_enter Tryz.func51,Tryz.ntmps51;go_wp2_with (go_at_call 105;go_must (refine(aeW _ _ g B Zt (h.below (o.mono hB)) x.out hn HR.out).mono ?_;rintro e w1 ⟨rfl,u⟩;have c:=o.trans (u.mono Zs);have a3:=(u.cell (p:=⟨w.heap.size,0,none⟩) Zs).trans cg;clear cg))
 have q:=(h.below (c.mono hB)).mono (B':=w1.heap.size) (by have:=c.size;omega);have b5:w.heap.size<w1.heap.size:=jU a3;have a0:=Ja q;have d5:=Below.refl w1.heap.size w1
 have d:∀W:World,A W w1.heap.size (madeCells #[.bool false] g.length) 4->Q w1 W->O 106 #[.agg #[.slice a g.length f],I 0,L w1.heap.size g.length g.length,U] W fun e w'=>
  ∃a4 c4,e=.returned (.slice a4 (ul g).length c4)/\(w'.ownsRow w1.heap.size 3 1 (.slice a4 (ul g).length c4) (ul g).length ((ul g).map zj)/\Q w1 w'):=by
  intro W hW hb;refine(aeF w1 w1.heap.size w1.heap.size g a f a0.out x.out hn HR.out g.length W (List.replicate g.length false) (.slice none 0 0) [] 0 ⟨by rw[hW,yA];simp[qy],⟨rfl,.inl ⟨rfl,rfl⟩⟩,hb,Je _⟩ x.out.1 Zs (by rw[Nm,if_pos x.out.1]) (by rw[qm];exact Je _) (by rw[qm];simpa using hn)).mono ?_;rintro e w' ⟨c8,rfl,hm,_⟩;obtain⟨a4,c4,rfl⟩:=zG hm.hp;exact⟨a4,c4,rfl,hm.hp,hm.hb⟩
 have b9:=Ja d;clear d;clear q o u
 go_cut [4] (fun v wx=>∃a4 c4,v=.slice a4 (ul g).length c4/\Hid (wx.ownsRow w1.heap.size 3 1 (.slice a4 (ul g).length c4) (ul g).length ((ul g).map zj)/\Q w1 wx))
 case first=>
  go_region_held3 (fun w'=>T w' w.heap.size 0 (.slice a g.length f)/\Q w1 w')
   (first
     |(go_split_ands;refine⟨?_,?_⟩<;>assumption)
     |(go_split_ands;refine⟨?_,Below.drew ?_⟩<;>assumption)
     |(go_split_ands;exact ro_alloc ‹_› ‹_› (Je _) _))
   ((go_at_call 106;refine(b9.out _ (by first|exact zI (W:=w1) rfl|exact zI (W:=w1.drew) rfl) (by repeat' (first|assumption|(with_reducible refine Below.drew ?_)|(with_reducible refine Below.alloc ?_ ?_ _)|exact Je _))).mono ?_;rintro e w5 ⟨a4,c4,rfl,j⟩;have b8:=j.2;have d4:=(b8.cell (p:=⟨w.heap.size,0,none⟩) b5).trans a3;have c0:=Ja j;clear j))
  all_goals (go_wp2_with fail;go_meet;exact⟨a4,c4,rfl,c0⟩)
 case rest=>
  obtain⟨a4,c4,rfl,j⟩:=hcut;clear b4;have d1:=ag3 g;have c9:=j.out.2.size;go_wp2_with fail
  go_loopw [5,6] (fun v k wr=>∃m:Nat,m<=(ul g).length/\k=I ((ul g).length-1-m:Int)/\Hid (wr.ownsRow wc.heap.size 3 1 v m (((ul g).reverse.take m).map zj)/\Q wc wr)) (fun _ k _=>((intOf k)+1).toNat)
  case atStart=>exact⟨0,Jt _,by simp,⟨rfl,.inl ⟨rfl,rfl⟩⟩,Below.refl _ _⟩
  case round=>
   obtain⟨m,hm,rfl,l⟩:=hrel;obtain⟨ao,co,rfl⟩:=zG l.out.1
   by_cases d2:m<(ul g).length
   ·obtain⟨p,hp⟩:∃p:Nat,p=(ul g).length-1-m:=⟨_,rfl⟩
    have a2:((ul g).length-1-m:Int)=(p:Int):=Zo;rw[a2];have b1:p<(ul g).length:=Zo;have c1:(p:Int)<(ul g).length:=Zo;obtain⟨y,hy⟩:∃y,(ul g)[p]? =some y:=⟨_,Jd b1⟩
    obtain⟨gp,d6,e4,d3,b7⟩:=j.out.1.form Zo;cases e4;have cy:T wr gp p (I y):=(l.out.2.cell (p:=⟨gp,p,none⟩) b7).trans ((j.out.1.cellAt p Zo).trans (by simp[hy,zj]))
    have a1:(ul g).reverse.take (m+1)=(ul g).reverse.take m++ [y]:=by
     rw[Nh,List.getElem?_reverse Zo,<-hp,hy];rfl
    have HY:=Ja a1;have b3:=l.out.2.size;have HP:Hid (p+m+1=(ul g).length):=by unfold Hid;omega
    clear hy a1 hp a2;go_wp2_with (at_builtin;go_must (refine wpList_append_lies _ rfl (.tmp 24) (.tmp 29) 22 rfl wc.heap.size 3 ii (I 0) 1 8 Tryz.underlying22 b6 b0 a7 a6 rfl Zd _ m _ rfl (l.out.1.alloc _) ⟨wr.heap.size,0,none⟩ 1 1 [I y] rfl rfl (Oi (cs:=#[I y]) (zI Zs)) (by simp[Value.oneCell']) Zd (by unfold maxLen;omega) Zo Zt (wr.heap.size+1) Zs ?_;intro gq c7 w6 t i c5 c2;have a5:=Ja (Jb t i);clear t i))
    go_roundw
    case rel=>
     have hP:=HP.out;refine⟨m+1,by omega,by rw[show((ul g).length-1-((m+1:Nat):Int):Int)=(p:Int)-1 by omega],?_,?_⟩
     ·rw[HY.out];simpa[zj] using a5.out.1
     ·exact(l.out.2.alloc (Jn b3 (Je _)) _).grown a5.out.2 Zt (fun k e=>by have:=(l.out.1.lt k e).1;omega)
    case measure=>simp[intOf]<;>omega
   ·obtain rfl:m=(ul g).length:=by omega
    have b2:((ul g).length-1-(ul g).length:Int)=-1:=Zo;rw[b2];go_wp2;go_ret;have hb:=c.trans (j.out.2.mono c.size);have d0:=c.size;refine⟨_,rfl,?_,hb.trans (l.out.2.mono hb.size)⟩;have:=vY l.out.1 (base':=w.heap.size) hb.size;rw[Oy Zs] at this;unfold vD;rw[List.length_reverse];exact this
theorem set_more{p:IProg}{b2:List IBlk}{s:Slv}(h:SlvAt w K p b2 k s){v:Nat}(hv:v<K.n){a0:Rg}(y:(tn a0 (s.get v)).ok)(hk:¬4<k)(a5:s.knw v=true)(j:pC (tn a0 (s.get v)) (s.get v)=false):
 O 38 #[F K.sb,I v,.agg #[M (a0.lo:Int),M (a0.hi:Int)]] w (ng w K p b2 k (s.put v (tn a0 (s.get v)),true)):=by
 have a4:=sg h hv;rw[a5] at a4;have q:=fun(W:World) (x:Q w W)=>(h.below x).rcell (v:=(v:Int)) Zo
 generalize hg:s.get (v:Int)=g at *;obtain⟨a,hq⟩:∃a,tn a0 g=a:=⟨_,rfl⟩
 have HH:=Ja (fun W=>aeT W a0 g);rw[hq] at HH j y ⊢;have c4:¬(4:Int)<(k:Int):=Zo;have b9:=h.ne
 have a3:(((a.lo:Int)==(g.lo:Int)) && ((a.hi:Int)==(g.hi:Int)))=false:=by
  rw[<-j];unfold pC;rw[Bool.eq_iff_iff];simp only[Jm,beq_iff_eq,decide_eq_true_eq];omega
 rw[Ni] at q;have H:=Ja (Jb h y);have a6:=fun(W:World) (x:Q w W)=>(h.below x).cells.2.2.2.2.1
 have HK:=Ja a6;have hn:=h.n64;obtain⟨s4,s7,s8,s9,s10,s6⟩:=h.cells;have HC:=Ja (show ∀W:World,Q w W->T W K.sb 8 (L K.rb K.n K.n)/\T W K.rb (v*2) (M (g.lo:Int))/\T W K.rb (v*2+1) (M (g.hi:Int)) from fun W hb=>⟨(h.below hb).cells.2.2.1,(q W hb).1,(q W hb).2⟩);have l1:=lt_of_block h.cell;have l2:=lt_of_block h.row;have l3:=lt_of_block h.kn;have b4:=Ja a3;clear a6 hk y h a3 a5 j s4 s7 s6 s8 s10 q hg hq;go_enter Tryz.func38,Tryz.ntmps38;go_upto_region 2 with(go_at_call 999999;skip)
 obtain⟨X,m⟩:∃X,w.alloc (G #[M (a0.lo:Int),M (a0.hi:Int)] 45)=X:=⟨_,rfl⟩
 have c:=Ja (show Q w X/\A X w.heap.size #[M (a0.lo:Int),M (a0.hi:Int)] 45/\w.heap.size<X.heap.size from by
  rw[<-m];exact⟨Below.alloc (Below.refl _ _) (Je _) _,zI rfl,by simp⟩)
 rw[m];clear m a4 s9;have a2:=Ja (show ∀W:World,Below w.heap.size X W->T W K.sb 8 (L K.rb K.n K.n)/\T W K.rb (v*2) (M (g.lo:Int))/\T W K.rb (v*2+1) (M (g.hi:Int)) from fun W hb=>HC.out W (c.out.1.trans hb));obtain⟨c0,c1,c2⟩:=a2.out X (Below.refl _ _);have x0:=zA (i:=0) c.out.2.1 rfl;have x1:=zA (i:=1) c.out.2.1 rfl;have b5:=c.out.2.2;refine wp_region_noPanic ?_;refine yQ (S:=(fun w'=>T w' K.sb 8 (L K.rb K.n K.n)/\T w' K.rb (v*2) (M (g.lo:Int))/\T w' K.rb (v*2+1) (M (g.hi:Int))/\T w' w.heap.size 0 (M (a0.lo:Int))/\T w' w.heap.size 1 (M (a0.hi:Int)))) 9 Zk ⟨c0,c1,c2,x0,x1⟩ (fun hHeld=>?_);refine Tl 0 ?_
 try simp only[Yp]
 refine Tl 1 ?_
 try simp only[Yp]
 refine Tl 2 ?_
 try simp only[Yp]
 refine Tl 3 ?_
 try simp only[Yp]
 refine Tl 4 ?_
 try simp only[Yp]
 refine Tl 5 ?_
 try simp only[Yp]
 refine Tl 6 ?_
 try simp only[Yp]
 refine Tl 7 ?_
 try simp only[Yp]
 refine z8 (rs:=[8]) Zk Zs ?_;refine zS.cons (o:=_) rfl (fun K hK=>?_) ?_
 ·skip
  (go_simp;refine(HH.out _).mono ?_;rintro e w1 ⟨rfl,a7⟩;have t:Q X w1:=(Below.refl X.heap.size X).drew.trans a7;clear a7;have hk:=zH t c.out.2.1 (lt_of_block c.out.2.1);have f0:=zA (i:=0) hk rfl;have f1:=zA (i:=1) hk rfl;have g0:=zE (i:=0) hk;have g1:=zE (i:=1) hk;have b6:=lt_of_block hk;have u:=a2.out w1 (t.mono (Qd c.out.2.2)))
  refine hK.out _ _ ⟨u.1,u.2.1,u.2.2,f0,f1⟩ (fun hHeld=>?_);clear hK K
  try simp only[Yp]
  refine z8 (rs:=[9]) Zk Zs ?_;refine zS.last (o:=_) rfl (fun K hK=>?_);go_simp;refine hK.out _ _ ?_;clear hK K
  try simp only[Yp]
  refine xj Zk (NoPanic.normal ?_) _;go_upto_region 3 with(go_at_call 999999;skip)
  obtain⟨Y,hY⟩:∃Y,(w1.setCell ⟨w.heap.size,0,none⟩ (M (a.lo:Int))).setCell ⟨w.heap.size,1,none⟩ (M (a.hi:Int))=Y:=⟨_,rfl⟩
  have f:=Ja (show Q w Y/\A Y w.heap.size #[M (a.lo:Int),M (a.hi:Int)] 45/\w.heap.size<Y.heap.size from by
   have hh:=zD (i:=1) (zD (i:=0) hk (M (a.lo:Int))) (M (a.hi:Int));rw[hY] at hh
   exact⟨by rw[<-hY];exact((c.out.1.trans (t.mono (Qd c.out.2.2))).setCell (Je _) _).setCell (Je _) _,hh,lt_of_block hh⟩)
  rw[hY];clear hY hk f0 f1 g0 g1 b6 t u a2 c0 c1 c2 x0 x1 b5;have a1:=Ja (show ∀W:World,Q Y W->(T W K.sb 8 (L K.rb K.n K.n)/\T W K.rb (v*2) (M (g.lo:Int))/\T W K.rb (v*2+1) (M (g.hi:Int)))/\T W w.heap.size 0 (M (a.lo:Int))/\T W w.heap.size 1 (M (a.hi:Int)) from fun W hb=>⟨HC.out W (f.out.1.trans (hb.mono (Qd f.out.2.2))),zA (zH hb f.out.2.1 (lt_of_block f.out.2.1)) rfl,zA (zH hb f.out.2.1 (lt_of_block f.out.2.1)) rfl⟩);obtain⟨⟨c0,c1,c2⟩,x0,x1⟩:=a1.out Y (Below.refl _ _);obtain⟨b0,e0⟩:∃b,((a.lo:Int)==(g.lo:Int))=b:=⟨_,rfl⟩
  obtain⟨b1,e1⟩:∃b,((a.hi:Int)==(g.hi:Int))=b:=⟨_,rfl⟩
  have l:=b4.out;rw[e0,e1] at l;clear b4;cases b0<;>cases b1
  all_goals first|(cases l;done)|skip
  all_goals clear l
  all_goals go_region_held3 (fun w'=>(T w' K.sb 8 (L K.rb K.n K.n)/\T w' K.rb (v*2) (M (g.lo:Int))/\T w' K.rb (v*2+1) (M (g.hi:Int)))/\T w' w.heap.size 0 (M (a.lo:Int))/\T w' w.heap.size 1 (M (a.hi:Int)))
   ((refine a1.out _ ?_;repeat' (first|with_reducible exact Below.refl _ _|with_reducible assumption|with_reducible refine Below.drew ?_)))
   (fail)
  all_goals clear c0 c1 c2 x0 x1 a1 e0 e1
  all_goals have s10:=HK.out Y.drew f.out.1.drew
  all_goals go_upto_region 7 with(go_at_call 999999;skip)
  all_goals (
   obtain⟨X,m⟩:∃X,Y.drew=X:=⟨_,rfl⟩
   have b3:=Ja (show Q w X/\A X w.heap.size #[M (a.lo:Int),M (a.hi:Int)] 45/\w.heap.size<X.heap.size from by rw[<-m];exact⟨f.out.1.drew,f.out.2.1,f.out.2.2⟩);rw[m];clear m s10 c;have c:=b3;clear b3;have d:=Ja (H.out.1.below c.out.1);have HC:=Ja (show ∀W:World,W.heap[K.sb]? =X.heap[K.sb]?->W.heap[w.heap.size]? =X.heap[w.heap.size]?->T W K.sb 8 (L K.rb K.n K.n)/\T W K.sb 9 (L K.kb K.n K.n)/\T W w.heap.size 0 (M (a.lo:Int))/\T W w.heap.size 1 (M (a.hi:Int)) from fun W h1 h2=>⟨zA (h1.trans d.out.cell) rfl,zA (h1.trans d.out.cell) rfl,zA (h2.trans c.out.2.1) rfl,zA (h2.trans c.out.2.1) rfl⟩);obtain⟨c0,c1,c2,c3⟩:=HC.out X rfl rfl;have kx:=sg d.out hv;have kf:=zE (i:=v) d.out.kn;obtain⟨r0,r1⟩:=d.out.rcell (v:=(v:Int)) Zo;rw[Ni] at r0 r1;have b8:=zE (i:=v*2) d.out.row;have b7:=zE (i:=v*2+1) d.out.row;have m1:=lt_of_block d.out.cell;have m2:=lt_of_block d.out.row;have m3:=lt_of_block d.out.kn;have m4:=c.out.2.2;go_region_held3 (fun w'=>T w' K.sb 8 (L K.rb K.n K.n)/\T w' K.sb 9 (L K.kb K.n K.n)/\T w' w.heap.size 0 (M (a.lo:Int))/\T w' w.heap.size 1 (M (a.hi:Int))) ((refine HC.out _ ?_ ?_<;>(repeat' (first|(rw[Below.heap_setCell _ _ _ _ (by first|(show K.sb≠K.kb;omega)|(show K.sb≠K.rb;omega)|(show w.heap.size≠K.kb;omega)|(show w.heap.size≠K.rb;omega))])|(rw[show ∀v:World,v.drew.heap=v.heap from fun _=>rfl])|exact rfl)))) (fail);go_wp2;obtain⟨W,x⟩:∃W,((X.setCell ⟨K.kb,v,none⟩ (.bool true)).setCell ⟨K.rb,v*2,none⟩ (M (a.lo:Int))).setCell ⟨K.rb,v*2+1,none⟩ (M (a.hi:Int))=W:=⟨_,rfl⟩
   rw[x];obtain⟨j1,j2⟩:=d.out.put hv H.out.2 x;go_ret
   exact⟨rfl,j1.below (Below.refl _ _).drew,((SlvTo.of_below c.out.1).trans j2).trans (SlvTo.of_below (Below.refl _ _).drew)⟩)
 exact zS.nil
theorem afA{p:IProg}{g:List IBlk}{s:Slv}(h:SlvAt w K p g k s){v:Nat}(hv:v<K.n){a:Rg}(j:a.ok)(i:(tn a (s.get v)).ok):
 O 38 #[F K.sb,I v,.agg #[M (a.lo:Int),M (a.hi:Int)]] w (ng w K p g k (setF k s v a)):=by
 unfold setF
 by_cases c:s.knw v=true
 ·rw[if_pos c]
  by_cases hs:pC (tn a (s.get v)) (s.get v)=true
  ·rw[if_pos hs];exact ahi h hv c hs
  ·rw[if_neg hs];have f:pC (tn a (s.get v)) (s.get v)=false:=by simpa using hs
   unfold ahq
   by_cases hk:4<k
   ·rw[if_pos hk];exact ae1 h hv hk c f
   ·rw[if_neg hk];exact set_more h hv i hk c f
 ·rw[if_neg c];have d:s.knw v=false:=by simpa using c
  unfold ahq
  by_cases hk:4<k
  ·rw[if_pos hk];exact ae6 h hv hk d
  ·rw[if_neg hk];exact set_new h hv j hk d
abbrev GR:=List Int×Value
variable {l:List GR}
def pU (v:Value)(l:List GR):Row:=⟨v,22,1,l.length,l.map (·.2)⟩
def sp (l:List GR):List Row:=l.map fun q=>zP q.2 q.1
def pV (w:World)(B:Nat)(v:Value)(rows:List (List Int)):Prop:=∃l:List GR,l.map (·.1)=rows/\Rows w B (pU v l::sp l)
def RetGraph (w:World)(rows:List (List Int))(e:Ending)(w':World):Prop:=∃a n c,e=.returned (.agg #[.slice a n c])/\pV w' w.heap.size (.slice a n c) rows/\Q w w'
theorem ne_type7{a b:Nat}{ca cb:Array Value}{ta tb:TypeId}(d:A w a ca ta)(hb:A w b cb tb)(c:ta≠tb):a≠b:=fun e=>by
 subst e;rw[d] at hb
 injection hb with h3
 injection h3 with _ h4
 exact c h4
theorem rowI_get{b:IBlk}{e:IEdge}(h:b.term.to[k]? =some e):(tW b).take (k+1)=(tW b).take k++ [e.block]:=by
 unfold tW;rw[Nh,Jr,h];rfl
theorem lZ{l:List IBlk}{b:IBlk}(h:l[k]? =some b):(zk l).take (k+1)=(zk l).take k++ [tW b]:=by
 unfold zk;rw[Nh,Jr,h];rfl
structure GrMid (w:World) (fb g2 g3:Nat) (fv gv lv:Value) (l:List GR) (xs:List Int) (wx:World):Prop where
 h1:wx.heap[fb]? =some (.cells #[fv] 39 (0,0))
 h2:wx.heap[g2]? =some (.cells #[.slice none 0 0] 105 (0,0))
 h3:wx.heap[g3]? =some (.cells #[gv] 105 (0,0))
 bel:Below fb w wx
 rows:Rows wx fb (zP lv xs::pU gv l::sp l)
 ges:fb<=g2/\fb<=g3/\g2≠g3/\fb≠g3
 sz:fb<=wx.heap.size
theorem GrMid.next{fv:Value}(h:GrMid w fb g2 g3 fv gv lv l xs wx){o:Obj}{x:Int}(hg:(wx.alloc o).grownBy w9 lv.ownBlock)
 (g:w9.ownsRow fb 3 1 c (xs.length+1) (xs.map zN++ [zN x])) (i:c.ownBlock=lv.ownBlock∨c.ownBlock=some (wx.alloc o).heap.size):GrMid w fb g2 g3 fv gv c l (xs++ [x]) w9:=by
 have ho:=h.rows.own _ (.head _);have hb:∀ {b:Nat} {cs:Array Value} {t:TypeId},A wx b cs t->3≠t->A w9 b cs t:=fun hb hne=>zL hg (zB hb) (zC ho hb (.inr hne))
 have f:Q wx (wx.alloc o):=(Below.refl _ _).alloc (Je _) _;have d:wx.heap.size<=w9.heap.size:=by have:=hg.size;simp at this;omega
 refine⟨hb h.h1 Zd,hb h.h2 Zd,hb h.h3 Zd,?_,?_,h.ges,Jn h.sz d⟩
 ·exact h.bel.trans ⟨hg.os,hg.tape,hg.output,d,fun k hk=>(hg.block k (by simp;have:=h.sz;omega) (fun e=>by have:=(ho.lt k e.symm).1;omega)).trans (f.block k (by have:=h.sz;omega))⟩
 ·refine h.rows.grow (r':=zP c (xs++ [x])) f hg ?_ (fun k e=>?_)
  ·show w9.ownsRow fb 3 1 c (xs++ [x]).length ((xs++ [x]).map zN)
   rw[Jk,Ju,Js];exact g
  ·rcases i with e2|e2
   ·exact .inl (e2.symm.trans e)
   ·right;have e3:=e2.symm.trans e;simp at e3;omega
theorem GrMid.close{fv:Value}(h:GrMid w fb g2 g3 fv gv lv l xs wx){o:Obj}(hg:(wx.alloc o).grownBy w9 gv.ownBlock)
 (g:w9.ownsRow fb 22 1 c (l.length+1) (l.map (·.2)++ [lv])) (x:c.ownBlock=gv.ownBlock∨c.ownBlock=some (wx.alloc o).heap.size) (u:Value):
 A (w9.setCell ⟨g3,0,none⟩ u) fb #[fv] 39/\A (w9.setCell ⟨g3,0,none⟩ u) g2 #[U] 105/\A (w9.setCell ⟨g3,0,none⟩ u) g3 #[u] 105/\Below fb w (w9.setCell ⟨g3,0,none⟩ u)/\
  Rows (w9.setCell ⟨g3,0,none⟩ u) fb (pU c (l++ [(xs,lv)])::sp (l++ [(xs,lv)])):=by
 have ho:=h.rows.own (pU gv l) (.tail _ (.head _));have hb:∀ {b:Nat} {cs:Array Value} {t:TypeId},A wx b cs t->22≠t->A w9 b cs t:=fun hb hne=>zL hg (zB hb) (zC ho hb (.inr hne))
 have d:Q wx (wx.alloc o):=(Below.refl _ _).alloc (Je _) _;have i:wx.heap.size<=w9.heap.size:=by have:=hg.size;simp at this;omega
 have f:=hb h.h3 Zd;refine⟨zR (hb h.h1 Zd) h.ges.2.2.2,zR (hb h.h2 Zd) h.ges.2.2.1,by rw[zD f];rfl,?_,?_⟩
 ·exact(h.bel.trans ⟨hg.os,hg.tape,hg.output,i,fun k hk=>(hg.block k (by simp;have:=h.sz;omega) (fun e=>by have:=(ho.lt k e.symm).1;omega)).trans (d.block k (by have:=h.sz;omega))⟩).setCell h.ges.2.1 _
 ·have h1:=(h.rows.perm (List.Perm.swap _ _ _)).grow (r':=pU c (l++ [(xs,lv)])) d hg (by
   show w9.ownsRow fb 22 1 c (l++ [(xs,lv)]).length ((l++ [(xs,lv)]).map (·.2))
   rw[Jk,Ju,Js]
   exact g) (fun k e=>by
   rcases x with e2|e2
   ·exact .inl (e2.symm.trans e)
   ·right;have e3:=e2.symm.trans e;simp at e3
    omega)
  have h2:Rows w9 fb (pU c (l++ [(xs,lv)])::sp (l++ [(xs,lv)])):=h1.perm (List.Perm.cons _ (by
   unfold sp;rw[Js]
   exact(List.perm_append_singleton _ _).symm))
  refine h2.keep fun k hk=>Below.heap_setCell _ _ _ _ (fun e=>?_)
  obtain⟨r,hr,m⟩:=Nj.1 hk;have e':k=g3:=e;subst e'
  have j:105≠r.e:=by
   rcases Jq.1 hr with rfl|hr
   ·show 105≠22;decide
   ·unfold sp at hr;obtain⟨q,_,rfl⟩:=Nu.1 hr
    show 105≠3;decide
  exact zC (h2.own r hr) f (.inr (fun e=>j e.symm)) m
theorem agZ{B:Nat}{d9:Value}{blocks:List IBlk}(c3:wX w B d9 blocks)(hB:B<=w.heap.size)(hs:vZ blocks):
 O 48 #[.agg #[d9]] w (RetGraph w (zk blocks)):=by
 obtain⟨fa,fc,rfl,k6,k5⟩:=c3.form;have k3:=hs.1;have b4:=Ja (Jb c3 (Jb hB hs));obtain⟨fb,c2⟩:∃fb,w.heap.size=fb:=⟨_,rfl⟩
 have d5:Q w (((w.alloc (G #[.slice fa blocks.length fc] 39)).alloc (G #[U] 105)).alloc (G #[U] 105)):=(((Below.refl _ _).alloc (Je _) _).alloc Zs _).alloc Zt _;have b5:=zB (o:=G #[U] 105) (zB (o:=G #[U] 105) (zI (W:=w) (o:=G #[.slice fa blocks.length fc] 39) rfl));have b1:=zB (o:=G #[U] 105) (zI (W:=w.alloc (G #[.slice fa blocks.length fc] 39)) (o:=G #[U] 105) rfl);have b0:=zI (W:=(w.alloc (G #[.slice fa blocks.length fc] 39)).alloc (G #[U] 105)) (o:=G #[U] 105) rfl;have c9:(w.alloc (G #[.slice fa blocks.length fc] 39)).heap.size=w.heap.size+1:=by simp
 have c8:((w.alloc (G #[.slice fa blocks.length fc] 39)).alloc (G #[U] 105)).heap.size=w.heap.size+1+1:=by simp
 rw[c9] at b1;rw[c8] at b0;clear c3 hB hs c9 c8;go_enter Tryz.func48,Tryz.ntmps48;go_upto_region 2 with fail;generalize g9:((w.alloc (G #[.slice fa blocks.length fc] 39)).alloc (G #[U] 105)).alloc (G #[U] 105)=W1 at *;rw[c2] at b5 b1 b0;generalize f9:fb+1+1=g3 at *;generalize g5:fb+1=g2 at *;have d1:g2≠g3/\fb<=g2/\fb<=g3:=Zo;have H1:=Ja (Jb d5 (Jb b5 (Jb b1 (Jb b0 (Jb c2 d1)))));clear d5 b5 b1 b0 g9 c2 g5 f9 d1;go_wp2
 go_loopw [4] (fun kv wx=>∃(k:Nat) (a:Option Addr) (n c:Nat),k<=blocks.length/\kv=I k/\Hid (A wx fb #[.slice fa blocks.length fc] 39/\A wx g2 #[U] 105/\A wx g3 #[.slice a n c] 105/\Below fb w wx/\pV wx fb (.slice a n c) ((zk blocks).take k))) (fun kv _=>blocks.length-(intOf kv).toNat)
 case atStart=>exact⟨0,none,0,0,Jt _,rfl,Ja ⟨H1.out.2.1,H1.out.2.2.1,H1.out.2.2.2.1,by rw[<-H1.out.2.2.2.2.1];exact H1.out.1,[],rfl,Rows.nil.cons (Jv _ _ _ _) (fun g e=>by simp[Row.blk,pU,Value.ownBlock] at e)⟩⟩
 case round=>
  obtain⟨k,a,n,c,hk,rfl,m⟩:=hrel;have c0:=zA (i:=0) m.out.1 rfl;have c1:=lt_of_block m.out.1
  by_cases d2:k<blocks.length
  ·have e7:(k:Int)<(blocks.length:Int):=Zo;obtain⟨b,hb⟩:∃b,blocks[k]? =some b:=⟨_,Jd d2⟩
   obtain⟨l,hl,b2⟩:=m.out.2.2.2.2;have a3:fb=w.heap.size:=H1.out.2.2.2.2.1.symm;have u:GrMid w fb g2 g3 (.slice fa blocks.length fc) (.slice a n c) (U) l [] wr:=⟨m.out.1,m.out.2.1,m.out.2.2.1,m.out.2.2.2.1,b2.cons (Jv _ _ _ _) (fun g e=>by simp[Row.blk,zP,Value.ownBlock] at e),⟨H1.out.2.2.2.2.2.2.1,H1.out.2.2.2.2.2.2.2,H1.out.2.2.2.2.2.1,fun e=>ne_type7 m.out.1 m.out.2.2.1 Zd e⟩,Qd c1⟩
   have h5:=Ja u;have HL:=Ja (Jb hl hb);have d4:=b4.out.2.2.2 b (Ji hb);have j9:=d4.2.2;have h4:=Ja (show ∀wx,Below fb w wx->wX wx B (.slice fa blocks.length fc) blocks/\B<=wx.heap.size from fun wx hbx=>⟨b4.out.1.below yT (hbx.mono (by rw[a3];exact b4.out.2.1)),Jn b4.out.2.1 hbx.size⟩);clear hl b2 u hb d4 a3;go_wp2;clear c0 c1
   go_loopw [5,6] (fun lv jv wx=>∃(j:Nat) (la:Option Addr) (lc:Nat),j<=b.term.to.length/\lv=.slice la j lc/\jv=I j/\Hid (GrMid w fb g2 g3 (.slice fa blocks.length fc) (.slice a n c) (.slice la j lc) l ((tW b).take j) wx)) (fun _ jv _=>b.term.to.length-(intOf jv).toNat)
   case atStart=>exact⟨0,none,0,Jt _,rfl,rfl,h5⟩
   case round=>
    obtain⟨j,la,lc,hj,rfl,rfl,HM⟩:=hrel;have c0:=zA (i:=0) HM.out.h1 rfl;have c1:=lt_of_block HM.out.h1;obtain⟨b9,l1⟩:=h4.out _ HM.out.bel;obtain⟨bb,bo,g7,l0,d8,d7,d6,pv,ov,tv,g0,g1,g4,b6,b8,a0⟩:=b9.get HL.out.2;obtain⟨ta,tc,rfl,k0,j2⟩:=a0.form;subst g7;have i0:bb<wr.heap.size:=Zo
    by_cases d3:j<b.term.to.length
    ·have f4:(j:Int)<(b.term.to.length:Int):=Zo;obtain⟨e,he⟩:∃e,b.term.to[j]? =some e:=⟨_,Jd d3⟩
     obtain⟨eb,eo,f0,k9,k7,e8,_⟩:=a0.get he;subst f0;have h9:eb<wr.heap.size:=Zo;have b7:=HM.out.rows.own _ (.head _);have a5:((tW b).take j).length=j:=te hj
     have t:wr.ownsRow fb 3 1 (.slice la j lc) j (((tW b).take j).map zN):=by
      have h:=b7
      show wr.ownsRow fb 3 1 (.slice la j lc) j _
      unfold zP at h;simp only at h;rw[a5] at h;exact h
     have HO:=Ja (Jb t (Jb a5 he));have g6:fb<=wr.heap.size:=Zo;obtain⟨ij,f6,e6,e5,e4⟩:=info_parts Tryz.info_int;clear b7 a5 t he b6 b8 a0 b9 e8 g0 g1 d8 d7 d6;go_wp2_with (at_builtin;go_must (refine zK _ rfl (.tmp 26) (.tmp 38) 22 rfl fb 3 ij (I 0) 1 8 Tryz.underlying22 f6 e6 e5 e4 rfl Zd (.slice la j lc) j (((tW b).take j).map zN) rfl (HO.out.1.alloc _) _ 1 [zN e.block] rfl (yM.one (zI rfl) rfl) (by unfold maxLen;omega) Zo Zt ?_;intro v9 w9 f d x;obtain⟨a7,a6,rfl⟩:=zG f;have y:=Ja (Jb f (Jb d x));clear f d x))
     go_roundw
     case rel=>
      refine⟨j+1,a7,a6,d3,rfl,by go_num,Ja ?_⟩;rw[rowI_get HO.out.2.2];exact HM.out.next y.out.2.1 (by rw[HO.out.2.1];exact y.out.1) y.out.2.2
     case measure=>simp[intOf];omega
    ·obtain rfl:j=b.term.to.length:=by omega
     have f4:¬(b.term.to.length:Int)<(b.term.to.length:Int):=Zo;have c5:(tW b).take b.term.to.length=tW b:=Oy (by unfold tW;simp);have u:=HM.out;rw[c5] at u;have k2:=zA (i:=0) u.h3 rfl;have h7:=lt_of_block u.h3;have a1:=u.rows.own (pU (.slice a n c) l) (.tail _ (.head _));obtain⟨a',c',c4⟩:=zG a1
     have f3:n=l.length:=by
      simp only[pU] at c4;cases c4;rfl
     subst f3;have t:wr.ownsRow fb 22 1 (.slice a l.length c) l.length (l.map (·.2)):=a1
     have k1:l.length<=2000000:=by
      have h1:=congrArg List.length HL.out.1;rw[Nr,Oc] at h1;omega
     have HO:=Ja (Jb u t);have g6:fb<=wr.heap.size:=Zo;obtain⟨ik,f5,e3,e2,e1⟩:=info_parts Tryz.info_ints;clear c5 u a1 c4 t b6 b8 a0 b9 g0 g1 d8 d7 d6;go_wp2_with (at_builtin;go_must (refine zK _ rfl (.tmp 41) (.tmp 43) 103 rfl fb 22 ik (U) 1 24 Tryz.underlying103 f5 e3 e2 e1 rfl Zd (.slice a l.length c) l.length (l.map (·.2)) rfl (HO.out.2.alloc _) _ 1 [.slice la b.term.to.length lc] rfl (yM.one (zI rfl) rfl) (by unfold maxLen;omega) Zo Zt ?_;intro v9 w9 f d x;obtain⟨a7,a6,rfl⟩:=zG f;have b3:=zL d (zB HO.out.1.h3) (zC HO.out.2 HO.out.1.h3 (.inr Zd));have i2:=zA (i:=0) b3 rfl;have i1:Y w9 g3 0:=zE b3;have h6:=lt_of_block b3;have y:=Ja (Jb f (Jb d x));clear f d x b3))
     go_roundw
     case rel=>
      have a4:=HO.out.1.close y.out.2.1 y.out.1 y.out.2.2 (.slice a7 (l.length+1) a6);refine⟨k+1,a7,l.length+1,a6,d2,by go_num,Ja ⟨a4.1,a4.2.1,a4.2.2.1,a4.2.2.2.1,l++ [(tW b,.slice la b.term.to.length lc)],?_,a4.2.2.2.2⟩⟩;rw[lZ HL.out.2,Js,HL.out.1];rfl
     case measure=>simp[intOf];omega
  ·obtain rfl:k=blocks.length:=by omega
   have e7:¬(blocks.length:Int)<(blocks.length:Int):=Zo;have d0:=zA (i:=0) m.out.2.2.1 rfl;have k4:=lt_of_block m.out.2.2.1;have e0:=zA (i:=0) m.out.2.1 rfl;have h8:=lt_of_block m.out.2.1;have ef:Y wr g2 0:=zE m.out.2.1;go_wp2;have g8:=m.out.2.2.2.1;have f8:=m.out.2.2.2.2;have a3:=H1.out.2.2.2.2.1;have c7:=zD (i:=0) m.out.2.1 (.slice a n c);have x0:=zA (i:=0) c7 rfl;have j1:=lt_of_block c7;refine bodyPost_ret (v:=.agg #[.slice a n c]) ?_ rfl ?_
   ·rw[zM rfl];go_simp
   ·refine⟨a,n,c,rfl,?_,?_⟩
    ·obtain⟨l,hl,hr⟩:=f8;refine⟨l,by rw[hl,Oy (by unfold zk;simp)],?_⟩;rw[a3];refine hr.keep fun q hq=>Below.heap_setCell _ _ _ _ (fun e=>?_)
     obtain⟨r,a2,f2⟩:=Nj.1 hq;have e':q=g2:=e;subst e'
     have f1:r.e≠105:=by
      rcases Jq.1 a2 with rfl|a2
      ·show 22≠105;decide
      ·unfold sp at a2;obtain⟨p,_,rfl⟩:=Nu.1 a2
       show 3≠105;decide
     exact zC (hr.own r a2) m.out.2.1 (.inr f1) f2
    ·rw[a3];exact g8.setCell H1.out.2.2.2.2.2.2.1 _
def BlkOp (n:Nat)(p:IProg)(o:IOp):Prop:=0<=o.res->agh n o/\(o.code=2->0<=o.a/\o.a<p.data.length)/\(o.code≠1->o.code≠2->ruG o.code≠none->(0<=o.a/\o.a<n)/\0<=o.b/\o.b<n)
def BlkEdge (n:Nat)(bls:List IBlk)(e:IEdge):Prop:=(0<=e.block/\e.block<bls.length)/\e.args.length=(xz bls e.block).params.length/\(∀x∈e.args,0<=x/\x<n)/\∀x∈(xz bls e.block).params,0<=x/\x<n
structure BlkW (n:Nat) (p:IProg) (bls:List IBlk) (b:IBlk):Prop where
 ops:∀o∈b.ops,BlkOp n p o
 tos:∀e∈b.term.to,BlkEdge n bls e
theorem SlvTo.blk(h:SlvTo w w' K){b:Nat}{o:_}(hb:w.heap[b]? =some o)(d:b<w.heap.size)(c:b≠K.rb/\b≠K.kb/\b≠K.sb):w'.heap[b]? =some o:=(h.block b d c.1 c.2.1 c.2.2).trans hb
theorem SlvAt.fresh{p:IProg}{c:List IBlk}{s:Slv}(h:SlvAt w K p c k s){b:Nat}(hb:w.heap.size<=b):b≠K.rb/\b≠K.kb/\b≠K.sb:=by
 have:=lt_of_block h.row;have:=lt_of_block h.kn;have:=lt_of_block h.cell;omega
theorem SlvAt.keepB{p:IProg}{c:List IBlk}{s:Slv}(h:SlvAt w K p c k s)(ht:SlvTo w w' K):Below K.B w w':=
 ht.below ⟨h.lt.2.1,h.lt.2.2.1,h.lt.1,Qd (Nat.lt_of_le_of_lt h.lt.1 (lt_of_block h.cell))⟩
theorem x9{α β:Type}{f:β->α->β}{l:List α}{x:α}(h:l[k]? =some x)(b:β):(l.take (k+1)).foldl f b=f ((l.take k).foldl f b) x:=by
 rw[Nh,h,List.foldl_append];rfl
theorem agB{p:IProg}{f:List IBlk}{s:Slv}(h:SlvAt w K p f k s){i:Nat}{bx:IBlk}(c4:f[i]? =some bx)(f5:BlkW K.n p f bx):
 O 42 #[F K.sb,I i] w (ng w K p f k (aft p f k (s,false) bx)):=by
 obtain⟨fa,fc,c1,k5,k4⟩:=h.blks.form;have b0:=h.blks;rw[c1] at b0;obtain⟨bb,bo,rfl,k6,g2,g3,a7,pv,ov,tv,g0,g1,g4,a0,b7,b5⟩:=b0.get c4;obtain⟨pa,pc,rfl,j9,j2⟩:=a0.form;obtain⟨oa,oc,rfl,k0,m3⟩:=b7.form;obtain⟨ta,tc,rfl,i0,l4⟩:=b5.form;have n1:=(Jh.1 c4).1;have m4:bx.ops.length<=9223372036854775807:=Zo;have l6:bx.term.to.length<=9223372036854775807:=Zo;have c6:=h.cells.2.2.2.2.2;rw[c1] at c6;have f3:=lt_of_block h.cell;have l1:bb<w.heap.size:=Jy k6 (Qd (Nat.lt_of_le_of_lt h.lt.1 f3));obtain⟨X,hX⟩:∃X,w.alloc (G #[.slice pa bx.params.length pc,.slice oa bx.ops.length oc,I bx.term.kind,I bx.term.a,.slice ta bx.term.to.length tc] 84)=X:=⟨_,rfl⟩
 have a5:Q w X:=by rw[<-hX];exact(Below.refl _ _).alloc (Je _) _
 have c7:A X w.heap.size #[.slice pa bx.params.length pc,.slice oa bx.ops.length oc,I bx.term.kind,I bx.term.a,.slice ta bx.term.to.length tc] 84:=by rw[<-hX];exact zI rfl
 have hB:K.B<=w.heap.size:=Qd (Nat.lt_of_le_of_lt h.lt.1 f3)
 have y:=Ja (show SlvAt X K p f k s/\SlvTo w X K/\A X w.heap.size #[.slice pa bx.params.length pc,.slice oa bx.ops.length oc,I bx.term.kind,I bx.term.a,.slice ta bx.term.to.length tc] 84/\mN X K.B (.slice oa bx.ops.length oc) bx.ops/\wH X K.B (.slice ta bx.term.to.length tc) bx.term.to/\Q w X/\w.heap.size<X.heap.size/\K.B<=w.heap.size from
  ⟨h.below a5,SlvTo.of_below a5,c7,b7.below xA (a5.mono hB),b5.below xL (a5.mono hB),a5,lt_of_block c7,hB⟩)
 have HW:=Ja (Jb h (Jb f5 (Jb c4 c1)));have m1:=k4;obtain⟨t6,f2⟩:∃t6,w.heap.size=t6:=⟨_,rfl⟩
 clear h f5 c4 c1 b0 a7 a0 b7 b5 a5 c7 k5 j9 j2 k0 i0 hB;go_enter Tryz.func42,Tryz.ntmps42;go_upto_region 3 with fail;clear hX c6 g0 g1 g2 g3 g4;rw[f2] at y;have d1:T X t6 1 (.slice oa bx.ops.length oc):=zA y.out.2.2.1 rfl;go_wp2;clear d1
 go_loopw [5,24] (fun cv jv wx=>∃(j:Nat) (s':Slv) (c:Bool),j<=bx.ops.length/\cv=.bool c/\jv=I j/\Hid ((bx.ops.take j).foldl (opS p k) (s,false)=(s',c)/\SlvAt wx K p f k s'/\SlvTo X wx K)) (fun _ jv _=>bx.ops.length-(intOf jv).toNat)
 case atStart=>exact⟨0,s,false,Jt _,rfl,rfl,Ja ⟨rfl,y.out.1,SlvTo.refl _ _⟩⟩
 case round=>
  obtain⟨j,s',c,hj,rfl,rfl,g⟩:=hrel
  by_cases u:j<bx.ops.length
  ·have b8:(j:Int)<(bx.ops.length:Int):=Zo;obtain⟨o,ho⟩:∃o,bx.ops[j]? =some o:=⟨_,Jd u⟩
   have q:Below K.B X wr:=y.out.1.keepB g.out.2.2;obtain⟨qb,qo,d3,b2,e0,e1,e2,e3,e4,a7,av,e5,a6⟩:=(y.out.2.2.2.1.below xA q).get ho;obtain⟨aa,ac,rfl,_,_⟩:=a6.form;subst d3;have d2:qb<wr.heap.size:=Jy b2 (Jn y.out.2.2.2.2.2.2.2 (Jn (Qd y.out.2.2.2.2.2.2.1) q.size));obtain⟨Y,hY⟩:∃Y,wr.alloc (G (C o aa ac) 76)=Y:=⟨_,rfl⟩
   have a1:Q wr Y:=by rw[<-hY];exact(Below.refl _ _).alloc (Je _) _
   have a3:A Y wr.heap.size (C o aa ac) 76:=by rw[<-hY];exact zI rfl
   have d:=Ja (show SlvAt Y K p f k s'/\SlvTo X Y K/\A Y wr.heap.size (C o aa ac) 76/\wr.heap.size≠K.rb/\wr.heap.size≠K.kb/\wr.heap.size≠K.sb from⟨g.out.2.1.below a1,g.out.2.2.trans (SlvTo.of_below a1),a3,g.out.2.1.fresh (Je _)⟩);have HO:=Ja (Jb ho (Jb a7 (HW.out.2.1.ops o (Ji ho))));have a2:=Ja u;clear ho a7 a6 q a1 a3 u;go_upto_region 6 with fail;clear hY e0 e1 e2 e3 e4 e5 d2 b2;obtain⟨t8,i1⟩:∃t8,wr.heap.size=t8:=⟨_,rfl⟩
   rw[i1] at d ⊢;have z0:T Y t8 0 (I o.code):=zA d.out.2.2.1 rfl;have z1:T Y t8 1 (I o.res):=zA d.out.2.2.1 rfl;have z2:T Y t8 2 (I o.a):=zA d.out.2.2.1 rfl;have z3:T Y t8 3 (I o.b):=zA d.out.2.2.1 rfl;have z4:T Y t8 4 (M (o.n:Int)):=zA d.out.2.2.1 rfl;have z5:T Y t8 5 (.slice aa o.args.length ac):=zA d.out.2.2.1 rfl
   by_cases hr:0<=o.res
   ·have j1:decide (0<=o.res)=true:=decide_eq_true hr;obtain⟨a,ha⟩:∃a,na p s' o=a:=⟨_,rfl⟩
    obtain⟨s2,r,hq⟩:∃s2 r,setF k s' o.res a=(s2,r):=⟨_,_,rfl⟩
    obtain⟨d0,d5,f9⟩:=HO.out.2.2 hr;have t:a.ok:=by rw[<-ha];exact af5 d.out.1.oks d0 hr
    have c0:(tn a (s'.get o.res)).ok:=i7 t (d.out.1.oks.get _)
    have k9:=Ja (show ∀W,Q Y W->O 96 #[F K.sb,.agg (C o aa ac)] W (tg W a) from fun W hb=>by
     rw[<-ha];exact agk (d.out.1.below hb) (.slice aa o.args.length ac) HO.out.2.1.1 HO.out.2.1.2.2.2.2 d5 f9)
    have e6:=Ja (show ∀W,SlvAt W K p f k s'->O 38 #[F K.sb,I o.res,.agg #[M (a.lo:Int),M (a.hi:Int)]] W (ng W K p f k (s2,r)) from fun W hb=>by
     have:=afA hb (v:=o.res.toNat) ((d0 hr).1) t (by rw[Oa hr];exact c0);rw[Oa hr,hq] at this
     exact this)
    have HQ:=Ja (Jb hq (Jb ha hr));clear hq ha d0 d5 f9 t c0;have HC:=Ja (show ∀w':World,w'.heap[t8]? =Y.heap[t8]?->T w' t8 0 (I o.code)/\T w' t8 1 (I o.res)/\T w' t8 2 (I o.a)/\T w' t8 3 (I o.b)/\T w' t8 4 (M (o.n:Int))/\T w' t8 5 (.slice aa o.args.length ac) from fun W h=>⟨zA (h.trans d.out.2.2.1) rfl,zA (h.trans d.out.2.2.1) rfl,zA (h.trans d.out.2.2.1) rfl,zA (h.trans d.out.2.2.1) rfl,zA (h.trans d.out.2.2.1) rfl,zA (h.trans d.out.2.2.1) rfl⟩);have f6:=lt_of_block d.out.2.2.1;cases r
    all_goals go_region_held3 (fun w'=>T w' t8 0 (I o.code)/\T w' t8 1 (I o.res)/\T w' t8 2 (I o.a)/\T w' t8 3 (I o.b)/\T w' t8 4 (M (o.n:Int))/\T w' t8 5 (.slice aa o.args.length ac))
     ((refine HC.out _ ?_;first|exact rfl|exact k3|exact k2))
     ((first
       |(go_at_call 96;refine(k9.out _ (by repeat' (first|with_reducible exact Below.refl _ _|with_reducible refine Below.drew ?_))).mono ?_;rintro e w1 ⟨rfl,f8⟩;have d9:Below Y.heap.size Y w1:=Below.trans (show Below Y.heap.size Y _ from by repeat' (first|with_reducible exact Below.refl _ _|with_reducible refine Below.drew ?_)) (f8.mono (Je _));clear f8;have k3:w1.heap[t8]? =Y.heap[t8]?:=d9.block _ f6)
       |(go_at_call 38;refine(e6.out _ (d.out.1.below (by repeat' (first|with_reducible exact d9|with_reducible refine Below.drew ?_)))).mono ?_;rintro e w2 ⟨rfl,a4,b1⟩;have c9:SlvTo Y w2 K:=SlvTo.trans (SlvTo.of_below (show Below Y.heap.size Y _ from by repeat' (first|with_reducible exact d9|with_reducible refine Below.drew ?_))) b1;have k2:w2.heap[t8]? =Y.heap[t8]?:=c9.block _ f6 d.out.2.2.2.1 d.out.2.2.2.2.1 d.out.2.2.2.2.2;have H2:=Ja (Jb a4 c9);clear a4 b1 c9)))
    all_goals clear z0 z1 z2 z3 z4 z5
    all_goals go_wp2_with fail
    all_goals (
     go_roundw
     case rel=>exact⟨j+1,s2,_,a2.out,by first|rfl|(cases c<;>rfl),by go_num,Ja ⟨by rw[x9 HO.out.1,g.out.1];unfold opS;rw[if_pos HQ.out.2.2];unfold q7;rw[show na p (s',c).1 o=a from HQ.out.2.1,HQ.out.1];first|rw[Bool.or_true]|rw[Bool.or_false],H2.out.1.below (by first|exact Below.refl _ _|exact(Below.refl _ _).drew),d.out.2.1.trans (H2.out.2.trans (SlvTo.of_below (by first|exact Below.refl _ _|exact(Below.refl _ _).drew)))⟩⟩
     case measure=>(try have h1:=a2.out);(try have h2:=b4.out);simp[intOf];omega)
   ·have j1:decide (0<=o.res)=false:=decide_eq_false hr;go_quiet (fail);go_wp2;go_roundw
    case rel=>exact⟨j+1,s',c,a2.out,rfl,by go_num,Ja ⟨by rw[x9 HO.out.1,g.out.1];unfold opS;rw[if_neg hr],d.out.1.below (by first|exact Below.refl _ _|exact yC (Below.refl _ _)),d.out.2.1.trans (SlvTo.of_below (by first|exact Below.refl _ _|exact yC (Below.refl _ _)))⟩⟩
    case measure=>(try have h1:=a2.out);(try have h2:=b4.out);simp[intOf];omega
  ·obtain rfl:j=bx.ops.length:=by omega
   have b8:¬(bx.ops.length:Int)<(bx.ops.length:Int):=Zo;have f0:=g.out.2.2.blk y.out.2.2.1 y.out.2.2.2.2.2.2.1 (by rw[<-f2];exact HW.out.1.fresh (Je _));have d4:T wr t6 4 (.slice ta bx.term.to.length tc):=zA f0 rfl;have HF:=Ja (show bx.ops.foldl (opS p k) (s,false)=(s',c) by have:=g.out.1;rw[Nl] at this;exact this);have e7:=Ja g.out.2;clear f0 hj u g;go_wp2;clear d4
   go_loopw [5,45] (fun cv jv wx=>∃(j:Nat) (s2:Slv) (c2:Bool),j<=bx.term.to.length/\cv=.bool c2/\jv=I j/\Hid ((bx.term.to.take j).foldl (agT f k) (s',c)=(s2,c2)/\SlvAt wx K p f k s2/\SlvTo X wx K)) (fun _ jv _=>bx.term.to.length-(intOf jv).toNat)
   case atStart=>exact⟨0,s',c,Jt _,rfl,rfl,Ja ⟨rfl,e7.out.1,e7.out.2⟩⟩
   case round=>
    clear e7;obtain⟨j,s2,c2,hj,rfl,rfl,g⟩:=hrel
    by_cases u:j<bx.term.to.length
    ·have b8:(j:Int)<(bx.term.to.length:Int):=Zo;obtain⟨e,he⟩:∃e,bx.term.to[j]? =some e:=⟨_,Jd u⟩
     have q:Below K.B X wr:=y.out.1.keepB g.out.2.2;obtain⟨qb,qo,d3,b2,e0,a7,av,e1,a6⟩:=(y.out.2.2.2.2.1.below xL q).get he;obtain⟨aa,ac,rfl,k7,n3⟩:=a6.form;have n4:e.args.length<=9223372036854775807:=Zo;subst d3;have d2:qb<wr.heap.size:=Jy b2 (Jn y.out.2.2.2.2.2.2.2 (Jn (Qd y.out.2.2.2.2.2.2.1) q.size));obtain⟨Y,hY⟩:∃Y,wr.alloc (G #[I e.block,.slice aa e.args.length ac] 79)=Y:=⟨_,rfl⟩
     have a1:Q wr Y:=by rw[<-hY];exact(Below.refl _ _).alloc (Je _) _
     have a3:A Y wr.heap.size #[I e.block,.slice aa e.args.length ac] 79:=by rw[<-hY];exact zI rfl
     have g5:K.B<=wr.heap.size:=Qd (Nat.lt_of_le_of_lt g.out.2.1.lt.1 (lt_of_block g.out.2.1.cell));have d:=Ja (show SlvAt Y K p f k s2/\SlvTo X Y K/\A Y wr.heap.size #[I e.block,.slice aa e.args.length ac] 79/\(wr.heap.size≠K.rb/\wr.heap.size≠K.kb/\wr.heap.size≠K.sb)/\zY Y K.B (.slice aa e.args.length ac) e.args/\wr.heap.size<Y.heap.size from⟨g.out.2.1.below a1,g.out.2.2.trans (SlvTo.of_below a1),a3,g.out.2.1.fresh (Je _),a6.below zO (a1.mono g5),lt_of_block a3⟩);have HO:=Ja (Jb he (HW.out.2.1.tos e (Ji he)));have a2:=Ja u;clear he a7 a6 q a1 a3 u k7 g5;go_upto_region 12 with fail;clear hY e0 e1 d2 b2;obtain⟨t10,g6⟩:∃t10,wr.heap.size=t10:=⟨_,rfl⟩
     rw[g6] at d ⊢;have z1:T Y t10 1 (.slice aa e.args.length ac):=zA d.out.2.2.1 rfl;obtain⟨eb,d7⟩:∃eb:Nat,e.block=eb:=⟨e.block.toNat,by have:=HO.out.2.1;omega⟩
     obtain⟨bq,c5⟩:∃bq,f[eb]? =some bq:=⟨_,Jd (by have:=HO.out.2.1;omega)⟩
     have b9:xz f e.block=bq:=by rw[d7];exact y7 c5
     have b6:=HO.out.2.2;rw[b9] at b6;have n2:eb<f.length:=(Jh.1 c5).1;have HE:=Ja (Jb b6 (Jb b9 c5));have l0:=Ja d7;clear b6 b9 c5 d7;go_wp2;clear z1
     go_loopw [5,52] (fun cv jv wx=>∃(m:Nat) (s3:Slv) (c3:Bool),m<=e.args.length/\cv=.bool c3/\jv=I m/\Hid (((bq.params.zip e.args).take m).foldl (ahv k) (s2,c2)=(s3,c3)/\SlvAt wx K p f k s3/\SlvTo Y wx K)) (fun _ jv _=>e.args.length-(intOf jv).toNat)
     case atStart=>exact⟨0,s2,c2,Jt _,rfl,rfl,Ja ⟨rfl,d.out.1,SlvTo.refl _ _⟩⟩
     case round=>
      obtain⟨m,s3,c3,hm,rfl,rfl,l⟩:=hrel
      by_cases b3:m<e.args.length
      ·have k1:(m:Int)<(e.args.length:Int):=Zo;obtain⟨x,hx⟩:∃x,e.args[m]? =some x:=⟨_,Jd b3⟩
       obtain⟨v,hv⟩:∃v,bq.params[m]? =some v:=⟨_,Jd (by rw[<-HE.out.1.1];exact b3)⟩
       have hz:(bq.params.zip e.args)[m]? =some (v,x):=List.getElem?_zip_eq_some.2 ⟨hv,hx⟩;have e8:=HE.out.1.2.1 x (Ji hx);have h7:=HE.out.1.2.2 v (Ji hv);have q:Below K.B Y wr:=d.out.1.keepB l.out.2.2;obtain⟨xb,xo,h5,h6,xc,_⟩:=(d.out.2.2.2.2.1.below zO q).get hx;subst h5;have d8:=l.out.2.1.blks;rw[HW.out.2.2.2] at d8;obtain⟨ub,uo,f1,h9,_,_,_,pv,_,_,u0,_,_,a0,_,_⟩:=d8.get HE.out.2.2;simp only[Option.some.injEq,Addr.mk.injEq,and_true] at f1;obtain⟨rfl,rfl⟩:=f1;obtain⟨ya,yc,rfl,g8,l2⟩:=a0.form;obtain⟨yb,yo,g9,h4,y0,_⟩:=a0.get hv;subst g9;rw[Nk] at xc y0;obtain⟨xn,rfl⟩:∃xn:Nat,x=xn:=⟨x.toNat,by omega⟩
       obtain⟨vn,rfl⟩:∃vn:Nat,v=vn:=⟨v.toNat,by omega⟩
       obtain⟨r0,r1⟩:=l.out.2.1.rcell e8;rw[Ni] at r0 r1;obtain⟨a,ha⟩:∃a,s3.get (xn:Int)=a:=⟨_,rfl⟩
       rw[ha] at r0 r1;have t:a.ok:=by rw[<-ha];exact l.out.2.1.oks.get _
       obtain⟨s4,r,hq⟩:∃s4 r,setF k s3 (vn:Int) a=(s4,r):=⟨_,_,rfl⟩
       have h8:vn<K.n:=Zo;have l3:xn<K.n:=Zo
       have e6:=Ja (show ∀W,SlvAt W K p f k s3->O 38 #[F K.sb,I vn,.agg #[M (a.lo:Int),M (a.hi:Int)]] W (ng W K p f k (s4,r)) from fun W hb=>by
        have:=afA hb h8 t (i7 t (hb.oks.get _));rw[hq] at this
        exact this)
       have f4:bq.params.length=e.args.length:=HE.out.1.1.symm;have c6:=l.out.2.1.cells.2.2.2.2.2;rw[HW.out.2.2.2] at c6;have c8:=l.out.2.1.cells.2.2.1;have d6:=l.out.2.2.blk d.out.2.2.1 d.out.2.2.2.2.2 d.out.2.2.2.1;have z0:T wr t10 0 (I eb):=by rw[<-l0.out];exact zA d6 rfl
       have m8:=l.out.2.1.n64;have m2:m<bq.params.length:=Zo;have HQ:=Ja (Jb hq (Jb ha (Jb hz f4)));have i2:=lt_of_block l.out.2.1.cell;have a4:=lt_of_block l.out.2.1.row;have n7:K.B<=wr.heap.size:=Qd (Nat.lt_of_le_of_lt l.out.2.1.lt.1 i2);have m0:xb<wr.heap.size:=Zo;have l9:bb<wr.heap.size:=Zo;have l7:yb<wr.heap.size:=Zo;have b4:=Ja b3;clear hq ha hz hx hv f4 d8 a0 q d6 g8 t e8 h7 h6 h9 h4 b3;go_upto_region 15 with fail;refine zt 21 Zk Zk ?_;simp only[Qo,Uc,Qp,Ui]
       repeat (go_big_quiet_step (fail))
       refine wpQuiet_nil ?_;clear z0 c6 c8 y0 u0 xc r0 r1;cases r
       all_goals go_wp2_with (go_at_call 38;go_must (refine(e6.out _ (l.out.2.1.below (Below.refl _ _).drew)).mono ?_;rintro e w2 ⟨rfl,a4,b1⟩;have H2:=Ja (Jb a4 ((SlvTo.of_below (Below.refl wr.heap.size wr).drew).trans b1));clear a4 b1))
       all_goals (
        go_roundw
        case rel=>exact⟨m+1,s4,_,b4.out,by first|rfl|(cases c3<;>rfl),by go_num,Ja ⟨by rw[x9 HQ.out.2.2.1,l.out.1];unfold ahv q7;rw[show(s3,c3).1.get ((vn:Int),(xn:Int)).2=a from HQ.out.2.1,HQ.out.1];first|rw[Bool.or_true]|rw[Bool.or_false],H2.out.1.below (by first|exact Below.refl _ _|exact(Below.refl _ _).drew),l.out.2.2.trans (H2.out.2.trans (SlvTo.of_below (by first|exact Below.refl _ _|exact(Below.refl _ _).drew)))⟩⟩
        case measure=>(try have h1:=a2.out);(try have h2:=b4.out);simp[intOf];omega)
      ·obtain rfl:m=e.args.length:=by omega
       have k1:¬(e.args.length:Int)<(e.args.length:Int):=Zo;clear hm b3;go_wp2;go_roundw
       case rel=>
        refine⟨j+1,s3,c3,a2.out,rfl,by go_num,Ja ⟨?_,l.out.2.1,d.out.2.1.trans l.out.2.2⟩⟩;rw[x9 HO.out.1,g.out.1];unfold agT;rw[HE.out.2.1,<-l.out.1,Oy (by rw[List.length_zip,HE.out.1.1];omega)]
       case measure=>(try have h1:=a2.out);(try have h2:=b4.out);simp[intOf];omega
    ·obtain rfl:j=bx.term.to.length:=by omega
     have b8:¬(bx.term.to.length:Int)<(bx.term.to.length:Int):=Zo;clear hj u;go_wp2;go_ret
     have g7:aft p f k (s,false) bx=(s2,c2):=by
      unfold aft;rw[HF.out,<-g.out.1,Nl]
     rw[g7];exact⟨rfl,g.out.2.1,y.out.2.1.trans g.out.2.2⟩
theorem mem_a(h:(zi o.code).a=true):o.a∈rR o:=by
 unfold rR;rw[if_pos h];simp
theorem mem_b(h:(zi o.code).b=true):o.b∈rR o:=by
 unfold rR;rw[if_pos h];simp
theorem acc_a(h:aeB o=true):(zi o.code).a=true:=by
 unfold aeB at h;simp only[Jm,decide_eq_true_eq] at h;have:o.code=18∨o.code=19∨o.code=20∨o.code=21:=Zo;rcases this with e|e|e|e<;>rw[e]<;>rfl
def objT (o:IObj)(a:Rg)(n:Int):Prop:=o.bank=-1/\o.addr<=a.lo/\(a.hi:Int)+n<=(o.addr:Int)+o.size
theorem objGo_at{l:List IObj}{o:IObj}(h:l[k]? =some o)(a:Rg)(n:Int):(objT o a n->eC (l.drop k) k a n=k)/\(¬objT o a n->eC (l.drop k) k a n=eC (l.drop (k+1)) (k+1:Nat) a n):=by
 have hk:=(Jh.1 h).1;have c:l.drop k=o::l.drop (k+1):=by rw[Qn hk,(Jh.1 h).2]
 rw[c,show((k+1:Nat):Int)=(k:Int)+1 by omega];rw[eC];constructor
 ·intro ht;exact if_pos ht
 ·intro ht;exact if_neg ht
theorem agj{B:Nat}{V:PV}{p:IProg}(hp:ProgIn w B V p)(hB:B<=w.heap.size){a:Rg}(ha:a.ok)(n:Int)(hn:0<=n/\n<=2):
 O 43 #[yH V p,.agg #[M (a.lo:Int),M (a.hi:Int)],I n] w (pn w (eC p.data 0 a n)):=by
 obtain⟨Vf,Va,Vd,Vb⟩:=V;obtain⟨da,dc,e3,b5,b4⟩:=hp.data.form;have a4:=hp.data;have b0:Vd=.slice da p.data.length dc:=e3;subst b0;have b6:=ha.1;have b7:=ha.2;have b3:=hn.1;have b2:=hn.2;obtain⟨G,hG⟩:∃G,eC p.data 0 a n=G:=⟨_,rfl⟩
 rw[hG];have HG:=Ja hG;unfold yH;obtain⟨X,hX⟩:∃X,(w.alloc (.cells #[Vf,Va,I p.entry,I p.handler,.slice da p.data.length dc,Vb] 29)).alloc (.cells #[M (a.lo:Int),M (a.hi:Int)] 45)=X:=⟨_,rfl⟩
 have j:Q w X:=by rw[<-hX];exact((Below.refl _ _).alloc (Je _) _).alloc Zs _
 have a1:A X w.heap.size #[Vf,Va,I p.entry,I p.handler,.slice da p.data.length dc,Vb] 29:=by rw[<-hX];exact zB (zI rfl)
 have a0:A X (w.heap.size+1) #[M (a.lo:Int),M (a.hi:Int)] 45:=by rw[<-hX];exact zI Zs
 have f:=Ja (show Q w X/\A X w.heap.size #[Vf,Va,I p.entry,I p.handler,.slice da p.data.length dc,Vb] 29/\A X (w.heap.size+1) #[M (a.lo:Int),M (a.hi:Int)] 45/\kq X B (.slice da p.data.length dc) p.data/\B<=X.heap.size from⟨j,a1,a0,a4.below tZ (j.mono hB),Jn hB j.size⟩);clear a4 hp j a1 a0 hG ha hn hB;go_enter Tryz.func43,Tryz.ntmps43;go_upto_region 1 with fail;clear hX;obtain⟨t3,a3⟩:∃t,w.heap.size=t:=⟨_,rfl⟩
 obtain⟨t4,a2⟩:∃t,w.heap.size+1=t:=⟨_,rfl⟩
 have y:=Ja f.out.1;rw[a2] at f ⊢;rw[a3] at f ⊢;clear a3 a2;have d4:T X t3 4 (.slice da p.data.length dc):=zA f.out.2.1 rfl;go_wp2;clear d4
 go_loopw [12] (fun kv wx=>∃k:Nat,k<=p.data.length/\kv=I k/\Hid (eC (p.data.drop k) k a n=G/\Q X wx)) (fun kv _=>p.data.length-(intOf kv).toNat)
 case atStart=>exact⟨0,Jt _,rfl,Ja ⟨HG.out,Below.refl _ _⟩⟩
 case round=>
  obtain⟨k,hk,rfl,c⟩:=hrel;have i:=zH c.out.2 f.out.2.2.1 (lt_of_block f.out.2.2.1);have x0:T wr t4 0 (M (a.lo:Int)):=zA i rfl;have x1:T wr t4 1 (M (a.hi:Int)):=zA i rfl;have b8:=lt_of_block i;clear i
  by_cases x:k<p.data.length
  ·have a6:(k:Int)<(p.data.length:Int):=Zo;obtain⟨o,ho⟩:∃o,p.data[k]? =some o:=⟨_,Jd x⟩
   obtain⟨ob,oq,a7,a5,o0,o1,o2,ob64,oa64,os64⟩:=(f.out.2.2.2.1.below tZ (c.out.2.mono f.out.2.2.2.2)).get ho;subst a7;have b1:ob<wr.heap.size:=Jy a5 (Jn f.out.2.2.2.2 c.out.2.size);have d:=Ja (Jb (objGo_at ho a n) (Jb x ob64));clear ho ob64 x a5;obtain⟨ov,l⟩:∃v,o.bank=v:=⟨_,rfl⟩
   obtain⟨oA,u⟩:∃v,o.addr=v:=⟨_,rfl⟩
   obtain⟨oS,m⟩:∃v,o.size=v:=⟨_,rfl⟩
   have h:=Ja (Jb l (Jb u m));rw[l] at o0;rw[u] at o1 oa64;rw[m] at o2 os64;clear l u m;have hT:∀q:Prop,Decidable q->True:=fun _ _=>trivial
   clear hT
   by_cases h1:ov=-1
   ·by_cases h2:oA<=a.lo
    ·by_cases h3:(a.hi:Int)+n<=(oA:Int)+oS
     ·have g:=Ja ((d.out.1.1 ⟨h.out.1.trans h1,by rw[h.out.2.1];exact h2,by rw[h.out.2.1,h.out.2.2];exact h3⟩).symm.trans c.out.1);subst h1;go_wp2;go_ret;exact⟨by rw[<-g.out];rfl,(y.out.trans (c.out.2.mono y.out.size)).trans ((Below.alloc (Below.refl _ _) (Je _) _).mono (Jn y.out.size c.out.2.size))⟩
     ·have g:=Ja ((d.out.1.2 (fun t=>h3 (by have:=t.2.2;rw[h.out.2.1,h.out.2.2] at this;exact this))).symm.trans c.out.1);subst h1;go_wp2;go_roundw
      case rel=>exact⟨k+1,d.out.2.1,by go_num,Ja ⟨g.out,c.out.2.trans ((Below.alloc (Below.refl _ _) (Je _) _).mono c.out.2.size)⟩⟩
      case measure=>have:=d.out.2.1;simp[intOf];omega
    ·have g:=Ja ((d.out.1.2 (fun t=>h2 (by have:=t.2.1;rw[h.out.2.1] at this;exact this))).symm.trans c.out.1);have b9:a.lo<oA:=Zo;subst h1;clear h2;go_wp2;go_roundw
     case rel=>exact⟨k+1,d.out.2.1,by go_num,Ja ⟨g.out,c.out.2.trans ((Below.alloc (Below.refl _ _) (Je _) _).mono c.out.2.size)⟩⟩
     case measure=>have:=d.out.2.1;simp[intOf];omega
   ·have g:=Ja ((d.out.1.2 (fun t=>h1 (h.out.1.symm.trans t.1))).symm.trans c.out.1);have c0:(ov==(-1:Int))=false:=by simpa using h1
    go_wp2;go_roundw
    case rel=>exact⟨k+1,d.out.2.1,by go_num,Ja ⟨g.out,c.out.2.trans ((Below.alloc (Below.refl _ _) (Je _) _).mono c.out.2.size)⟩⟩
    case measure=>have:=d.out.2.1;simp[intOf];omega
  ·obtain rfl:k=p.data.length:=by omega
   have a6:¬(p.data.length:Int)<(p.data.length:Int):=Zo;have g:=Ja (show(-1:Int)=G by have:=c.out.1;rw[List.drop_length] at this;exact this);go_wp2;go_ret;exact⟨by rw[<-g.out];rfl,y.out.trans (c.out.2.mono y.out.size)⟩
theorem vF{α:Type}{sz:Nat}{R:World->Nat->Nat->Nat->α->Prop}{B:Nat}{v:Value}{xs:List α}(h:yN sz R w B v xs){x:α}(c:x∈xs):∃b o,R w B b o x:=by
 obtain⟨k,hk⟩:=Ny c;obtain⟨a,d,rfl,_,_,h3⟩:=h;obtain⟨b,o,_,_,hr⟩:=h3 k x hk;exact⟨b,_,hr⟩
theorem rI{B:Nat}{v:Value}(h:zY w B v xs):∀x∈xs,I64 x:=fun x hx=>by
 obtain⟨b,o,hr⟩:=vF h hx;exact hr.2
theorem ProgIn.p64{B:Nat}{V:PV}{p:IProg}(h:ProgIn w B V p):P64 p:=by
 refine⟨fun f hf b hb=>?_,rI h.args,fun o ho=>?_,fun s hs=>?_,h.ent,h.hnd⟩
 ·obtain⟨x,y,bv,_,d⟩:=vF h.funcs hf;obtain⟨x,y,_,_,h3,pv,ov,tv,_,_,_,j,i,g⟩:=vF d hb;refine⟨rI j,fun o ho=>?_,h3,fun e he=>?_⟩
  ·obtain⟨x,y,_,_,_,_,_,k,av,_,c⟩:=vF i ho;exact⟨k,rI c⟩
  ·obtain⟨x,y,_,h2,av,_,c⟩:=vF g he;exact⟨h2,rI c⟩
 ·obtain⟨x,y,_,_,_,l⟩:=vF h.data ho;exact l
 ·obtain⟨x,y,h1,h2⟩:=vF h.banks hs;exact h2
def i8 (w:World)(B b q:Nat)(x:Int):Prop:=T w b q (I x)
abbrev pg:=yN 1 i8
def RowCR (w:World)(B b q:Nat)(x:List Int):Prop:=∃v,T w b q v/\pg w B v x
abbrev RowsC:=yN 1 RowCR
theorem mf{B:Nat}{v:Value}(h:w.ownsRow B 3 1 v xs.length (xs.map zN)):pg w w.heap.size v xs:=by
 have h2:w.ownsRow B 3 1 v xs.length (xs.flatMap fun x=> [zN x]):=by rw[<-Qh];exact h
 have:=wC (sz:=1) (f:=fun x:Int=> [zN x]) (R:=i8) (g:=fun x:Int=>x) Zd (fun _=>rfl) h2 (fun q hq b o hc=>hc 0 _ rfl);rw[List.map_id'] at this;exact this
theorem iW{B:Nat}{v:Value}{rows:List (List Int)}(h:pV w B v rows):RowsC w w.heap.size v rows:=by
 obtain⟨l,rfl,hr⟩:=h;have h1:w.ownsRow B 22 1 v l.length (l.flatMap fun q=> [q.2]):=by rw[<-Qh];exact hr.own _ (.head _)
 exact wC (sz:=1) (f:=fun q:GR=> [q.2]) (R:=RowCR) (g:=fun q:GR=>q.1) Zd (fun _=>rfl) h1 (fun q hq b o hc=>⟨q.2,hc 0 _ rfl,mf (hr.own (zP q.2 q.1) (.tail _ (show zP q.2 q.1∈sp l from Oj (f:=fun q:GR=>zP q.2 q.1) hq)))⟩)
end Go.Proofs.YtoahcpkibpomcaaGreat
set_option maxRecDepth 100000
namespace Go.Proofs.YtoahcpkibpomcaaGreat
open Go.ChangeShapes Go.WideShapes Go.ChangeAt Go.RowKit
variable {w w' w9 wx:World}{K:SK}{fb g2 g3 k:Nat}{c gv lv:Value}{xs:List Int}{o:IOp}{l:List GR}
section
variable {H:Type} {enc:TypeId×Value->H} {W:World} {v:Value} {d:DataW H} {p:List MemPlace} {r:Go.Reach} {base:Nat}
theorem u8_open (hv:Value.okWide Tryz.prog W r base 5 v)(h0:DataW.Trod enc Tryz.prog W 0 (fun _=>true) true 5 v d p):∃x:Nat,v=.int .u8 (x:Int)/\x<256:=by
 obtain⟨n,rfl,_,_,c⟩:=open_int Tryz.underlying5 hv h0;have h:0<=n/\n<=255:=by simpa[Lit.wf,IntKind.min,IntKind.max,IntKind.signed,IntKind.bits] using c
 exact⟨n.toNat,by rw[Oa h.1],by omega⟩
end
end Go.Proofs.YtoahcpkibpomcaaGreat
