/- Part of a proof. -/
import Derived.Test.YtoahcpkibpomcaaGZwi
set_option linter.all false
set_option maxHeartbeats 2000000
set_option maxRecDepth 100000
namespace Go.Proofs.Ytoahcpkibpomcaa
open Go.RowKit
theorem nB {X:Nat->Prop}{w W2:World}{g:Nat}(o:Nat)(vs:List Value)(hb:O w W2)(c:X g):Stp X w X (W2.setCells g o vs):=
 ⟨(ze g vs o W2).1.trans hb.os,(ze g vs o W2).2.1.trans hb.tape,(ze g vs o W2).2.2.trans hb.output,by rw[y8];exact hb.size,fun _ h=> .inl h,fun k hk hx=>(ye g k (fun e=>hx (by rw[e];exact c)) vs o W2).trans (hb.block k hk)⟩
theorem nt {w:World}{K:MKC}{X:Nat->Prop}{M:MS}(h:wW w K X M){t:ITerm}(hk:I64 t.kind)(ha:I64 t.a){tv:Value}(hto:vT w (K.av X) tv t.to)(a9:M.cur<M.f.length):
 T 59 #[L K.pm,.agg #[I t.kind,I t.a,tv]] w (yk K X w (M.endB t) (.tuple #[])):=by
 obtain⟨fv,vv,l,h⟩:=h;obtain⟨b,hb⟩:∃b,M.f[M.cur]? =some b:=⟨_,Jd a9⟩
 obtain⟨q,y,rfl,d⟩:=h.getB hb;obtain⟨g,c,rfl,b3,a1,b5⟩:=h.fblk y;obtain⟨ta,tc,rfl,_,_⟩:=hto.form;obtain⟨pa,pc,a0,_,_⟩:=d.par.form;obtain⟨oa,oc,m⟩:=zG d.own;obtain⟨ea,ec,a3,_,_⟩:=d.tos.form;have c4:=h.c4;have c5:=h.c5;have u:=z9 yr h.own rfl y;have e0:U w g (M.cur*5) q.pv:=u 0 _ rfl;have e1:=u 1 _ rfl;have e2:=u 2 _ rfl;have e3:=u 3 _ rfl;have e4:=u 4 _ rfl;have a4:=lt_of_block h.blk;have b1:=h.len;have b6:(M.cur:Int)<(l.length:Int):=Zo;have b7:(0:Int)<=(M.cur:Int):=Zo;have b0:=h.flen;rw[a0] at e0;rw[m] at e1;rw[a3] at e4;have H:=Ja (Jb h (Jb y (Jb d (Jb hto (Jb hb (Jb a0 (Jb m (Jb a3 (Jb hk ha)))))))));clear h y d hto hb u a0 m a3 hk ha b1 b0;go_enter Try.func59,Try.ntmps59;go_upto_region 1 with fail;have a6:∀w',O w w'->U w' K.pm 4 (N g l.length c)/\U w' K.pm 5 (I (M.cur:Int))/\U w' g (M.cur*5) (.slice pa q.b.params.length pc)/\U w' g (M.cur*5+1) (.slice oa q.ol.length oc)/\U w' g (M.cur*5+2) (I q.b.term.kind)/\U w' g (M.cur*5+3) (I q.b.term.a)/\U w' g (M.cur*5+4) (.slice ea q.b.term.to.length ec):=fun w' hb=>⟨zV hb a4 c4,zV hb a4 c5,zV hb a1 e0,zV hb a1 e1,zV hb a1 e2,zV hb a1 e3,zV hb a1 e4⟩
 have a2:=Ja a6;clear a6 c4 c5 e0 e1 e2 e3 e4
 go_region_held3 (fun w'=>U w' K.pm 4 (N g l.length c)/\U w' K.pm 5 (I (M.cur:Int))/\U w' g (M.cur*5) (.slice pa q.b.params.length pc)/\U w' g (M.cur*5+1) (.slice oa q.ol.length oc)/\U w' g (M.cur*5+2) (I q.b.term.kind)/\U w' g (M.cur*5+3) (I q.b.term.a)/\U w' g (M.cur*5+4) (.slice ea q.b.term.to.length ec))
  ((refine a2.out _ ?_;repeat' (first|exact Below.refl _ _|refine Below.drew ?_|refine Below.alloc ?_ (by simp<;>omega) _|refine Below.setCell ?_ (by simp<;>omega) _)))
  (fail)
 go_upto_region 3 with fail;have a5:O w (((w.alloc (A #[I t.kind,I t.a,.slice ta t.to.length tc] 34)).alloc (A #[.slice pa q.b.params.length pc,.slice oa q.ol.length oc,I t.kind,I t.a,.slice ta t.to.length tc] 36)).drew):=(((Below.refl _ _).alloc (Je _) _).alloc Zs _).drew;have x:Q (((w.alloc (A #[I t.kind,I t.a,.slice ta t.to.length tc] 34)).alloc (A #[.slice pa q.b.params.length pc,.slice oa q.ol.length oc,I t.kind,I t.a,.slice ta t.to.length tc] 36)).drew) (w.heap.size+1) #[.slice pa q.b.params.length pc,.slice oa q.ol.length oc,I t.kind,I t.a,.slice ta t.to.length tc] 36:=zI Zs;generalize b4:((w.alloc (A #[I t.kind,I t.a,.slice ta t.to.length tc] 34)).alloc (A #[.slice pa q.b.params.length pc,.slice oa q.ol.length oc,I t.kind,I t.a,.slice ta t.to.length tc] 36)).drew=W2 at *;obtain⟨c4,c5,_⟩:=a2.out W2 a5;have l0:=zA (i:=0) x rfl;have l1:=zA (i:=1) x rfl;have l2:=zA (i:=2) x rfl;have l3:=zA (i:=3) x rfl;have l4:=zA (i:=4) x rfl;have HB:=Ja a5;clear a5 x b4 a2;refine zt 11 Zk Zk ?_;simp only[Qo,Uc,Qp,Ui]
 repeat (go_big_quiet_step (fail))
 refine wpQuiet_nil ?_;have a8:=H.out.1.keep HB.out.drew;refine wpList_store_mid rfl 36 (.tmp 28) (.tmp 27) rfl g (M.cur*5) #[.slice pa q.b.params.length pc,.slice oa q.ol.length oc,I t.kind,I t.a,.slice ta t.to.length tc] rfl rfl (zq Zd yr a8.own rfl H.out.2.1) Zk (by simp[Value.oneCell']) ?_;go_wp2
 first|go_end0|refine bodyPost_ret (results_none rfl _ _ _) rfl ?_
 obtain⟨h,y,d,hto,hb,a0,m,a3,hk,ha⟩:=H.out;have hs:Stp X w X (W2.drew.setCells g (M.cur*5) (xG ⟨{q.b with term:=t },q.pv,q.ov,.slice ta t.to.length tc,q.ol⟩)):=nB _ _ HB.out.drew b3;have b2: [Value.slice pa q.b.params.length pc,.slice oa q.ol.length oc,I t.kind,I t.a,.slice ta t.to.length tc]=xG ⟨{q.b with term:=t },q.pv,q.ov,.slice ta t.to.length tc,q.ol⟩:=by unfold xG;rw[a0,m]
 rw[b2];refine⟨rfl,X,⟨_,_,_,h.turn (M':=M.endB t) y rfl hs (fun _ e=>e) (fun k e=>Jy (h.xl k e) hs.size) h.xB (fun k hk' hx hne _=>(ye g k hne _ _ _).trans (HB.out.drew.block k hk')) (fun e=>zC d.own h.blk (.inr Zd) e) (uZ yr a8.own rfl y _) ?_ (fun j qj k hj h1 h2=>h.apart j _ qj q k hj y h2 h1) ?_ ⟨rfl,rfl,rfl,rfl,rfl⟩ ?_⟩,hs⟩
 ·exact⟨⟨hk,ha⟩,d.par.step zn (hs.av K),d.ops,yD d.own (fun k hk'=>(ye g k (fun e=>by
   rcases zo d.own h.own Zd with h1|h1
   ·rw[h1] at hk';cases hk'
   ·exact h1 (by rw[hk',e];rfl)) _ _ _).trans (HB.out.drew.block k (d.own.lt k hk').2)),fun o ho=>⟨(d.arg o ho).1,(d.arg o ho).2.step zn (hs.av K)⟩,hto.step yq (hs.av K),d.inX⟩
 ·exact xI hb _
 ·have:=(yf M t).sz;have:=h.bnd;omega
def acg (f:Flds):Value:=.agg #[.bool f.is,.bool f.res,.bool f.a,.bool f.b,.bool f.n]
def wL (w:World)(f:Flds)(e:Ending)(w':World):Prop:=e=.returned (acg f)/\O w w'
theorem shp_1 (w:World):T 92 #[I 1] w (wL w ⟨true,true,false,false,true⟩):=by
 go_enter Try.func92,Try.ntmps92;go_wp2;refine bodyPost_ret (v:=.agg #[.bool true,.bool true,.bool false,.bool false,.bool true]) ?_ rfl ?_
 ·rw[zM rfl];go_simp
 ·exact⟨rfl,Zr⟩
theorem shp_2 (w:World):T 92 #[I 2] w (wL w ⟨true,true,false,false,true⟩):=by
 go_enter Try.func92,Try.ntmps92;go_wp2;refine bodyPost_ret (v:=.agg #[.bool true,.bool true,.bool false,.bool false,.bool true]) ?_ rfl ?_
 ·rw[zM rfl];go_simp
 ·exact⟨rfl,Zr⟩
theorem shp_3 (w:World):T 92 #[I 3] w (wL w ⟨true,true,true,false,false⟩):=by
 go_enter Try.func92,Try.ntmps92;go_wp2;refine bodyPost_ret (v:=.agg #[.bool true,.bool true,.bool true,.bool false,.bool false]) ?_ rfl ?_
 ·rw[zM rfl];go_simp
 ·exact⟨rfl,Zr⟩
theorem shp_4 (w:World):T 92 #[I 4] w (wL w ⟨true,true,true,false,false⟩):=by
 go_enter Try.func92,Try.ntmps92;go_wp2;refine bodyPost_ret (v:=.agg #[.bool true,.bool true,.bool true,.bool false,.bool false]) ?_ rfl ?_
 ·rw[zM rfl];go_simp
 ·exact⟨rfl,Zr⟩
theorem shp_18 (w:World):T 92 #[I 18] w (wL w ⟨true,true,true,false,false⟩):=by
 go_enter Try.func92,Try.ntmps92;go_wp2;refine bodyPost_ret (v:=.agg #[.bool true,.bool true,.bool true,.bool false,.bool false]) ?_ rfl ?_
 ·rw[zM rfl];go_simp
 ·exact⟨rfl,Zr⟩
theorem shp_19 (w:World):T 92 #[I 19] w (wL w ⟨true,true,true,false,false⟩):=by
 go_enter Try.func92,Try.ntmps92;go_wp2;refine bodyPost_ret (v:=.agg #[.bool true,.bool true,.bool true,.bool false,.bool false]) ?_ rfl ?_
 ·rw[zM rfl];go_simp
 ·exact⟨rfl,Zr⟩
theorem shp_20 (w:World):T 92 #[I 20] w (wL w ⟨true,false,true,true,false⟩):=by
 go_enter Try.func92,Try.ntmps92;go_wp2;refine bodyPost_ret (v:=.agg #[.bool true,.bool false,.bool true,.bool true,.bool false]) ?_ rfl ?_
 ·rw[zM rfl];go_simp
 ·exact⟨rfl,Zr⟩
theorem shp_21 (w:World):T 92 #[I 21] w (wL w ⟨true,false,true,true,false⟩):=by
 go_enter Try.func92,Try.ntmps92;go_wp2;refine bodyPost_ret (v:=.agg #[.bool true,.bool false,.bool true,.bool true,.bool false]) ?_ rfl ?_
 ·rw[zM rfl];go_simp
 ·exact⟨rfl,Zr⟩
theorem shp_22 (w:World):T 92 #[I 22] w (wL w ⟨true,true,true,false,true⟩):=by
 go_enter Try.func92,Try.ntmps92;go_wp2;refine bodyPost_ret (v:=.agg #[.bool true,.bool true,.bool true,.bool false,.bool true]) ?_ rfl ?_
 ·rw[zM rfl];go_simp
 ·exact⟨rfl,Zr⟩
theorem shp_23 (w:World):T 92 #[I 23] w (wL w ⟨true,true,true,false,true⟩):=by
 go_enter Try.func92,Try.ntmps92;go_wp2;refine bodyPost_ret (v:=.agg #[.bool true,.bool true,.bool true,.bool false,.bool true]) ?_ rfl ?_
 ·rw[zM rfl];go_simp
 ·exact⟨rfl,Zr⟩
theorem shp_24 (w:World):T 92 #[I 24] w (wL w ⟨true,true,false,false,true⟩):=by
 go_enter Try.func92,Try.ntmps92;go_wp2;refine bodyPost_ret (v:=.agg #[.bool true,.bool true,.bool false,.bool false,.bool true]) ?_ rfl ?_
 ·rw[zM rfl];go_simp
 ·exact⟨rfl,Zr⟩
theorem shp_25 (w:World):T 92 #[I 25] w (wL w ⟨true,false,true,false,true⟩):=by
 go_enter Try.func92,Try.ntmps92;go_wp2;refine bodyPost_ret (v:=.agg #[.bool true,.bool false,.bool true,.bool false,.bool true]) ?_ rfl ?_
 ·rw[zM rfl];go_simp
 ·exact⟨rfl,Zr⟩
theorem shp_26 (w:World):T 92 #[I 26] w (wL w ⟨true,false,false,false,false⟩):=by
 go_enter Try.func92,Try.ntmps92;go_wp2;refine bodyPost_ret (v:=.agg #[.bool true,.bool false,.bool false,.bool false,.bool false]) ?_ rfl ?_
 ·rw[zM rfl];go_simp
 ·exact⟨rfl,Zr⟩
theorem shp_27 (w:World):T 92 #[I 27] w (wL w ⟨true,false,false,false,false⟩):=by
 go_enter Try.func92,Try.ntmps92;go_wp2;refine bodyPost_ret (v:=.agg #[.bool true,.bool false,.bool false,.bool false,.bool false]) ?_ rfl ?_
 ·rw[zM rfl];go_simp
 ·exact⟨rfl,Zr⟩
theorem aao (c:Int)(h:5<=c/\c<=17)(w:World):T 92 #[I c] w (wL w ⟨true,true,true,true,false⟩):=by
 have t1:((c:Int)==1)=false:=Ze;have t2:((c:Int)==2)=false:=Ze;have t3:((c:Int)==3)=false:=Ze;have t4:((c:Int)==4)=false:=Ze;have t:((c:Int)==18)=false:=Ze;have q:((c:Int)==19)=false:=Ze;have o:((c:Int)==20)=false:=Ze;have m:((c:Int)==21)=false:=Ze;have l:((c:Int)==22)=false:=Ze;have k:((c:Int)==23)=false:=Ze;have j:((c:Int)==24)=false:=Ze;have i:((c:Int)==25)=false:=Ze;have g:((c:Int)==26)=false:=Ze;have d:((c:Int)==27)=false:=Ze;have d1:decide (5<=c)=true:=by rw[decide_eq_true_eq];omega
 have d2:decide (c<=17)=true:=by rw[decide_eq_true_eq];omega
 clear h;go_enter Try.func92,Try.ntmps92;go_wp2;refine bodyPost_ret (v:=.agg #[.bool true,.bool true,.bool true,.bool true,.bool false]) ?_ rfl ?_
 ·rw[zM rfl];go_simp
 ·exact⟨rfl,Zr⟩
theorem shp_low (c:Int)(h:c<1)(w:World):T 92 #[I c] w (wL w ⟨false,false,false,false,false⟩):=by
 have t1:((c:Int)==1)=false:=Ze;have t2:((c:Int)==2)=false:=Ze;have t3:((c:Int)==3)=false:=Ze;have t4:((c:Int)==4)=false:=Ze;have t:((c:Int)==18)=false:=Ze;have q:((c:Int)==19)=false:=Ze;have o:((c:Int)==20)=false:=Ze;have m:((c:Int)==21)=false:=Ze;have l:((c:Int)==22)=false:=Ze;have k:((c:Int)==23)=false:=Ze;have j:((c:Int)==24)=false:=Ze;have i:((c:Int)==25)=false:=Ze;have g:((c:Int)==26)=false:=Ze;have d:((c:Int)==27)=false:=Ze;have d1:decide (5<=c)=false:=by rw[decide_eq_false_iff_not];omega
 have d2:decide (c<=17)=true:=by rw[decide_eq_true_eq];omega
 clear h;go_enter Try.func92,Try.ntmps92;go_wp2;refine bodyPost_ret (v:=.agg #[.bool false,.bool false,.bool false,.bool false,.bool false]) ?_ rfl ?_
 ·rw[zM rfl];go_simp
 ·exact⟨rfl,Zr⟩
theorem shp_high (c:Int)(h:27<c)(w:World):T 92 #[I c] w (wL w ⟨false,false,false,false,false⟩):=by
 have t1:((c:Int)==1)=false:=Ze;have t2:((c:Int)==2)=false:=Ze;have t3:((c:Int)==3)=false:=Ze;have t4:((c:Int)==4)=false:=Ze;have t:((c:Int)==18)=false:=Ze;have q:((c:Int)==19)=false:=Ze;have o:((c:Int)==20)=false:=Ze;have m:((c:Int)==21)=false:=Ze;have l:((c:Int)==22)=false:=Ze;have k:((c:Int)==23)=false:=Ze;have j:((c:Int)==24)=false:=Ze;have i:((c:Int)==25)=false:=Ze;have g:((c:Int)==26)=false:=Ze;have d:((c:Int)==27)=false:=Ze;have d1:decide (5<=c)=true:=by rw[decide_eq_true_eq];omega
 have d2:decide (c<=17)=false:=by rw[decide_eq_false_iff_not];omega
 clear h;go_enter Try.func92,Try.ntmps92;go_wp2;refine bodyPost_ret (v:=.agg #[.bool false,.bool false,.bool false,.bool false,.bool false]) ?_ rfl ?_
 ·rw[zM rfl];go_simp
 ·exact⟨rfl,Zr⟩
theorem aaK (c:Int)(w:World):T 92 #[I c] w (wL w (zi c)):=by
 rcases rJ c with⟨h,e⟩|⟨h,e⟩|⟨h,e⟩|⟨h,e⟩|⟨h,e⟩|⟨h,e⟩|⟨h,e⟩|⟨h,e⟩<;>rw[e]
 ·rcases h with rfl|rfl|rfl
  ·exact shp_1 w
  ·exact shp_2 w
  ·exact shp_24 w
 ·rcases h with rfl|rfl|rfl|rfl
  ·exact shp_3 w
  ·exact shp_4 w
  ·exact shp_18 w
  ·exact shp_19 w
 ·exact aao c h w
 ·rcases h with rfl|rfl
  ·exact shp_20 w
  ·exact shp_21 w
 ·rcases h with rfl|rfl
  ·exact shp_22 w
  ·exact shp_23 w
 ·subst h;exact shp_25 w
 ·rcases h with rfl|rfl
  ·exact shp_26 w
  ·exact shp_27 w
 ·rcases h with h|h
  ·exact shp_low c h w
  ·exact shp_high c h w
theorem nW (c:Int):((zi c).res=true/\uc c=true)∨((zi c).res=false/\c=26/\uc c=true)∨((zi c).res=false/\c≠26/\uc c=false):=by
 unfold uc
 by_cases h:(zi c).res=true
 ·exact .inl ⟨h,by rw[h];rfl⟩
 ·have d:(zi c).res=false:=by simpa using h
  by_cases e:c=26
  ·exact .inr (.inl ⟨d,e,by rw[decide_eq_true e,Bool.or_true]⟩)
  ·exact .inr (.inr ⟨d,e,by rw[d,decide_eq_false e];rfl⟩)
def uN (M:MS)(c:Int):Nat:=if uc c then M.next+1 else M.next
def sB (M:MS)(c:Int):Int:=if uc c then(M.next:Int) else -1
def EmMid (w:World)(K:MKC)(X:Nat->Prop)(M:MS)(fv vv:Value)(l:List BM)(o:IOp)(av:Value)(wx:World):Prop:=
 Q wx w.heap.size #[I o.code,I (sB M o.code),I o.a,I o.b,G (o.n:Int),av] 27/\MkIn wx K X {M with next:=uN M o.code } fv vv l/\Stp X w X wx
theorem rD {w:World}{K:MKC}{X:Nat->Prop}{M:MS}(h:wW w K X M){o:IOp}(ho:qN o){av:Value}(f1:wm w (K.av X) av o.args)(hcur:M.cur<M.f.length)(hz:M.sz+3<=1000000):
 T 83 #[L K.pm,.agg #[I o.code,I o.res,I o.a,I o.b,G (o.n:Int),av]] w (yk K X w (M.emit o) (I (sB M o.code))):=by
 obtain⟨fv,vv,l,h⟩:=h;obtain⟨aa,ac,f0,_,_⟩:=f1.form;have b7:=lt_of_block h.blk;have H:=Ja (Jb h (Jb ho (Jb f1 (Jb f0 (Jb hcur hz)))));clear h ho f1 hcur hz;subst f0;go_enter Try.func83,Try.ntmps83;go_upto_region 3 with(go_at_call 92;go_must (refine(aaK o.code _).mono ?_;rintro e w1 ⟨rfl,e8⟩;unfold acg;have bx:Q w1 w.heap.size (D o aa ac) 27:=zH e8 (zI rfl) Zs;have y0:=zA (i:=0) bx rfl;have y1:=zA (i:=1) bx rfl;have l5:Y w1 w.heap.size 1:=zE bx;have n0:=lt_of_block bx))
 have d1:O w w1:=(((Below.refl w.heap.size w).alloc (Je _) _).trans (e8.mono Zs))
 have a2:O w ((w1.setCell ⟨w.heap.size,1,none⟩ (I (-1))).alloc (A #[.bool (zi o.code).is,.bool (zi o.code).res,.bool (zi o.code).a,.bool (zi o.code).b,.bool (zi o.code).n] 155)):=(d1.setCell (Je _) _).alloc (by have:=d1.size;simp;omega) _;have d0:Q ((w1.setCell ⟨w.heap.size,1,none⟩ (I (-1))).alloc (A #[.bool (zi o.code).is,.bool (zi o.code).res,.bool (zi o.code).a,.bool (zi o.code).b,.bool (zi o.code).n] 155)) w.heap.size #[I o.code,I (-1),I o.a,I o.b,G (o.n:Int),.slice aa o.args.length ac] 27:=zB (zD bx _);have e7:Q ((w1.setCell ⟨w.heap.size,1,none⟩ (I (-1))).alloc (A #[.bool (zi o.code).is,.bool (zi o.code).res,.bool (zi o.code).a,.bool (zi o.code).b,.bool (zi o.code).n] 155)) w1.heap.size #[.bool (zi o.code).is,.bool (zi o.code).res,.bool (zi o.code).a,.bool (zi o.code).b,.bool (zi o.code).n] 155:=zI Zs;generalize k6:(w1.setCell ⟨w.heap.size,1,none⟩ (I (-1))).alloc (A #[.bool (zi o.code).is,.bool (zi o.code).res,.bool (zi o.code).a,.bool (zi o.code).b,.bool (zi o.code).n] 155)=W2 at *;generalize n3:w1.heap.size=c2 at *;have z0:=zA (i:=0) d0 rfl;have z1:=zA (i:=1) e7 rfl;have H2:=Ja (Jb a2 (Jb d0 e7));clear e8 bx y0 y1 l5 d1 a2 d0 e7 k6
 go_cut [17] (fun v wx=>v=.bool (uc o.code)/\wx=W2)
 case first=>
  rcases nW o.code with⟨e1,e2⟩|⟨e1,e3,e2⟩|⟨e1,e3,e2⟩
  all_goals rw[e1] at z1
  all_goals have E2:=Ja e2
  ·clear e1 e2;go_wp2;go_meet;exact⟨by rw[E2.out],rfl⟩
  ·have i2:(o.code==26)=true:=by rw[e3];rfl
   clear e1 e2 e3;go_wp2;go_meet;exact⟨by rw[E2.out],rfl⟩
  ·have i2:(o.code==26)=false:=by rw[beq_eq_false_iff_ne];exact e3
   clear e1 e2 e3;go_wp2;go_meet;exact⟨by rw[E2.out],rfl⟩
 case rest=>
  obtain⟨rfl,m3⟩:=hcut;subst wc;have a3:=H.out.1.keep H2.out.1;have g3:=ot a3 (by have:=H.out.2.2.2.2.2;omega)
  have c0:uc o.code=false->EmMid w K X M fv vv l o (.slice aa o.args.length ac) W2:=fun e=>by
   have e1:sB M o.code=-1:=by unfold sB;rw[e];rfl
   have e2:uN M o.code=M.next:=by unfold uN;rw[e];rfl
   exact⟨by rw[e1];exact H2.out.2.1,by rw[e2];exact a3,Stp.of_below H2.out.1⟩
  have b9:uc o.code=true->EmMid w K X M fv vv l o (.slice aa o.args.length ac) ((W2.setCell ⟨K.pm,6,none⟩ (I ((M.next+1:Nat):Int))).setCell ⟨w.heap.size,1,none⟩ (I (M.next:Int))):=fun e=>by
   have e1:sB M o.code=(M.next:Int):=by unfold sB;rw[e];rfl
   have e2:uN M o.code=M.next+1:=by unfold uN;rw[e];rfl
   have m5:=lt_of_block H.out.1.blk;have j2:=(a3.blk)
   have g0:=H.out.1.only (W:=((W2.setCell ⟨K.pm,6,none⟩ (I ((M.next+1:Nat):Int))).setCell ⟨w.heap.size,1,none⟩ (I (M.next:Int)))) (M':= {M with next:=M.next+1 }) (by simpa using H2.out.1.size) ⟨H2.out.1.os,H2.out.1.tape,H2.out.1.output⟩ (fun k hk hne=>(Below.heap_setCell _ ⟨w.heap.size,1,none⟩ _ k (by show k≠w.heap.size;omega)).trans ((Below.heap_setCell _ ⟨K.pm,6,none⟩ _ k hne).trans (H2.out.1.block k hk)))
    (zR (zD j2 _) (by show K.pm≠w.heap.size;omega)) rfl rfl (by have:=H.out.2.2.2.2.2;unfold MS.sz at *;simp only at *;omega) H.out.1.lft
   refine⟨?_,by rw[e2];exact g0.1,g0.2⟩;rw[e1];exact zD (zR H2.out.2.1 (by show w.heap.size≠K.pm;omega)) _
  have h9:∀(u:Value),Y (W2.setCell ⟨K.pm,6,none⟩ u) w.heap.size 1:=fun u=>(World.frozen?_setCell ..).trans (zE H2.out.2.1)
  have i0:∀(u:Value),U (W2.setCell ⟨K.pm,6,none⟩ u) w.heap.size 1 (I (-1)):=fun u=>zA (i:=1) (zR (a:=⟨K.pm,6,none⟩) (u:=u) H2.out.2.1 (by show w.heap.size≠K.pm;omega)) rfl
  have y:=Ja (Jb g3 (Jb c0 b9));clear g3 c0 b9 a3
  go_upto_if 17 with fail
  go_cut [] (fun wx=>Hid (EmMid w K X M fv vv l o (.slice aa o.args.length ac) wx))
  case first=>
   obtain⟨r,hr⟩:∃r,uc o.code=r:=⟨_,rfl⟩
   have HR:=Ja hr;rw[hr];clear hr;cases r
   ·go_wp2;go_meet;exact Ja (y.out.2.1 HR.out)
   ·go_wp2_with (go_at_call 69;go_must (refine y.out.1.mono ?_;rintro e w3 ⟨rfl,rfl⟩))
    go_meet;exact Ja (y.out.2.2 HR.out)
  case rest=>
   obtain⟨b0,h,hs⟩:=hcut.out;have hcur:=H.out.2.2.2.2.1;obtain⟨b,hb⟩:∃b,M.f[M.cur]? =some b:=⟨_,Jd hcur⟩
   obtain⟨q,hq,rfl,a6⟩:=h.getB (i:=M.cur) hb;obtain⟨g,c,rfl,n5,a9,n1⟩:=h.fblk hq;obtain⟨pa,pc,b6,_,_⟩:=a6.par.form;obtain⟨oa,oc,b2⟩:=zG a6.own;obtain⟨ea,ec,b5,_,_⟩:=a6.tos.form;have c4:=h.c4;have c5:U wc K.pm 5 (I (M.cur:Int)):=h.c5;have a5:=z9 yr h.own rfl hq;have e0:U wc g (M.cur*5) q.pv:=a5 0 _ rfl;have e1:=a5 1 _ rfl;have e2:=a5 2 _ rfl;have e3:=a5 3 _ rfl;have e4:=a5 4 _ rfl;have b7:=lt_of_block h.blk;have k0:l.length=M.f.length:=h.len;have n2:(M.cur:Int)<(l.length:Int):=Zo;have n4:(0:Int)<=(M.cur:Int):=Zo;have k4:=lt_of_block b0;rw[b6] at e0;rw[b2] at e1;rw[b5] at e4;have f2:∀w',O wc w'->U w' K.pm 4 (N g l.length c)/\U w' K.pm 5 (I (M.cur:Int))/\U w' g (M.cur*5) (.slice pa q.b.params.length pc)/\U w' g (M.cur*5+1) (.slice oa q.ol.length oc)/\U w' g (M.cur*5+2) (I q.b.term.kind)/\U w' g (M.cur*5+3) (I q.b.term.a)/\U w' g (M.cur*5+4) (.slice ea q.b.term.to.length ec):=fun w' hb=>⟨zV hb b7 c4,zV hb b7 c5,zV hb a9 e0,zV hb a9 e1,zV hb a9 e2,zV hb a9 e3,zV hb a9 e4⟩
   have f5:=Ja f2;have HC:=Ja (Jb h (Jb hq (Jb a6 (Jb hb (Jb b6 (Jb b2 (Jb b5 (Jb b0 hs))))))));obtain⟨R,hR⟩:∃R,sB M o.code=R:=⟨_,rfl⟩
   rw[hR] at b0;have HR:=Ja hR;clear f2 c4 c5 e0 e1 e2 e3 e4 h hs hq a6 hb a5 b6 b2 b5 k0 hcut y h9 i0 z0 z1 hR;go_upto_region 5 with fail
   go_region_held3 (fun w'=>U w' K.pm 4 (N g l.length c)/\U w' K.pm 5 (I (M.cur:Int))/\U w' g (M.cur*5) (.slice pa q.b.params.length pc)/\U w' g (M.cur*5+1) (.slice oa q.ol.length oc)/\U w' g (M.cur*5+2) (I q.b.term.kind)/\U w' g (M.cur*5+3) (I q.b.term.a)/\U w' g (M.cur*5+4) (.slice ea q.b.term.to.length ec))
    ((refine f5.out _ ?_;repeat' (first|exact Below.refl _ _|refine Below.drew ?_|refine Below.alloc ?_ (by simp<;>omega) _|refine Below.setCell ?_ (by simp<;>omega) _)))
    (fail)
   go_upto_region 6 with fail;have a2:O wc ((wc.alloc (A #[.slice pa q.b.params.length pc,.slice oa q.ol.length oc,I q.b.term.kind,I q.b.term.a,.slice ea q.b.term.to.length ec] 36)).drew):=((Below.refl _ _).alloc (Je _) _).drew;have c1:Q ((wc.alloc (A #[.slice pa q.b.params.length pc,.slice oa q.ol.length oc,I q.b.term.kind,I q.b.term.a,.slice ea q.b.term.to.length ec] 36)).drew) wc.heap.size #[.slice pa q.b.params.length pc,.slice oa q.ol.length oc,I q.b.term.kind,I q.b.term.a,.slice ea q.b.term.to.length ec] 36:=zI rfl;generalize k7:(wc.alloc (A #[.slice pa q.b.params.length pc,.slice oa q.ol.length oc,I q.b.term.kind,I q.b.term.a,.slice ea q.b.term.to.length ec] 36)).drew=V2 at *;have a3:=HC.out.1.keep a2;have d8:=HC.out.2.2.1.step (Stp.of_below a2) (fun k hk=>a2.block k (HC.out.2.2.1.own.lt k hk).2) (fun _ e=>e);have a0:=zH a2 b0 k4;have l1:=zA (i:=1) c1 rfl;have x0:=zA (i:=0) a0 rfl;have x1:=zA (i:=1) a0 rfl;have x2:=zA (i:=2) a0 rfl;have x3:=zA (i:=3) a0 rfl;have x4:=zA (i:=4) a0 rfl;have x5:=zA (i:=5) a0 rfl;have k1:=lt_of_block c1;have b1:=d8.own;rw[HC.out.2.2.2.2.2.1] at b1;have d6:yM (V2.alloc (A #[I o.code,I R,I o.a,I o.b,G (o.n:Int),.slice aa o.args.length ac] 27)) 6 (N V2.heap.size 1 1) 1 (zU ({o with res:=R },.slice aa o.args.length ac)):=yM.cells (zI rfl) rfl (by simp[zU,Value.oneCell'])
   have hn:q.ol.length<=1000000:=by
    have h1:=opsN_le HC.out.2.2.2.1;rw[HC.out.2.2.1.ops,Nr] at h1;have h2:=HC.out.1.bnd;unfold MS.sz at h2;simp only at h2;omega
   have HV:=Ja (Jb a2 (Jb c1 (Jb a3 (Jb d8 (Jb a0 (Jb b1 (Jb d6 hn)))))));have k9:K.B<=V2.heap.size:=a3.size;obtain⟨ii,k3,h6,h5,h4⟩:=info_parts Try.info_irop;clear a2 c1 a3 d8 a0 b1 d6 k7 b0 f5 hn;go_upto_region 7 with(at_builtin;go_must (refine zK _ rfl (.tmp 33) (.tmp 35) 28 rfl K.B 27 ii (.agg #[I 0,I 0,I 0,I 0,G 0,F]) 6 64 Try.underlying28 k3 h6 h5 h4 rfl Zd (.slice oa q.ol.length oc) q.ol.length (q.ol.flatMap zU) rfl (HV.out.2.2.2.2.2.1.alloc _) _ 1 (zU ({o with res:=R },.slice aa o.args.length ac)) rfl HV.out.2.2.2.2.2.2.1 (by have:=HV.out.2.2.2.2.2.2.2;unfold maxLen;omega) (by have:=HV.out.2.2.2.2.2.2.2;omega) Zt ?_;intro v9 w9 j d a4;obtain⟨oa9,oc9,rfl⟩:=zG j;have hz:=zL d (zB HV.out.2.1) (by have:=zC HV.out.2.2.2.2.2.1 HV.out.2.1 (.inr Zd);exact this);have c9:=zA (i:=1) hz rfl;have j1:Y w9 wc.heap.size 1:=zE hz))
   have f9:q.ov.ownBlock≠some g:=fun e=>by
    rcases zo HC.out.2.2.1.own HC.out.1.own Zd with h1|h1
    ·rw[h1] at e;cases e
    ·exact h1 (by rw[e];rfl)
   have d7:(Value.slice oa q.ol.length oc).ownBlock=q.ov.ownBlock:=by rw[HC.out.2.2.2.2.2.1]
   rw[d7] at d a4
   have c3:(w9.setCell ⟨wc.heap.size,1,none⟩ (.slice oa9 (q.ol.length+1) oc9)).ownsRow K.B 36 5 (N g l.length c) l.length (l.flatMap xG):=yD HC.out.1.own (fun k e=>by
    have e2:k=g:=by simp[Value.ownBlock] at e;exact e.symm
    subst e2
    exact(Below.heap_setCell w9 ⟨wc.heap.size,1,none⟩ _ k (by show k≠wc.heap.size;omega)).trans ((d.block k (by have:=HV.out.1.size;simp;omega) (fun e3=>f9 e3.symm)).trans ((Below.heap_alloc V2 _ k (by have:=HV.out.1.size;omega)).trans (HV.out.1.block k a9))))
   have e6:q.ov.ownBlock≠some K.pm:=fun e=>zC HC.out.2.2.1.own HC.out.1.blk (.inr Zd) e
   have b8:=zR (a:=⟨wc.heap.size,1,none⟩) (u:=.slice oa9 (q.ol.length+1) oc9) (zL d (zB HV.out.2.2.1.blk) e6) (by show K.pm≠wc.heap.size;omega);have a8:=zD hz (i:=1) (.slice oa9 (q.ol.length+1) oc9);have c4:U (w9.setCell ⟨wc.heap.size,1,none⟩ (.slice oa9 (q.ol.length+1) oc9)) K.pm 4 (N g l.length c):=zA (i:=4) b8 rfl;have c5:U (w9.setCell ⟨wc.heap.size,1,none⟩ (.slice oa9 (q.ol.length+1) oc9)) K.pm 5 (I (M.cur:Int)):=zA (i:=5) b8 rfl;have l0:=zA (i:=0) a8 rfl;have l1:=zA (i:=1) a8 rfl;have l2:=zA (i:=2) a8 rfl;have l3:=zA (i:=3) a8 rfl;have l4:=zA (i:=4) a8 rfl;have HG:=Ja (Jb j (Jb d (Jb a4 (Jb hz c3))));have d3:=zq Zd yr c3 rfl HC.out.2.1;generalize f3:w9.setCell ⟨wc.heap.size,1,none⟩ (.slice oa9 (q.ol.length+1) oc9)=W10 at c4 c5 l0 l1 l2 l3 l4 d3 ⊢;have f4:=Ja f3;have g4:=Ja d3;clear j d a4 hz c9 j1 b8 a8 f9 d7 c3 e6 d3 f3 x0 x1 x2 x3 x4 x5 k9;refine zt 11 Zk Zk ?_;simp only[Qo,Uc,Qp,Ui]
   repeat (go_big_quiet_step (fail))
   refine wpQuiet_nil ?_;refine wpList_store_mid rfl 36 (.tmp 48) (.tmp 47) rfl g (M.cur*5) #[.slice pa q.b.params.length pc,.slice oa9 (q.ol.length+1) oc9,I q.b.term.kind,I q.b.term.a,.slice ea q.b.term.to.length ec] rfl rfl g4.out Zk (by simp[Value.oneCell']) ?_;go_upto_region 8 with fail
   have h7:∃X',MkIn (W10.drew.setCells g (M.cur*5) [.slice pa q.b.params.length pc,.slice oa9 (q.ol.length+1) oc9,I q.b.term.kind,I q.b.term.a,.slice ea q.b.term.to.length ec]) K X' {M with next:=uN M o.code,f:=M.f.set M.cur {q.b with ops:=q.b.ops++ [{o with res:=R }]}} (N g l.length c) vv (l.set M.cur ⟨{q.b with ops:=q.b.ops++ [{o with res:=R }]},q.pv,.slice oa9 (q.ol.length+1) oc9,q.tv,q.ol++ [({o with res:=R },.slice aa o.args.length ac)]⟩)
    /\Stp X wc X' (W10.drew.setCells g (M.cur*5) [.slice pa q.b.params.length pc,.slice oa9 (q.ol.length+1) oc9,I q.b.term.kind,I q.b.term.a,.slice ea q.b.term.to.length ec]):=by
    obtain⟨h,hq,a6,hb,b6,b2,b5,b0,hs⟩:=HC.out;obtain⟨j,d,a4,hz,c3⟩:=HG.out;refine h.putO (M':= {M with next:=uN M o.code,f:=M.f.set M.cur {q.b with ops:=q.b.ops++ [{o with res:=R }]}}) hq rfl (HV.out.1.alloc HV.out.1.size _) d j (fun k e=>?_) (Je _) hz ⟨.slice oa9 (q.ol.length+1) oc9,?_⟩ ⟨?_,H.out.2.2.1.step zn (hs.av K)⟩ rfl ⟨rfl,rfl,rfl,rfl,rfl⟩ ?_
    ·rcases a4 with e2|e2
     ·exact .inl (by rw[<-e2];exact e)
     ·right;have e3:=e2.symm.trans e;have:=HV.out.1.size;simp at e3;omega
    ·rw[<-f4.out];unfold xG;rw[b6,b5]
    ·obtain⟨o1,o2,o3,o4,o5⟩:=H.out.2.1;refine⟨o1,?_,o3,o4,o5⟩;rw[<-HR.out];unfold sB;have:M.next<=M.sz:=by unfold MS.sz;omega
     have:=H.out.2.2.2.2.2
     show I64 (if uc o.code then(M.next:Int) else -1)
     split<;>exact⟨by omega,by omega⟩
    ·have h1:=sN M.f M.cur q.b {q.b with ops:=q.b.ops++ [{o with res:=R }]} hb;simp at h1;have h2:=H.out.2.2.2.2.2;unfold MS.sz at h2 ⊢;unfold uN;simp only[Nd]
     split<;>omega
   obtain⟨X',hm,d5⟩:=h7;have d4:=HC.out.2.2.2.2.2.2.2.2.trans d5;have b3:=d5.blk HC.out.2.2.2.2.2.2.2.1 (fun e=>by have:=H.out.1.xl _ e;omega);generalize k5:W10.drew.setCells g (M.cur*5) [.slice pa q.b.params.length pc,.slice oa9 (q.ol.length+1) oc9,I q.b.term.kind,I q.b.term.a,.slice ea q.b.term.to.length ec]=WF at *;generalize l.set M.cur ⟨{q.b with ops:=q.b.ops++ [{o with res:=R }]},q.pv,.slice oa9 (q.ol.length+1) oc9,q.tv,q.ol++ [({o with res:=R },.slice aa o.args.length ac)]⟩=lst at *;rw[HR.out] at b3;have x1:=zA (i:=1) b3 rfl;have y:=Ja (Jb hm (Jb d4 b3))
   have g1: {M with next:=uN M o.code,f:=M.f.set M.cur {q.b with ops:=q.b.ops++ [{o with res:=R }]}}= {M.emit o with vals:=M.vals }:=by
    unfold MS.emit;rw[xI HC.out.2.2.2.1,<-HR.out];rfl
   have g5:=Ja g1;clear hm d5 d4 b3 k5 g1 c4 c5 l0 l1 l2 l3 l4 HG g4 f4 HV k1;obtain⟨r,hr⟩:∃r,uc o.code=r:=⟨_,rfl⟩
   have c8:=Ja hr;clear hr;cases r
   ·obtain rfl:R=-1:=by rw[<-HR.out];unfold sB;rw[c8.out];rfl
    go_wp2;go_ret;have a1:=y.out.1;rw[g5.out] at a1;have e: {M.emit o with vals:=M.vals }=M.emit o:=by unfold MS.emit;rw[c8.out];rfl
    rw[e] at a1;exact⟨zh HR.out.symm,X',⟨_,_,_,a1⟩,y.out.2.1⟩
   ·obtain rfl:R=(M.next:Int):=by rw[<-HR.out];unfold sB;rw[c8.out];rfl
    obtain⟨va,vc,d2⟩:=zG y.out.1.vown;have j:=y.out.1.vown;have c7:=y.out.1.c7;have f7:=y.out.1.free 7;have f8:=lt_of_block y.out.1.blk;have nb:=zC j y.out.1.blk (.inr Zd);rw[d2] at j c7 nb;have h8:=Ja j;have l9:=Ja d2
    have m4:M.vals.length<=1000000:=by
     have h2:=H.out.2.2.2.2.2;unfold MS.sz at h2;omega
    have l8:∀o,U (WF.alloc o) K.pm 7 (.slice va M.vals.length vc):=fun o=>(Oo (w:=WF) (Below.heap_alloc _ _ _ f8)).trans c7
    have l7:∀o,Y (WF.alloc o) K.pm 7:=fun o=>(Qm (w:=WF) (Below.heap_alloc _ _ _ f8)).trans f7
    have i1:∀o,U (WF.alloc o) w.heap.size 1 (I (M.next:Int)):=fun o=>(Oo (w:=WF) (Below.heap_alloc _ _ _ (lt_of_block y.out.2.2))).trans x1
    have i8:=zC j y.out.2.2 (.inr Zd);have n6:K.B<=WF.heap.size:=y.out.1.size;have m2:=lt_of_block y.out.2.2;obtain⟨ij,k2,h0,g8,g6⟩:=info_parts Try.info_int;clear j d2;go_upto_region 9 with fail
    go_region_law (first|(refine step_append_lies _ (by rfl) (.tmp 56) (.tmp 59) _ (by rfl) K.B 3 ij (I 0) 1 8 Try.underlying25 k2 h0 g8 g6 rfl Zo (.slice va M.vals.length vc) M.vals.length (M.vals.map zN) (by rfl) ((h8.out.alloc _).drew) ⟨WF.heap.size,0,none⟩ 1 1 [I (M.next:Int)] (by rfl) (by rfl) (Oi (cs:=#[I (M.next:Int)]) (t:=3) (fr:=(0,0)) (heap_alloc_new WF _)) (by simp[Value.oneCell']) Zo (by unfold maxLen;omega) Zo Zt (WF.heap.size+1) Zs ?_;intro gg b4 w3 f6 d a4 m1;have n8:=(d.cell_far ⟨K.pm,7,none⟩ Zt (Ne.symm nb)).trans (l8 _);have n7:=(d.frozen_far ⟨K.pm,7,none⟩ Zt (Ne.symm nb)).trans (l7 _);have bp3:=(d.cell_far ⟨w.heap.size,1,none⟩ Zt (Ne.symm i8)).trans (i1 _)))
    all_goals go_wp2_with fail
    all_goals go_ret
    all_goals (
     have c9:(show MS from {M with next:=uN M o.code,f:=M.f.set M.cur {q.b with ops:=q.b.ops++ [{o with res:=(M.next:Int)}]}}).sz+1<=1000000:=by
      have h1:=sN M.f M.cur q.b {q.b with ops:=q.b.ops++ [{o with res:=(M.next:Int)}]} HC.out.2.2.2.1;simp at h1;have h2:=H.out.2.2.2.2.2;unfold MS.sz at h2 ⊢;unfold uN;simp only[Nd]
      split<;>omega
     have g2:=xN d;rw[<-l9.out] at g2 a4
     have hP:=y.out.1.putV (vv':=N gg (M.vals.length+1) b4) (x:=(M.next:Int)) g2 f6 (fun k e=>by
      have e2:gg=k:=by simpa[Value.ownBlock] using e
      subst e2;rcases a4 with e3|e3
      ·exact .inl e3
      ·right;omega) (by have:=H.out.2.2.2.2.2;have:M.next<=M.sz:=by(unfold MS.sz;omega)
                        exact⟨by omega,by omega⟩) c9
     have a1:=hP.1
     have e:(show MS from {(show MS from {M with next:=uN M o.code,f:=M.f.set M.cur {q.b with ops:=q.b.ops++ [{o with res:=(M.next:Int)}]}}) with vals:=M.vals++ [(M.next:Int)]})=M.emit o:=by
      have:=g5.out;have h3:(M.emit o).vals=M.vals++ [(M.next:Int)]:=by unfold MS.emit;rw[c8.out];rfl
      rw[<-h3];exact congrArg (fun m:MS=> {m with vals:=(M.emit o).vals }) this
     have e5:=congrArg (fun m=>MkIn (w3.setCell ⟨K.pm,7,none⟩ (N gg (M.vals.length+1) b4)) K (fun k=>X' k∨(Value.slice (some ⟨gg,0,none⟩) (M.vals.length+1) b4).ownBlock=some k) m (N g l.length c) (N gg (M.vals.length+1) b4) lst) e
     exact⟨zh HR.out.symm,_,⟨_,_,_,cast e5 a1⟩,y.out.2.1.trans hP.2⟩)
theorem Try.info_irblock:(Try.prog.info? 36).map (fun i=>(i.zero,i.size,i.bytes))=some (some (.agg #[.slice none 0 0,.slice none 0 0,I 0,I 0,.slice none 0 0]),5,88):=by kernel_rfl
def iZ (next i:Nat):List Int:=(List.range i).map fun k=>((next+k:Nat):Int)
theorem jE (next i:Nat):iZ next (i+1)=iZ next i++ [((next+i:Nat):Int)]:=by unfold iZ;rw[List.range_succ,Js];rfl
theorem parL_len (next i:Nat):(iZ next i).length=i:=by unfold iZ;simp
structure BlkMid (w:World) (K:MKC) (M:MS) (fv vv:Value) (pv:Value) (i:Nat) (wx:World):Prop where
 box:wx.heap[w.heap.size]? =some (.cells #[pv,.slice none 0 0,.int .i64 0,.int .i64 0,.slice none 0 0] 36 (0,0))
 own:wx.ownsRow (w.heap.size+1) 3 1 pv i ((iZ M.next i).map zN)
 size:w.heap.size+1<=wx.heap.size
 rest:wx.os=w.os/\wx.tape=w.tape/\wx.output=w.output
 kept:∀k,k<w.heap.size->k≠K.pm->wx.heap[k]? =w.heap[k]?
 pm:wx.heap[K.pm]? =some (.cells (uC K {M with next:=M.next+i } fv vv) 99 (0,0))
theorem BlkMid.mk' {w wx:World}{K:MKC}{X:Nat->Prop}{M:MS}{fv vv pv:Value}{l:List BM}{i:Nat}(h:MkIn w K X M fv vv l)(hm:BlkMid w K M fv vv pv i wx)(c:M.sz+i<=1000000):MkIn wx K X {M with next:=M.next+i } fv vv l/\Stp X w X wx:=
 h.only (by have:=hm.size;omega) hm.rest hm.kept hm.pm rfl rfl (by unfold MS.sz at *;simp only at *;omega) h.lft
theorem BlkMid.start {w:World}{K:MKC}{X:Nat->Prop}{M:MS}{fv vv:Value}{l:List BM}(h:MkIn w K X M fv vv l):BlkMid w K M fv vv (F) 0 (w.alloc (A #[F,F,I 0,I 0,F] 36)):=
 ⟨zI rfl,Jv _ _ _ _,by simp,⟨rfl,rfl,rfl⟩,fun k hk _=>Below.heap_alloc w _ k hk,zB h.blk⟩
theorem BlkMid.next {w wr w3:World}{K:MKC}{X:Nat->Prop}{M:MS}{fv vv pv c:Value}{l:List BM}{i:Nat}(h:MkIn w K X M fv vv l)(hm:BlkMid w K M fv vv pv i wr){o:Obj}(hg:((wr.setCell ⟨K.pm,6,none⟩ (I ((M.next+i+1:Nat):Int))).alloc o).grownBy w3 pv.ownBlock)
 (d:w3.ownsRow (w.heap.size+1) 3 1 c (i+1) ((iZ M.next i).map zN++ [zN ((M.next+i:Nat):Int)])):BlkMid w K M fv vv c (i+1) (w3.setCell ⟨w.heap.size,0,none⟩ c):=by
 have g:=lt_of_block h.blk;have j:=lt_of_block hm.pm;have q:=lt_of_block hm.box;have n1:=zC hm.own hm.box (.inr Zd);have n2:=zC hm.own hm.pm (.inr Zd);have b1:=zL hg (zB (o:=o) (zR (a:=⟨K.pm,6,none⟩) (u:=I ((M.next+i+1:Nat):Int)) hm.box (by show w.heap.size≠K.pm;omega))) n1;have p1:=zL hg (zB (o:=o) (zD hm.pm (i:=6) (I ((M.next+i+1:Nat):Int)))) n2;have hs:=hg.size;have m:=hm.size;simp at hs;refine⟨zD b1 _,?_,by simp;omega,⟨hg.os.trans hm.rest.1,hg.tape.trans hm.rest.2.1,hg.output.trans hm.rest.2.2⟩,fun k hk hne=>?_,?_⟩
 ·rw[jE,Js];exact ownsRow_setCell_other d (fun e=>zC d b1 (.inr Zd) (by simpa using e)) _
 ·refine(Below.heap_setCell w3 ⟨w.heap.size,0,none⟩ _ k (by show k≠w.heap.size;omega)).trans ((hg.block k Zt (fun e=>?_)).trans ((Below.heap_alloc _ _ k Zt).trans ((Below.heap_setCell wr ⟨K.pm,6,none⟩ _ k hne).trans (hm.kept k hk hne))));have:=(hm.own.lt k e.symm).1;omega
 ·exact zR p1 (by show K.pm≠w.heap.size;omega)
theorem rU {w:World}{K:MKC}{X:Nat->Prop}{M:MS}(h:wW w K X M){n:Nat}(hz:M.sz+1+n<=1000000):
 T 56 #[L K.pm,I n] w (yk K X w (M.block n) (I (M.f.length:Int))):=by
 obtain⟨fv,vv,l,h⟩:=h;have H:=Ja (Jb h hz);have a0:=BlkMid.start h;have d8:=Ja a0;have e1:=lt_of_block h.blk;clear h hz a0;go_enter Try.func56,Try.ntmps56;go_wp2
 go_loopw [6] (fun iv wx=>∃(i:Nat) (pv:Value),i<=n/\iv=I i/\Hid (BlkMid w K M fv vv pv i wx)) (fun iv _=>n-(intOf iv).toNat)
 case atStart=>exact⟨0,_,Jt _,rfl,d8⟩
 case round=>
  obtain⟨i,pv,hi,rfl,c⟩:=hrel
  by_cases c9:i<n
  ·have c7:(i:Int)<n:=Zo;have a6:i+1<=n:=c9;obtain⟨pa,pc,j⟩:=zG c.out.own;have hk:=(BlkMid.mk' H.out.1 c.out (by have:=H.out.2;omega)).1;have a9:T 69 #[L K.pm] wr.drew fun e w'=>e=.returned (I ((M.next+i:Nat):Int))/\w'=(wr.setCell ⟨K.pm,6,none⟩ (I ((M.next+i+1:Nat):Int))).drew:=ot (hk.keep (Below.refl _ _).drew) (by have:=H.out.2;unfold MS.sz at *;simp only at *;omega)
   have d:=c.out.own;rw[j] at d;have c0:=zA (i:=0) c.out.box rfl;rw[j] at c0;have n1:=zC d c.out.box (.inr Zd);have e5:i<=1000000:=by have:=H.out.2;omega
   have d3:=lt_of_block c.out.box;have e0:=c.out.size;obtain⟨ij,d1,c5,c3,c2⟩:=info_parts Try.info_int;have a1:=lt_of_block c.out.pm;have HO:=Ja (Jb d (Jb a9 (Jb j (lt_of_block c.out.box))));have b7:∀(u:Value) (o:Obj),U ((wr.setCell ⟨K.pm,6,none⟩ u).alloc o) w.heap.size 0 (.slice pa i pc):=fun u o=>zA (i:=0) (zB (o:=o) (zR (a:=⟨K.pm,6,none⟩) (u:=u) c.out.box (by show w.heap.size≠K.pm;omega))) (by rw[j];rfl)
   have b6:∀(u:Value) (o:Obj),Y ((wr.setCell ⟨K.pm,6,none⟩ u).alloc o) w.heap.size 0:=fun u o=>zE (zB (o:=o) (zR (a:=⟨K.pm,6,none⟩) (u:=u) c.out.box (by show w.heap.size≠K.pm;omega)))
   have a3:∀(u:Value) (o:Obj),((wr.setCell ⟨K.pm,6,none⟩ u).alloc o).ownsRow (w.heap.size+1) 3 1 (.slice pa i pc) i ((iZ M.next i).map zN):=fun u o=>(ownsRow_setCell_other d (fun e=>zC d c.out.pm (.inr Zd) (by simpa using e)) u).alloc o
   have a5:=Ja (Jb a3 (Jb b7 b6));clear j d a9 hk b7 b6 a3;go_upto_region 5 with fail
   go_region_law (first|(refine step_append_lies _ (by rfl) (.tmp 13) (.tmp 16) _ (by rfl) (w.heap.size+1) 3 ij (I 0) 1 8 Try.underlying25 d1 c5 c3 c2 rfl Zo (.slice pa i pc) i ((iZ M.next i).map zN) (by rfl) ((a5.out.1 _ _).drew) ⟨wr.heap.size,0,none⟩ 1 1 [I ((M.next+i:Nat):Int)] (by rfl) (by rfl) (Oi (cs:=#[I ((M.next+i:Nat):Int)]) (t:=3) (fr:=(0,0)) (zI Zs)) (by simp[Value.oneCell']) Zo (by unfold maxLen;omega) Zo Zt (wr.heap.size+1) Zs ?_;intro gg a2 w3 q g b5 c8;have d6:=(g.cell_far ⟨w.heap.size,0,none⟩ Zt (Ne.symm n1)).trans (a5.out.2.1 _ _);have d4:=(g.frozen_far ⟨w.heap.size,0,none⟩ Zt (Ne.symm n1)).trans (a5.out.2.2 _ _))|(go_simp;go_at_call 69;refine HO.out.2.1.mono ?_;rintro e w4 ⟨rfl,rfl⟩))
   all_goals go_wp2_with fail
   all_goals (
    refine⟨⟨i+1,N gg (i+1) a2,a6,by go_num,Ja (BlkMid.next H.out.1 c.out (by rw[HO.out.2.2.1];exact xN g) q)⟩,by simp[intOf];omega⟩)
  ·obtain rfl:i=n:=by omega
   have c7:¬(i:Int)<i:=Zo;obtain⟨hk,a0⟩:=BlkMid.mk' H.out.1 c.out (by have:=H.out.2;omega);obtain⟨pa,pc,j⟩:=zG c.out.own;subst j;obtain⟨fa,fc,d2⟩:=zG hk.own;subst d2
   have a4:wm wr (K.av X) (.slice pa i pc) (wJ M.next i).params:=by
    refine rO c.out.own (parL_len _ _) (fun x hx=>?_) (fun k e y=>?_)
    ·unfold iZ at hx;obtain⟨m,hm,rfl⟩:=Nu.1 hx;have h1:=H.out.2;have h2:=Ol.1 hm;unfold MS.sz at h1;exact⟨by omega,by omega⟩
    ·have h2:=(c.out.own.lt k e).1;rcases y with y|y
     ·have:=H.out.1.xl k y;omega
     ·have:=H.out.1.env.zl k y;omega
   have d:=hk.own;have nb:=zC d c.out.pm (.inr Zd);have c4:=hk.c4;have a1:=lt_of_block c.out.pm;have d3:=lt_of_block c.out.box;have b0:=zA (i:=0) c.out.box rfl;have b1:=zA (i:=1) c.out.box rfl;have b2:=zA (i:=2) c.out.box rfl;have b3:=zA (i:=3) c.out.box rfl;have b4:=zA (i:=4) c.out.box rfl;have d7:∀o,U (wr.alloc o) K.pm 4 (.slice fa l.length fc):=fun o=>(Oo (w:=wr) (Below.heap_alloc _ _ _ a1)).trans c4
   have d5:∀o,Y (wr.alloc o) K.pm 4:=fun o=>(Qm (w:=wr) (Below.heap_alloc _ _ _ a1)).trans (hk.free 4)
   have a8:l.length=M.f.length:=H.out.1.len;have e4:l.length<=1000000:=by have:=H.out.1.flen;omega
   have e6:K.B<=wr.heap.size:=hk.size;obtain⟨ik,d0,c1,b9,b8⟩:=info_parts Try.info_irblock;have HO:=Ja (Jb hk (Jb a0 (Jb a4 (Jb d a8))));clear hk a0 a4 d a8;go_upto_region 6 with fail
   go_region_law (first|(refine step_append_lies _ (by rfl) (.tmp 24) (.tmp 26) _ (by rfl) K.B 36 ik (.agg #[F,F,I 0,I 0,F]) 5 88 Try.underlying37 d0 c1 b9 b8 rfl Zo (.slice fa l.length fc) l.length (l.flatMap xG) (by rfl) ((HO.out.2.2.2.1.alloc _).drew) ⟨wr.heap.size,0,none⟩ 1 1 [.slice pa i pc,F,I 0,I 0,F] (by rfl) (by rfl) (Oi (cs:=#[.slice pa i pc,F,I 0,I 0,F]) (t:=36) (fr:=(0,0)) (heap_alloc_new wr _)) (by simp[Value.oneCell']) Zo (by unfold maxLen;omega) Zo Zt (wr.heap.size+1) Zs ?_;intro gg a2 w3 q g b5 c8;have d6:=(g.cell_far ⟨K.pm,4,none⟩ Zt (Ne.symm nb)).trans (d7 _);have d4:=(g.frozen_far ⟨K.pm,4,none⟩ Zt (Ne.symm nb)).trans (d5 _)))
   all_goals go_wp2_with fail
   all_goals go_ret
   all_goals (
    have hP:=HO.out.1.putB (fv':=N gg (l.length+1) a2) (b:=wJ M.next i) (pv:=.slice pa i pc) (xN g) ⟨rfl,rfl⟩ q (fun k e=>by
     have e2:gg=k:=by simpa[Value.ownBlock] using e
     subst e2;rcases b5 with e3|e3
     ·exact .inl e3
     ·right;omega) HO.out.2.2.1 (by have:=H.out.2;unfold MS.sz at *;simp only at *;omega)
    refine⟨zh (by have:=HO.out.2.2.2.2;omega),_,⟨_,_,_,hP.1⟩,HO.out.2.1.trans hP.2⟩)
theorem emRes_of {M:MS}{c:Int}(h:uc c=true):sB M c=(M.next:Int):=by unfold sB;rw[h];rfl
theorem vG (x:Int)(d:-1000000<=x)(c:x<=1000000):I64 x:=⟨by omega,by omega⟩
theorem yF (x:Int)(h:(decide (-1000000<=x) && decide (x<=1000000))=true):I64 x:=by
 simp only[Jm,decide_eq_true_eq] at h;exact vG x h.1 h.2
theorem conOp_ok {n:Nat}(c:n<65536):qN (conOp n):=⟨yF _ rfl,yF _ rfl,yF _ rfl,yF _ rfl,c⟩
theorem ks {w:World}{K:MKC}{X:Nat->Prop}{M:MS}(h:wW w K X M){n:Nat}(j:n<65536)(d:M.cur<M.f.length)(g:M.sz+3<=1000000):
 T 73 #[L K.pm,G n] w (yk K X w (M.num n) (I (M.next:Int))):=by
 have c:=rD h (conOp_ok j) yE.nil d g;rw[emRes_of (show uc (conOp n).code=true from rfl)] at c;have i:=Ja (show T 83 #[L K.pm,.agg #[I 1,I 0,I 0,I 0,G n,F]] w (yk K X w (M.num n) (I (M.next:Int))) from c);clear h c d g;go_enter Try.func73,Try.ntmps73;go_wp2_with (go_at_call 83;go_must (refine i.out.mono ?_;rintro e w1 ⟨rfl,hm⟩))
 go_ret;exact⟨rfl,hm⟩
theorem MkIn.valAt {w:World}{K:MKC}{X:Nat->Prop}{M:MS}{fv:Value}{l:List BM}{g n c:Nat}(h:MkIn w K X M fv (N g n c) l){i:Nat}(hi:i<M.vals.length):U w g i (I (M.vals.getD i 0)):=by
 have:=h.vown.cells rfl i (I (M.vals.getD i 0)) (by rw[Jr,Jd hi,Jj,Jd hi];rfl);rw[Addr.add_mid,Ng] at this;exact this
theorem pu {w:World}{K:MKC}{X:Nat->Prop}{M:MS}(h:wW w K X M)(a6:M.cur<M.f.length)(hz:M.sz+4<=1000000):
 T 58 #[L K.pm] w (yk K X w (zJ K.E M).2 (I (zJ K.E M).1)):=by
 obtain⟨fv,vv,l,h⟩:=h;have c7:=h.c7;have u:=h.vown;obtain⟨va,vc,rfl⟩:=zG u;have b7:M.vals.length<=1000000:=by unfold MS.sz at hz;omega
 have H:=Ja (Jb h (Jb a6 hz));clear h a6 hz
 by_cases h0:M.vals.length=0
 ·have d:zJ K.E M=((M.next:Int),M.tick.num (tkV K.E M 9)):=by unfold zJ;rw[if_pos h0]
  have c1:=Ja d;have t0:((M.vals.length:Int)==0)=true:=by rw[beq_iff_eq];omega
  have b5:(M.vals.length==0)=true:=by rw[beq_iff_eq];omega
  have b0:=uD H.out.1 (n:=9) Zd Zd (by have:=H.out.2.2;omega);have a4:=aaE K.E M (n:=9) Zd;have HT:=Ja b0;clear d u h0 b0;go_enter Try.func58,Try.ntmps58;go_wp2_with (first|(go_at_call 55;go_must (refine HT.out.mono ?_;rintro e w1 ⟨rfl,y,q⟩))|(go_at_call 73;go_must (refine(ks y.at (n:=tkV K.E M 9) Zo H.out.2.1 (by have:=(zT M).sz;have:=H.out.2.2;omega)).mono ?_;rintro e w2 ⟨rfl,X2,c,j⟩)))
  go_ret;rw[c1.out];exact⟨rfl,X2,c,q.trans j⟩
 ·have hp:0<M.vals.length:=Zo;obtain⟨g,c8,e,c5,c4⟩:=u.form hp;cases e;have t0:((M.vals.length:Int)==0)=false:=Ze;have b5:(M.vals.length==0)=false:=by rw[beq_eq_false_iff_ne];omega
  have c0:=Ja (uD H.out.1 (n:=M.vals.length) hp b7 (by have:=H.out.2.2;omega));have a4:=aaE K.E M hp;clear h0 u;go_enter Try.func58,Try.ntmps58;go_upto_region 4 with(go_at_call 55;go_must (refine c0.out.mono ?_;rintro e w1 ⟨rfl,y,q⟩))
  have a9:=Ja (uD y (n:=3) Zd Zd (by have:=(zT M).sz;have:=H.out.2.2;omega));obtain⟨z3,k⟩:∃z,tkV K.E M.tick 3=z:=⟨_,rfl⟩
  rw[k] at a9;obtain⟨z0,o⟩:∃z,tkV K.E M M.vals.length=z:=⟨_,rfl⟩
  rw[o] at a4
  try rw[o]
  by_cases h3:0<z3
  ·have b8:(0:Int)<(z3:Int):=Zo;have d:zJ K.E M=(M.vals.getD (M.vals.length-1-tkV K.E M.tick.tick (min 4 M.vals.length)) 0,M.tick.tick.tick):=by unfold zJ;rw[if_neg Zo,if_pos (by rw[k];exact h3)]
   have hZ:=Ja (Jb d (Jb k o));clear d k o;go_upto_region 5 with(go_at_call 55;go_must (refine a9.out.mono ?_;rintro e w2 ⟨rfl,c,j⟩))
   have x:0<min 4 M.vals.length:=Zo;have b4:∀(ts:Array TypeId) (t:TypeId) (W:World),(Builtin.min_ ts t #[I 4,I (M.vals.length:Int)]).run Try.prog W=.ok (I ((min 4 M.vals.length:Nat):Int)) W:=fun ts t W=>by rw[show((min 4 M.vals.length:Nat):Int)=if(M.vals.length:Int)<(4:Int) then(M.vals.length:Int) else 4 by split<;>omega];exact run_min_int2 ..
   have a8:=Ja (uD (c.keep (Below.refl _ _).drew) (n:=min 4 M.vals.length) x Zo (by have:=(zT M).sz;have:=(zT M.tick).sz;have:=H.out.2.2;omega));have a3:=aaE K.E M.tick.tick x;obtain⟨z4,a0⟩:∃z,tkV K.E M.tick.tick (min 4 M.vals.length)=z:=⟨_,rfl⟩
   rw[a0] at a8 a3;obtain⟨mn,a1⟩:∃m,min 4 M.vals.length=m:=⟨_,rfl⟩
   rw[a1] at a8 b4 a3;have c3:mn<=M.vals.length:=Zo;have b9:=Ja (Jb a0 a1);have d7:=c.c7;have c2:=Ja (Jb c (q.trans j));clear a0 a1 y q c j c7 x
   go_region_held3 (fun w'=>U w' K.pm 7 (N g M.vals.length vc)) (first|exact d7|assumption|(exact MkIn.c7 Zz))
    ((go_at_call 55;refine a8.out.mono ?_;rintro e w3 ⟨rfl,a2,b2⟩))
   have hv:=a2.valAt (i:=M.vals.length-1-z4) (show M.vals.length-1-z4<M.vals.length by omega);obtain⟨ix,a5⟩:∃ix:Nat,M.vals.length-1-z4=ix:=⟨_,rfl⟩
   have b3:IntKind.i64.wrap (IntKind.i64.wrap ((M.vals.length:Int)-1)-(z4:Int))=(ix:Int):=by
    rw[Om ((M.vals.length:Int)-1) Zo,Om _ Zo];omega
   rw[b3];rw[a5] at hv;have b6:(ix:Int)<(M.vals.length:Int):=Zo;have b1:=c2.out.2.trans ((Stp.of_below (Below.refl _ _).drew).trans b2);have HR:=Ja (Jb a2 (Jb b1 a5));clear a2 b1 b2 a5 b3 d7;go_wp2;go_ret;rw[hZ.out.1];exact⟨zh (by rw[b9.out.1,HR.out.2.2,Jj];rfl),X,HR.out.1.at,HR.out.2.1⟩
  ·have b8:¬(0:Int)<(z3:Int):=Zo;have d:zJ K.E M=(M.vals.getD z0 0,M.tick.tick):=by unfold zJ;rw[if_neg Zo,if_neg (by rw[k];exact h3),o]
   have hZ:=Ja d;clear d k o;go_upto_region 6 with(go_at_call 55;go_must (refine a9.out.mono ?_;rintro e w2 ⟨rfl,c,j⟩))
   have hv:=c.valAt (i:=z0) a4;have d7:=c.c7;have b6:(z0:Int)<(M.vals.length:Int):=Zo;have HR:=Ja (Jb c (q.trans j));clear c q j y;go_wp2;go_ret;rw[hZ.out];exact⟨rfl,X,HR.out.1.at,HR.out.2⟩
theorem addr_any {w:World}{K:MKC}{X:Nat->Prop}{M:MS}(h:wW w K X M)(a3:M.cur<M.f.length)(hz:M.sz+6<=1000000):
 T 84 #[L K.pm] w (yk K X w (yJ K.E M).2 (I (yJ K.E M).1)):=by
 obtain⟨fv,vv,l,h⟩:=h;have a6:=Ja (uD h (n:=24) Zd Zd Zo);have H:=Ja (Jb a3 hz);obtain⟨z1,x⟩:∃z,tkV K.E M 24=z:=⟨_,rfl⟩
 rw[x] at a6;have b1:=Ja x;clear h a3 hz x
 by_cases h0:z1=23
 ·have d:yJ K.E M=zJ K.E M.tick:=by unfold yJ;rw[if_pos (by rw[b1.out];exact h0)]
  have t:=Ja d;have t0:((z1:Int)==23)=true:=by rw[beq_iff_eq];omega
  have b5:(z1==23)=true:=by rw[beq_iff_eq];omega
  clear d h0;go_enter Try.func84,Try.ntmps84;go_wp2_with (first|(go_at_call 55;go_must (refine a6.out.mono ?_;rintro e w1 ⟨rfl,q,m⟩))|(go_at_call 58;go_must (refine(pu q.at H.out.1 (by have:=(zT M).sz;have:=H.out.2;omega)).mono ?_;rintro e w2 ⟨rfl,X2,c,j⟩)))
  go_ret;rw[t.out];exact⟨rfl,X2,c,m.trans j⟩
 ·have d:yJ K.E M=((M.next:Int),M.tick.tick.tick.emit ⟨2,0,(tkV K.E M.tick 2:Nat),0,tkV K.E M.tick.tick (sE (tkV K.E M.tick 2)),[]⟩):=by unfold yJ;rw[if_neg (by rw[b1.out];exact h0)]
  have t:=Ja d;have t0:((z1:Int)==23)=false:=Ze;have b5:(z1==23)=false:=by rw[beq_eq_false_iff_ne];omega
  clear d h0;go_enter Try.func84,Try.ntmps84;go_upto_region 3 with(go_at_call 55;go_must (refine a6.out.mono ?_;rintro e w1 ⟨rfl,q,m⟩))
  have b2:=Ja (uD q (n:=2) Zd Zd (by have:=(zT M).sz;have:=H.out.2;omega));have b6:=aaE K.E M.tick (n:=2) Zd;obtain⟨k,hk⟩:∃z,tkV K.E M.tick 2=z:=⟨_,rfl⟩
  rw[hk] at b2 b6;have HK:=Ja hk;clear hk;go_upto_region 4 with(go_at_call 55;go_must (refine b2.out.mono ?_;rintro e w2 ⟨rfl,c,j⟩))
  have g1:=(zT M).sz;have g2:=(zT M.tick).sz;have g3:=(zT M.tick.tick).sz;have a5:=Ja (uD c (n:=sE k) (by unfold sE;split<;>decide) (by unfold sE;split<;>decide) (by have:=H.out.2;omega));have a2:=aaE K.E M.tick.tick (n:=sE k) (by unfold sE;split<;>decide);obtain⟨z3,u⟩:∃z,tkV K.E M.tick.tick (sE k)=z:=⟨_,rfl⟩
  rw[u] at a5 a2;have b0:=Ja u;obtain⟨db,b7,b8,a9⟩:=c.env.data;have c2:=c.c2;have p4:=zA (i:=4) c.env.prog rfl;rw[b7] at p4;have b9:z3<15:=by unfold sE at a2;split at a2<;>omega
  have HS:=Ja (m.trans j)
  have a8:∀(w3:World),MkIn w3 K X M.tick.tick.tick fv vv l->T 83 #[L K.pm,.agg #[I 2,I 0,I k,I 0,G z3,F]] w3 (yk K X w3 (M.tick.tick.tick.emit ⟨2,0,(k:Int),0,z3,[]⟩) (I (M.next:Int))):=fun w3 g=>
   rD g.at (o:=⟨2,0,(k:Int),0,z3,[]⟩) ⟨yF _ rfl,yF _ rfl,vG (k:Int) Zo Zo,yF _ rfl,(by show z3<65536;omega)⟩ yE.nil H.out.1 (by have:=H.out.2;omega)
  have b3:=Ja a8;clear q m j u c b8 a8;have b4:k=0∨k=1:=Zo;rcases b4 with rfl|rfl
  ·have d2:U w2 db 2 (G 16):=zA a9 rfl;have a4:=Ja (show T 55 #[L K.pm,I 15] w2 _ from a5.out);go_wp2_with (first|(go_at_call 55;go_must (refine a4.out.mono ?_;rintro e w3 ⟨rfl,g,a0⟩))|(go_at_call 83;go_must (refine(b3.out _ g).mono ?_;rintro e w4 ⟨rfl,X4,a1,y⟩)))
   go_ret;rw[t.out,HK.out,b0.out];exact⟨rfl,X4,a1,HS.out.trans (a0.trans y)⟩
  ·have d2:U w2 db 5 (G 7):=zA a9 rfl;have a4:=Ja (show T 55 #[L K.pm,I 6] w2 _ from a5.out);go_wp2_with (first|(go_at_call 55;go_must (refine a4.out.mono ?_;rintro e w3 ⟨rfl,g,a0⟩))|(go_at_call 83;go_must (refine(b3.out _ g).mono ?_;rintro e w4 ⟨rfl,X4,a1,y⟩)))
   go_ret;rw[t.out,HK.out,b0.out];exact⟨rfl,X4,a1,HS.out.trans (a0.trans y)⟩
def MKC.withZ (K:MKC)(Z:Nat->Prop):MKC:= {K with Z:=Z }
theorem MkIn.off {w W:World}{K:MKC}{X Z2:Nat->Prop}{M:MS}{fv vv:Value}{l:List BM}(h:MkIn w K X M fv vv l)(g:w.heap.size<=W.heap.size)(ho:W.os=w.os/\W.tape=w.tape/\W.output=w.output)
 (hk:∀k,k<w.heap.size->(K.Z k->k<K.B)->W.heap[k]? =w.heap[k]?) (j:∀k,Z2 k->K.Z k∨w.heap.size<=k) (i:∀k,Z2 k->k<W.heap.size):MkIn W (K.withZ Z2) X M fv vv l:=by
 have c:Stp (K.av X) w ((K.withZ Z2).av X) W:=⟨ho.1,ho.2.1,ho.2.2,g,fun k e=>e.elim (fun e=> .inl (.inl e)) (fun e=>(j k e).elim (fun e=> .inl (.inr e)) .inr),fun k hk' d=>hk k hk' (fun e=>absurd (.inr e) d)⟩
 have d:∀k,X k->k<w.heap.size/\W.heap[k]? =w.heap[k]?:=fun k e=>⟨h.xl k e,hk k (h.xl k e) (fun e2=>absurd e2 (h.env.zx k e))⟩
 have hb:Below K.B w W:=⟨ho.1,ho.2.1,ho.2.2,g,fun k e=>hk k (Jy e h.size) (fun _=>e)⟩
 obtain⟨b,e1,e2,e3⟩:=h.env.data;refine⟨(d _ h.xm).2.trans h.blk,yD h.own (fun k e=>(d k (h.xf k e)).2),h.fl,fun q hq=>?_,h.apart,yD h.vown (fun k e=>(d k (h.xv k e)).2),h.v64,h.xm,h.xf,h.xv,h.xB,fun k e=>Jy (h.xl k e) g,?_,h.bnd,h.lft⟩
 ·have q1:=h.bok q hq;exact⟨q1.k64,q1.par.step zn c,q1.ops,yD q1.own (fun k e=>(d k (q1.inX k e)).2),fun o ho=>⟨(q1.arg o ho).1,(q1.arg o ho).2.step zn c⟩,q1.tos.step yq c,q1.inX⟩
 ·exact⟨h.env.s.below zO hb,h.env.fpv,c.blk h.env.prog h.env.ppX,h.env.args.step zn c,⟨b,e1,c.not (lt_of_block e3) e2,c.blk e3 e2⟩,c.not (lt_of_block h.env.prog) h.env.ppX,h.env.h64,h.env.len,h.env.nf,h.env.alt,
   fun k e1 e2=>(j k e2).elim (h.env.zx k e1) (fun e3=>by have:=h.xl k e1;omega),i⟩
theorem oD {w:World}{K:MKC}{X:Nat->Prop}{M:MS}(h:wW w K X M):I64 (zJ K.E M).1:=by
 obtain⟨fv,vv,l,h⟩:=h;have hb:=h.bnd
 have hv:∀i,I64 (M.vals.getD i 0):=fun i=>by
  rw[Jj]
  cases c:M.vals[i]? with
  |none=>exact yF _ rfl
  |some x=>exact h.v64 x (Ji c)
 unfold zJ
 split
 ·unfold MS.sz at hb;exact⟨by show -9223372036854775808<=(M.next:Int);omega,by show(M.next:Int)<=9223372036854775807;omega⟩
 split
 ·exact hv _
 ·exact hv _
structure ArgMid (w:World) (K:MKC) (X:Nat->Prop) (M:MS) (av:Value) (j:Nat) (wx:World):Prop where
 own:wx.ownsRow w.heap.size 3 1 av j ((yI K.E j M).1.map zN)
 i64:∀x∈(yI K.E j M).1,I64 x
 made:∃Xj,wW wx (K.withZ fun k=>K.Z k∨av.ownBlock=some k) Xj (yI K.E j M).2/\Stp X w Xj wx
theorem qw (E:ME):∀(n:Nat) (M:MS),(yI E n M).1.length=n
 |0,_=>rfl
 |n+1,M=>by show((yI E n M).1++ [_]).length=_;rw[Jk,qw E n M];rfl
theorem ArgMid.start {w:World}{K:MKC}{X:Nat->Prop}{M:MS}(h:wW w K X M):ArgMid w K X M (F) 0 w:=by
 refine⟨Jv _ _ _ _,(fun x hx=>by cases hx),X,?_,Stp.refl _ _⟩;obtain⟨fv,vv,l,h⟩:=h;exact⟨fv,vv,l,h.off (Je _) ⟨rfl,rfl,rfl⟩ (fun _ _ _=>rfl) (fun k e=>e.elim .inl (fun e=>by simp[Value.ownBlock] at e)) (fun k e=>e.elim (h.env.zl k) (fun e=>by simp[Value.ownBlock] at e))⟩
theorem ArgMid.next {w wx w2 w3:World}{K:MKC}{X X2:Nat->Prop}{M:MS}{av av':Value}{j:Nat}{o:Obj}(h:ArgMid w K X M av j wx)(h2:wW w2 (K.withZ fun k=>K.Z k∨av.ownBlock=some k) X2 (yI K.E (j+1) M).2)(d:Stp X w X2 w2)(m:w2.ownsRow w.heap.size 3 1 av j ((yI K.E j M).1.map zN))(t:I64 (zJ K.E (yI K.E j M).2).1)
 (u:∀k,X k->k<w.heap.size) (hB:K.B<=w.heap.size) (hg:(w2.alloc o).grownBy w3 av.ownBlock) (i:w3.ownsRow w.heap.size 3 1 av' (j+1) ((yI K.E j M).1.map zN++ [zN (zJ K.E (yI K.E j M).2).1])) (q:∀k,av'.ownBlock=some k->av.ownBlock=some k∨w2.heap.size<=k):ArgMid w K X M av' (j+1) w3:=by
 obtain⟨fv,vv,l,h2⟩:=h2;have g:w2.heap.size<=w3.heap.size:=by have:=hg.size;simp at this;omega
 have hk:∀k,k<w2.heap.size->av.ownBlock≠some k->w3.heap[k]? =w2.heap[k]?:=fun k hk hne=>(hg.block k Zt (fun e=>hne e.symm)).trans (Below.heap_alloc w2 o k hk)
 refine⟨?_,?_,X2,⟨fv,vv,l,h2.off (K:=K.withZ fun k=>K.Z k∨av.ownBlock=some k) g ⟨hg.os,hg.tape,hg.output⟩ (fun k hk' hz=>hk k hk' (fun e=>by have y:k<K.B:=hz (.inr e);have:=(m.lt k e).1;omega)) (fun k e=>e.elim (fun e=> .inl (.inl e)) (fun e=>(q k e).elim (fun e=> .inl (.inr e)) .inr)) (fun k e=>e.elim (fun e=>Jy (h2.env.zl k (.inl e)) g) (fun e=>(i.lt k e).2))⟩,?_⟩
 ·show w3.ownsRow w.heap.size 3 1 av' (j+1) (((yI K.E j M).1++ [(zJ K.E (yI K.E j M).2).1]).map zN)
  rw[Js];exact i
 ·intro x c;rcases Jl.1 c with c|c
  ·exact h.i64 x c
  ·rw[Jo] at c;subst c;exact t
 ·refine⟨hg.os.trans d.os,hg.tape.trans d.tape,hg.output.trans d.output,Jn d.size g,d.new,fun k hk' c=>(hk k (Jy hk' d.size) (fun e=>?_)).trans (d.kept k hk' c)⟩;have:=(m.lt k e).1;omega
theorem ArgMid.done {w wx:World}{K:MKC}{X:Nat->Prop}{M:MS}{av:Value}{j:Nat}(h:ArgMid w K X M av j wx)(c:∀k,K.Z k->k<w.heap.size):∃Xj,wW wx K Xj (yI K.E j M).2/\Stp X w Xj wx/\wm wx (K.av Xj) av (yI K.E j M).1:=by
 obtain⟨Xj,⟨fv,vv,l,hm⟩,hs⟩:=h.made;refine⟨Xj,⟨fv,vv,l,hm.off (Z2:=K.Z) (Je _) ⟨rfl,rfl,rfl⟩ (fun _ _ _=>rfl) (fun k e=> .inl (.inl e)) (fun k e=>hm.env.zl k (.inl e))⟩,hs,?_⟩;refine rO h.own (qw _ _ _) h.i64 (fun k e hx=>hx.elim (fun e2=>hm.env.zx k e2 (.inr e)) (fun e2=>?_));have:=(h.own.lt k e).1;have:=c k e2;omega
theorem jh {w:World}{X:Nat->Prop}{v:Value}{xs:List Int}{a:Option Addr}{n c:Nat}(h:wm w X v xs)(hv:v=.slice a n c){k:Nat}{x:Int}(g:xs[k]? =some x):∃b o,a=some ⟨b,o,none⟩/\U w b (o+k) (I x):=by
 subst hv;obtain⟨a',c',e,_,_,j⟩:=h;cases e;obtain⟨b,o,i,_,_,d,_⟩:=j k x g;rw[Nk] at d;exact⟨b,o,i,d⟩
theorem jN {w:World}{K:MKC}{X:Nat->Prop}{M:MS}(h:wW w K X M)(b2:M.cur<M.f.length)(hz:M.sz+16<=1000000):
 T 85 #[L K.pm] w (yk K X w (vN K.E M) (.tuple #[])):=by
 obtain⟨fv,vv,l,h⟩:=h;have H:=Ja (Jb h (Jb b2 hz));have c2:=h.c2;have c3:=h.c3;obtain⟨pa,pc,c4⟩:=h.env.fpv;have p0:=zA (i:=0) h.env.prog rfl;rw[c4] at p0;have h8:=h.env.nf;have h7:=lt_of_block h.env.prog;have h4:=lt_of_block h.blk;clear h b2 hz c4;have f5:IntKind.i64.wrap ((K.E.nf:Int)-(K.E.me:Int))=(K.E.nf:Int)-(K.E.me:Int):=Om _ Zo;have b8:IntKind.i64.wrap ((K.E.nf:Int)-(K.E.me:Int)-1)=(K.E.nf:Int)-(K.E.me:Int)-1:=Om _ Zo
 by_cases h0:K.E.nf<=K.E.me+1
 ·have q:vN K.E M=M:=by unfold vN;rw[if_pos h0]
  have a1:=Ja q;have b7:(K.E.nf:Int)-(K.E.me:Int)-1<1:=Zo;clear q;go_enter Try.func85,Try.ntmps85;go_upto_region 0 with fail;go_quiet (fail);go_wp2
  first|go_end0|refine bodyPost_ret (results_none rfl _ _ _) rfl ?_
  rw[a1.out];exact⟨rfl,X,⟨_,_,_,H.out.1.keep (yL _ _ _)⟩,Stp.of_below (yL _ _ _)⟩
 ·obtain⟨m,hm⟩:∃m:Nat,K.E.nf-K.E.me-1=m:=⟨_,rfl⟩
  have i0:1<=m:=Zo;have b7:¬(K.E.nf:Int)-(K.E.me:Int)-1<1:=Zo;have c5:(K.E.nf:Int)-(K.E.me:Int)-1=(m:Int):=Zo;have h6:¬(m:Int)<1:=Zo;rw[c5] at b8;clear b7;go_enter Try.func85,Try.ntmps85;go_upto_region 0 with fail
  go_cut [2] (fun v wx=>v=I m/\∃n,wx=w.drewN n)
  case first=>
   go_quiet (fail);go_wp2;go_meet;exact⟨by first|rfl|(rw[c5]),_,rfl⟩
  case rest=>
   obtain⟨rfl,n0,rfl⟩:=hcut;have a3:=H.out.1.keep (yL _ w n0);generalize d7:w.drewN n0=W1 at *;have c0:Stp X w X W1:=by rw[<-d7];exact Stp.of_below (yL _ _ _)
   have e0:=Ja (Jb a3 c0);have HT:=Ja (uD (a3.keep (Below.refl _ _).drew) (n:=m) Zo Zo (by have:=H.out.2.2;omega));have a2:=aaE K.E M (n:=m) Zo;obtain⟨z,hz⟩:∃z,tkV K.E M m=z:=⟨_,rfl⟩
   rw[hz] at HT a2;have HZ:=Ja (Jb hz hm);have d3:=a3.c3;clear a3 c0 hz hm d7 c2 c3 p0 f5 b8;go_upto_region 2 with fail;obtain⟨f,hf⟩:∃f:Nat,K.E.me+1+z=f:=⟨_,rfl⟩
   have c8:(K.E.me:Int)+1+(z:Int)=(f:Int):=Zo;have g8:=Ja (show IntKind.i64.wrap (IntKind.i64.wrap ((K.E.me:Int)+1)+(z:Int))=(f:Int) by rw[Om ((K.E.me:Int)+1) Zo,Om _ Zo];exact c8);clear c8
   go_cut [3] (fun v wx=>v=I f/\Hid (MkIn wx K X M.tick fv vv l/\Stp X w X wx))
   case first=>
    go_region_held3 (fun w'=>U w' K.pm 3 (I (K.E.me:Int))) (first|exact d3|assumption|(exact MkIn.c3 Zz))
     ((go_at_call 55;refine HT.out.mono ?_;rintro e w2 ⟨rfl,t,f7⟩))
    all_goals go_wp2_with fail
    go_meet;exact⟨by rw[g8.out],Ja ⟨t,e0.out.2.trans ((Stp.of_below (Below.refl _ _).drew).trans f7)⟩⟩
   obtain⟨rfl,d1⟩:=hcut;obtain⟨t,a6⟩:=d1.out;generalize g5:wc=w2 at *;clear d1 g5;have g2:f<K.E.nf:=by have:=HZ.out.2;omega
   have d2:=t.c2;have p3:=zA (i:=3) t.env.prog rfl;have d:=Ja (Jb t (Jb a6 hf));have h5:=lt_of_block t.env.prog;have h1:=lt_of_block t.blk;clear t a6 hf d3 e0 HT
   by_cases hh:(f:Int)=K.E.handler
   ·have t0:((f:Int)==K.E.handler)=true:=by rw[beq_iff_eq];exact hh
    have q:vN K.E M=M.tick:=by
     unfold vN;rw[if_neg h0];simp only;rw[HZ.out.2,HZ.out.1,d.out.2.2,if_pos hh]
    have a1:=Ja q;clear q hh;go_wp2
    first|go_end0|refine bodyPost_ret (results_none rfl _ _ _) rfl ?_
    rw[a1.out];exact⟨rfl,X,d.out.1.at,d.out.2.1⟩
   ·have t0:((f:Int)==K.E.handler)=false:=by rw[beq_eq_false_iff_ne];exact hh
    have q:vN K.E M=(yI K.E (K.E.args.getD f 0).toNat M.tick).2.emit ⟨26,0,(f:Nat),0,0,(yI K.E (K.E.args.getD f 0).toNat M.tick).1⟩:=by
     unfold vN;rw[if_neg h0];simp only;rw[HZ.out.2,HZ.out.1,d.out.2.2,if_neg hh]
    have a1:=Ja q;clear q hh;obtain⟨aa,ac,d4,_,_⟩:=d.out.1.env.args.form;have a4:=d.out.1.env.args;have f0:=d.out.1.env.len;have e4:=Ja (Jb d4 a4);obtain⟨x,hx⟩:∃x,K.E.args[f]? =some x:=⟨_,Jd (by rw[f0];exact g2)⟩
    obtain⟨f4,f3⟩:=d.out.1.env.alt x (Ji hx);have b6:K.E.args.getD f 0=x:=by rw[Jj,hx];rfl
    obtain⟨c,hc⟩:∃c:Nat,x.toNat=c:=⟨_,rfl⟩
    have d0:x=(c:Int):=Zo;have h9:=(zT M).sz;have HX:=Ja (Jb hx (Jb b6 (Jb hc d0)));have i8:c<=3:=Zo;have a8:=ArgMid.start d.out.1.at;have g6:=Ja a8;clear d4 a4 hx b6 hc d0 a8 f4 f3;go_upto_region 5 with fail;go_wp2;clear d2 p3
    go_loopw [4,5] (fun rv jv wx=>∃(j:Nat) (ra:Option Addr) (rc:Nat),j<=c/\rv=.slice ra j rc/\jv=I j/\Hid (ArgMid w2 K X M.tick (.slice ra j rc) j wx)) (fun _ jv _=>c-(intOf jv).toNat)
    case atStart=>exact⟨0,none,0,Jt _,rfl,rfl,g6⟩
    case round=>
     obtain⟨j,ra,rc,hj,rfl,rfl,HA⟩:=hrel
     have g1:∃Xj fv' vv' l',MkIn wr (K.withZ fun k=>K.Z k∨(Value.slice ra j rc).ownBlock=some k) Xj (yI K.E j M.tick).2 fv' vv' l'/\Stp X w2 Xj wr:=by
      obtain⟨Xj,⟨fv',vv',l',hm⟩,hs⟩:=HA.out.made;exact⟨Xj,fv',vv',l',hm,hs⟩
     obtain⟨Xj,fv',vv',l',hm,hs⟩:=g1;have e2:U wr K.pm 2 (L K.pp):=hm.c2;have q1:U wr K.pp 1 K.apv:=zA (i:=1) hm.env.prog rfl;obtain⟨ab,ao,d6,g4⟩:=jh (show wm wr ((K.withZ fun k=>K.Z k∨(Value.slice ra j rc).ownBlock=some k).av Xj) K.apv K.E.args from hm.env.args) e4.out.1 HX.out.1;rw[e4.out.1,d6] at q1;rw[HX.out.2.2.2] at g4;have i2:(f:Int)<(K.E.args.length:Int):=Zo;have a0:=Ja (Jb hm hs);clear hm hs d6
     by_cases a2:j<c
     ·have e8:(j:Int)<(c:Int):=Zo;have g:=tj K.E j M.tick
      have b1:(yI K.E j M.tick).2.cur<(yI K.E j M.tick).2.f.length/\(yI K.E j M.tick).2.sz+4<=1000000:=by
       refine⟨?_,?_⟩
       ·rw[g.cur,g.len];exact H.out.2.1
       ·have:=g.sz;have:=H.out.2.2;omega
      have d5:=pu (K:=K.withZ fun k=>K.Z k∨(Value.slice ra j rc).ownBlock=some k) a0.out.1.at b1.1 b1.2;have a5:=oD a0.out.1.at;obtain⟨y,hy⟩:∃y,(zJ K.E (yI K.E j M.tick).2).1=y:=⟨_,rfl⟩
      have b4:T 58 #[L K.pm] wr (yk (K.withZ fun k=>K.Z k∨(Value.slice ra j rc).ownBlock=some k) Xj wr (yI K.E (j+1) M.tick).2 (I y)):=by rw[<-hy];exact d5
      have b0:∀(w4:World) (X4:Nat->Prop),Stp Xj wr X4 w4->w4.ownsRow w2.heap.size 3 1 (.slice ra j rc) j ((yI K.E j M.tick).1.map zN):=fun w4 X4 u=>yD HA.out.own (fun k e=>u.kept k (HA.out.own.lt k e).2 (fun e2=>a0.out.1.env.zx k e2 (.inr e)))
      obtain⟨ij,g0,e7,e6,e5⟩:=info_parts Try.info_int;have HN:=Ja (Jb b4 (Jb a5 (Jb hy b0)));have d8:=Ja a2;have i1:j<=3:=Zo;have h2:=a0.out.2.size;clear d5 b4 a5 hy b0 b1 g a2;go_wp2_with (first|(go_at_call 58;go_must (refine HN.out.1.mono ?_;rintro e w4 ⟨rfl,X4,f9,u⟩;have c1:=HN.out.2.2.2 w4 X4 u;have h3:=u.size))|(at_builtin;go_must (refine zK _ rfl (.tmp 54) (.tmp 57) 25 rfl w2.heap.size 3 ij (I 0) 1 8 Try.underlying25 g0 e7 e6 e5 rfl Zd (.slice ra j rc) j ((yI K.E j M.tick).1.map zN) rfl (c1.alloc _) _ 1 [I y] rfl (yM.one (zI rfl) rfl) (by unfold maxLen;omega) Zo Zt ?_;intro v9 w9 a9 b5 g3)))
      obtain⟨f2,f1,rfl⟩:=zG a9;go_roundw
      case rel=>
       refine⟨j+1,f2,f1,d8.out,rfl,by go_num,Ja (HA.out.next f9 (a0.out.2.trans u) c1 (by rw[HN.out.2.2.1];have:=HN.out.2.1;rw[<-HN.out.2.2.1];exact this) d.out.1.xl d.out.1.size b5 (by rw[HN.out.2.2.1];exact a9) (fun k e=>?_))⟩;rcases g3 with e2|e2
       ·exact .inl (by rw[<-e2];exact e)
       ·right;have e3:=e2.symm.trans e;simp at e3;omega
      case measure=>have:=d8.out;simp[intOf];omega
     ·obtain rfl:j=c:=by omega
      have e8:¬(j:Int)<(j:Int):=Zo;obtain⟨X9,c7,b9,b3⟩:=HA.out.done d.out.1.env.zl;have g:=tj K.E j M.tick;have c9:=rD (o:=⟨26,0,(f:Int),0,0,(yI K.E j M.tick).1⟩) c7 ⟨yF _ rfl,yF _ rfl,vG (f:Int) Zo Zo,yF _ rfl,(by show 0<65536;omega)⟩ b3 (by rw[g.cur,g.len];exact H.out.2.1) (by have:=g.sz;have:=H.out.2.2;omega);have e1:=Ja (Jb c9 (d.out.2.1.trans b9));clear c7 b9 b3 g c9;go_wp2_with (go_at_call 83;go_must (refine e1.out.1.mono ?_;rintro e w5 ⟨rfl,X5,f8,f6⟩))
      first|go_end0|refine bodyPost_ret (results_none rfl _ _ _) rfl ?_
      rw[a1.out,HX.out.2.1,HX.out.2.2.1];exact⟨rfl,X5,f8,e1.out.2.trans f6⟩
structure Row where
 v:Value
 e:TypeId
 sz:Nat
 n:Nat
 cs:List Value
def Row.blk (r:Row):Option Nat:=r.v.ownBlock
structure Rows (w:World) (B:Nat) (rs:List Row):Prop where
 own:∀r∈rs,w.ownsRow B r.e r.sz r.v r.n r.cs
 nd:(rs.filterMap Row.blk).Nodup
structure B64 (b:IBlk):Prop where
 par:∀x∈b.params,I64 x
 ops:∀o∈b.ops,qN o/\∀x∈o.args,I64 x
 term:I64 b.term.kind/\I64 b.term.a
 tos:∀e∈b.term.to,I64 e.block/\∀x∈e.args,I64 x
structure P64 (p:IProg):Prop where
 funcs:∀f∈p.funcs,∀b∈f,B64 b
 args:∀x∈p.args,I64 x
 data:∀o∈p.data,I64 o.bank/\o.addr<65536/\o.size<65536
 banks:∀s∈p.banks,s.size<=9223372036854775807
 ent:I64 p.entry
 hnd:I64 p.handler
theorem vF {α:Type}{sz:Nat}{R:World->Nat->Nat->Nat->α->Prop}{w:World}{B:Nat}{v:Value}{xs:List α}(h:yN sz R w B v xs){x:α}(c:x∈xs):∃b o,R w B b o x:=by
 obtain⟨k,hk⟩:=Ny c;obtain⟨a,g,rfl,_,_,d⟩:=h;obtain⟨b,o,_,_,hr⟩:=d k x hk;exact⟨b,_,hr⟩
theorem rI {w:World}{B:Nat}{v:Value}{xs:List Int}(h:zY w B v xs):∀x∈xs,I64 x:=fun x hx=>by
 obtain⟨b,o,hr⟩:=vF h hx;exact hr.2
theorem ProgIn.p64 {w:World}{B:Nat}{V:PV}{p:IProg}(h:ProgIn w B V p):P64 p:=by
 refine⟨fun f hf b hb=>?_,rI h.args,fun o ho=>?_,fun s hs=>?_,h.ent,h.hnd⟩
 ·obtain⟨x,y,bv,_,g⟩:=vF h.funcs hf;obtain⟨x,y,_,_,q,pv,ov,tv,_,_,_,k,j,i⟩:=vF g hb;refine⟨rI k,fun o ho=>?_,q,fun e he=>?_⟩
  ·obtain⟨x,y,_,_,_,_,_,l,av,_,c⟩:=vF j ho;exact⟨l,rI c⟩
  ·obtain⟨x,y,_,d,av,_,c⟩:=vF i he;exact⟨d,rI c⟩
 ·obtain⟨x,y,_,_,_,m⟩:=vF h.data ho;exact m
 ·obtain⟨x,y,t,d⟩:=vF h.banks hs;exact d
structure SmallP (p:IProg):Prop where
 fn:p.funcs.length<=2000000/\∀f∈p.funcs,vZ f/\jx f
 ar:p.args.length<=2000000
 da:p.data.length<=2000000
 ba:p.banks.length<=2000000
theorem afW {w:World}{K:SK}{p:IProg}{j:List IBlk}{k:Nat}{s:Slv}(h:SlvAt w K p j k s){o:IOp}(av:Value)(h64:I64 o.code)(l:o.n<65536)(g:o.code=2->0<=o.a/\o.a<p.data.length)
 (i:o.code≠1->o.code≠2->ruG o.code≠none->(0<=o.a/\o.a<K.n)/\0<=o.b/\o.b<K.n):
 T 54 #[L K.sb,aam o av] w (tr w (aeS p s o)):=by
 by_cases d:o.code=1
 ·exact aff _ av d p s
 by_cases c:o.code=2
 ·exact afO h av c (g c) l
 cases hr:ruG o.code with
 |none=>exact afe h av d c h64 hr
 |some f=>
  obtain⟨m,hb⟩:=i d c (by rw[hr];exact fun e=>by cases e);exact afx h av d c h64 hr m hb
structure SlvTo (w w':World) (K:SK):Prop where
 os:w'.os=w.os
 tape:w'.tape=w.tape
 output:w'.output=w.output
 size:w.heap.size<=w'.heap.size
 block:∀i,i<w.heap.size->i≠K.rb->i≠K.kb->i≠K.sb->w'.heap[i]? =w.heap[i]?
theorem SlvTo.refl (w:World)(K:SK):SlvTo w w K:=⟨rfl,rfl,rfl,Je _,fun _ _ _ _ _=>rfl⟩
theorem SlvTo.trans {w w1 w2:World}{K:SK}(h:SlvTo w w1 K)(d:SlvTo w1 w2 K):SlvTo w w2 K:=
 ⟨d.os.trans h.os,d.tape.trans h.tape,d.output.trans h.output,Jn h.size d.size,fun i hi a b c=>(d.block i (Jy hi h.size) a b c).trans (h.block i hi a b c)⟩
theorem SlvTo.of_below {w w':World}{K:SK}(h:O w w'):SlvTo w w' K:=⟨h.os,h.tape,h.output,h.size,fun i hi _ _ _=>h.block i hi⟩
theorem SlvTo.below {w w':World}{K:SK}(h:SlvTo w w' K){B:Nat}(hB:B<=K.rb/\B<=K.kb/\B<=K.sb/\B<=w.heap.size):Below B w w':=
 ⟨h.os,h.tape,h.output,h.size,fun i hi=>h.block i Zo Zo Zo Zo⟩
theorem afG (l:List Rg)(v:Nat)(a:Rg)(h:v<l.length):(((l.flatMap xe).toArray.setIfInBounds (v*2) (G (a.lo:Int))).setIfInBounds (v*2+1) (G (a.hi:Int)))=((l.set v a).flatMap xe).toArray:=by
 simp only[Jc]
 congr 1
 induction l generalizing v with
 |nil=>simp at h
 |cons x l ih=>
  cases v with
  |zero=>rfl
  |succ v=>
   have:=ih v (by simpa using h);rw[show(v+1)*2=v*2+1+1 by omega];simp only[Qa,Jg];rw[<-this];rfl
theorem tt {w:World}{K:SK}{p:IProg}{c:List IBlk}{k:Nat}{s:Slv}(h:SlvAt w K p c k s){v:Nat}(hv:v<K.n):U w K.kb v (.bool (s.knw v)):=by
 refine zA h.kn ?_;have hl:v<s.kn.length:=by rw[h.oks.kl];exact hv
 unfold Slv.knw;simp[Jj,Jd hl,hl]
theorem bR {d d':wO}{v i k:Int}(h:rB d v i k=some d'):(0<=v/\v<=65535)/\∀x,(d'.1 x).isSome=true->(d.1 x).isSome=true∨x=v:=by
 unfold rB at h
 split at h
 ·cases h
 ·rename_i c
  cases h;refine⟨by omega,fun x hx=>?_⟩
  change (lS d.1 v i x).isSome=true at hx
  unfold lS at hx
  by_cases e:x=v
  ·exact .inr e
  ·rw[if_neg e] at hx;exact .inl hx
theorem cL {i:Int}:∀(l:List Int) (d d':wO),vJ i l d=some d'->(∀v∈l,0<=v/\v<=65535)/\∀x,(d'.1 x).isSome=true->(d.1 x).isSome=true∨x∈l
 | [],d,d',h=>by cases h;exact⟨(fun v hv=>by cases hv),fun x hx=> .inl hx⟩
 |v::l,d,d',h=>by
  unfold vJ at h
  cases h1:rB d v i (-1) with
  |none=>rw[h1] at h;cases h
  |some d1=>
   rw[h1,Nw] at h;obtain⟨k1,k2⟩:=bR h1;obtain⟨k3,k4⟩:=cL l d1 d' h;refine⟨fun x hx=>?_,fun x hx=>?_⟩
   ·rcases Jq.1 hx with rfl|hx
    ·exact k1
    ·exact k3 x hx
   ·rcases k4 x hx with c|c
    ·rcases k2 x c with g|rfl
     ·exact .inl g
     ·exact .inr (List.mem_cons_self ..)
    ·exact .inr (List.mem_cons_of_mem _ c)
theorem bN {p:IProg}{i:Int}:∀(l:List IOp) (k:Int) (d d':wO),sS p i l k d=some d'->(∀o∈l,-1<=o.res/\o.res<=65535)/\∀x,(d'.1 x).isSome=true->(d.1 x).isSome=true∨∃o∈l,o.res=x/\0<=x
 | [],k,d,d',h=>by cases h;exact⟨(fun v hv=>by cases hv),fun x hx=> .inl hx⟩
 |o::l,k,d,d',h=>by
  rw[dG] at h
  cases h1:ug p i k o d with
  |none=>rw[h1] at h;cases h
  |some d1=>
   rw[h1,Nw] at h;obtain⟨k3,k4⟩:=bN l (k+1) d1 d' h
   have hs:(-1<=o.res/\o.res<=65535)/\∀x,(d1.1 x).isSome=true->(d.1 x).isSome=true∨(o.res=x/\0<=x):=by
    unfold ug at h1
    split at h1
    ·rename_i hf
     have:=ct hf
     split at h1
     ·rename_i j
      obtain⟨k1,k2⟩:=bR h1;refine⟨by omega,fun x hx=>?_⟩;rcases k2 x hx with c|rfl
      ·exact .inl c
      ·exact .inr ⟨rfl,j⟩
     ·cases h1;exact⟨by omega,fun x hx=> .inl hx⟩
    ·cases h1
   refine⟨fun x hx=>?_,fun x hx=>?_⟩
   ·rcases Jq.1 hx with rfl|hx
    ·exact hs.1
    ·exact k3 x hx
   ·rcases k4 x hx with g|⟨o',g,c⟩
    ·rcases hs.2 x g with c|c
     ·exact .inl c
     ·exact .inr ⟨o,List.mem_cons_self ..,c⟩
    ·exact .inr ⟨o',List.mem_cons_of_mem _ g,c⟩
def DefdIn (l:List IBlk)(x:Int):Prop:=∃b∈l,x∈b.params∨∃o∈b.ops,o.res=x/\0<=x
def bC (l:List IBlk):Prop:=∀b∈l,(∀v∈b.params,0<=v/\v<=65535)/\∀o∈b.ops,-1<=o.res/\o.res<=65535
theorem cP {p:IProg}{bl:List IBlk}:∀(l:List IBlk) (i:Int) (d d':wO),uH p bl l i d=some d'->bC l/\∀x,(d'.1 x).isSome=true->(d.1 x).isSome=true∨DefdIn l x
 | [],i,d,d',h=>by cases h;exact⟨(fun v hv=>by cases hv),fun x hx=> .inl hx⟩
 |b::l,i,d,d',h=>by
  unfold uH at h
  cases h1:pS p bl i b d with
  |none=>rw[h1] at h;cases h
  |some d1=>
   rw[h1,Nw] at h;obtain⟨_,d2,h2,h3⟩:=nF h1;obtain⟨k1,k2⟩:=cL _ _ _ h2;obtain⟨k3,k4⟩:=bN _ _ _ _ h3;obtain⟨k5,k6⟩:=cP l (i+1) d1 d' h;refine⟨fun x hx=>?_,fun x hx=>?_⟩
   ·rcases Jq.1 hx with rfl|hx
    ·exact⟨k1,k3⟩
    ·exact k5 x hx
   ·rcases k6 x hx with j|⟨b',j,c⟩
    ·rcases k4 x j with c|c
     ·rcases k2 x c with g|g
      ·exact .inl g
      ·exact .inr ⟨b,List.mem_cons_self ..,.inl g⟩
     ·exact .inr ⟨b,List.mem_cons_self ..,.inr c⟩
    ·exact .inr ⟨b',List.mem_cons_of_mem _ j,c⟩
theorem ak {N:Int}(l:List Int):∀(n:Int),n<=N->(∀v∈l,cG v<=N)->qK n l<=N:=by
 induction l with
 |nil=>intro n h _;exact h
 |cons x l ih=>
  intro n h hl;have e:qK n (x::l)=qK (max n (cG x)) l:=rfl;rw[e];have:=hl x (List.mem_cons_self ..);exact ih _ Zo (fun v hv=>hl v (List.mem_cons_of_mem _ hv))
theorem aaf {N:Int}(l:List IOp):∀(n:Int),n<=N->(∀o∈l,cG o.res<=N)->o8 n l<=N:=by
 induction l with
 |nil=>intro n h _;exact h
 |cons x l ih=>
  intro n h hl;have e:o8 n (x::l)=o8 (max n (cG x.res)) l:=rfl;rw[e];have:=hl x (List.mem_cons_self ..);exact ih _ Zo (fun v hv=>hl v (List.mem_cons_of_mem _ hv))
theorem count_le {N:Int}(l:List IBlk):∀(n:Int),n<=N->(∀b∈l,(∀v∈b.params,cG v<=N)/\∀o∈b.ops,cG o.res<=N)->l.foldl iL n<=N:=by
 induction l with
 |nil=>intro n h _;exact h
 |cons x l ih=>
  intro n h hl;rw[Qk];have c:=hl x (List.mem_cons_self ..);exact ih _ (aaf _ _ (ak _ _ h c.1) c.2) (fun b hb=>hl b (List.mem_cons_of_mem _ hb))
theorem bD {bl:List IBlk}(h:bC bl):0<=aaG bl/\aaG bl<=65536:=by
 refine⟨bO bl,count_le bl 0 Zo fun b hb=>⟨fun v hv=>?_,fun o ho=>?_⟩⟩
 ·have:=(h b hb).1 v hv;rw[aaY Zo Zo];omega
 ·have:=(h b hb).2 o ho;rw[aaY Zo Zo];omega
theorem dY {bl:List IBlk}(h:bC bl){x:Int}(d:DefdIn bl x):0<=x/\x.toNat<(aaG bl).toNat:=by
 obtain⟨b,hb,c⟩:=d;have hg:=(dr bl 0).2 b hb;have hs:=h b hb;have e:bl.foldl iL 0=aaG bl:=rfl;rw[e] at hg;rcases c with c|⟨o,ho,rfl,g⟩
 ·have:=hg.1 x c;have:=hs.1 x c;rw[aaY Zo Zo] at *;omega
 ·have:=hg.2 o ho;have:=hs.2 o ho;rw[aaY Zo Zo] at *;omega
theorem dd {d:wO}{g:List (List Nat)}{i k v:Int}(h:yy d g i k v=true):(d.1 v).isSome=true:=by
 cases c:d.1 v with
 |none=>rw[dC c] at h;cases h
 |some b=>rfl
theorem dw {p:IProg}{n:Nat}{bl:List IBlk}(l:p.funcs[n]? =some bl)(h:yi p n=true):(0<=aaG bl/\aaG bl<=65536)/\∀b∈bl,aq (aaG bl).toNat b:=by
 cases bl with
 |nil=>exact⟨⟨by decide,by decide⟩,fun b hb=>by cases hb⟩
 |cons b0 bs=>
  obtain⟨_,d,q,hr⟩:=tF l h;obtain⟨k1,k2⟩:=cP (b0::bs) 0 _ d (show uH p (b0::bs) (b0::bs) 0 _=some d from q)
  have g:∀x,(d.1 x).isSome=true->0<=x/\x.toNat<(aaG (b0::bs)).toNat:=fun x hx=>by
   rcases k2 x hx with i|i
   ·cases i
   ·exact dY k1 i
  refine⟨bD k1,fun b hb=>?_⟩;obtain⟨j,m⟩:=Ny hb;unfold iM at hr;rw[Jm] at hr;have c:=(cB _ 0).1 hr.2 j b m;unfold aaC at c;rw[Jm] at c;refine⟨fun x hx=>dY k1 ⟨b,hb,.inl hx⟩,fun o ho=>⟨fun x hx=>?_,fun h0=>(dY k1 ⟨b,hb,.inr ⟨o,ho,rfl,h0⟩⟩).2⟩,fun x hx=>?_⟩
  ·obtain⟨k,hk⟩:=Ny ho;exact g x (dd (Oe.1 ((dF _ 0).1 c.1 k o hk) x hx))
  ·exact g x (dd (Oe.1 c.2 x hx))
theorem acc_a {o:IOp}(h:p6 o=true):(zi o.code).a=true:=by
 unfold p6 at h;simp only[Jm,decide_eq_true_eq] at h;have:o.code=18∨o.code=19∨o.code=20∨o.code=21:=Zo;rcases this with e|e|e|e<;>rw[e]<;>rfl
end Go.Proofs.Ytoahcpkibpomcaa
