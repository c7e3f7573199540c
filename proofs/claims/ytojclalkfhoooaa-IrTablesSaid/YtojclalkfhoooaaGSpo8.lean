/- Part of a proof. -/
import Derived.Test.YtojclalkfhoooaaGSpo2
import Derived.Test.YtojclalkfhoooaaGMap
import Derived.Deep.RegionHeld3
set_option linter.unusedSimpArgs false
set_option linter.unusedVariables false
set_option maxHeartbeats 1000000
set_option maxRecDepth 100000
namespace Go.Proofs.Ytojclalkfhoooaa
open Go.RowKit
def uE (w:World)(B g i:Nat)(v:Value)(bt:BT)(l:List BT)(rs:List Row)(what n:Nat)(e:Ending)(w':World):Prop:=
 e=.returned (.tuple #[])/\∃bt',SpSt w' B g i v bt' (l.set i bt') rs/\bt'.blk=xh what n bt.blk/\Chg w (zd v l::bt.rows) w'
structure SzB (bt:BT):Prop where
 par:bt.params.length<=2000000
 ops:bt.ops.length<=2000000
 tos:bt.tos.length<=2000000
 oarg:∀o∈bt.ops,o.1.args.length<=2000000
 earg:∀o∈bt.tos,o.1.args.length<=2000000
theorem ws {bt:BT}{what n k:Nat}{o:IOp}{av:Value}(hw:what<=5)(hk:bt.ops[k]? =some (o,av))(hkn:n%bt.ops.length=k):({bt with ops:=bt.ops.set k (spO what n o,av)}:BT).blk=xh what n bt.blk:=by
 have hkl:=(List.getElem?_eq_some_iff.1 hk).1
 unfold xh BT.blk
 simp only[List.length_map]
 rw[if_pos (by omega),if_neg (by omega),if_neg (by omega),if_neg (by omega),hkn,xI (x:=o) (by rw[List.getElem?_map,hk];rfl),List.map_set]
theorem wZ (v:Value)(l:List BT)(bt:BT):yo bt.ov bt.ops∈zd v l::bt.rows:=.tail _ (.tail _ (.head _))
theorem rS (v:Value)(l:List BT)(bt:BT):xg bt.tv bt.tos∈zd v l::bt.rows:=.tail _ (.tail _ (.tail _ (.head _)))
theorem set_same {l:List BT}{i:Nat}{bt:BT}(h0:l[i]? =some bt):l.set i bt=l:=by
 apply List.ext_getElem?
 intro q
 rw[List.getElem?_set]
 split
 ·rename_i e
  subst e
  rw[h0,if_pos (List.getElem?_eq_some_iff.1 h0).1]
 ·rfl
theorem wP {w:World}{B g i:Nat}{v:Value}{bt:BT}{l:List BT}{rs:List Row}{what n:Nat}(h:SpSt w B g i v bt l rs)(hs:xh what n bt.blk=bt.blk):uE w B g i v bt l rs what n (.returned (.tuple #[])) w:=
 ⟨rfl,bt,by rw[set_same h.at'];exact h,hs.symm,Chg.refl _ _⟩
section
variable {w:World} {B g i:Nat} {v:Value} {bt:BT} {l:List BT} {rs:List Row} (h:SpSt w B g i v bt l rs)
include h
theorem SpSt.farP {x:Nat}(hx:bt.pv.ownBlock=some x):x≠g:=by
 have hp:(zd v l::(bt.rows++rs)).Perm (zP bt.pv bt.params::(zd v l::(yo bt.ov bt.ops::xg bt.tv bt.tos::(wI bt.ops++ve bt.tos)++rs))):=List.Perm.swap _ _ _
 have h1:=(h.rows.perm hp).apart (g:=x) hx
 rintro rfl
 exact h1 (List.mem_filterMap.2 ⟨zd v l,.head _,h.gb⟩)
theorem SpSt.farO {k:Nat}{o:IOp}{av:Value}(hk:bt.ops[k]? =some (o,av)){x:Nat}(hx:av.ownBlock=some x):x≠g/\bt.ov.ownBlock≠some x:=by
 have p1:(wI bt.ops).Perm (zP av o.args::(bt.ops.eraseIdx k).map fun o=>zP o.2 o.1.args):=tT (fun o:IOp×Value=>zP o.2 o.1.args) hk
 generalize (bt.ops.eraseIdx k).map (fun o=>zP o.2 o.1.args)=E at p1
 classical
 have c1:=List.perm_iff_count.1 p1
 have hp:(zd v l::(bt.rows++rs)).Perm (zP av o.args::(yo bt.ov bt.ops::(zd v l::zP bt.pv bt.params::xg bt.tv bt.tos::(E++ve bt.tos)++rs))):=by
  unfold BT.rows
  refine List.perm_iff_count.2 fun r=>?_
  have:=c1 r
  simp only[List.count_append,List.count_cons] at this ⊢
  omega
 have h1:=(h.rows.perm hp).apart (g:=x) hx
 refine⟨?_,fun e=>h1 (List.mem_filterMap.2 ⟨yo bt.ov bt.ops,.head _,e⟩)⟩
 rintro rfl
 exact h1 (List.mem_filterMap.2 ⟨zd v l,.tail _ (.head _),h.gb⟩)
theorem SpSt.farE {k:Nat}{o:IEdge}{av:Value}(hk:bt.tos[k]? =some (o,av)){x:Nat}(hx:av.ownBlock=some x):x≠g/\bt.tv.ownBlock≠some x:=by
 have p1:(ve bt.tos).Perm (zP av o.args::(bt.tos.eraseIdx k).map fun o=>zP o.2 o.1.args):=tT (fun o:IEdge×Value=>zP o.2 o.1.args) hk
 generalize (bt.tos.eraseIdx k).map (fun o=>zP o.2 o.1.args)=E at p1
 classical
 have c1:=List.perm_iff_count.1 p1
 have hp:(zd v l::(bt.rows++rs)).Perm (zP av o.args::(xg bt.tv bt.tos::(zd v l::zP bt.pv bt.params::yo bt.ov bt.ops::(wI bt.ops++E)++rs))):=by
  unfold BT.rows
  refine List.perm_iff_count.2 fun r=>?_
  have:=c1 r
  simp only[List.count_append,List.count_cons] at this ⊢
  omega
 have h1:=(h.rows.perm hp).apart (g:=x) hx
 refine⟨?_,fun e=>h1 (List.mem_filterMap.2 ⟨xg bt.tv bt.tos,.head _,e⟩)⟩
 rintro rfl
 exact h1 (List.mem_filterMap.2 ⟨zd v l,.tail _ (.head _),h.gb⟩)
end
theorem spoil_0 {w:World}{B g i:Nat}{v:Value}{bt:BT}{l:List BT}{rs:List Row}(h:SpSt w B g i v bt l rs){n:Nat}(hn:n<65536)(hz:SzB bt)(hol:0<bt.ops.length):
 Calls Try.prog 45 #[.pointer (some ⟨g,i*5,none⟩),.int .i64 0,.int .i64 (n:Int)] w (uE w B g i v bt l rs 0 n):=by
 have hrow:w.ownsRow B 77 6 bt.ov bt.ops.length (bt.ops.flatMap zU):=h.rows.own _ (.tail _ (List.mem_append_left _ (.tail _ (.head _))))
 obtain⟨xa,oc,hov⟩:=zG hrow
 have hrow2:=hrow
 rw[hov] at hrow2
 have hoc:=(zm hrow2).1
 obtain⟨ob,oc2,hxa,hobB,hobl⟩:=hrow2.form hol
 cases hxa
 have hgo:bt.ov.ownBlock=some ob:=by rw[hov];rfl
 obtain⟨k,hkn⟩:∃k,n%bt.ops.length=k:=⟨_,rfl⟩
 have hk:k<bt.ops.length:=by rw[<-hkn];exact Nat.mod_lt _ hol
 have hkI:(n:Int)%(bt.ops.length:Int)=(k:Int):=by rw[<-hkn];exact(Int.natCast_emod _ _).symm
 obtain⟨⟨o,av⟩,hko⟩:∃x,bt.ops[k]? =some x:=⟨_,List.getElem?_eq_getElem hk⟩
 have hbr:=z9 zX (h.rows.own _ (.head _)) h.gb h.at'
 have c1:w.cell? ⟨g,i*5+1,none⟩=some (.slice (some ⟨ob,0,none⟩) bt.ops.length oc):=by rw[<-hov];exact hbr 1 _ rfl
 have gl:=((h.rows.own _ (.head _)).lt g h.gb).2
 have hor:=z9 z7 hrow hgo hko
 have hlen:=hz.ops
 have oc':w.cell? ⟨ob,k*6,none⟩=some _:=hor 0 _ rfl
 have of:w.frozen? ⟨ob,k*6,none⟩=false:=(zq (by decide) z7 hrow hgo hko 0 (by decide)).2
 have HH:=Lib.hid (And.intro h (And.intro hgo (And.intro hko hkn)))
 clear h hrow hrow2 hov hgo hko hkn hbr hor hz hoc
 go_enter Try.func45,Try.ntmps45
 go_wp2
 first|go_end0|refine bodyPost_ret (results_none rfl _ _ _) rfl ?_
 refine⟨rfl,_,HH.out.1.setO HH.out.2.1 HH.out.2.2.1 (j:=0) (o':=spO 0 n o) (by decide) ?_ rfl,ws (by decide) HH.out.2.2.1 HH.out.2.2.2,(xJ (a:=⟨ob,k*6,none⟩) (r:=yo bt.ov bt.ops) HH.out.2.1).one (wZ v l bt)⟩
 rfl
theorem spoil_1 {w:World}{B g i:Nat}{v:Value}{bt:BT}{l:List BT}{rs:List Row}(h:SpSt w B g i v bt l rs){n:Nat}(hn:n<65536)(hz:SzB bt)(hol:0<bt.ops.length):
 Calls Try.prog 45 #[.pointer (some ⟨g,i*5,none⟩),.int .i64 1,.int .i64 (n:Int)] w (uE w B g i v bt l rs 1 n):=by
 have hrow:w.ownsRow B 77 6 bt.ov bt.ops.length (bt.ops.flatMap zU):=h.rows.own _ (.tail _ (List.mem_append_left _ (.tail _ (.head _))))
 obtain⟨xa,oc,hov⟩:=zG hrow
 have hrow2:=hrow
 rw[hov] at hrow2
 have hoc:=(zm hrow2).1
 obtain⟨ob,oc2,hxa,hobB,hobl⟩:=hrow2.form hol
 cases hxa
 have hgo:bt.ov.ownBlock=some ob:=by rw[hov];rfl
 obtain⟨k,hkn⟩:∃k,n%bt.ops.length=k:=⟨_,rfl⟩
 have hk:k<bt.ops.length:=by rw[<-hkn];exact Nat.mod_lt _ hol
 have hkI:(n:Int)%(bt.ops.length:Int)=(k:Int):=by rw[<-hkn];exact(Int.natCast_emod _ _).symm
 obtain⟨⟨o,av⟩,hko⟩:∃x,bt.ops[k]? =some x:=⟨_,List.getElem?_eq_getElem hk⟩
 have hbr:=z9 zX (h.rows.own _ (.head _)) h.gb h.at'
 have c1:w.cell? ⟨g,i*5+1,none⟩=some (.slice (some ⟨ob,0,none⟩) bt.ops.length oc):=by rw[<-hov];exact hbr 1 _ rfl
 have gl:=((h.rows.own _ (.head _)).lt g h.gb).2
 have hor:=z9 z7 hrow hgo hko
 have hlen:=hz.ops
 have oc':w.cell? ⟨ob,k*6+1,none⟩=some _:=hor 1 _ rfl
 have of:w.frozen? ⟨ob,k*6+1,none⟩=false:=(zq (by decide) z7 hrow hgo hko 1 (by decide)).2
 have HH:=Lib.hid (And.intro h (And.intro hgo (And.intro hko hkn)))
 clear h hrow hrow2 hov hgo hko hkn hbr hor hz hoc
 go_enter Try.func45,Try.ntmps45
 go_wp2
 first|go_end0|refine bodyPost_ret (results_none rfl _ _ _) rfl ?_
 refine⟨rfl,_,HH.out.1.setO HH.out.2.1 HH.out.2.2.1 (j:=1) (o':=spO 1 n o) (by decide) ?_ rfl,ws (by decide) HH.out.2.2.1 HH.out.2.2.2,(xJ (a:=⟨ob,k*6+1,none⟩) (r:=yo bt.ov bt.ops) HH.out.2.1).one (wZ v l bt)⟩
 rfl
theorem spoil_2 {w:World}{B g i:Nat}{v:Value}{bt:BT}{l:List BT}{rs:List Row}(h:SpSt w B g i v bt l rs){n:Nat}(hn:n<65536)(hz:SzB bt)(hol:0<bt.ops.length):
 Calls Try.prog 45 #[.pointer (some ⟨g,i*5,none⟩),.int .i64 2,.int .i64 (n:Int)] w (uE w B g i v bt l rs 2 n):=by
 have hrow:w.ownsRow B 77 6 bt.ov bt.ops.length (bt.ops.flatMap zU):=h.rows.own _ (.tail _ (List.mem_append_left _ (.tail _ (.head _))))
 obtain⟨xa,oc,hov⟩:=zG hrow
 have hrow2:=hrow
 rw[hov] at hrow2
 have hoc:=(zm hrow2).1
 obtain⟨ob,oc2,hxa,hobB,hobl⟩:=hrow2.form hol
 cases hxa
 have hgo:bt.ov.ownBlock=some ob:=by rw[hov];rfl
 obtain⟨k,hkn⟩:∃k,n%bt.ops.length=k:=⟨_,rfl⟩
 have hk:k<bt.ops.length:=by rw[<-hkn];exact Nat.mod_lt _ hol
 have hkI:(n:Int)%(bt.ops.length:Int)=(k:Int):=by rw[<-hkn];exact(Int.natCast_emod _ _).symm
 obtain⟨⟨o,av⟩,hko⟩:∃x,bt.ops[k]? =some x:=⟨_,List.getElem?_eq_getElem hk⟩
 have hbr:=z9 zX (h.rows.own _ (.head _)) h.gb h.at'
 have c1:w.cell? ⟨g,i*5+1,none⟩=some (.slice (some ⟨ob,0,none⟩) bt.ops.length oc):=by rw[<-hov];exact hbr 1 _ rfl
 have gl:=((h.rows.own _ (.head _)).lt g h.gb).2
 have hor:=z9 z7 hrow hgo hko
 have hlen:=hz.ops
 have oc':w.cell? ⟨ob,k*6+2,none⟩=some _:=hor 2 _ rfl
 have of:w.frozen? ⟨ob,k*6+2,none⟩=false:=(zq (by decide) z7 hrow hgo hko 2 (by decide)).2
 have HH:=Lib.hid (And.intro h (And.intro hgo (And.intro hko hkn)))
 clear h hrow hrow2 hov hgo hko hkn hbr hor hz hoc
 go_enter Try.func45,Try.ntmps45
 go_wp2
 first|go_end0|refine bodyPost_ret (results_none rfl _ _ _) rfl ?_
 refine⟨rfl,_,HH.out.1.setO HH.out.2.1 HH.out.2.2.1 (j:=2) (o':=spO 2 n o) (by decide) ?_ rfl,ws (by decide) HH.out.2.2.1 HH.out.2.2.2,(xJ (a:=⟨ob,k*6+2,none⟩) (r:=yo bt.ov bt.ops) HH.out.2.1).one (wZ v l bt)⟩
 rfl
theorem spoil_3 {w:World}{B g i:Nat}{v:Value}{bt:BT}{l:List BT}{rs:List Row}(h:SpSt w B g i v bt l rs){n:Nat}(hn:n<65536)(hz:SzB bt)(hol:0<bt.ops.length):
 Calls Try.prog 45 #[.pointer (some ⟨g,i*5,none⟩),.int .i64 3,.int .i64 (n:Int)] w (uE w B g i v bt l rs 3 n):=by
 have hrow:w.ownsRow B 77 6 bt.ov bt.ops.length (bt.ops.flatMap zU):=h.rows.own _ (.tail _ (List.mem_append_left _ (.tail _ (.head _))))
 obtain⟨xa,oc,hov⟩:=zG hrow
 have hrow2:=hrow
 rw[hov] at hrow2
 have hoc:=(zm hrow2).1
 obtain⟨ob,oc2,hxa,hobB,hobl⟩:=hrow2.form hol
 cases hxa
 have hgo:bt.ov.ownBlock=some ob:=by rw[hov];rfl
 obtain⟨k,hkn⟩:∃k,n%bt.ops.length=k:=⟨_,rfl⟩
 have hk:k<bt.ops.length:=by rw[<-hkn];exact Nat.mod_lt _ hol
 have hkI:(n:Int)%(bt.ops.length:Int)=(k:Int):=by rw[<-hkn];exact(Int.natCast_emod _ _).symm
 obtain⟨⟨o,av⟩,hko⟩:∃x,bt.ops[k]? =some x:=⟨_,List.getElem?_eq_getElem hk⟩
 have hbr:=z9 zX (h.rows.own _ (.head _)) h.gb h.at'
 have c1:w.cell? ⟨g,i*5+1,none⟩=some (.slice (some ⟨ob,0,none⟩) bt.ops.length oc):=by rw[<-hov];exact hbr 1 _ rfl
 have gl:=((h.rows.own _ (.head _)).lt g h.gb).2
 have hor:=z9 z7 hrow hgo hko
 have hlen:=hz.ops
 have oc':w.cell? ⟨ob,k*6+3,none⟩=some _:=hor 3 _ rfl
 have of:w.frozen? ⟨ob,k*6+3,none⟩=false:=(zq (by decide) z7 hrow hgo hko 3 (by decide)).2
 have HH:=Lib.hid (And.intro h (And.intro hgo (And.intro hko hkn)))
 clear h hrow hrow2 hov hgo hko hkn hbr hor hz hoc
 go_enter Try.func45,Try.ntmps45
 go_wp2
 first|go_end0|refine bodyPost_ret (results_none rfl _ _ _) rfl ?_
 refine⟨rfl,_,HH.out.1.setO HH.out.2.1 HH.out.2.2.1 (j:=3) (o':=spO 3 n o) (by decide) ?_ rfl,ws (by decide) HH.out.2.2.1 HH.out.2.2.2,(xJ (a:=⟨ob,k*6+3,none⟩) (r:=yo bt.ov bt.ops) HH.out.2.1).one (wZ v l bt)⟩
 rfl
theorem spoil_4 {w:World}{B g i:Nat}{v:Value}{bt:BT}{l:List BT}{rs:List Row}(h:SpSt w B g i v bt l rs){n:Nat}(hn:n<65536)(hz:SzB bt)(hol:0<bt.ops.length):
 Calls Try.prog 45 #[.pointer (some ⟨g,i*5,none⟩),.int .i64 4,.int .i64 (n:Int)] w (uE w B g i v bt l rs 4 n):=by
 have hrow:w.ownsRow B 77 6 bt.ov bt.ops.length (bt.ops.flatMap zU):=h.rows.own _ (.tail _ (List.mem_append_left _ (.tail _ (.head _))))
 obtain⟨xa,oc,hov⟩:=zG hrow
 have hrow2:=hrow
 rw[hov] at hrow2
 have hoc:=(zm hrow2).1
 obtain⟨ob,oc2,hxa,hobB,hobl⟩:=hrow2.form hol
 cases hxa
 have hgo:bt.ov.ownBlock=some ob:=by rw[hov];rfl
 obtain⟨k,hkn⟩:∃k,n%bt.ops.length=k:=⟨_,rfl⟩
 have hk:k<bt.ops.length:=by rw[<-hkn];exact Nat.mod_lt _ hol
 have hkI:(n:Int)%(bt.ops.length:Int)=(k:Int):=by rw[<-hkn];exact(Int.natCast_emod _ _).symm
 obtain⟨⟨o,av⟩,hko⟩:∃x,bt.ops[k]? =some x:=⟨_,List.getElem?_eq_getElem hk⟩
 have hbr:=z9 zX (h.rows.own _ (.head _)) h.gb h.at'
 have c1:w.cell? ⟨g,i*5+1,none⟩=some (.slice (some ⟨ob,0,none⟩) bt.ops.length oc):=by rw[<-hov];exact hbr 1 _ rfl
 have gl:=((h.rows.own _ (.head _)).lt g h.gb).2
 have hor:=z9 z7 hrow hgo hko
 have hlen:=hz.ops
 have oc':w.cell? ⟨ob,k*6+4,none⟩=some _:=hor 4 _ rfl
 have of:w.frozen? ⟨ob,k*6+4,none⟩=false:=(zq (by decide) z7 hrow hgo hko 4 (by decide)).2
 have HH:=Lib.hid (And.intro h (And.intro hgo (And.intro hko hkn)))
 clear h hrow hrow2 hov hgo hko hkn hbr hor hz hoc
 go_enter Try.func45,Try.ntmps45
 go_wp2
 first|go_end0|refine bodyPost_ret (results_none rfl _ _ _) rfl ?_
 refine⟨rfl,_,HH.out.1.setO HH.out.2.1 HH.out.2.2.1 (j:=4) (o':=spO 4 n o) (by decide) ?_ rfl,ws (by decide) HH.out.2.2.1 HH.out.2.2.2,(xJ (a:=⟨ob,k*6+4,none⟩) (r:=yo bt.ov bt.ops) HH.out.2.1).one (wZ v l bt)⟩
 rfl
open Go.RowKit
theorem spoil_9 {w:World}{B g i:Nat}{v:Value}{bt:BT}{l:List BT}{rs:List Row}(h:SpSt w B g i v bt l rs){n:Nat}(hn:n<65536)(hz:SzB bt):
 Calls Try.prog 45 #[.pointer (some ⟨g,i*5,none⟩),.int .i64 9,.int .i64 (n:Int)] w (uE w B g i v bt l rs 9 n):=by
 have hrow:w.ownsRow B 77 6 bt.ov bt.ops.length (bt.ops.flatMap zU):=h.rows.own _ (.tail _ (List.mem_append_left _ (.tail _ (.head _))))
 obtain⟨xa,oc,hov⟩:=zG hrow
 have hbr:=z9 zX (h.rows.own _ (.head _)) h.gb h.at'
 have hbt:=fun q (hq:q<5)=>(zq (by decide) zX (h.rows.own _ (.head _)) h.gb h.at' q hq).2
 have c1:w.cell? ⟨g,i*5+1,none⟩=some (.slice xa bt.ops.length oc):=by rw[<-hov];exact hbr 1 _ rfl
 have gl:=((h.rows.own _ (.head _)).lt g h.gb).2
 have hlen:=hz.ops
 have cj:w.cell? ⟨g,i*5+2,none⟩=some _:=hbr 2 _ rfl
 have fj:w.frozen? ⟨g,i*5+2,none⟩=false:=hbt 2 (by decide)
 have HH:=Lib.hid h
 clear h hrow hov hbr hbt hz
 by_cases hol:0<bt.ops.length
 ·have holI:(0:Int)<(bt.ops.length:Int):=by omega
  go_enter Try.func45,Try.ntmps45
  go_wp2
  first|go_end0|refine bodyPost_ret (results_none rfl _ _ _) rfl ?_
  refine⟨rfl,{bt with kind:=(n:Int)%7 },HH.out.setB (j:=2) (by decide) rfl rfl,rfl,(xJ (a:=⟨g,i*5+2,none⟩) (r:=zd v l) HH.out.gb).one (.head _)⟩
 ·have holI:¬(0:Int)<(bt.ops.length:Int):=by omega
  go_enter Try.func45,Try.ntmps45
  go_wp2
  first|go_end0|refine bodyPost_ret (results_none rfl _ _ _) rfl ?_
  refine⟨rfl,{bt with kind:=(n:Int)%7 },HH.out.setB (j:=2) (by decide) rfl rfl,rfl,(xJ (a:=⟨g,i*5+2,none⟩) (r:=zd v l) HH.out.gb).one (.head _)⟩
theorem spoil_10 {w:World}{B g i:Nat}{v:Value}{bt:BT}{l:List BT}{rs:List Row}(h:SpSt w B g i v bt l rs){n:Nat}(hn:n<65536)(hz:SzB bt):
 Calls Try.prog 45 #[.pointer (some ⟨g,i*5,none⟩),.int .i64 10,.int .i64 (n:Int)] w (uE w B g i v bt l rs 10 n):=by
 have hrow:w.ownsRow B 77 6 bt.ov bt.ops.length (bt.ops.flatMap zU):=h.rows.own _ (.tail _ (List.mem_append_left _ (.tail _ (.head _))))
 obtain⟨xa,oc,hov⟩:=zG hrow
 have hbr:=z9 zX (h.rows.own _ (.head _)) h.gb h.at'
 have hbt:=fun q (hq:q<5)=>(zq (by decide) zX (h.rows.own _ (.head _)) h.gb h.at' q hq).2
 have c1:w.cell? ⟨g,i*5+1,none⟩=some (.slice xa bt.ops.length oc):=by rw[<-hov];exact hbr 1 _ rfl
 have gl:=((h.rows.own _ (.head _)).lt g h.gb).2
 have hlen:=hz.ops
 have cj:w.cell? ⟨g,i*5+3,none⟩=some _:=hbr 3 _ rfl
 have fj:w.frozen? ⟨g,i*5+3,none⟩=false:=hbt 3 (by decide)
 have HH:=Lib.hid h
 clear h hrow hov hbr hbt hz
 by_cases hol:0<bt.ops.length
 ·have holI:(0:Int)<(bt.ops.length:Int):=by omega
  go_enter Try.func45,Try.ntmps45
  go_wp2
  first|go_end0|refine bodyPost_ret (results_none rfl _ _ _) rfl ?_
  refine⟨rfl,{bt with a:=(n:Int)%40-2 },HH.out.setB (j:=3) (by decide) rfl rfl,rfl,(xJ (a:=⟨g,i*5+3,none⟩) (r:=zd v l) HH.out.gb).one (.head _)⟩
 ·have holI:¬(0:Int)<(bt.ops.length:Int):=by omega
  go_enter Try.func45,Try.ntmps45
  go_wp2
  first|go_end0|refine bodyPost_ret (results_none rfl _ _ _) rfl ?_
  refine⟨rfl,{bt with a:=(n:Int)%40-2 },HH.out.setB (j:=3) (by decide) rfl rfl,rfl,(xJ (a:=⟨g,i*5+3,none⟩) (r:=zd v l) HH.out.gb).one (.head _)⟩
theorem spoil_19 {w:World}{B g i:Nat}{v:Value}{bt:BT}{l:List BT}{rs:List Row}(h:SpSt w B g i v bt l rs){n:Nat}(hn:n<65536)(hz:SzB bt):
 Calls Try.prog 45 #[.pointer (some ⟨g,i*5,none⟩),.int .i64 19,.int .i64 (n:Int)] w (uE w B g i v bt l rs 19 n):=by
 have hrow:w.ownsRow B 77 6 bt.ov bt.ops.length (bt.ops.flatMap zU):=h.rows.own _ (.tail _ (List.mem_append_left _ (.tail _ (.head _))))
 obtain⟨xa,oc,hov⟩:=zG hrow
 have hbr:=z9 zX (h.rows.own _ (.head _)) h.gb h.at'
 have hbt:=fun q (hq:q<5)=>(zq (by decide) zX (h.rows.own _ (.head _)) h.gb h.at' q hq).2
 have c1:w.cell? ⟨g,i*5+1,none⟩=some (.slice xa bt.ops.length oc):=by rw[<-hov];exact hbr 1 _ rfl
 have gl:=((h.rows.own _ (.head _)).lt g h.gb).2
 have hlen:=hz.ops
 have HH:=Lib.hid h
 clear h hrow hov hbr hbt hz
 by_cases hol:0<bt.ops.length
 ·have holI:(0:Int)<(bt.ops.length:Int):=by omega
  go_enter Try.func45,Try.ntmps45
  go_wp2
  first|go_end0|refine bodyPost_ret (results_none rfl _ _ _) rfl ?_
  exact wP HH.out rfl
 ·have holI:¬(0:Int)<(bt.ops.length:Int):=by omega
  go_enter Try.func45,Try.ntmps45
  go_wp2
  first|go_end0|refine bodyPost_ret (results_none rfl _ _ _) rfl ?_
  exact wP HH.out rfl
theorem mB {w:World}{B g i:Nat}{v:Value}{bt:BT}{l:List BT}{rs:List Row}(h:SpSt w B g i v bt l rs){n:Nat}(hn:n<65536)(hz:SzB bt){what:Nat}(hw:what<=7)(hol:bt.ops.length=0):
 Calls Try.prog 45 #[.pointer (some ⟨g,i*5,none⟩),.int .i64 (what:Int),.int .i64 (n:Int)] w (uE w B g i v bt l rs what n):=by
 have hrow:w.ownsRow B 77 6 bt.ov bt.ops.length (bt.ops.flatMap zU):=h.rows.own _ (.tail _ (List.mem_append_left _ (.tail _ (.head _))))
 obtain⟨xa,oc,hov⟩:=zG hrow
 have hbr:=z9 zX (h.rows.own _ (.head _)) h.gb h.at'
 have hbt:=fun q (hq:q<5)=>(zq (by decide) zX (h.rows.own _ (.head _)) h.gb h.at' q hq).2
 have c1:w.cell? ⟨g,i*5+1,none⟩=some (.slice xa bt.ops.length oc):=by rw[<-hov];exact hbr 1 _ rfl
 have gl:=((h.rows.own _ (.head _)).lt g h.gb).2
 have hlen:=hz.ops
 have HH:=Lib.hid (And.intro h hol)
 rw[hol] at c1
 have e8:((what:Int)==8)=false:=by rw[beq_eq_false_iff_ne];omega
 have e9:((what:Int)==9)=false:=by rw[beq_eq_false_iff_ne];omega
 have e10:((what:Int)==10)=false:=by rw[beq_eq_false_iff_ne];omega
 have e11:((what:Int)==11)=false:=by rw[beq_eq_false_iff_ne];omega
 have e12:((what:Int)==12)=false:=by rw[beq_eq_false_iff_ne];omega
 clear h hrow hov hbr hbt hz hol hlen
 go_enter Try.func45,Try.ntmps45
 go_wp2
 first|go_end0|refine bodyPost_ret (results_none rfl _ _ _) rfl ?_
 refine wP HH.out.1 ?_
 unfold xh BT.blk
 simp only[List.length_map]
 rw[if_pos hw,if_pos HH.out.2]
theorem spoil_7 {w:World}{B g i:Nat}{v:Value}{bt:BT}{l:List BT}{rs:List Row}(h:SpSt w B g i v bt l rs){n:Nat}(hn:n<65536)(hz:SzB bt)(hol:0<bt.ops.length):
 Calls Try.prog 45 #[.pointer (some ⟨g,i*5,none⟩),.int .i64 7,.int .i64 (n:Int)] w (uE w B g i v bt l rs 7 n):=by
 have hrow:w.ownsRow B 77 6 bt.ov bt.ops.length (bt.ops.flatMap zU):=h.rows.own _ (.tail _ (List.mem_append_left _ (.tail _ (.head _))))
 obtain⟨xa,oc,hov⟩:=zG hrow
 have hrow2:=hrow
 rw[hov] at hrow2
 have hoc:=(zm hrow2).1
 obtain⟨ob,oc2,hxa,hobB,hobl⟩:=hrow2.form hol
 cases hxa
 have hgo:bt.ov.ownBlock=some ob:=by rw[hov];rfl
 obtain⟨k,hkn⟩:∃k,n%bt.ops.length=k:=⟨_,rfl⟩
 have hk:k<bt.ops.length:=by rw[<-hkn];exact Nat.mod_lt _ hol
 have hkI:(n:Int)%(bt.ops.length:Int)=(k:Int):=by rw[<-hkn];exact(Int.natCast_emod _ _).symm
 obtain⟨⟨o,av⟩,hko⟩:∃x,bt.ops[k]? =some x:=⟨_,List.getElem?_eq_getElem hk⟩
 have hbr:=z9 zX (h.rows.own _ (.head _)) h.gb h.at'
 have c1:w.cell? ⟨g,i*5+1,none⟩=some (.slice (some ⟨ob,0,none⟩) bt.ops.length oc):=by rw[<-hov];exact hbr 1 _ rfl
 have gl:=((h.rows.own _ (.head _)).lt g h.gb).2
 have hor:=z9 z7 hrow hgo hko
 have hlen:=hz.ops
 have f1:w.frozen? ⟨g,i*5+1,none⟩=false:=(zq (by decide) zX (h.rows.own _ (.head _)) h.gb h.at' 1 (by decide)).2
 have hkc:(k:Int)<=(oc:Int):=by omega
 have HH:=Lib.hid (And.intro h (And.intro hov hkn))
 clear h hrow hrow2 hov hgo hko hkn hbr hor hz hoc
 go_enter Try.func45,Try.ntmps45
 go_wp2
 first|go_end0|refine bodyPost_ret (results_none rfl _ _ _) rfl ?_
 refine⟨rfl,_,HH.out.1.cutO HH.out.2.1 rfl (Nat.le_of_lt hk),?_,(xJ (a:=⟨g,i*5+1,none⟩) (r:=zd v l) HH.out.1.gb).one (.head _)⟩
 unfold xh BT.blk
 simp only[List.length_map]
 rw[if_pos (by omega),if_neg (by omega),if_neg (by omega),if_pos (by trivial),HH.out.2.2,List.map_take]
theorem spoil_8 {w:World}{B g i:Nat}{v:Value}{bt:BT}{l:List BT}{rs:List Row}(h:SpSt w B g i v bt l rs){n:Nat}(hn:n<65536)(hz:SzB bt):
 Calls Try.prog 45 #[.pointer (some ⟨g,i*5,none⟩),.int .i64 8,.int .i64 (n:Int)] w (uE w B g i v bt l rs 8 n):=by
 have hrow:w.ownsRow B 77 6 bt.ov bt.ops.length (bt.ops.flatMap zU):=h.rows.own _ (.tail _ (List.mem_append_left _ (.tail _ (.head _))))
 obtain⟨xa,oc,hov⟩:=zG hrow
 have hbr:=z9 zX (h.rows.own _ (.head _)) h.gb h.at'
 have hbt:=fun q (hq:q<5)=>(zq (by decide) zX (h.rows.own _ (.head _)) h.gb h.at' q hq).2
 have c1:w.cell? ⟨g,i*5+1,none⟩=some (.slice xa bt.ops.length oc):=by rw[<-hov];exact hbr 1 _ rfl
 have gl:=((h.rows.own _ (.head _)).lt g h.gb).2
 have hlen:=hz.ops
 have hpr:w.ownsRow B 3 1 bt.pv bt.params.length (bt.params.map zN):=h.rows.own (zP bt.pv bt.params) (.tail _ (List.mem_append_left _ (.head _)))
 obtain⟨pa,pc,hpv⟩:=zG hpr
 have c0:w.cell? ⟨g,i*5,none⟩=some (.slice pa bt.params.length pc):=by rw[<-hpv];exact hbr 0 _ rfl
 have f0:w.frozen? ⟨g,i*5,none⟩=false:=hbt 0 (by decide)
 have hpl:=hz.par
 have hne:some g≠(Value.slice pa bt.params.length pc).ownBlock:=by rw[<-hpv];exact fun e=>h.farP e.symm rfl
 have hB:B<=w.heap.size:=by have:=(h.rows.own _ (.head _)).lt g h.gb;omega
 obtain⟨ii,hii,hzi0,hzi1,hzi2⟩:=info_parts Try.info_int
 have HH:=Lib.hid (And.intro h (And.intro (show w.ownsRow B 3 1 (.slice pa bt.params.length pc) bt.params.length (bt.params.map zN) by rw[<-hpv];exact hpr) (And.intro hpv hne)))
 clear h hrow hov hbr hbt hz hpr hpv hne
 by_cases hol:0<bt.ops.length
 ·have holI:(0:Int)<(bt.ops.length:Int):=by omega
  go_enter Try.func45,Try.ntmps45
  go_wp2_with (at_builtin;go_must (refine zK _ rfl (.tmp 163) (.tmp 166) 22 rfl B 3 ii (.int .i64 0) 1 8 Try.underlying22 hii hzi0 hzi1 hzi2 rfl (by decide) (.slice pa bt.params.length pc) bt.params.length (bt.params.map zN) rfl (HH.out.2.1.alloc _) (.slice (some ⟨w.heap.size,0,none⟩) 1 1) 1 [.int .i64 ((n:Int)%40)] rfl (yM.one (zI rfl) rfl) (by unfold maxLen;omega) (by omega) (by simp;omega) ?_;intro v9 w9 hown9 hgrow9 hat9;obtain⟨ra,rc,rfl⟩:=zG hown9;have d0:w9.cell? ⟨g,i*5,none⟩=some (.slice pa bt.params.length pc):=(hgrow9.cell_far _ (by simp;omega) HH.out.2.2.2).trans ((World.cell?_alloc_lt _ _ _ gl).trans c0);have d1:w9.frozen? ⟨g,i*5,none⟩=false:=(hgrow9.frozen_far _ (by simp;omega) HH.out.2.2.2).trans ((Below.frozen ((Below.refl w.heap.size w).alloc (Nat.le_refl _) _) (p:=⟨g,i*5,none⟩) gl).trans f0);have HG:=Lib.hid (And.intro hown9 (And.intro hgrow9 hat9));clear hown9 hgrow9 hat9))
  first|go_end0|refine bodyPost_ret (results_none rfl _ _ _) rfl ?_
  have hpe:(Value.slice pa bt.params.length pc)=bt.pv:=HH.out.2.2.1.symm
  have hba:=(Below.refl w.heap.size w).alloc (Nat.le_refl _) (.cells #[.int .i64 ((n:Int)%40)] 3)
  have hgr:=HG.out.2.1
  rw[hpe] at hgr
  refine⟨rfl,{bt with params:=bt.params++ [(n:Int)%40],pv:=.slice ra (bt.params.length+1) rc },HH.out.1.growB (j:=0) (r:=zP bt.pv bt.params) (r':=zP (.slice ra (bt.params.length+1) rc) (bt.params++ [(n:Int)%40])) (List.Perm.refl _) hba hgr ?_ (fun x e=>?_) (List.Perm.refl _) (by decide) rfl,rfl,?_⟩
  ·show w9.ownsRow B 3 1 _ (bt.params++ [(n:Int)%40]).length ((bt.params++ [(n:Int)%40]).map zN)
   rw[List.length_append,List.length_singleton,List.map_append]
   exact HG.out.1
  ·rcases HG.out.2.2 with e2|e2
   ·left;rw[<-e,<-hpe];exact e2.symm
   ·right;have e3:=e2.symm.trans e;simp at e3;omega
  ·exact((Chg.below hba).trans ((uY (r:=zP bt.pv bt.params) hgr).one (.tail _ (.head _)))).trans ((xJ (a:=⟨g,i*5,none⟩) (r:=zd v l) HH.out.1.gb).one (.head _))
 ·have holI:¬(0:Int)<(bt.ops.length:Int):=by omega
  go_enter Try.func45,Try.ntmps45
  go_wp2_with (at_builtin;go_must (refine zK _ rfl (.tmp 163) (.tmp 166) 22 rfl B 3 ii (.int .i64 0) 1 8 Try.underlying22 hii hzi0 hzi1 hzi2 rfl (by decide) (.slice pa bt.params.length pc) bt.params.length (bt.params.map zN) rfl (HH.out.2.1.alloc _) (.slice (some ⟨w.heap.size,0,none⟩) 1 1) 1 [.int .i64 ((n:Int)%40)] rfl (yM.one (zI rfl) rfl) (by unfold maxLen;omega) (by omega) (by simp;omega) ?_;intro v9 w9 hown9 hgrow9 hat9;obtain⟨ra,rc,rfl⟩:=zG hown9;have d0:w9.cell? ⟨g,i*5,none⟩=some (.slice pa bt.params.length pc):=(hgrow9.cell_far _ (by simp;omega) HH.out.2.2.2).trans ((World.cell?_alloc_lt _ _ _ gl).trans c0);have d1:w9.frozen? ⟨g,i*5,none⟩=false:=(hgrow9.frozen_far _ (by simp;omega) HH.out.2.2.2).trans ((Below.frozen ((Below.refl w.heap.size w).alloc (Nat.le_refl _) _) (p:=⟨g,i*5,none⟩) gl).trans f0);have HG:=Lib.hid (And.intro hown9 (And.intro hgrow9 hat9));clear hown9 hgrow9 hat9))
  first|go_end0|refine bodyPost_ret (results_none rfl _ _ _) rfl ?_
  have hpe:(Value.slice pa bt.params.length pc)=bt.pv:=HH.out.2.2.1.symm
  have hba:=(Below.refl w.heap.size w).alloc (Nat.le_refl _) (.cells #[.int .i64 ((n:Int)%40)] 3)
  have hgr:=HG.out.2.1
  rw[hpe] at hgr
  refine⟨rfl,{bt with params:=bt.params++ [(n:Int)%40],pv:=.slice ra (bt.params.length+1) rc },HH.out.1.growB (j:=0) (r:=zP bt.pv bt.params) (r':=zP (.slice ra (bt.params.length+1) rc) (bt.params++ [(n:Int)%40])) (List.Perm.refl _) hba hgr ?_ (fun x e=>?_) (List.Perm.refl _) (by decide) rfl,rfl,?_⟩
  ·show w9.ownsRow B 3 1 _ (bt.params++ [(n:Int)%40]).length ((bt.params++ [(n:Int)%40]).map zN)
   rw[List.length_append,List.length_singleton,List.map_append]
   exact HG.out.1
  ·rcases HG.out.2.2 with e2|e2
   ·left;rw[<-e,<-hpe];exact e2.symm
   ·right;have e3:=e2.symm.trans e;simp at e3;omega
  ·exact((Chg.below hba).trans ((uY (r:=zP bt.pv bt.params) hgr).one (.tail _ (.head _)))).trans ((xJ (a:=⟨g,i*5,none⟩) (r:=zd v l) HH.out.1.gb).one (.head _))
theorem spoil_11 {w:World}{B g i:Nat}{v:Value}{bt:BT}{l:List BT}{rs:List Row}(h:SpSt w B g i v bt l rs){n:Nat}(hn:n<65536)(hz:SzB bt):
 Calls Try.prog 45 #[.pointer (some ⟨g,i*5,none⟩),.int .i64 11,.int .i64 (n:Int)] w (uE w B g i v bt l rs 11 n):=by
 have hrow:w.ownsRow B 77 6 bt.ov bt.ops.length (bt.ops.flatMap zU):=h.rows.own _ (.tail _ (List.mem_append_left _ (.tail _ (.head _))))
 obtain⟨xa,oc,hov⟩:=zG hrow
 have hbr:=z9 zX (h.rows.own _ (.head _)) h.gb h.at'
 have hbt:=fun q (hq:q<5)=>(zq (by decide) zX (h.rows.own _ (.head _)) h.gb h.at' q hq).2
 have c1:w.cell? ⟨g,i*5+1,none⟩=some (.slice xa bt.ops.length oc):=by rw[<-hov];exact hbr 1 _ rfl
 have gl:=((h.rows.own _ (.head _)).lt g h.gb).2
 have hlen:=hz.ops
 have hrowE:w.ownsRow B 75 2 bt.tv bt.tos.length (bt.tos.flatMap za):=h.rows.own _ (.tail _ (List.mem_append_left _ (.tail _ (.tail _ (.head _)))))
 obtain⟨ya,ec,htv⟩:=zG hrowE
 have c4:w.cell? ⟨g,i*5+4,none⟩=some (.slice ya bt.tos.length ec):=by rw[<-htv];exact hbr 4 _ rfl
 by_cases hel:0<bt.tos.length
 ·skip
  have hrowE2:=hrowE
  rw[htv] at hrowE2
  obtain⟨eb,ec2,hya,hebB,hebl⟩:=hrowE2.form hel
  cases hya
  have hge:bt.tv.ownBlock=some eb:=by rw[htv];rfl
  obtain⟨⟨o,av⟩,hko⟩:∃x,bt.tos[0]? =some x:=⟨_,List.getElem?_eq_getElem hel⟩
  have hor:=z9 yd hrowE hge hko
  have e0:w.cell? ⟨eb,0,none⟩=some _:=hor 0 _ rfl
  have ef:w.frozen? ⟨eb,0,none⟩=false:=(zq (by decide) yd hrowE hge hko 0 (by decide)).2
  have helI:(0:Int)<(bt.tos.length:Int):=by omega
  have HH:=Lib.hid (And.intro h (And.intro hge hko))
  clear h hrow hov hbr hbt hz hrowE hrowE2 htv hge hko hor
  by_cases hol:0<bt.ops.length
  ·have holI:(0:Int)<(bt.ops.length:Int):=by omega
   go_enter Try.func45,Try.ntmps45
   go_wp2
   first|go_end0|refine bodyPost_ret (results_none rfl _ _ _) rfl ?_
   refine⟨rfl,_,HH.out.1.setE (k:=0) HH.out.2.1 HH.out.2.2 (j:=0) (o':= {o with block:=(n:Int)%9-1 }) (by decide) ?_ rfl,?_,(xJ (a:=⟨eb,0,none⟩) (r:=xg bt.tv bt.tos) HH.out.2.1).one (rS v l bt)⟩
   ·rfl
   ·unfold xh BT.blk
    simp only
    rw[if_neg (by omega),if_neg (by omega),if_neg (by omega),if_neg (by omega),if_pos (by trivial),xI (x:=o) (by rw[List.getElem?_map,HH.out.2.2];rfl),List.map_set]
  ·have holI:¬(0:Int)<(bt.ops.length:Int):=by omega
   go_enter Try.func45,Try.ntmps45
   go_wp2
   first|go_end0|refine bodyPost_ret (results_none rfl _ _ _) rfl ?_
   refine⟨rfl,_,HH.out.1.setE (k:=0) HH.out.2.1 HH.out.2.2 (j:=0) (o':= {o with block:=(n:Int)%9-1 }) (by decide) ?_ rfl,?_,(xJ (a:=⟨eb,0,none⟩) (r:=xg bt.tv bt.tos) HH.out.2.1).one (rS v l bt)⟩
   ·rfl
   ·unfold xh BT.blk
    simp only
    rw[if_neg (by omega),if_neg (by omega),if_neg (by omega),if_neg (by omega),if_pos (by trivial),xI (x:=o) (by rw[List.getElem?_map,HH.out.2.2];rfl),List.map_set]
 ·have helI:¬(0:Int)<(bt.tos.length:Int):=by omega
  have HH:=Lib.hid (And.intro h hel)
  clear h hrow hov hbr hbt hz hrowE htv hel
  by_cases hol:0<bt.ops.length
  ·have holI:(0:Int)<(bt.ops.length:Int):=by omega
   go_enter Try.func45,Try.ntmps45
   go_wp2
   first|go_end0|refine bodyPost_ret (results_none rfl _ _ _) rfl ?_
   refine wP HH.out.1 ?_
   have e:bt.tos=[]:=List.eq_nil_of_length_eq_zero (by have:=HH.out.2;omega)
   unfold xh BT.blk
   rw[e]
   rfl
  ·have holI:¬(0:Int)<(bt.ops.length:Int):=by omega
   go_enter Try.func45,Try.ntmps45
   go_wp2
   first|go_end0|refine bodyPost_ret (results_none rfl _ _ _) rfl ?_
   refine wP HH.out.1 ?_
   have e:bt.tos=[]:=List.eq_nil_of_length_eq_zero (by have:=HH.out.2;omega)
   unfold xh BT.blk
   rw[e]
   rfl
open Go.RowKit
section
variable {P:Program} {ops:Array Oper} {Q:Exit->Act->World->Prop} {md:Region.Mode} {S:World->Prop} {L:Nat}
def uO (P:Program)(md:Region.Mode)(ops:Array Oper)(Q:Exit->Act->World->Prop)(S:World->Prop)(L:Nat):Nat->Array Bool->Act->World->Prop
 |0,listed,a,w=>Region.ready md ops listed=[]/\Q .normal a w
 |fuel+1,listed,a,w=>
  (Region.ready md ops listed=[]->Q .normal a w)/\
  ∀i∈Region.ready md ops listed,wpOp P ops Q i (fun a' w'=>(i≠L->S w')/\uO P md ops Q S L fuel (listed.setIfInBounds i true) a' w') a w
theorem pL:∀(fuel:Nat) (listed:Array Bool) (a:Act) (w:World),uO P md ops Q S L fuel listed a w->wpAny P md ops Q fuel listed a w
 |0,_,_,_,h=>h
 |fuel+1,_,_,_,h=>⟨h.1,fun i hi=>wpOp_mono (fun a' w' h'=>pL fuel _ a' w' h'.2) (h.2 i hi)⟩
def mw (md:Region.Mode)(ops:Array Oper)(L i:Nat):Bool:=((ops[L]?).map fun o=>o.after.any fun e=>Region.binds md e && e.on==i).getD false
theorem waits_ne {i j:Nat}{listed:Array Bool}(hw:mw md ops L i=true)(hi:listed.getD i true=false)(hj:j∈Region.ready md ops listed):j≠L:=by
 rintro rfl
 obtain⟨_,oj,hoj,hall⟩:=mem_ready.1 hj
 unfold mw at hw
 rw[hoj] at hw
 obtain⟨e,he,hb⟩:=Array.any_eq_true'.1 hw
 simp only[Bool.and_eq_true,beq_iff_eq] at hb
 have h1:=hall e he hb.1
 rw[hb.2] at h1
 rcases Nat.lt_or_ge i listed.size with h'|h'
 ·simp[h'] at hi h1;rw[hi] at h1;cases h1
 ·simp[Array.getElem?_eq_none h'] at h1
theorem nD {i:Nat}{oi:Oper}{v:Value}(hi:ops[i]? =some oi)(hwt:mw md ops L i=true)(hsel:∀(j:Nat) (o:Oper) cs b,ops[j]? =some o->o.op≠ .select cs b)
 (hQ:∀c a w,Q (.panic c) (a.put oi.dst v) w->Q (.panic c) a w):
 ∀(fuel:Nat) (listed:Array Bool) (a:Act) (w:World),
  (∀j oj,ops[j]? =some oj->j≠i->listed.getD j true=false->(∀e∈oj.after,Region.binds md e=true->e.on≠i)->oi.apart ops oj=true)->
  i∈Region.ready md ops listed->YieldsIf P ops S oi v a->S w->
  uO P md ops Q S L fuel (listed.setIfInBounds i true) (a.put oi.dst v) w->uO P md ops Q S L (fuel+1) listed a w:=by
 intro fuel
 induction fuel with
 |zero=>
  intro listed a w _ hr hy hS H
  refine⟨fun h=>(by rw[h] at hr;cases hr),fun j hj=>?_⟩
  by_cases hji:j=i
  ·subst hji;exact hy.wpOp hi hS ⟨fun _=>hS,H⟩
  ·have:=ready_mono hj hji
   rw[H.1] at this
   cases this
 |succ fuel ih=>
  intro listed a w hfree hr hy hS H
  refine⟨fun h=>(by rw[h] at hr;cases hr),fun j hj=>?_⟩
  by_cases hji:j=i
  ·subst hji;exact hy.wpOp hi hS ⟨fun _=>hS,H⟩
  ·have h1:=H.2 j (ready_mono hj hji)
   have hjL:j≠L:=waits_ne hwt (mem_ready.1 hr).1 hj
   obtain⟨hjun,oj,hoj,hall⟩:=mem_ready.1 hj
   have hnot:∀e∈oj.after,Region.binds md e=true->e.on≠i:=fun e he hb heq=>by
    have h1:=hall e he hb
    have h0:=(mem_ready.1 hr).1
    rw[heq] at h1
    rcases Nat.lt_or_ge i listed.size with h'|h'
    ·simp[h'] at h0 h1;rw[h0] at h1;cases h1
    ·simp[Array.getElem?_eq_none h'] at h1
   have h2:=wpOp_putIf hoj (hfree j oj hoj hji hjun hnot) (fun cs b=>hsel i oi cs b hi) (fun cs b=>hsel j oj cs b hoj) hQ hy h1
   have hfree':∀k ok,ops[k]? =some ok->k≠i->(listed.setIfInBounds j true).getD k true=false->
    (∀e∈ok.after,Region.binds md e=true->e.on≠i)->oi.apart ops ok=true:=fun k ok hk hki hun hno=>by
    refine hfree k ok hk hki ?_ hno
    by_cases hjk:j=k
    ·subst hjk;exact hjun
    ·rw[getD_set_ne true hjk] at hun;exact hun
   refine wpOp_mono (fun a' w' h3=>⟨h3.2.1,ih (listed.setIfInBounds j true) a' w' hfree' (ready_mono hr (Ne.symm hji)) h3.1 (h3.2.1 hjL) ?_⟩) h2
   rw[Array.setIfInBounds_comm _ _ hji]
   exact h3.2.2
theorem zF {i:Nat}{oi:Oper}{v:Value}{fuel:Nat}{listed:Array Bool}{a:Act}{w:World}(hi:ops[i]? =some oi)(hwt:mw md ops L i=true)
 (hs:Region.noSelect ops=true) (hf:Region.free md ops listed i=true) (hr:(Region.ready md ops listed).contains i=true)
 (hQ:∀c a w,Q (.panic c) (a.put oi.dst v) w->Q (.panic c) a w) (hy:YieldsIf P ops S oi v a) (hS:S w)
 (h:uO P md ops Q S L fuel (listed.setIfInBounds i true) (a.put oi.dst v) w):uO P md ops Q S L (fuel+1) listed a w:=
 nD hi hwt (Region.noSelect_spec hs) hQ fuel listed a w (Region.free_spec hi hf) (by simpa using hr) hy hS h
def zS (P:Program)(md:Region.Mode)(ops:Array Oper)(Q:Exit->Act->World->Prop)(S:World->Prop)(L:Nat)(fuel:Nat)(listed:Array Bool)(a:Act)(w:World)(rs:List Nat):Prop:=
 ∀i∈rs,wpOp P ops Q i (fun a' w'=>(i≠L->S w')/\uO P md ops Q S L fuel (listed.setIfInBounds i true) a' w') a w
theorem zS.nil {fuel:Nat}{listed:Array Bool}{a:Act}{w:World}:zS P md ops Q S L fuel listed a w []:=fun _ h=>by cases h
theorem zS.cons {fuel:Nat}{listed:Array Bool}{a:Act}{w:World}{i:Nat}{o:Oper}{rs:List Nat}(ho:ops[i]? =some o)
 (h:∀K':Act->World->Prop,Shut (∀a w,S w->(S w->uO P md ops Q S L fuel (listed.setIfInBounds i true) a w)->K' a w)->if Region.wanted o (yielded ops a.tmps)=true then Oper.wp P o a w K' Q else K' (a.put o.dst undef) w)
 (hs:zS P md ops Q S L fuel listed a w rs):zS P md ops Q S L fuel listed a w (i::rs):=fun j hj=>by
 rcases List.mem_cons.1 hj with rfl|hj
 ·exact wpOp_step ho (fun K' hK=>h K' (fun a w hS hW=>hK a w ⟨fun _=>hS,hW hS⟩))
 ·exact hs j hj
theorem zS.last {fuel:Nat}{listed:Array Bool}{a:Act}{w:World}{o:Oper}(ho:ops[L]? =some o)
 (h:∀K':Act->World->Prop,Shut (∀a w,uO P md ops Q S L fuel (listed.setIfInBounds L true) a w->K' a w)->if Region.wanted o (yielded ops a.tmps)=true then Oper.wp P o a w K' Q else K' (a.put o.dst undef) w):
 zS P md ops Q S L fuel listed a w [L]:=fun j hj=>by
 rcases List.mem_cons.1 hj with rfl|hj
 ·exact wpOp_step ho (fun K' hK=>h K' (fun a w hW=>hK a w ⟨fun e=>absurd rfl e,hW⟩))
 ·cases hj
theorem z8 {rs:List Nat}{fuel:Nat}{listed:Array Bool}{a:Act}{w:World}(hr:Region.ready md ops listed=rs)(hne:rs≠ [])
 (h:zS P md ops Q S L fuel listed a w rs):uO P md ops Q S L (fuel+1) listed a w:=⟨fun h0=>absurd (hr ▸ h0) hne,hr ▸ h⟩
theorem xj {listed:Array Bool}{a:Act}{w:World}(hr:Region.ready md ops listed=[])(h:Q .normal a w):∀fuel,uO P md ops Q S L fuel listed a w
 |0=>⟨hr,h⟩
 |_+1=>⟨fun _=>h,by rw[hr];simp⟩
theorem yQ {id:Nat}{a:Act}{w:World}(L:Nat)(hm:P.follows .mixedOrders=true)(hS:S w.drew)
 (h:S w.drew->uO P .any ops Q S L ops.size (Array.replicate ops.size false) a w.drew):(Code.region id ops true).wp P Q a w:=
 wp_region_any hm (pL _ _ _ _ (h hS))
end
open Go.RowKit
theorem spoil_5 {w:World}{B g i:Nat}{v:Value}{bt:BT}{l:List BT}{rs:List Row}(h:SpSt w B g i v bt l rs){n:Nat}(hn:n<65536)(hz:SzB bt)(hol:0<bt.ops.length):
 Calls Try.prog 45 #[.pointer (some ⟨g,i*5,none⟩),.int .i64 5,.int .i64 (n:Int)] w (uE w B g i v bt l rs 5 n):=by
 have hrow:w.ownsRow B 77 6 bt.ov bt.ops.length (bt.ops.flatMap zU):=h.rows.own _ (.tail _ (List.mem_append_left _ (.tail _ (.head _))))
 obtain⟨xa,oc,hov⟩:=zG hrow
 have hrow2:=hrow
 rw[hov] at hrow2
 have hoc:=(zm hrow2).1
 obtain⟨ob,oc2,hxa,hobB,hobl⟩:=hrow2.form hol
 cases hxa
 have hgo:bt.ov.ownBlock=some ob:=by rw[hov];rfl
 obtain⟨k,hkn⟩:∃k,n%bt.ops.length=k:=⟨_,rfl⟩
 have hk:k<bt.ops.length:=by rw[<-hkn];exact Nat.mod_lt _ hol
 have hkI:(n:Int)%(bt.ops.length:Int)=(k:Int):=by rw[<-hkn];exact(Int.natCast_emod _ _).symm
 obtain⟨⟨o,av⟩,hko⟩:∃x,bt.ops[k]? =some x:=⟨_,List.getElem?_eq_getElem hk⟩
 have hbr:=z9 zX (h.rows.own _ (.head _)) h.gb h.at'
 have c1:w.cell? ⟨g,i*5+1,none⟩=some (.slice (some ⟨ob,0,none⟩) bt.ops.length oc):=by rw[<-hov];exact hbr 1 _ rfl
 have gl:=((h.rows.own _ (.head _)).lt g h.gb).2
 have hor:=z9 z7 hrow hgo hko
 have hlen:=hz.ops
 have har:w.ownsRow B 3 1 av o.args.length (o.args.map zN):=h.rows.own (zP av o.args) (.tail _ (List.mem_append_left _ (.tail _ (.tail _ (.tail _ (List.mem_append_left _ (List.mem_map_of_mem (List.mem_of_getElem? hko))))))))
 obtain⟨aa,ac,hav⟩:=zG har
 have hal:o.args.length<=2000000:=hz.oarg _ (List.mem_of_getElem? hko)
 have c5:w.cell? ⟨ob,k*6+5,none⟩=some (.slice aa o.args.length ac):=by rw[<-hav];exact hor 5 _ rfl
 have f5':w.frozen? ⟨ob,k*6+5,none⟩=false:=(zq (by decide) z7 hrow hgo hko 5 (by decide)).2
 have hol2:ob<w.heap.size:=((h.rows.own _ (.tail _ (List.mem_append_left _ (.tail _ (.head _))))).lt ob hgo).2
 have s1:∀o,(w.drew.alloc o).cell? ⟨g,i*5+1,none⟩=some (.slice (some ⟨ob,0,none⟩) bt.ops.length oc):=fun o=>(World.cell?_alloc_lt w.drew _ _ gl).trans c1
 have s5:∀o,(w.drew.alloc o).cell? ⟨ob,k*6+5,none⟩=some _:=fun o=>(World.cell?_alloc_lt w.drew _ _ hol2).trans c5
 have f5:∀o,(w.drew.alloc o).frozen? ⟨ob,k*6+5,none⟩=false:=fun o=>(Below.frozen ((Below.refl w.heap.size w.drew).alloc (Nat.le_refl _) o) (p:=⟨ob,k*6+5,none⟩) hol2).trans f5'
 have hne:=fun x (hx:av.ownBlock=some x)=>h.farO hko hx
 have hB:B<=w.heap.size:=by have:=(h.rows.own _ (.head _)).lt g h.gb;omega
 have HN:=Lib.hid (show some g≠(Value.slice aa o.args.length ac).ownBlock/\some ob≠(Value.slice aa o.args.length ac).ownBlock by rw[<-hav];exact⟨fun e=>(hne g e.symm).1 rfl,fun e=>(hne ob e.symm).2 hgo⟩)
 have HR:=Lib.hid (show(w.alloc (.cells #[.int .i64 ((n:Int)/7%20)] 3)).drew.ownsRow B 3 1 (.slice aa o.args.length ac) o.args.length (o.args.map zN)/\yM (w.alloc (.cells #[.int .i64 ((n:Int)/7%20)] 3)).drew 1 (.slice (some ⟨w.heap.size,0,none⟩) 1 1) 1 [.int .i64 ((n:Int)/7%20)] by rw[<-hav];exact⟨har.alloc _,yM.one (w:=(w.alloc (.cells #[.int .i64 ((n:Int)/7%20)] 3)).drew) (zI (W:=w) rfl) rfl⟩)
 have hw1:IntKind.i64.wrap ((n:Int)/7)=(n:Int)/7:=IntWalk.i64_in _ (by omega)
 have hw2:((n:Int)/7).tmod 20=(n:Int)/7%20:=Int.tmod_eq_emod_of_nonneg (by omega)
 obtain⟨ii,hii,hzi0,hzi1,hzi2⟩:=info_parts Try.info_int
 have HH:=Lib.hid (And.intro h (And.intro hgo (And.intro hko (And.intro hav hkn))))
 clear h hrow hrow2 hov hgo hko hkn hbr hor hz hoc har hav hne
 go_enter Try.func45,Try.ntmps45
 go_wp2
 refine wp_region_noPanic ?_
 refine yQ (S:=(fun w'=>w'.cell? ⟨g,i*5+1,none⟩=some (.slice (some ⟨ob,0,none⟩) bt.ops.length oc)/\w'.cell? ⟨ob,k*6+5,none⟩=some (.slice aa o.args.length ac))) 20 (by kernel_rfl) ⟨c1,c5⟩ (fun hHeld=>?_)
 refine zF (i:=0) (oi:=_) (v:=?_) rfl (by kernel_rfl) (by kernel_rfl) (by kernel_rfl) (by kernel_rfl) (fun _ _ _ h=>h) (Or.inl ⟨by rfl,?_⟩) (by assumption) ?_
 rotate_left
 ·(intro w hSw;(try dsimp only at hSw);go_simp;try with_reducible rfl)
 (try simp only[Act.put,List.setIfInBounds_toArray,List.set_cons_zero,List.set_cons_succ])
 refine zF (i:=1) (oi:=_) (v:=?_) rfl (by kernel_rfl) (by kernel_rfl) (by kernel_rfl) (by kernel_rfl) (fun _ _ _ h=>h) (Or.inl ⟨by rfl,?_⟩) (by assumption) ?_
 rotate_left
 ·(intro w hSw;(try dsimp only at hSw);go_simp;try with_reducible rfl)
 (try simp only[Act.put,List.setIfInBounds_toArray,List.set_cons_zero,List.set_cons_succ])
 refine zF (i:=2) (oi:=_) (v:=?_) rfl (by kernel_rfl) (by kernel_rfl) (by kernel_rfl) (by kernel_rfl) (fun _ _ _ h=>h) (Or.inl ⟨by rfl,?_⟩) (by assumption) ?_
 rotate_left
 ·(intro w hSw;(try dsimp only at hSw);go_simp;try with_reducible rfl)
 (try simp only[Act.put,List.setIfInBounds_toArray,List.set_cons_zero,List.set_cons_succ])
 refine zF (i:=3) (oi:=_) (v:=?_) rfl (by kernel_rfl) (by kernel_rfl) (by kernel_rfl) (by kernel_rfl) (fun _ _ _ h=>h) (Or.inl ⟨by rfl,?_⟩) (by assumption) ?_
 rotate_left
 ·(intro w hSw;(try dsimp only at hSw);go_simp;try with_reducible rfl)
 (try simp only[Act.put,List.setIfInBounds_toArray,List.set_cons_zero,List.set_cons_succ])
 refine zF (i:=4) (oi:=_) (v:=?_) rfl (by kernel_rfl) (by kernel_rfl) (by kernel_rfl) (by kernel_rfl) (fun _ _ _ h=>h) (Or.inl ⟨by rfl,?_⟩) (by assumption) ?_
 rotate_left
 ·(intro w hSw;(try dsimp only at hSw);go_simp;try with_reducible rfl)
 (try simp only[Act.put,List.setIfInBounds_toArray,List.set_cons_zero,List.set_cons_succ])
 refine zF (i:=5) (oi:=_) (v:=?_) rfl (by kernel_rfl) (by kernel_rfl) (by kernel_rfl) (by kernel_rfl) (fun _ _ _ h=>h) (Or.inl ⟨by rfl,?_⟩) (by assumption) ?_
 rotate_left
 ·(intro w hSw;(try dsimp only at hSw);go_simp;try with_reducible rfl)
 (try simp only[Act.put,List.setIfInBounds_toArray,List.set_cons_zero,List.set_cons_succ])
 refine zF (i:=6) (oi:=_) (v:=?_) rfl (by kernel_rfl) (by kernel_rfl) (by kernel_rfl) (by kernel_rfl) (fun _ _ _ h=>h) (Or.inl ⟨by rfl,?_⟩) (by assumption) ?_
 rotate_left
 ·(intro w hSw;(try dsimp only at hSw);go_simp;try with_reducible rfl)
 (try simp only[Act.put,List.setIfInBounds_toArray,List.set_cons_zero,List.set_cons_succ])
 refine zF (i:=7) (oi:=_) (v:=?_) rfl (by kernel_rfl) (by kernel_rfl) (by kernel_rfl) (by kernel_rfl) (fun _ _ _ h=>h) (Or.inl ⟨by rfl,?_⟩) (by assumption) ?_
 rotate_left
 ·(intro w hSw;(try dsimp only at hSw);go_simp;try with_reducible rfl)
 (try simp only[Act.put,List.setIfInBounds_toArray,List.set_cons_zero,List.set_cons_succ])
 refine zF (i:=8) (oi:=_) (v:=?_) rfl (by kernel_rfl) (by kernel_rfl) (by kernel_rfl) (by kernel_rfl) (fun _ _ _ h=>h) (Or.inl ⟨by rfl,?_⟩) (by assumption) ?_
 rotate_left
 ·(intro w hSw;(try dsimp only at hSw);go_simp;try with_reducible rfl)
 (try simp only[Act.put,List.setIfInBounds_toArray,List.set_cons_zero,List.set_cons_succ])
 refine zF (i:=9) (oi:=_) (v:=?_) rfl (by kernel_rfl) (by kernel_rfl) (by kernel_rfl) (by kernel_rfl) (fun _ _ _ h=>h) (Or.inl ⟨by rfl,?_⟩) (by assumption) ?_
 rotate_left
 ·(intro w hSw;(try dsimp only at hSw);go_simp;try with_reducible rfl)
 (try simp only[Act.put,List.setIfInBounds_toArray,List.set_cons_zero,List.set_cons_succ])
 refine zF (i:=10) (oi:=_) (v:=?_) rfl (by kernel_rfl) (by kernel_rfl) (by kernel_rfl) (by kernel_rfl) (fun _ _ _ h=>h) (Or.inl ⟨by rfl,?_⟩) (by assumption) ?_
 rotate_left
 ·(intro w hSw;(try dsimp only at hSw);go_simp;try with_reducible rfl)
 (try simp only[Act.put,List.setIfInBounds_toArray,List.set_cons_zero,List.set_cons_succ])
 refine zF (i:=11) (oi:=_) (v:=?_) rfl (by kernel_rfl) (by kernel_rfl) (by kernel_rfl) (by kernel_rfl) (fun _ _ _ h=>h) (Or.inl ⟨by rfl,?_⟩) (by assumption) ?_
 rotate_left
 ·(intro w hSw;(try dsimp only at hSw);go_simp;try with_reducible rfl)
 (try simp only[Act.put,List.setIfInBounds_toArray,List.set_cons_zero,List.set_cons_succ])
 refine zF (i:=12) (oi:=_) (v:=?_) rfl (by kernel_rfl) (by kernel_rfl) (by kernel_rfl) (by kernel_rfl) (fun _ _ _ h=>h) (Or.inl ⟨by rfl,?_⟩) (by assumption) ?_
 rotate_left
 ·(intro w hSw;(try dsimp only at hSw);go_simp;try with_reducible rfl)
 (try simp only[Act.put,List.setIfInBounds_toArray,List.set_cons_zero,List.set_cons_succ])
 refine zF (i:=13) (oi:=_) (v:=?_) rfl (by kernel_rfl) (by kernel_rfl) (by kernel_rfl) (by kernel_rfl) (fun _ _ _ h=>h) (Or.inl ⟨by rfl,?_⟩) (by assumption) ?_
 rotate_left
 ·(intro w hSw;(try dsimp only at hSw);go_simp;try with_reducible rfl)
 (try simp only[Act.put,List.setIfInBounds_toArray,List.set_cons_zero,List.set_cons_succ])
 refine zF (i:=14) (oi:=_) (v:=?_) rfl (by kernel_rfl) (by kernel_rfl) (by kernel_rfl) (by kernel_rfl) (fun _ _ _ h=>h) (Or.inl ⟨by rfl,?_⟩) (by assumption) ?_
 rotate_left
 ·(intro w hSw;(try dsimp only at hSw);go_simp;try with_reducible rfl)
 (try simp only[Act.put,List.setIfInBounds_toArray,List.set_cons_zero,List.set_cons_succ])
 refine zF (i:=15) (oi:=_) (v:=?_) rfl (by kernel_rfl) (by kernel_rfl) (by kernel_rfl) (by kernel_rfl) (fun _ _ _ h=>h) (Or.inl ⟨by rfl,?_⟩) (by assumption) ?_
 rotate_left
 ·(intro w hSw;(try dsimp only at hSw);go_simp;try with_reducible rfl)
 (try simp only[Act.put,List.setIfInBounds_toArray,List.set_cons_zero,List.set_cons_succ])
 refine z8 (rs:=[16]) (by kernel_rfl) (by simp) ?_
 refine zS.cons (o:=_) rfl (fun K hK=>?_) ?_
 ·skip
  go_simp
  refine hK.out _ _ ⟨s1 _,s5 _⟩ (fun hHeld=>?_)
  clear hK K
  (try simp only[Act.put,List.setIfInBounds_toArray,List.set_cons_zero,List.set_cons_succ])
  refine z8 (rs:=[17]) (by kernel_rfl) (by simp) ?_
  refine zS.cons (o:=_) rfl (fun K hK=>?_) ?_
  ·skip
   (refine yG (by rfl) (.tmp 100) (.tmp 104) _ (by rfl) B 3 ii (.int .i64 0) 1 8 Try.underlying22 hii hzi0 hzi1 hzi2 rfl (by omega) (.slice aa o.args.length ac) o.args.length (o.args.map zN) (by rfl) HR.out.1 (.slice (some ⟨w.heap.size,0,none⟩) 1 1) 1 [.int .i64 ((n:Int)/7%20)] (by rfl) HR.out.2 (by unfold maxLen;omega) (by omega) (by simp;omega) ?_;intro ra rc w9 hown9 hgrow9 hat9;have hf9:w9.frozen? ⟨ob,k*6+5,none⟩=false:=(hgrow9.frozen_far _ (by simp;omega) HN.out.2).trans (f5 _);(try dsimp only))
   refine hK.out _ _ ⟨(hgrow9.cell_far _ (by simp;omega) HN.out.1).trans (s1 _),(hgrow9.cell_far _ (by simp;omega) HN.out.2).trans (s5 _)⟩ (fun hHeld=>?_)
   clear hK K
   (try simp only[Act.put,List.setIfInBounds_toArray,List.set_cons_zero,List.set_cons_succ])
   refine z8 (rs:=[18]) (by kernel_rfl) (by simp) ?_
   refine zS.cons (o:=_) rfl (fun K hK=>?_) ?_
   ·skip
    go_simp
    refine hK.out _ _ (by assumption) (fun hHeld=>?_)
    clear hK K
    (try simp only[Act.put,List.setIfInBounds_toArray,List.set_cons_zero,List.set_cons_succ])
    refine zF (i:=19) (oi:=_) (v:=?_) rfl (by kernel_rfl) (by kernel_rfl) (by kernel_rfl) (by kernel_rfl) (fun _ _ _ h=>h) (Or.inl ⟨by rfl,?_⟩) (by assumption) ?_
    rotate_left
    ·(intro w hSw;(try dsimp only at hSw);go_simp;try with_reducible rfl)
    (try simp only[Act.put,List.setIfInBounds_toArray,List.set_cons_zero,List.set_cons_succ])
    refine z8 (rs:=[20]) (by kernel_rfl) (by simp) ?_
    refine zS.last (o:=_) rfl (fun K hK=>?_)
    go_simp
    refine hK.out _ _ ?_
    clear hK K
    (try simp only[Act.put,List.setIfInBounds_toArray,List.set_cons_zero,List.set_cons_succ])
    refine xj (by kernel_rfl) (NoPanic.normal ?_) _
    have HG:=Lib.hid (And.intro hown9 (And.intro hgrow9 hat9))
    clear hown9 hgrow9 hat9
    go_wp2
    first|go_end0|refine bodyPost_ret (results_none rfl _ _ _) rfl ?_
    have hba:Below w.heap.size w (w.drew.alloc (.cells #[.int .i64 ((n:Int)/7%20)] 3)):=((Below.refl w.heap.size w).drew).alloc (by simp) _
    have hav:=HH.out.2.2.2.1
    have hgr:=HG.out.2.1
    rw[<-hav] at hgr
    refine⟨rfl,_,HH.out.1.growO (w1:=w.drew.alloc (.cells #[.int .i64 ((n:Int)/7%20)] 3)) (x:=(n:Int)/7%20) HH.out.2.1 HH.out.2.2.1 hba hgr HG.out.1 (fun x e=>?_),?_,?_⟩
    ·rcases HG.out.2.2 with e2|e2
     ·left;rw[<-e,hav];exact e2.symm
     ·right;have e3:=e2.symm.trans e;simp at e3;omega
    ·show({bt with ops:=bt.ops.set k (spO 5 n o,_)}:BT).blk=_
     have e:=ws (what:=5) (av:=av) (by decide) HH.out.2.2.1 HH.out.2.2.2.2
     rw[<-e]
     unfold BT.blk
     simp only[List.map_set]
    ·have hm:zP av o.args∈zd v l::bt.rows:=.tail _ (.tail _ (.tail _ (.tail _ (List.mem_append_left _ (List.mem_map_of_mem (List.mem_of_getElem? HH.out.2.2.1))))))
     exact((Chg.below hba).trans ((uY (r:=zP av o.args) hgr).one hm)).trans ((xJ (a:=⟨ob,k*6+5,none⟩) (r:=yo bt.ov bt.ops) HH.out.2.1).one (wZ v l bt))
   exact zS.nil
  exact zS.nil
 exact zS.nil
open Go.RowKit
theorem spoil_12 {w:World}{B g i:Nat}{v:Value}{bt:BT}{l:List BT}{rs:List Row}(h:SpSt w B g i v bt l rs){n:Nat}(hn:n<65536)(hz:SzB bt):
 Calls Try.prog 45 #[.pointer (some ⟨g,i*5,none⟩),.int .i64 12,.int .i64 (n:Int)] w (uE w B g i v bt l rs 12 n):=by
 have hrow:w.ownsRow B 77 6 bt.ov bt.ops.length (bt.ops.flatMap zU):=h.rows.own _ (.tail _ (List.mem_append_left _ (.tail _ (.head _))))
 obtain⟨xa,oc,hov⟩:=zG hrow
 have hbr:=z9 zX (h.rows.own _ (.head _)) h.gb h.at'
 have hbt:=fun q (hq:q<5)=>(zq (by decide) zX (h.rows.own _ (.head _)) h.gb h.at' q hq).2
 have c1:w.cell? ⟨g,i*5+1,none⟩=some (.slice xa bt.ops.length oc):=by rw[<-hov];exact hbr 1 _ rfl
 have gl:=((h.rows.own _ (.head _)).lt g h.gb).2
 have hlen:=hz.ops
 have hrowE:w.ownsRow B 75 2 bt.tv bt.tos.length (bt.tos.flatMap za):=h.rows.own _ (.tail _ (List.mem_append_left _ (.tail _ (.tail _ (.head _)))))
 obtain⟨ya,ec,htv⟩:=zG hrowE
 have c4:w.cell? ⟨g,i*5+4,none⟩=some (.slice ya bt.tos.length ec):=by rw[<-htv];exact hbr 4 _ rfl
 by_cases hel:0<bt.tos.length
 ·skip
  have hrowE2:=hrowE
  rw[htv] at hrowE2
  obtain⟨eb,ec2,hya,hebB,hebl⟩:=hrowE2.form hel
  cases hya
  have hge:bt.tv.ownBlock=some eb:=by rw[htv];rfl
  obtain⟨k,hkl⟩:∃k,bt.tos.length=k+1:=⟨bt.tos.length-1,by omega⟩
  obtain⟨⟨o,av⟩,hko⟩:∃x,bt.tos[k]? =some x:=⟨_,List.getElem?_eq_getElem (by omega)⟩
  have hor:=z9 yd hrowE hge hko
  have har:w.ownsRow B 3 1 av o.args.length (o.args.map zN):=h.rows.own (zP av o.args) (.tail _ (List.mem_append_left _ (.tail _ (.tail _ (.tail _ (List.mem_append_right _ (List.mem_map_of_mem (List.mem_of_getElem? hko))))))))
  obtain⟨aa,ac,hav⟩:=zG har
  have hal:o.args.length<=2000000:=hz.earg _ (List.mem_of_getElem? hko)
  have htl:=hz.tos
  have c5:w.cell? ⟨eb,k*2+1,none⟩=some (.slice aa o.args.length ac):=by rw[<-hav];exact hor 1 _ rfl
  have f5':w.frozen? ⟨eb,k*2+1,none⟩=false:=(zq (by decide) yd hrowE hge hko 1 (by decide)).2
  have hol2:eb<w.heap.size:=(hrowE.lt eb hge).2
  have s1:∀o,(w.drew.alloc o).cell? ⟨g,i*5+4,none⟩=some (.slice (some ⟨eb,0,none⟩) bt.tos.length ec):=fun o=>(World.cell?_alloc_lt w.drew _ _ gl).trans c4
  have s5:∀o,(w.drew.alloc o).cell? ⟨eb,k*2+1,none⟩=some _:=fun o=>(World.cell?_alloc_lt w.drew _ _ hol2).trans c5
  have f5:∀o,(w.drew.alloc o).frozen? ⟨eb,k*2+1,none⟩=false:=fun o=>(Below.frozen ((Below.refl w.heap.size w.drew).alloc (Nat.le_refl _) o) (p:=⟨eb,k*2+1,none⟩) hol2).trans f5'
  have hne:=fun x (hx:av.ownBlock=some x)=>h.farE hko hx
  have hB:B<=w.heap.size:=by have:=(h.rows.own _ (.head _)).lt g h.gb;omega
  have HN:=Lib.hid (show some g≠(Value.slice aa o.args.length ac).ownBlock/\some eb≠(Value.slice aa o.args.length ac).ownBlock by rw[<-hav];exact⟨fun e=>(hne g e.symm).1 rfl,fun e=>(hne eb e.symm).2 hge⟩)
  have HR:=Lib.hid (show(w.alloc (.cells #[.int .i64 ((n:Int)%40)] 3)).drew.ownsRow B 3 1 (.slice aa o.args.length ac) o.args.length (o.args.map zN)/\yM (w.alloc (.cells #[.int .i64 ((n:Int)%40)] 3)).drew 1 (.slice (some ⟨w.heap.size,0,none⟩) 1 1) 1 [.int .i64 ((n:Int)%40)] by rw[<-hav];exact⟨har.alloc _,yM.one (w:=(w.alloc (.cells #[.int .i64 ((n:Int)%40)] 3)).drew) (zI (W:=w) rfl) rfl⟩)
  obtain⟨ii,hii,hzi0,hzi1,hzi2⟩:=info_parts Try.info_int
  have helI:(0:Int)<(bt.tos.length:Int):=by omega
  have hkI:(k:Int)<(bt.tos.length:Int):=by omega
  have hwr:IntKind.i64.wrap ((bt.tos.length:Int)-1)=(k:Int):=by rw[show(bt.tos.length:Int)-1=(k:Int) by omega];exact IntWalk.i64_in _ (by omega)
  have HH:=Lib.hid (And.intro h (And.intro hge (And.intro hko (And.intro hav hkl))))
  clear h hrow hov hbr hbt hz hrowE hrowE2 htv hge hko hor har hav hne hkl
  go_enter Try.func45,Try.ntmps45
  go_upto_if 14 with fail
  go_cut [6,7,8] (fun a b c wx=>w=wx)
  case first=>
   by_cases hol:0<bt.ops.length
   ·have holI:(0:Int)<(bt.ops.length:Int):=by omega
    go_wp2
    go_meet
    rfl
   ·have holI:¬(0:Int)<(bt.ops.length:Int):=by omega
    go_wp2
    go_meet
    rfl
  case rest=>
  obtain rfl:=hcut
  go_wp2
  refine wp_region_noPanic ?_
  refine yQ (S:=(fun w'=>w'.cell? ⟨g,i*5+4,none⟩=some (.slice (some ⟨eb,0,none⟩) bt.tos.length ec)/\w'.cell? ⟨eb,k*2+1,none⟩=some (.slice aa o.args.length ac))) 33 (by kernel_rfl) ⟨c4,c5⟩ (fun hHeld=>?_)
  refine zF (i:=0) (oi:=_) (v:=?_) rfl (by kernel_rfl) (by kernel_rfl) (by kernel_rfl) (by kernel_rfl) (fun _ _ _ h=>h) (Or.inl ⟨by rfl,?_⟩) (by assumption) ?_
  rotate_left
  ·(intro w hSw;(try dsimp only at hSw);go_simp;try with_reducible rfl)
  (try simp only[Act.put,List.setIfInBounds_toArray,List.set_cons_zero,List.set_cons_succ])
  refine zF (i:=1) (oi:=_) (v:=?_) rfl (by kernel_rfl) (by kernel_rfl) (by kernel_rfl) (by kernel_rfl) (fun _ _ _ h=>h) (Or.inl ⟨by rfl,?_⟩) (by assumption) ?_
  rotate_left
  ·(intro w hSw;(try dsimp only at hSw);go_simp;try with_reducible rfl)
  (try simp only[Act.put,List.setIfInBounds_toArray,List.set_cons_zero,List.set_cons_succ])
  refine zF (i:=2) (oi:=_) (v:=?_) rfl (by kernel_rfl) (by kernel_rfl) (by kernel_rfl) (by kernel_rfl) (fun _ _ _ h=>h) (Or.inl ⟨by rfl,?_⟩) (by assumption) ?_
  rotate_left
  ·(intro w hSw;(try dsimp only at hSw);go_simp;try with_reducible rfl)
  (try simp only[Act.put,List.setIfInBounds_toArray,List.set_cons_zero,List.set_cons_succ])
  refine zF (i:=3) (oi:=_) (v:=?_) rfl (by kernel_rfl) (by kernel_rfl) (by kernel_rfl) (by kernel_rfl) (fun _ _ _ h=>h) (Or.inl ⟨by rfl,?_⟩) (by assumption) ?_
  rotate_left
  ·(intro w hSw;(try dsimp only at hSw);go_simp;try with_reducible rfl)
  (try simp only[Act.put,List.setIfInBounds_toArray,List.set_cons_zero,List.set_cons_succ])
  refine zF (i:=4) (oi:=_) (v:=?_) rfl (by kernel_rfl) (by kernel_rfl) (by kernel_rfl) (by kernel_rfl) (fun _ _ _ h=>h) (Or.inl ⟨by rfl,?_⟩) (by assumption) ?_
  rotate_left
  ·(intro w hSw;(try dsimp only at hSw);go_simp;try with_reducible rfl)
  (try simp only[Act.put,List.setIfInBounds_toArray,List.set_cons_zero,List.set_cons_succ])
  refine zF (i:=5) (oi:=_) (v:=?_) rfl (by kernel_rfl) (by kernel_rfl) (by kernel_rfl) (by kernel_rfl) (fun _ _ _ h=>h) (Or.inl ⟨by rfl,?_⟩) (by assumption) ?_
  rotate_left
  ·(intro w hSw;(try dsimp only at hSw);go_simp;try with_reducible rfl)
  (try simp only[Act.put,List.setIfInBounds_toArray,List.set_cons_zero,List.set_cons_succ])
  refine zF (i:=6) (oi:=_) (v:=?_) rfl (by kernel_rfl) (by kernel_rfl) (by kernel_rfl) (by kernel_rfl) (fun _ _ _ h=>h) (Or.inl ⟨by rfl,?_⟩) (by assumption) ?_
  rotate_left
  ·(intro w hSw;(try dsimp only at hSw);go_simp;try with_reducible rfl)
  (try simp only[Act.put,List.setIfInBounds_toArray,List.set_cons_zero,List.set_cons_succ])
  refine zF (i:=7) (oi:=_) (v:=?_) rfl (by kernel_rfl) (by kernel_rfl) (by kernel_rfl) (by kernel_rfl) (fun _ _ _ h=>h) (Or.inl ⟨by rfl,?_⟩) (by assumption) ?_
  rotate_left
  ·(intro w hSw;(try dsimp only at hSw);go_simp;try with_reducible rfl)
  (try simp only[Act.put,List.setIfInBounds_toArray,List.set_cons_zero,List.set_cons_succ])
  refine zF (i:=8) (oi:=_) (v:=?_) rfl (by kernel_rfl) (by kernel_rfl) (by kernel_rfl) (by kernel_rfl) (fun _ _ _ h=>h) (Or.inl ⟨by rfl,?_⟩) (by assumption) ?_
  rotate_left
  ·(intro w hSw;(try dsimp only at hSw);go_simp;try with_reducible rfl)
  (try simp only[Act.put,List.setIfInBounds_toArray,List.set_cons_zero,List.set_cons_succ])
  refine zF (i:=9) (oi:=_) (v:=?_) rfl (by kernel_rfl) (by kernel_rfl) (by kernel_rfl) (by kernel_rfl) (fun _ _ _ h=>h) (Or.inl ⟨by rfl,?_⟩) (by assumption) ?_
  rotate_left
  ·(intro w hSw;(try dsimp only at hSw);go_simp;try with_reducible rfl)
  (try simp only[Act.put,List.setIfInBounds_toArray,List.set_cons_zero,List.set_cons_succ])
  refine zF (i:=10) (oi:=_) (v:=?_) rfl (by kernel_rfl) (by kernel_rfl) (by kernel_rfl) (by kernel_rfl) (fun _ _ _ h=>h) (Or.inl ⟨by rfl,?_⟩) (by assumption) ?_
  rotate_left
  ·(intro w hSw;(try dsimp only at hSw);go_simp;try with_reducible rfl)
  (try simp only[Act.put,List.setIfInBounds_toArray,List.set_cons_zero,List.set_cons_succ])
  refine zF (i:=11) (oi:=_) (v:=?_) rfl (by kernel_rfl) (by kernel_rfl) (by kernel_rfl) (by kernel_rfl) (fun _ _ _ h=>h) (Or.inl ⟨by rfl,?_⟩) (by assumption) ?_
  rotate_left
  ·(intro w hSw;(try dsimp only at hSw);go_simp;try with_reducible rfl)
  (try simp only[Act.put,List.setIfInBounds_toArray,List.set_cons_zero,List.set_cons_succ])
  refine zF (i:=12) (oi:=_) (v:=?_) rfl (by kernel_rfl) (by kernel_rfl) (by kernel_rfl) (by kernel_rfl) (fun _ _ _ h=>h) (Or.inl ⟨by rfl,?_⟩) (by assumption) ?_
  rotate_left
  ·(intro w hSw;(try dsimp only at hSw);go_simp;try with_reducible rfl)
  (try simp only[Act.put,List.setIfInBounds_toArray,List.set_cons_zero,List.set_cons_succ])
  refine zF (i:=13) (oi:=_) (v:=?_) rfl (by kernel_rfl) (by kernel_rfl) (by kernel_rfl) (by kernel_rfl) (fun _ _ _ h=>h) (Or.inl ⟨by rfl,?_⟩) (by assumption) ?_
  rotate_left
  ·(intro w hSw;(try dsimp only at hSw);go_simp;try with_reducible rfl)
  (try simp only[Act.put,List.setIfInBounds_toArray,List.set_cons_zero,List.set_cons_succ])
  refine zF (i:=14) (oi:=_) (v:=?_) rfl (by kernel_rfl) (by kernel_rfl) (by kernel_rfl) (by kernel_rfl) (fun _ _ _ h=>h) (Or.inl ⟨by rfl,?_⟩) (by assumption) ?_
  rotate_left
  ·(intro w hSw;(try dsimp only at hSw);go_simp;try with_reducible rfl)
  (try simp only[Act.put,List.setIfInBounds_toArray,List.set_cons_zero,List.set_cons_succ])
  refine zF (i:=15) (oi:=_) (v:=?_) rfl (by kernel_rfl) (by kernel_rfl) (by kernel_rfl) (by kernel_rfl) (fun _ _ _ h=>h) (Or.inl ⟨by rfl,?_⟩) (by assumption) ?_
  rotate_left
  ·(intro w hSw;(try dsimp only at hSw);go_simp;try with_reducible rfl)
  (try simp only[Act.put,List.setIfInBounds_toArray,List.set_cons_zero,List.set_cons_succ])
  refine zF (i:=16) (oi:=_) (v:=?_) rfl (by kernel_rfl) (by kernel_rfl) (by kernel_rfl) (by kernel_rfl) (fun _ _ _ h=>h) (Or.inl ⟨by rfl,?_⟩) (by assumption) ?_
  rotate_left
  ·(intro w hSw;(try dsimp only at hSw);go_simp;try with_reducible rfl)
  (try simp only[Act.put,List.setIfInBounds_toArray,List.set_cons_zero,List.set_cons_succ])
  refine zF (i:=17) (oi:=_) (v:=?_) rfl (by kernel_rfl) (by kernel_rfl) (by kernel_rfl) (by kernel_rfl) (fun _ _ _ h=>h) (Or.inl ⟨by rfl,?_⟩) (by assumption) ?_
  rotate_left
  ·(intro w hSw;(try dsimp only at hSw);go_simp;try with_reducible rfl)
  (try simp only[Act.put,List.setIfInBounds_toArray,List.set_cons_zero,List.set_cons_succ])
  refine zF (i:=18) (oi:=_) (v:=?_) rfl (by kernel_rfl) (by kernel_rfl) (by kernel_rfl) (by kernel_rfl) (fun _ _ _ h=>h) (Or.inl ⟨by rfl,?_⟩) (by assumption) ?_
  rotate_left
  ·(intro w hSw;(try dsimp only at hSw);go_simp;try with_reducible rfl)
  (try simp only[Act.put,List.setIfInBounds_toArray,List.set_cons_zero,List.set_cons_succ])
  refine zF (i:=19) (oi:=_) (v:=?_) rfl (by kernel_rfl) (by kernel_rfl) (by kernel_rfl) (by kernel_rfl) (fun _ _ _ h=>h) (Or.inl ⟨by rfl,?_⟩) (by assumption) ?_
  rotate_left
  ·(intro w hSw;(try dsimp only at hSw);go_simp;try with_reducible rfl)
  (try simp only[Act.put,List.setIfInBounds_toArray,List.set_cons_zero,List.set_cons_succ])
  refine zF (i:=20) (oi:=_) (v:=?_) rfl (by kernel_rfl) (by kernel_rfl) (by kernel_rfl) (by kernel_rfl) (fun _ _ _ h=>h) (Or.inl ⟨by rfl,?_⟩) (by assumption) ?_
  rotate_left
  ·(intro w hSw;(try dsimp only at hSw);go_simp;try with_reducible rfl)
  (try simp only[Act.put,List.setIfInBounds_toArray,List.set_cons_zero,List.set_cons_succ])
  refine zF (i:=21) (oi:=_) (v:=?_) rfl (by kernel_rfl) (by kernel_rfl) (by kernel_rfl) (by kernel_rfl) (fun _ _ _ h=>h) (Or.inl ⟨by rfl,?_⟩) (by assumption) ?_
  rotate_left
  ·(intro w hSw;(try dsimp only at hSw);go_simp;try with_reducible rfl)
  (try simp only[Act.put,List.setIfInBounds_toArray,List.set_cons_zero,List.set_cons_succ])
  refine zF (i:=22) (oi:=_) (v:=?_) rfl (by kernel_rfl) (by kernel_rfl) (by kernel_rfl) (by kernel_rfl) (fun _ _ _ h=>h) (Or.inl ⟨by rfl,?_⟩) (by assumption) ?_
  rotate_left
  ·(intro w hSw;(try dsimp only at hSw);go_simp;try with_reducible rfl)
  (try simp only[Act.put,List.setIfInBounds_toArray,List.set_cons_zero,List.set_cons_succ])
  refine zF (i:=23) (oi:=_) (v:=?_) rfl (by kernel_rfl) (by kernel_rfl) (by kernel_rfl) (by kernel_rfl) (fun _ _ _ h=>h) (Or.inl ⟨by rfl,?_⟩) (by assumption) ?_
  rotate_left
  ·(intro w hSw;(try dsimp only at hSw);go_simp;try with_reducible rfl)
  (try simp only[Act.put,List.setIfInBounds_toArray,List.set_cons_zero,List.set_cons_succ])
  refine zF (i:=24) (oi:=_) (v:=?_) rfl (by kernel_rfl) (by kernel_rfl) (by kernel_rfl) (by kernel_rfl) (fun _ _ _ h=>h) (Or.inl ⟨by rfl,?_⟩) (by assumption) ?_
  rotate_left
  ·(intro w hSw;(try dsimp only at hSw);go_simp;try with_reducible rfl)
  (try simp only[Act.put,List.setIfInBounds_toArray,List.set_cons_zero,List.set_cons_succ])
  refine zF (i:=25) (oi:=_) (v:=?_) rfl (by kernel_rfl) (by kernel_rfl) (by kernel_rfl) (by kernel_rfl) (fun _ _ _ h=>h) (Or.inl ⟨by rfl,?_⟩) (by assumption) ?_
  rotate_left
  ·(intro w hSw;(try dsimp only at hSw);go_simp;try with_reducible rfl)
  (try simp only[Act.put,List.setIfInBounds_toArray,List.set_cons_zero,List.set_cons_succ])
  refine zF (i:=26) (oi:=_) (v:=?_) rfl (by kernel_rfl) (by kernel_rfl) (by kernel_rfl) (by kernel_rfl) (fun _ _ _ h=>h) (Or.inl ⟨by rfl,?_⟩) (by assumption) ?_
  rotate_left
  ·(intro w hSw;(try dsimp only at hSw);go_simp;try with_reducible rfl)
  (try simp only[Act.put,List.setIfInBounds_toArray,List.set_cons_zero,List.set_cons_succ])
  refine zF (i:=27) (oi:=_) (v:=?_) rfl (by kernel_rfl) (by kernel_rfl) (by kernel_rfl) (by kernel_rfl) (fun _ _ _ h=>h) (Or.inl ⟨by rfl,?_⟩) (by assumption) ?_
  rotate_left
  ·(intro w hSw;(try dsimp only at hSw);go_simp;try with_reducible rfl)
  (try simp only[Act.put,List.setIfInBounds_toArray,List.set_cons_zero,List.set_cons_succ])
  refine zF (i:=28) (oi:=_) (v:=?_) rfl (by kernel_rfl) (by kernel_rfl) (by kernel_rfl) (by kernel_rfl) (fun _ _ _ h=>h) (Or.inl ⟨by rfl,?_⟩) (by assumption) ?_
  rotate_left
  ·(intro w hSw;(try dsimp only at hSw);go_simp;try with_reducible rfl)
  (try simp only[Act.put,List.setIfInBounds_toArray,List.set_cons_zero,List.set_cons_succ])
  refine z8 (rs:=[29]) (by kernel_rfl) (by simp) ?_
  refine zS.cons (o:=_) rfl (fun K hK=>?_) ?_
  ·skip
   go_simp
   refine hK.out _ _ ⟨s1 _,s5 _⟩ (fun hHeld=>?_)
   clear hK K
   (try simp only[Act.put,List.setIfInBounds_toArray,List.set_cons_zero,List.set_cons_succ])
   refine z8 (rs:=[30]) (by kernel_rfl) (by simp) ?_
   refine zS.cons (o:=_) rfl (fun K hK=>?_) ?_
   ·skip
    (refine yG (by rfl) (.tmp 241) (.tmp 244) _ (by rfl) B 3 ii (.int .i64 0) 1 8 Try.underlying22 hii hzi0 hzi1 hzi2 rfl (by omega) (.slice aa o.args.length ac) o.args.length (o.args.map zN) (by rfl) HR.out.1 (.slice (some ⟨w.heap.size,0,none⟩) 1 1) 1 [.int .i64 ((n:Int)%40)] (by rfl) HR.out.2 (by unfold maxLen;omega) (by omega) (by simp;omega) ?_;intro ra rc w9 hown9 hgrow9 hat9;have hf9:w9.frozen? ⟨eb,k*2+1,none⟩=false:=(hgrow9.frozen_far _ (by simp;omega) HN.out.2).trans (f5 _);(try dsimp only))
    refine hK.out _ _ ⟨(hgrow9.cell_far _ (by simp;omega) HN.out.1).trans (s1 _),(hgrow9.cell_far _ (by simp;omega) HN.out.2).trans (s5 _)⟩ (fun hHeld=>?_)
    clear hK K
    (try simp only[Act.put,List.setIfInBounds_toArray,List.set_cons_zero,List.set_cons_succ])
    refine z8 (rs:=[31]) (by kernel_rfl) (by simp) ?_
    refine zS.cons (o:=_) rfl (fun K hK=>?_) ?_
    ·skip
     go_simp
     refine hK.out _ _ (by assumption) (fun hHeld=>?_)
     clear hK K
     (try simp only[Act.put,List.setIfInBounds_toArray,List.set_cons_zero,List.set_cons_succ])
     refine zF (i:=32) (oi:=_) (v:=?_) rfl (by kernel_rfl) (by kernel_rfl) (by kernel_rfl) (by kernel_rfl) (fun _ _ _ h=>h) (Or.inl ⟨by rfl,?_⟩) (by assumption) ?_
     rotate_left
     ·(intro w hSw;(try dsimp only at hSw);go_simp;try with_reducible rfl)
     (try simp only[Act.put,List.setIfInBounds_toArray,List.set_cons_zero,List.set_cons_succ])
     refine z8 (rs:=[33]) (by kernel_rfl) (by simp) ?_
     refine zS.last (o:=_) rfl (fun K hK=>?_)
     go_simp
     refine hK.out _ _ ?_
     clear hK K
     (try simp only[Act.put,List.setIfInBounds_toArray,List.set_cons_zero,List.set_cons_succ])
     refine xj (by kernel_rfl) (NoPanic.normal ?_) _
     have HG:=Lib.hid (And.intro hown9 (And.intro hgrow9 hat9))
     clear hown9 hgrow9 hat9
     go_wp2
     first|go_end0|refine bodyPost_ret (results_none rfl _ _ _) rfl ?_
     have hba:Below w.heap.size w (w.drew.alloc (.cells #[.int .i64 ((n:Int)%40)] 3)):=((Below.refl w.heap.size w).drew).alloc (by simp) _
     have hav:=HH.out.2.2.2.1
     have hgr:=HG.out.2.1
     rw[<-hav] at hgr
     refine⟨rfl,_,HH.out.1.growE (w1:=w.drew.alloc (.cells #[.int .i64 ((n:Int)%40)] 3)) (x:=(n:Int)%40) HH.out.2.1 HH.out.2.2.1 hba hgr HG.out.1 (fun x e=>?_),?_,?_⟩
     ·rcases HG.out.2.2 with e2|e2
      ·left;rw[<-e,hav];exact e2.symm
      ·right;have e3:=e2.symm.trans e;simp at e3;omega
     ·have hkl:=HH.out.2.2.2.2
      unfold xh BT.blk
      simp only[List.length_map]
      rw[if_neg (by omega),if_neg (by omega),if_neg (by omega),if_neg (by omega),if_neg (by omega),if_pos (by trivial),show bt.tos.length-1=k by omega,xI (x:=o) (by rw[List.getElem?_map,HH.out.2.2.1];rfl),List.map_set]
     ·have hm:zP av o.args∈zd v l::bt.rows:=.tail _ (.tail _ (.tail _ (.tail _ (List.mem_append_right _ (List.mem_map_of_mem (List.mem_of_getElem? HH.out.2.2.1))))))
      exact((Chg.below hba).trans ((uY (r:=zP av o.args) hgr).one hm)).trans ((xJ (a:=⟨eb,k*2+1,none⟩) (r:=xg bt.tv bt.tos) HH.out.2.1).one (rS v l bt))
    exact zS.nil
   exact zS.nil
  exact zS.nil
 ·have helI:¬(0:Int)<(bt.tos.length:Int):=by omega
  have HH:=Lib.hid (And.intro h hel)
  clear h hrow hov hbr hbt hz hrowE htv hel
  by_cases hol:0<bt.ops.length
  ·have holI:(0:Int)<(bt.ops.length:Int):=by omega
   go_enter Try.func45,Try.ntmps45
   go_wp2
   first|go_end0|refine bodyPost_ret (results_none rfl _ _ _) rfl ?_
   refine wP HH.out.1 ?_
   have e:bt.tos=[]:=List.eq_nil_of_length_eq_zero (by have:=HH.out.2;omega)
   unfold xh BT.blk
   rw[e]
   rfl
  ·have holI:¬(0:Int)<(bt.ops.length:Int):=by omega
   go_enter Try.func45,Try.ntmps45
   go_wp2
   first|go_end0|refine bodyPost_ret (results_none rfl _ _ _) rfl ?_
   refine wP HH.out.1 ?_
   have e:bt.tos=[]:=List.eq_nil_of_length_eq_zero (by have:=HH.out.2;omega)
   unfold xh BT.blk
   rw[e]
   rfl
open Go.RowKit
structure SwMid (w:World) (B g i:Nat) (v:Value) (bt:BT) (l:List BT) (rs:List Row) (ob k j:Nat) (o:IOp) (av:Value) (o2:IOp) (av2:Value) (oc:Nat) (wx:World):Prop where
 rows:Rows wx B (yo bt.ov (bt.ops.set k (o2,av2))::(zd v l::zP bt.pv bt.params::xg bt.tv bt.tos::(wI bt.ops++ve bt.tos)++rs))
 blk:wx.heap[w.heap.size]? =some (.cells (zU (o,av)).toArray 77 (0,0))
 chg:Chg w (zd v l::bt.rows) wx
 c1:wx.cell? ⟨g,i*5+1,none⟩=some (.slice (some ⟨ob,0,none⟩) bt.ops.length oc)
 cell:∀ {q:Nat},q<6->∃u,wx.cell? ⟨ob,j*6+q,none⟩=some u
 free:∀ {q:Nat},q<6->wx.frozen? ⟨ob,j*6+q,none⟩=false
 lt:w.heap.size<wx.heap.size/\g<wx.heap.size/\ob<wx.heap.size
theorem SwMid.box {w:World}{B g i:Nat}{v:Value}{bt:BT}{l:List BT}{rs:List Row}{ob k j:Nat}{o:IOp}{av:Value}{o2:IOp}{av2:Value}{oc:Nat}{wx:World}(m:SwMid w B g i v bt l rs ob k j o av o2 av2 oc wx){q:Nat}{u:Value}(h:(zU (o,av))[q]? =some u):wx.cell? ⟨w.heap.size,q,none⟩=some u:=
 zA m.blk (by rw[List.getElem?_toArray];exact h)
theorem mR {w:World}{b o:Nat}{vs:List Value}{r:Row}(h:r.blk=some b):Chg w [r] (w.setCells b o vs):=
 ⟨(ze b vs o w).1,(ze b vs o w).2.1,(ze b vs o w).2.2,Nat.le_of_eq (y8 b vs o w).symm,fun k hk hn=>ye b k (fun e=>hn (by rw[List.mem_filterMap];exact⟨r,.head _,by rw[h,e]⟩)) vs o w⟩
theorem iP {α β:Type}(f:α->β){l:List α}{k j:Nat}{x y:α}(hk:l[k]? =some x)(hj:l[j]? =some y):(((l.set k y).set j x).map f).Perm (l.map f):=by
 have hkl:=(List.getElem?_eq_some_iff.1 hk).1
 have hjl:=(List.getElem?_eq_some_iff.1 hj).1
 have hj1:(l.set k y)[j]? =some y:=by
  by_cases e:k=j
  ·subst e;rw[List.getElem?_set_self hkl]
  ·rw[List.getElem?_set_ne e];exact hj
 have h1:=rM f (l:=l.set k y) (k:=j) (by rw[List.length_set];exact hjl) x
 have h2:=tT f hj1
 have h3:=rM f hkl y
 have h4:=tT f hk
 have h5:((l.set k y).eraseIdx j).map f|>.Perm ((l.eraseIdx k).map f):=(List.perm_cons (f y)).1 (h2.symm.trans h3)
 exact(h1.trans (h5.cons _)).trans h4.symm
section
variable {w:World} {B g i:Nat} {v:Value} {bt:BT} {l:List BT} {rs:List Row} (h:SpSt w B g i v bt l rs)
include h
theorem swMid_of {ob k j oc:Nat}{o o2:IOp}{av av2:Value}(hgo:bt.ov.ownBlock=some ob)(hk:bt.ops[k]? =some (o,av))(hj:bt.ops[j]? =some (o2,av2))(hov:bt.ov=.slice (some ⟨ob,0,none⟩) bt.ops.length oc)(hgob:g≠ob):
 SwMid w B g i v bt l rs ob k j o av o2 av2 oc (((w.setCells ob (k*6) (zU (o2,av2))).alloc (.cells (zU (o,av)).toArray 77)).drew):=by
 have hp:(zd v l::(bt.rows++rs)).Perm (yo bt.ov bt.ops::(zd v l::zP bt.pv bt.params::xg bt.tv bt.tos::(wI bt.ops++ve bt.tos)++rs)):=by
  classical
  unfold BT.rows
  refine List.perm_iff_count.2 fun r=>?_
  simp only[List.count_append,List.count_cons]
  omega
 have h1:=putO (x:=(o2,av2)) hgo (h.rows.perm hp) hk rfl
 have hb:Below (w.setCells ob (k*6) (zU (o2,av2))).heap.size (w.setCells ob (k*6) (zU (o2,av2))) (((w.setCells ob (k*6) (zU (o2,av2))).alloc (.cells (zU (o,av)).toArray 77)).drew):=((Below.refl _ _).alloc (Nat.le_refl _) _).drew
 have h2:=h1.below hb
 have hsz:=y8 ob (zU (o2,av2)) (k*6) w
 have hget:∃y,(bt.ops.set k (o2,av2))[j]? =some y:=⟨_,List.getElem?_eq_getElem (by rw[List.length_set];exact(List.getElem?_eq_some_iff.1 hj).1)⟩
 obtain⟨y,hy⟩:=hget
 have hth:=zq (n:=6) (by decide) z7 (h2.own _ (.head _)) hgo hy
 have hl:=h.rows.own _ (.head _)
 have hgl:=(hl.lt g h.gb).2
 have hbs:=hb.size
 refine⟨h2,zI (W:=w.setCells ob (k*6) (zU (o2,av2))) hsz,?_,?_,fun {q} hq=>?_,fun {q} hq=>(hth q hq).2,?_⟩
 ·exact((mR (r:=yo bt.ov bt.ops) hgo).one (wZ v l bt)).trans (Chg.below hb)
 ·have:=z9 zX (h2.own (zd v l) (.tail _ (.head _))) h.gb h.at' 1 _ rfl
  rw[this,hov]
 ·exact Option.isSome_iff_exists.1 (hth q hq).1
 ·have h6:=((h.rows.perm hp).own _ (.head _)).lt ob hgo
  have h7:=lt_of_block (zI (W:=w.setCells ob (k*6) (zU (o2,av2))) (o:=.cells (zU (o,av)).toArray 77) hsz)
  exact⟨h7,Nat.lt_trans hgl h7,Nat.lt_trans h6.2 h7⟩
theorem SwMid.close {ob k j oc n:Nat}{o o2:IOp}{av av2:Value}{wx:World}(m:SwMid w B g i v bt l rs ob k j o av o2 av2 oc wx)(hgo:bt.ov.ownBlock=some ob)(hk:bt.ops[k]? =some (o,av))(hj:bt.ops[j]? =some (o2,av2))(hkn:n%bt.ops.length=k)(hjn:n/7%bt.ops.length=j):
 uE w B g i v bt l rs 6 n (.returned (.tuple #[])) ((wx.setCells ob (j*6) (zU (o,av))).drew):=by
 have hget:∃y,(bt.ops.set k (o2,av2))[j]? =some y:=⟨_,List.getElem?_eq_getElem (by rw[List.length_set];exact(List.getElem?_eq_some_iff.1 hj).1)⟩
 obtain⟨y,hy⟩:=hget
 have h1:=(putO (x:=(o,av)) hgo m.rows hy rfl).below ((Below.refl _ _).drew)
 have hs:(wI ((bt.ops.set k (o2,av2)).set j (o,av))).Perm (wI bt.ops):=iP (fun o:IOp×Value=>zP o.2 o.1.args) hk hj
 refine⟨rfl,{bt with ops:=(bt.ops.set k (o2,av2)).set j (o,av)},h.sub rfl (h1.perm ?_),?_,?_⟩
 ·classical
  have c1:=List.perm_iff_count.1 hs
  unfold BT.rows
  refine List.perm_iff_count.2 fun r=>?_
  have:=c1 r
  simp only[List.count_append,List.count_cons] at this ⊢
  omega
 ·have hkl:=(List.getElem?_eq_some_iff.1 hk).1
  unfold xh BT.blk
  simp only[List.length_map]
  rw[if_pos (by omega),if_neg (by omega),if_pos (by trivial),hkn,hjn,List.getElem?_map,hk,List.getElem?_map,hj]
  simp only[Option.map_some,List.map_set]
 ·exact m.chg.trans (((mR (r:=yo bt.ov bt.ops) hgo).one (wZ v l bt)).trans (Chg.below ((Below.refl _ _).drew)))
end
theorem spoil_6 {w:World}{B g i:Nat}{v:Value}{bt:BT}{l:List BT}{rs:List Row}(h:SpSt w B g i v bt l rs){n:Nat}(hn:n<65536)(hz:SzB bt)(hol:0<bt.ops.length):
 Calls Try.prog 45 #[.pointer (some ⟨g,i*5,none⟩),.int .i64 6,.int .i64 (n:Int)] w (uE w B g i v bt l rs 6 n):=by
 have hrow:w.ownsRow B 77 6 bt.ov bt.ops.length (bt.ops.flatMap zU):=h.rows.own _ (.tail _ (List.mem_append_left _ (.tail _ (.head _))))
 obtain⟨xa,oc,hov⟩:=zG hrow
 have hrow2:=hrow
 rw[hov] at hrow2
 have hoc:=(zm hrow2).1
 obtain⟨ob,oc2,hxa,hobB,hobl⟩:=hrow2.form hol
 cases hxa
 have hgo:bt.ov.ownBlock=some ob:=by rw[hov];rfl
 obtain⟨k,hkn⟩:∃k,n%bt.ops.length=k:=⟨_,rfl⟩
 have hk:k<bt.ops.length:=by rw[<-hkn];exact Nat.mod_lt _ hol
 have hkI:(n:Int)%(bt.ops.length:Int)=(k:Int):=by rw[<-hkn];exact(Int.natCast_emod _ _).symm
 obtain⟨⟨o,av⟩,hko⟩:∃x,bt.ops[k]? =some x:=⟨_,List.getElem?_eq_getElem hk⟩
 have hbr:=z9 zX (h.rows.own _ (.head _)) h.gb h.at'
 have c1:w.cell? ⟨g,i*5+1,none⟩=some (.slice (some ⟨ob,0,none⟩) bt.ops.length oc):=by rw[<-hov];exact hbr 1 _ rfl
 have gl:=((h.rows.own _ (.head _)).lt g h.gb).2
 have hor:=z9 z7 hrow hgo hko
 have hlen:=hz.ops
 obtain⟨j,hjn⟩:∃j,n/7%bt.ops.length=j:=⟨_,rfl⟩
 have hj:j<bt.ops.length:=by rw[<-hjn];exact Nat.mod_lt _ hol
 have hjI:(n:Int)/7%(bt.ops.length:Int)=(j:Int):=by rw[<-hjn];simp
 have hjI2:((n:Int)/7).tmod (bt.ops.length:Int)=(j:Int):=by rw[Int.tmod_eq_emod_of_nonneg (by omega)];exact hjI
 obtain⟨⟨o2,av2⟩,hjo⟩:∃x,bt.ops[j]? =some x:=⟨_,List.getElem?_eq_getElem hj⟩
 have har:w.ownsRow B 3 1 av o.args.length (o.args.map zN):=h.rows.own (zP av o.args) (.tail _ (List.mem_append_left _ (.tail _ (.tail _ (.tail _ (List.mem_append_left _ (List.mem_map_of_mem (List.mem_of_getElem? hko))))))))
 have har2:w.ownsRow B 3 1 av2 o2.args.length (o2.args.map zN):=h.rows.own (zP av2 o2.args) (.tail _ (List.mem_append_left _ (.tail _ (.tail _ (.tail _ (List.mem_append_left _ (List.mem_map_of_mem (List.mem_of_getElem? hjo))))))))
 obtain⟨aa,ac,rfl⟩:=zG har
 obtain⟨aa2,ac2,rfl⟩:=zG har2
 have hor2:=z9 z7 hrow hgo hjo
 have hth:=zq (by decide) z7 hrow hgo hko
 have hth2:=zq (by decide) z7 hrow hgo hjo
 have hol2:ob<w.heap.size:=hobl
 have k0:w.cell? ⟨ob,k*6,none⟩=some (.int .i64 o.code):=hor 0 _ rfl
 have k1:w.cell? ⟨ob,k*6+1,none⟩=some (.int .i64 o.res):=hor 1 _ rfl
 have k2:w.cell? ⟨ob,k*6+2,none⟩=some (.int .i64 o.a):=hor 2 _ rfl
 have k3:w.cell? ⟨ob,k*6+3,none⟩=some (.int .i64 o.b):=hor 3 _ rfl
 have k4:w.cell? ⟨ob,k*6+4,none⟩=some (.int .u16 (o.n:Int)):=hor 4 _ rfl
 have k5:w.cell? ⟨ob,k*6+5,none⟩=some (.slice aa o.args.length ac):=hor 5 _ rfl
 have j0:w.cell? ⟨ob,j*6,none⟩=some (.int .i64 o2.code):=hor2 0 _ rfl
 have j1:w.cell? ⟨ob,j*6+1,none⟩=some (.int .i64 o2.res):=hor2 1 _ rfl
 have j2:w.cell? ⟨ob,j*6+2,none⟩=some (.int .i64 o2.a):=hor2 2 _ rfl
 have j3:w.cell? ⟨ob,j*6+3,none⟩=some (.int .i64 o2.b):=hor2 3 _ rfl
 have j4:w.cell? ⟨ob,j*6+4,none⟩=some (.int .u16 (o2.n:Int)):=hor2 4 _ rfl
 have j5:w.cell? ⟨ob,j*6+5,none⟩=some (.slice aa2 o2.args.length ac2):=hor2 5 _ rfl
 have fk0:w.frozen? ⟨ob,k*6,none⟩=false:=(hth 0 (by decide)).2
 have fk1:w.frozen? ⟨ob,k*6+1,none⟩=false:=(hth 1 (by decide)).2
 have fk2:w.frozen? ⟨ob,k*6+2,none⟩=false:=(hth 2 (by decide)).2
 have fk3:w.frozen? ⟨ob,k*6+3,none⟩=false:=(hth 3 (by decide)).2
 have fk4:w.frozen? ⟨ob,k*6+4,none⟩=false:=(hth 4 (by decide)).2
 have fk5:w.frozen? ⟨ob,k*6+5,none⟩=false:=(hth 5 (by decide)).2
 have hB:B<=w.heap.size:=by have:=(h.rows.own _ (.head _)).lt g h.gb;omega
 have hgob:g≠ob:=fun e=>by
  have hp:(zd v l::(bt.rows++rs)).Perm (yo bt.ov bt.ops::(zd v l::zP bt.pv bt.params::xg bt.tv bt.tos::(wI bt.ops++ve bt.tos)++rs)):=by
   classical
   unfold BT.rows
   refine List.perm_iff_count.2 fun r=>?_
   simp only[List.count_append,List.count_cons]
   omega
  exact(h.rows.perm hp).apart (g:=ob) hgo (List.mem_filterMap.2 ⟨zd v l,.head _,by rw[<-e];exact h.gb⟩)
 have HH:=Lib.hid (And.intro h (And.intro hgo (And.intro hko (And.intro hjo (And.intro hkn (And.intro hjn (And.intro hov hgob)))))))
 clear h hrow hrow2 hov hgo hko hkn hbr hor hz hoc hjo hjn hor2 hth hth2 har har2
 go_enter Try.func45,Try.ntmps45
 go_upto_region 18 with fail
 go_cut [6] (fun s6 wx=>s6=.int .i64 (k:Int)/\Hid (SwMid w B g i v bt l rs ob k j o (.slice aa o.args.length ac) o2 (.slice aa2 o2.args.length ac2) oc wx))
 case first=>
  skip
  refine wp_region_noPanic ?_
  refine yQ (S:=(fun w'=>w'.cell? ⟨g,i*5+1,none⟩=some (.slice (some ⟨ob,0,none⟩) bt.ops.length oc)/\w'.cell? ⟨ob,j*6,none⟩=some (.int .i64 o2.code)/\w'.cell? ⟨ob,j*6+1,none⟩=some (.int .i64 o2.res)/\w'.cell? ⟨ob,j*6+2,none⟩=some (.int .i64 o2.a)/\w'.cell? ⟨ob,j*6+3,none⟩=some (.int .i64 o2.b)/\w'.cell? ⟨ob,j*6+4,none⟩=some (.int .u16 (o2.n:Int))/\w'.cell? ⟨ob,j*6+5,none⟩=some (.slice aa2 o2.args.length ac2))) 13 (by kernel_rfl) ⟨(World.cell?_alloc_lt w _ _ gl).trans c1,(World.cell?_alloc_lt w _ _ hol2).trans j0,(World.cell?_alloc_lt w _ _ hol2).trans j1,(World.cell?_alloc_lt w _ _ hol2).trans j2,(World.cell?_alloc_lt w _ _ hol2).trans j3,(World.cell?_alloc_lt w _ _ hol2).trans j4,(World.cell?_alloc_lt w _ _ hol2).trans j5⟩ (fun hHeld=>?_)
  refine zF (i:=0) (oi:=_) (v:=?_) rfl (by kernel_rfl) (by kernel_rfl) (by kernel_rfl) (by kernel_rfl) (fun _ _ _ h=>h) (Or.inl ⟨by rfl,?_⟩) (by assumption) ?_
  rotate_left
  ·(intro w hSw;(try dsimp only at hSw);go_simp;try with_reducible rfl)
  (try simp only[Act.put,List.setIfInBounds_toArray,List.set_cons_zero,List.set_cons_succ])
  refine zF (i:=1) (oi:=_) (v:=?_) rfl (by kernel_rfl) (by kernel_rfl) (by kernel_rfl) (by kernel_rfl) (fun _ _ _ h=>h) (Or.inl ⟨by rfl,?_⟩) (by assumption) ?_
  rotate_left
  ·(intro w hSw;(try dsimp only at hSw);go_simp;try with_reducible rfl)
  (try simp only[Act.put,List.setIfInBounds_toArray,List.set_cons_zero,List.set_cons_succ])
  refine zF (i:=2) (oi:=_) (v:=?_) rfl (by kernel_rfl) (by kernel_rfl) (by kernel_rfl) (by kernel_rfl) (fun _ _ _ h=>h) (Or.inl ⟨by rfl,?_⟩) (by assumption) ?_
  rotate_left
  ·(intro w hSw;(try dsimp only at hSw);go_simp;try with_reducible rfl)
  (try simp only[Act.put,List.setIfInBounds_toArray,List.set_cons_zero,List.set_cons_succ])
  refine zF (i:=3) (oi:=_) (v:=?_) rfl (by kernel_rfl) (by kernel_rfl) (by kernel_rfl) (by kernel_rfl) (fun _ _ _ h=>h) (Or.inl ⟨by rfl,?_⟩) (by assumption) ?_
  rotate_left
  ·(intro w hSw;(try dsimp only at hSw);go_simp;try with_reducible rfl)
  (try simp only[Act.put,List.setIfInBounds_toArray,List.set_cons_zero,List.set_cons_succ])
  refine zF (i:=4) (oi:=_) (v:=?_) rfl (by kernel_rfl) (by kernel_rfl) (by kernel_rfl) (by kernel_rfl) (fun _ _ _ h=>h) (Or.inl ⟨by rfl,?_⟩) (by assumption) ?_
  rotate_left
  ·(intro w hSw;(try dsimp only at hSw);go_simp;try with_reducible rfl)
  (try simp only[Act.put,List.setIfInBounds_toArray,List.set_cons_zero,List.set_cons_succ])
  refine zF (i:=5) (oi:=_) (v:=?_) rfl (by kernel_rfl) (by kernel_rfl) (by kernel_rfl) (by kernel_rfl) (fun _ _ _ h=>h) (Or.inl ⟨by rfl,?_⟩) (by assumption) ?_
  rotate_left
  ·(intro w hSw;(try dsimp only at hSw);go_simp;try with_reducible rfl)
  (try simp only[Act.put,List.setIfInBounds_toArray,List.set_cons_zero,List.set_cons_succ])
  refine zF (i:=6) (oi:=_) (v:=?_) rfl (by kernel_rfl) (by kernel_rfl) (by kernel_rfl) (by kernel_rfl) (fun _ _ _ h=>h) (Or.inl ⟨by rfl,?_⟩) (by assumption) ?_
  rotate_left
  ·(intro w hSw;(try dsimp only at hSw);go_simp;try with_reducible rfl)
  (try simp only[Act.put,List.setIfInBounds_toArray,List.set_cons_zero,List.set_cons_succ])
  refine zF (i:=7) (oi:=_) (v:=?_) rfl (by kernel_rfl) (by kernel_rfl) (by kernel_rfl) (by kernel_rfl) (fun _ _ _ h=>h) (Or.inl ⟨by rfl,?_⟩) (by assumption) ?_
  rotate_left
  ·(intro w hSw;(try dsimp only at hSw);go_simp;try with_reducible rfl)
  (try simp only[Act.put,List.setIfInBounds_toArray,List.set_cons_zero,List.set_cons_succ])
  refine zF (i:=8) (oi:=_) (v:=?_) rfl (by kernel_rfl) (by kernel_rfl) (by kernel_rfl) (by kernel_rfl) (fun _ _ _ h=>h) (Or.inl ⟨by rfl,?_⟩) (by assumption) ?_
  rotate_left
  ·(intro w hSw;(try dsimp only at hSw);go_simp;try with_reducible rfl)
  (try simp only[Act.put,List.setIfInBounds_toArray,List.set_cons_zero,List.set_cons_succ])
  refine zF (i:=9) (oi:=_) (v:=?_) rfl (by kernel_rfl) (by kernel_rfl) (by kernel_rfl) (by kernel_rfl) (fun _ _ _ h=>h) (Or.inl ⟨by rfl,?_⟩) (by assumption) ?_
  rotate_left
  ·(intro w hSw;(try dsimp only at hSw);go_simp;try with_reducible rfl)
  (try simp only[Act.put,List.setIfInBounds_toArray,List.set_cons_zero,List.set_cons_succ])
  refine zF (i:=10) (oi:=_) (v:=?_) rfl (by kernel_rfl) (by kernel_rfl) (by kernel_rfl) (by kernel_rfl) (fun _ _ _ h=>h) (Or.inl ⟨by rfl,?_⟩) (by assumption) ?_
  rotate_left
  ·(intro w hSw;(try dsimp only at hSw);go_simp;try with_reducible rfl)
  (try simp only[Act.put,List.setIfInBounds_toArray,List.set_cons_zero,List.set_cons_succ])
  refine zF (i:=11) (oi:=_) (v:=?_) rfl (by kernel_rfl) (by kernel_rfl) (by kernel_rfl) (by kernel_rfl) (fun _ _ _ h=>h) (Or.inl ⟨by rfl,?_⟩) (by assumption) ?_
  rotate_left
  ·(intro w hSw;(try dsimp only at hSw);go_simp;try with_reducible rfl)
  (try simp only[Act.put,List.setIfInBounds_toArray,List.set_cons_zero,List.set_cons_succ])
  refine zF (i:=12) (oi:=_) (v:=?_) rfl (by kernel_rfl) (by kernel_rfl) (by kernel_rfl) (by kernel_rfl) (fun _ _ _ h=>h) (Or.inl ⟨by rfl,?_⟩) (by assumption) ?_
  rotate_left
  ·(intro w hSw;(try dsimp only at hSw);go_simp;try with_reducible rfl)
  (try simp only[Act.put,List.setIfInBounds_toArray,List.set_cons_zero,List.set_cons_succ])
  refine z8 (rs:=[13]) (by kernel_rfl) (by simp) ?_
  refine zS.last (o:=_) rfl (fun K hK=>?_)
  go_simp
  refine hK.out _ _ ?_
  clear hK K
  (try simp only[Act.put,List.setIfInBounds_toArray,List.set_cons_zero,List.set_cons_succ])
  refine xj (by kernel_rfl) (NoPanic.normal ?_) _
  go_wp2
  go_meet
  refine⟨rfl,?_⟩
  exact Lib.hid (swMid_of HH.out.1 HH.out.2.1 HH.out.2.2.1 HH.out.2.2.2.1 HH.out.2.2.2.2.2.2.1 HH.out.2.2.2.2.2.2.2)
 case rest=>
  obtain⟨rfl,hcut⟩:=hcut
  have m1:wc.cell? ⟨g,i*5+1,none⟩=some (.slice (some ⟨ob,0,none⟩) bt.ops.length oc):=hcut.out.c1
  have m2:wc.cell? ⟨w.heap.size,0,none⟩=some (.int .i64 o.code):=hcut.out.box (q:=0) rfl
  have m3:wc.cell? ⟨w.heap.size,1,none⟩=some (.int .i64 o.res):=hcut.out.box (q:=1) rfl
  have m4:wc.cell? ⟨w.heap.size,2,none⟩=some (.int .i64 o.a):=hcut.out.box (q:=2) rfl
  have m5:wc.cell? ⟨w.heap.size,3,none⟩=some (.int .i64 o.b):=hcut.out.box (q:=3) rfl
  have m6:wc.cell? ⟨w.heap.size,4,none⟩=some (.int .u16 (o.n:Int)):=hcut.out.box (q:=4) rfl
  have m7:wc.cell? ⟨w.heap.size,5,none⟩=some (.slice aa o.args.length ac):=hcut.out.box (q:=5) rfl
  obtain⟨u0,n0⟩:∃u,wc.cell? ⟨ob,j*6,none⟩=some u:=hcut.out.cell (q:=0) (by decide)
  have g0:wc.frozen? ⟨ob,j*6,none⟩=false:=hcut.out.free (q:=0) (by decide)
  obtain⟨u1,n1⟩:∃u,wc.cell? ⟨ob,j*6+1,none⟩=some u:=hcut.out.cell (q:=1) (by decide)
  have g1:wc.frozen? ⟨ob,j*6+1,none⟩=false:=hcut.out.free (q:=1) (by decide)
  obtain⟨u2,n2⟩:∃u,wc.cell? ⟨ob,j*6+2,none⟩=some u:=hcut.out.cell (q:=2) (by decide)
  have g2:wc.frozen? ⟨ob,j*6+2,none⟩=false:=hcut.out.free (q:=2) (by decide)
  obtain⟨u3,n3⟩:∃u,wc.cell? ⟨ob,j*6+3,none⟩=some u:=hcut.out.cell (q:=3) (by decide)
  have g3:wc.frozen? ⟨ob,j*6+3,none⟩=false:=hcut.out.free (q:=3) (by decide)
  obtain⟨u4,n4⟩:∃u,wc.cell? ⟨ob,j*6+4,none⟩=some u:=hcut.out.cell (q:=4) (by decide)
  have g4:wc.frozen? ⟨ob,j*6+4,none⟩=false:=hcut.out.free (q:=4) (by decide)
  obtain⟨u5,n5⟩:∃u,wc.cell? ⟨ob,j*6+5,none⟩=some u:=hcut.out.cell (q:=5) (by decide)
  have g5:wc.frozen? ⟨ob,j*6+5,none⟩=false:=hcut.out.free (q:=5) (by decide)
  obtain⟨ml1,ml2,ml3⟩:=hcut.out.lt
  have HCU:=hcut
  clear hcut
  clear c1 k0 k1 k2 k3 k4 k5 j0 j1 j2 j3 j4 j5 fk0 fk1 fk2 fk3 fk4 fk5
  go_wp2
  refine wp_region_noPanic ?_
  refine yQ (S:=(fun w'=>w'.cell? ⟨g,i*5+1,none⟩=some (.slice (some ⟨ob,0,none⟩) bt.ops.length oc)/\w'.cell? ⟨w.heap.size,0,none⟩=some (.int .i64 o.code)/\w'.cell? ⟨w.heap.size,1,none⟩=some (.int .i64 o.res)/\w'.cell? ⟨w.heap.size,2,none⟩=some (.int .i64 o.a)/\w'.cell? ⟨w.heap.size,3,none⟩=some (.int .i64 o.b)/\w'.cell? ⟨w.heap.size,4,none⟩=some (.int .u16 (o.n:Int))/\w'.cell? ⟨w.heap.size,5,none⟩=some (.slice aa o.args.length ac))) 7 (by kernel_rfl) ⟨m1,m2,m3,m4,m5,m6,m7⟩ (fun hHeld=>?_)
  refine zF (i:=0) (oi:=_) (v:=?_) rfl (by kernel_rfl) (by kernel_rfl) (by kernel_rfl) (by kernel_rfl) (fun _ _ _ h=>h) (Or.inl ⟨by rfl,?_⟩) (by assumption) ?_
  rotate_left
  ·(intro w hSw;(try dsimp only at hSw);go_simp;try with_reducible rfl)
  (try simp only[Act.put,List.setIfInBounds_toArray,List.set_cons_zero,List.set_cons_succ])
  refine zF (i:=1) (oi:=_) (v:=?_) rfl (by kernel_rfl) (by kernel_rfl) (by kernel_rfl) (by kernel_rfl) (fun _ _ _ h=>h) (Or.inl ⟨by rfl,?_⟩) (by assumption) ?_
  rotate_left
  ·(intro w hSw;(try dsimp only at hSw);go_simp;try with_reducible rfl)
  (try simp only[Act.put,List.setIfInBounds_toArray,List.set_cons_zero,List.set_cons_succ])
  refine zF (i:=2) (oi:=_) (v:=?_) rfl (by kernel_rfl) (by kernel_rfl) (by kernel_rfl) (by kernel_rfl) (fun _ _ _ h=>h) (Or.inl ⟨by rfl,?_⟩) (by assumption) ?_
  rotate_left
  ·(intro w hSw;(try dsimp only at hSw);go_simp;try with_reducible rfl)
  (try simp only[Act.put,List.setIfInBounds_toArray,List.set_cons_zero,List.set_cons_succ])
  refine zF (i:=3) (oi:=_) (v:=?_) rfl (by kernel_rfl) (by kernel_rfl) (by kernel_rfl) (by kernel_rfl) (fun _ _ _ h=>h) (Or.inl ⟨by rfl,?_⟩) (by assumption) ?_
  rotate_left
  ·(intro w hSw;(try dsimp only at hSw);go_simp;try with_reducible rfl)
  (try simp only[Act.put,List.setIfInBounds_toArray,List.set_cons_zero,List.set_cons_succ])
  refine zF (i:=4) (oi:=_) (v:=?_) rfl (by kernel_rfl) (by kernel_rfl) (by kernel_rfl) (by kernel_rfl) (fun _ _ _ h=>h) (Or.inl ⟨by rfl,?_⟩) (by assumption) ?_
  rotate_left
  ·(intro w hSw;(try dsimp only at hSw);go_simp;try with_reducible rfl)
  (try simp only[Act.put,List.setIfInBounds_toArray,List.set_cons_zero,List.set_cons_succ])
  refine zF (i:=5) (oi:=_) (v:=?_) rfl (by kernel_rfl) (by kernel_rfl) (by kernel_rfl) (by kernel_rfl) (fun _ _ _ h=>h) (Or.inl ⟨by rfl,?_⟩) (by assumption) ?_
  rotate_left
  ·(intro w hSw;(try dsimp only at hSw);go_simp;try with_reducible rfl)
  (try simp only[Act.put,List.setIfInBounds_toArray,List.set_cons_zero,List.set_cons_succ])
  refine zF (i:=6) (oi:=_) (v:=?_) rfl (by kernel_rfl) (by kernel_rfl) (by kernel_rfl) (by kernel_rfl) (fun _ _ _ h=>h) (Or.inl ⟨by rfl,?_⟩) (by assumption) ?_
  rotate_left
  ·(intro w hSw;(try dsimp only at hSw);go_simp;try with_reducible rfl)
  (try simp only[Act.put,List.setIfInBounds_toArray,List.set_cons_zero,List.set_cons_succ])
  refine z8 (rs:=[7]) (by kernel_rfl) (by simp) ?_
  refine zS.last (o:=_) rfl (fun K hK=>?_)
  go_simp
  refine hK.out _ _ ?_
  clear hK K
  (try simp only[Act.put,List.setIfInBounds_toArray,List.set_cons_zero,List.set_cons_succ])
  refine xj (by kernel_rfl) (NoPanic.normal ?_) _
  go_wp2
  first|go_end0|refine bodyPost_ret (results_none rfl _ _ _) rfl ?_
  exact SwMid.close HH.out.1 HCU.out HH.out.2.1 HH.out.2.2.1 HH.out.2.2.2.1 HH.out.2.2.2.2.1 HH.out.2.2.2.2.2.1
open Go.RowKit
theorem iF {w:World}{B g i:Nat}{v:Value}{bt:BT}{l:List BT}{rs:List Row}(h:SpSt w B g i v bt l rs){n:Nat}(hn:n<65536)(hz:SzB bt){what:Nat}(hw:what<=12∨what=19):
 Calls Try.prog 45 #[.pointer (some ⟨g,i*5,none⟩),.int .i64 (what:Int),.int .i64 (n:Int)] w (uE w B g i v bt l rs what n):=by
 rcases hw with hw|rfl
 ·by_cases h7:what<=7
  ·by_cases hol:0<bt.ops.length
   ·match what,h7 with
    |0,_=>exact spoil_0 h hn hz hol
    |1,_=>exact spoil_1 h hn hz hol
    |2,_=>exact spoil_2 h hn hz hol
    |3,_=>exact spoil_3 h hn hz hol
    |4,_=>exact spoil_4 h hn hz hol
    |5,_=>exact spoil_5 h hn hz hol
    |6,_=>exact spoil_6 h hn hz hol
    |7,_=>exact spoil_7 h hn hz hol
   ·exact mB h hn hz h7 (by omega)
  ·match what,hw,h7 with
   |8,_,_=>exact spoil_8 h hn hz
   |9,_,_=>exact spoil_9 h hn hz
   |10,_,_=>exact spoil_10 h hn hz
   |11,_,_=>exact spoil_11 h hn hz
   |12,_,_=>exact spoil_12 h hn hz
   |0,_,h|1,_,h|2,_,h|3,_,h|4,_,h|5,_,h|6,_,h|7,_,h=>exact absurd (by decide) h
   |k+13,h,_=>exact absurd h (by omega)
 ·exact spoil_19 h hn hz
end Go.Proofs.Ytojclalkfhoooaa
