/- Part of a proof. -/
import Derived.Test.YtoahcpkibpomcaaGreatGRUsesv
import Derived.StillTailTactics
set_option linter.all false
set_option maxHeartbeats 4000000
set_option maxRecDepth 100000
namespace Go.Proofs.YtoahcpkibpomcaaGreat
open Go.RowKit Go.Maps Go.ChangeMaps
variable {W W0 w w' w0 w1 w2 w3:World}{B0 bm bp g i j k m nm x:Nat}{vv:Value}{c:List Nat}{preds:List (List Nat)}{o:Obj}{X X':Nat->Prop}{xs:List Int}{M M':MS}
theorem wA.entry{b n:Nat}{g:Int->Option Int}(h:wA w b n g)(hn:n<9000000000000000000){kx vv:Int}(k:I64 kx)(a7:I64 vv)(a8:g kx=none):
 ∃(st:Nat) (w1 w2:World),(Instr.mapEntry 171 (.map (some b)) (.int .i64 kx)).run Tryz.prog w=.ok (.tuple #[.int .i64 0,goInt st]) w1/\w.grownBy w1 (some b)/\
  (Instr.entryStore 171 (.map (some b)) (goInt st) (.int .i64 vv)).run Tryz.prog w1=.ok () w2/\wA w2 b (n+1) (lS g kx vv)/\w.grownBy w2 (some b):=by
 have q:=h.lookOk k;rw[a8] at q
 have a3:∃w',(Instr.mapUpdate 171 (.map (some b)) (.int .i64 kx) (.int .i64 vv)).run Tryz.prog w=.ok () w'/\wA w' b (n+1) (lS g kx vv)/\w.grownBy w' (some b):=by
  obtain⟨D,h,hf⟩:=h;obtain⟨w',a2,a4,t⟩:=h.update xH Tryz.underlying171 (by unfold maxLen;omega) (vB k) (plainElem_int Tryz.underlying3 (wf64' a7));refine⟨w',a2,⟨_,a4,fun y hy=>?_⟩,t⟩;have a0:WideAt.IsKeyLit (.int .i64 kx):=xH.key (vB k)
  by_cases e:y=kx
  ·subst e;simp only[lS,if_true];exact⟨Maps.atKey_put_same h.isMap a0 _ _,Maps.has_put_same h.isMap a0 _⟩
  ·simp only[lS,if_neg e];rw[Maps.atKey_put_other (by simpa using e),Maps.has_put_other (by simpa using e)];exact hf y hy
 obtain⟨w3,m,hP,t⟩:=a3;obtain⟨D,h,hf⟩:=h;obtain⟨es,d,hb,F,hs,rfl⟩:=h;obtain⟨s1,s2,_⟩:=F.stamped;rcases xH.find w (vB k) es.toList F.keys with⟨h1,h2⟩|⟨j,e0,h1,h2,h3⟩
 ·have a6:(es.push ⟨.int .i64 kx,.int .i64 0,d⟩).findIdx? (fun e=>((e.born:Nat):Int)==((d:Nat):Int))=some es.size:=by
   rw[WideElems.findIdx_arr];refine WideElems.findIdx_born (l:=(es.push ⟨.int .i64 kx,.int .i64 0,d⟩).toList) (j:=es.size) (e0:=⟨.int .i64 kx,.int .i64 0,d⟩) ?_ Zs;simp only[Array.toList_push,Js,Ql,List.map_nil];refine Qq.2 ⟨s2,by simp,fun a ha c hc e1=>?_⟩;simp only[Jo] at hc;obtain⟨x,hx,rfl⟩:=Nu.1 ha;have:=s1 x hx;omega
  have a5:(es.push ⟨.int .i64 kx,.int .i64 0,d⟩).modify es.size (fun e=> {e with val:=.int .i64 vv })=es.push ⟨.int .i64 kx,.int .i64 vv,d⟩:=by
   apply Array.ext';rw[Array.toList_modify,Array.toList_push,Array.toList_push,<-Array.length_toList,WideElems.modify_last]
  have u:=heap_setBlock_same hb (.map (es.push ⟨.int .i64 kx,.int .i64 0,d⟩) (d+1))
  have e3:w3=setBlock w b (.map (es.push ⟨.int .i64 kx,.int .i64 vv,d⟩) (d+1)):=by
   simp[Instr.mapUpdate,run_underlying Tryz.underlying171,MapKept.run_getObj_map hb,xH.check w false (vB k),h1,MapKept.run_setObj_map _ hb,Result.andThen] at m;exact m.symm
  have a1:∀o,w.grownBy (setBlock w b o) (some b):=fun o=>⟨rfl,rfl,rfl,by simp[setBlock],fun i _ hi=>heap_setBlock_other hb _ (fun e=>hi (by rw[e]))⟩
  refine⟨d,setBlock w b (.map (es.push ⟨.int .i64 kx,.int .i64 0,d⟩) (d+1)),setBlock (setBlock w b (.map (es.push ⟨.int .i64 kx,.int .i64 0,d⟩) (d+1))) b (.map (es.push ⟨.int .i64 kx,.int .i64 vv,d⟩) (d+1)),?_,a1 _,?_,?_,?_⟩
  ·simp[Instr.mapEntry,run_underlying Tryz.underlying171,MapKept.run_getObj_map hb,xH.check w false (vB k),h1,px,MapKept.run_setObj_map _ hb,Result.andThen,setBlock]
  ·generalize setBlock w b (.map (es.push ⟨.int .i64 kx,.int .i64 0,d⟩) (d+1))=W1 at u ⊢;simp[Instr.entryStore,MapKept.run_getObj_map u,asInt,asIntOf,goInt,a6,a5,MapKept.run_setObj_map _ u,Result.andThen,setBlock]
  ·refine hP.same ?_;rw[heap_setBlock_same u,e3,heap_setBlock_same hb]
  ·have e4:setBlock (setBlock w b (.map (es.push ⟨.int .i64 kx,.int .i64 0,d⟩) (d+1))) b (.map (es.push ⟨.int .i64 kx,.int .i64 vv,d⟩) (d+1))=setBlock w b (.map (es.push ⟨.int .i64 kx,.int .i64 vv,d⟩) (d+1)):=by simp[setBlock]
   rw[e4];exact a1 _
 ·exfalso;simp[Instr.lookup,run_underlying Tryz.underlying171,MapKept.run_getObj_map hb,xH.check w es.isEmpty (vB k),h1,Result.andThen] at q
end Go.Proofs.YtoahcpkibpomcaaGreat
set_option maxRecDepth 8000
namespace Go.Proofs.YtoahcpkibpomcaaGreat
open Go.RowKit
variable {W W0 w w' w0 w1 w2 w3:World}{B0 bm bp g i j k m nm x:Nat}{vv:Value}{c:List Nat}{preds:List (List Nat)}{o:Obj}{X X':Nat->Prop}{xs:List Int}{M M':MS}
theorem mD{P:List (List Nat)}{n s:Nat}(h:∀r∈P,r.length<=m):∀r∈xS n P s,r.length<=m+1:=by
 intro r hr;rcases Qe hr with hr|rfl
 ·have:=h r hr;omega
 ·simp only[Jk,Nq,Ow]
  by_cases hs:s<P.length
  ·have:=h (P.getD s []) (by rw[Jj,Jd hs];exact Uf hs);omega
  ·rw[Jj,Of Zo];simp
theorem oB (n:Nat):∀(l:List Nat) (P:List (List Nat)) (m:Nat),(∀r∈P,r.length<=m)->∀r∈l.foldl (xS n) P,r.length<=m+l.length
 | [],_,_,h=>h
 |s::l,P,m,h=>fun r hr=>by
  have:=oB n l _ (m+1) (mD h) r hr;simp only[Nq];omega
theorem rj (g:List (List Nat))(D:Nat)(c:∀row∈g,row.length<=D):∀(l:List Nat) (P:List (List Nat)) (m:Nat),(∀r∈P,r.length<=m)->∀r∈l.foldl (yh g) P,r.length<=m+l.length*D
 | [],_,_,h=>by simpa using h
 |u::l,P,m,h=>fun r hr=>by
  have hd:(succ g u).length<=D:=by
   unfold succ;rw[Jj]
   cases e:g[u]? with
   |none=>simp
   |some row=>exact c row (Ji e)
  have:=rj g D c l _ (m+D) (fun r hr=>by have:=oB u (succ g u) P m h r hr;omega) r hr;simp only[Nq,Nat.add_mul,Nat.one_mul];omega
theorem pred_len {g:List (List Nat)}{D:Nat}(d:∀row∈g,row.length<=D)(c row:List Nat)(k j n N:Nat)(hk:k<=N){s:Nat}{pr:List Nat}
 (h:((row.take j).foldl (xS n) ((c.take k).foldl (yh g) (List.replicate N [])))[s]? =some pr):pr.length<=k*D+j:=by
 have h1:=oB n (row.take j) _ (0+(c.take k).length*D) (rj g D d (c.take k) (List.replicate N []) 0 (by intro r hr;rw[(List.mem_replicate.1 hr).2];simp)) pr (Ji h);have h2:(c.take k).length<=k:=List.length_take_le _ _;have h3:(row.take j).length<=j:=List.length_take_le _ _;have i:=Qw D h2;omega
structure ViewMem (w0 w:World) (B0 B bv bm bp n:Nat) (ov:Value) (ord:List Nat) (nm:Nat) (f:Int->Int) (preds:List (List Nat)):Prop where
 hv:w.heap[bv]? =some (.cells #[ov,.map (some bm),.slice (some ⟨bp,0,none⟩) n n] 202 (0,0))
 ho:w.ownsRow B0 3 1 ov ord.length (ord.map zj)
 ho2:∀g,ov.ownBlock=some g->g<B
 hm:ud w bm nm f
 hp:OwnRows zj 3 22 w B bp preds
 hl:preds.length=n
 hb:Below B0 w0 w
 lt:B0<=bv/\B0<=bm/\B0<=bp/\bv<B/\bm<B/\bp<B/\B<=w.heap.size
def oN (w:World)(C bv:Nat)(ord:List Nat)(f:Int->Int)(preds:List (List Nat)):Prop:=
 ∃ov bm pv nm,A w bv 0 ov/\A w bv 1 (.map (some bm))/\A w bv 2 pv/\xp zj w C ov ord/\ud w bm nm f/\bm<C/\aaB zj w C pv preds/\bv<C
theorem oN.below{C bv:Nat}{f:Int->Int}(h:oN w C bv c f preds)(hb:Below C w w'):oN w' C bv c f preds:=by
 obtain⟨ov,bm,pv,nm,c0,c1,c2,ho,hm,d,hp,hl⟩:=h;exact⟨ov,bm,pv,nm,(hb.cell (p:=⟨bv,0,none⟩) hl).trans c0,(hb.cell (p:=⟨bv,1,none⟩) hl).trans c1,(hb.cell (p:=⟨bv,2,none⟩) hl).trans c2,ho.below hb,hm.same (hb.block bm d),d,hp.below hb,hl⟩
def RetView (w:World)(ord:List Nat)(f:Int->Int)(preds:List (List Nat))(e:Ending)(w':World):Prop:=
 ∃bv,e=.returned (Y bv)/\w.heap.size<=bv/\oN w' w'.heap.size bv ord f preds/\O w w'
theorem ViewMem.read{B bv n:Nat}{ov:Value}{f:Int->Int}(h:ViewMem w0 w B0 B bv bm bp n ov c nm f preds):oN w w.heap.size bv c f preds:=by
 refine⟨ov,bm,F bp n n,nm,zA h.hv Zs,zA h.hv Zs,zA h.hv Zs,rY h.ho (Je _),h.hm,h.hm.lt,?_,lt_of_block h.hv⟩;have:=h.hp.asRows (Je w.heap.size)
 rwa [h.hl] at this
theorem Tryz.info_ints:(Tryz.prog.info? 22).map (fun i=>(i.zero,i.size,i.bytes))=some (some (.slice none 0 0),1,24):=by kernel_rfl
theorem ViewMem.store{B bv n:Nat}{ov:Value}{i:List Nat}{f f':Int->Int}(h:ViewMem w0 w B0 B bv bm bp n ov i nm f preds)
 (hg:w.grownBy w' (some bm)) (hm:ud w' bm j f'):ViewMem w0 w' B0 B bv bm bp n ov i j f' preds:=by
 obtain⟨hv,ho,ho2,d,hp,hl,hb,o⟩:=h;obtain⟨c,m⟩:=hp.blk;refine⟨zL hg hv (by simpa using d.ne hv),ho.kept hg ?_,ho2,hm,hp.kept hg (by simpa using d.ne m) (by intro k hk;cases hk;omega),hl,hb.grown hg (by have:=lt_of_block hv;have:=d.lt;omega) (by intro k hk;cases hk;omega),by have:=hg.size;omega⟩;right;intro e;rcases ho.2 with⟨rfl,_⟩|⟨g,t,cur,rfl,q,l,_⟩
 ·simp[Value.ownBlock] at e
 ·simp only[Value.ownBlock,Option.some.injEq] at e;subst e;exact d.ne l rfl
theorem ViewMem.push{B bv n s t H:Nat}{ov:Value}{u:List Nat}{f:Int->Int}{d:List (List Nat)}{row:List Nat}{a:Option Addr}(h:ViewMem w0 w B0 B bv bm bp n ov u nm f d)
 (hs:d[s]? =some row) (hc:A w bp s (.slice a row.length m)) (hg:(w.alloc o).grownBy w2 (Value.slice a row.length m).ownBlock)
 (a2:w2.ownsRow B 3 1 (F g (row.length+1) t) (row.length+1) (row.map zj++ [zj x]))
 (a4:(Value.slice a row.length m).ownBlock=some g∨g=H) (hH:w.heap.size<=H):
 ViewMem w0 (w2.setCell ⟨bp,s,none⟩ (F g (row.length+1) t)) B0 B bv bm bp n ov u nm f (d.set s (row++ [x])):=by
 obtain⟨hv,ho,ho2,j,hp,hl,hb,a7⟩:=h;obtain⟨c,l⟩:=hp.blk;obtain⟨a',a5,a0,y,_⟩:=hp.get hs;rw[hc] at a0;cases a0;have a1:=zC y hv (.inl Zo);have i:∀k,(Value.slice a row.length m).ownBlock=some k->B<=k:=fun k hk=>(y.lt k hk).1
 have a3:bv≠bp:=by rintro rfl;rw[hv] at l;simp at l
 have q:=hp.put Zd hs hc hg (row':=row++ [x]) (by simpa using a2) a4 hH;simp only[Jk,Nq,Ow,Ng] at q;refine⟨zR (zL hg (zB hv) a1) (by simpa using a3),?_,ho2,?_,q,by simp[hl],?_,by have:=hg.size;simp[World.setCell] at this ⊢;omega⟩
 ·refine ownsRow_setCell_other ((ho.alloc o).kept hg ?_) ?_ _
  ·cases hk:ov.ownBlock with
   |none=>exact .inl rfl
   |some k=>
    right;intro e;have:=ho2 k hk;have:=i k e.symm;omega
  ·exact zC (b:=bp) ho l (.inr Zd)
 ·refine j.same ?_;rw[Below.heap_setCell _ _ _ _ (by simpa using j.ne l),hg.block bm (by have:=j.lt;simp;omega) (fun e=>by have:=i bm e.symm;omega),Below.heap_alloc _ _ _ j.lt]
 ·have a6:=lt_of_block hv;exact((hb.alloc Zo o).grown hg Zt (fun k hk=>by have:=i k hk;omega)).setCell (show B0<=bp by omega) _
theorem uj{row:Option Nat}(h:w.drew.grownBy w' row):w.grownBy w' row:=⟨h.os,h.tape,h.output,h.size,h.block⟩
theorem uG{B:Nat}(h:Below B w w'):Below B w w'.drew:=h.drew
theorem lq{n:Nat}{v:Value}(c:A w' n 0 v)(h:Below (n+1) W0 w')(hl:n<W0.heap.size)(o:Obj):A (w'.alloc o) n 0 v/\Below (n+1) W0 (w'.alloc o):=by
 have:=h.size;exact⟨by rw[Oo (w:=w') (Below.heap_alloc _ _ _ Zt)];exact c,h.alloc Zo o⟩
theorem oY{n:Nat}{v:Value}(c:A w' n 0 v)(h:Below (n+1) W0 w')(hl:n<W0.heap.size)(hb:O w' w1):A w1 n 0 v/\Below (n+1) W0 w1:=by
 have:=h.size;exact⟨(hb.cell (p:=⟨n,0,none⟩) (show n<_ by omega)).trans c,h.trans (hb.mono Zo)⟩
theorem ww{n:Nat}(c:n=w.heap.size)(d:Hid (w.alloc o=W0))(h:Below (n+1) W0 w'):Below n w w':=by
 have e:=d.out;subst e;subst c;exact((Below.refl _ _).alloc (Je _) _).trans (h.mono Zo)
theorem o7{B:Nat}(hB:B<=w.heap.size)(c:Hid (w.alloc o=W0))(h:Below (w.heap.size+1) W0 w'):B<=w'.heap.size:=by
 have:=(ww rfl c h).size;omega
theorem nP{B:Nat}{v:Value}{g:List (List Nat)}(d:aaB zj w B v g)(hB:B<=w.heap.size)(c:Hid (w.alloc o=W0))(h:Below (w.heap.size+1) W0 w'):aaB zj w' B v g:=
 d.below ((ww rfl c h).mono hB)
theorem aJ{X wy:World}{F F':List Nat}{ao:Option Addr}{co bv n:Nat}(h:F.length=F'.length)(c:w1.ownsRow X.heap.size 3 1 (.slice ao F.length co) F.length (F.map zj))(lg:w.heap.size<W0.heap.size)
 (i:W0.heap.size<=X.heap.size) (hb:Below (w.heap.size+1) W0 wy) (hg:w1.grownBy wy none) (d:wy.heap.size=bv)
 (hm:wy.heap[bm]? =some (.map #[] 0)) (hp:Q wy bp (madeCells #[L] n) 22) (lt:w.heap.size<bm/\w.heap.size<bp):
 ∃bv' bm' bp' ov,Value.pointer (some ⟨bv,0,none⟩)=Y bv'/\Hid (ViewMem W0 (wy.alloc (T #[.slice ao F'.length co,.map (some bm),.slice (some ⟨bp,0,none⟩) n n] 202)) (w.heap.size+1) (wy.alloc (T #[.slice ao F'.length co,.map (some bm),.slice (some ⟨bp,0,none⟩) n n] 202)).heap.size bv' bm' bp' n ov F 0 (fun _=>0) (List.replicate n [])):=by
 rw[<-h];have h1:=hb.size;have h2:=hg.size;have ho:=(c.kept hg (by cases ao<;>simp[Value.ownBlock])).alloc (T #[.slice ao F.length co,.map (some bm),.slice (some ⟨bp,0,none⟩) n n] 202);have h3:=lt_of_block hm;have j:=lt_of_block hp;refine⟨bv,bm,bp,.slice ao F.length co,rfl,zI d,vY ho Zo,fun g hg=>(ho.lt g hg).2,?_,OwnRows.made _ (by rw[zB hp,yA]),by simp,hb.alloc Zo _,?_⟩
 ·exact⟨_,⟨#[],0,zB hm,(let⟨es,clock,h1,h2,_⟩:=(World.ownsMap_made (H:=Unit) w Tryz.prog 3 (plainElem Tryz.prog 3));by
   rw[zI rfl] at h1;cases h1;exact h2),Je _,rfl⟩,fun _ _=>rfl⟩
 ·simp only[World.size_alloc];omega
theorem view_any (w:World)(sv:Value)(g:List (List Nat))(B:Nat)(hB:B<=w.heap.size)(h:aaB zj w B sv g)(hv:zw g)(hn:g.length<=2000000)(hr:∀row∈g,row.length<=2000000)
 (c:List Nat) (hF:tV g c):
 G 140 #[.agg #[sv]] w (RetView w c (atF c c.length) (un g c)):=by
 obtain⟨a,u,rfl,g6⟩:=h.form;obtain⟨ii,e9,d0,c9,c8⟩:=info_parts Tryz.info_int;have d3:O w (w.alloc (T #[.slice a g.length u] 105)):=(Below.refl _ _).alloc (Je _) _;have e4:=@run_makeMap Tryz.prog;have e5:=run_make_row' (P:=Tryz.prog) 103 22 (L) 24 Tryz.underlying103 Tryz.info_ints rfl .i64 .i64 g.length Zo Zo;have HV:=Ja hv;have HR:=Ja hr;have HF:=Ja hF;have cg:A (w.alloc (T #[.slice a g.length u] 105)) w.heap.size 0 (.slice a g.length u):=cell_of_one (zI rfl);clear hv hr hF;go_enter Tryz.func140,Tryz.ntmps140;go_upto_region 1 with fail;generalize b9:w.alloc (T #[.slice a g.length u] 105)=W0 at cg ⊢;have x:=Ja b9;have g8:=Below.refl (w.heap.size+1) W0;have lg:w.heap.size<W0.heap.size:=Jw W0 _ cg;clear b9 d3
 go_cut [3] (fun s3 wx=>∃bv bm bp ov,s3=Y bv/\Hid (ViewMem W0 wx (w.heap.size+1) wx.heap.size bv bm bp g.length ov c 0 (fun _=>0) (List.replicate g.length [])))
 case first=>
  go_region_held3 (fun w'=>A w' w.heap.size 0 (.slice a g.length u)/\Below (w.heap.size+1) W0 w')
   (first
     |(go_split_ands;refine⟨?_,?_⟩<;>assumption)
     |(go_split_ands;refine⟨?_,uG ?_⟩<;>assumption)
     |(go_split_ands;exact lq ‹_› ‹_› Zz _)
     |(go_split_ands;exact oY ‹_› ‹_› Zz Zz))
   ((go_at_call 40;refine(tp _ _ g B (o7 hB x (by repeat' (first|assumption|(with_reducible refine Below.drew ?_)|(with_reducible refine Below.alloc ?_ ?_ _)|omega|(simp<;>omega)))) (nP h hB x (by repeat' (first|assumption|(with_reducible refine Below.drew ?_)|(with_reducible refine Below.alloc ?_ ?_ _)|omega|(simp<;>omega)))) HV.out hn HR.out c HF.out).mono ?_;rintro e w1 ⟨ov,rfl,b5,a5⟩;obtain⟨ao,co,rfl⟩:=zG b5))
  all_goals
   go_wp2_with fail;go_meet;have e1:=a5.size;simp at e1;refine aJ (w:=w) (w1:=w1) (F:=c) rfl b5 lg ?_ ?_ ?_ ?_ ?_ ?_ ?_
   ·simp<;>omega
   ·repeat' (first|assumption|(with_reducible refine Below.drew ?_)|(with_reducible refine Below.alloc ?_ ?_ _)|(refine Below.trans ?_ (Below.mono a5 ?_))|omega|(simp<;>omega))
   ·repeat' (first|(with_reducible exact oI _ _)|(with_reducible refine World.grownBy.trans ?_ (Uo _ _ _)))
   ·simp
   ·repeat' (first|(refine zI ?_;first|rfl|(simp;done))|(refine zB ?_)|(refine zH a5 ?_ ?_)|omega|(simp<;>omega))
   ·repeat' (first|(refine zI ?_;first|rfl|(simp;done))|(refine zB ?_)|(refine zH a5 ?_ ?_)|omega|(simp<;>omega))
   ·constructor<;>first|omega|(simp<;>omega)
 case rest=>
  obtain⟨bv,bm,bp,ov,rfl,a6⟩:=hcut;obtain⟨BB,c0⟩:∃BB,BB=wc.heap.size:=⟨_,rfl⟩
  rw[<-c0] at a6;clear c0 e4 e5;have ho:=a6.out.ho;obtain⟨ao,co,rfl⟩:=zG ho;have b8:=a6.out.hv;have f4:=K0 b8;clear ho b8;have e2:=(HF.out.nodes HV.out).1;go_wp2_with fail
  go_loopw [22] (fun i wr=>∃k:Nat,k<=c.length/\i=I k/\Hid (ViewMem W0 wr (w.heap.size+1) BB bv bm bp g.length (.slice ao c.length co) c k (atF c k) ((c.take k).foldl (yh g) (List.replicate g.length [])))) (fun i _=>c.length-(intOf i).toNat)
  case atStart=>exact⟨0,Jt _,rfl,by rw[show atF c 0=fun _=>0 from rfl];simpa using a6⟩
  case round=>
   obtain⟨k,hk,rfl,HK⟩:=hrel
   by_cases e6:k<c.length
   ·obtain⟨n,a4⟩:∃n,c[k]? =some n:=⟨_,Jd e6⟩
    have e3:n<g.length:=(HF.out.nodes HV.out).2 n (Ji a4);have g2:(n:Int)<g.length:=Zo;have g5:(k:Int)<c.length:=Zo;have d7:=rY HK.out.ho (Je _);obtain⟨ao',h9,f1,_,hx⟩:=d7;cases f1;obtain⟨bo,oo,rfl,_,c4⟩:=hx k n a4;simp only[zj] at c4;have f3:=K1 HK.out.hv;obtain⟨row,q⟩:∃row,g[n]? =some row:=⟨_,Jd e3⟩
    have c7:=Ja a4;clear hx a4 f4;obtain⟨b,o,a2,h4,rfl,hb,hc,f9,hx⟩:=h.row q;have HX:=Ja hx;have HC:=Ja hc;clear hx hc;go_wp2_with (at_mapUpdate;go_must (refine rW rfl (.tmp 30) (.tmp 31) (.tmp 32) rfl HK.out.hm Zo (n:Int) (k:Int) rfl rfl rfl Zo Zo ?_;intro w2 b6 b7;have m:=HK.out.store b7 b6;have d2:=(m.hb.cell (p:=⟨w.heap.size,0,none⟩) (show w.heap.size<w.heap.size+1 by omega)).trans cg;have hc:=((ww rfl x m.hb).cell (p:=⟨b,o+n,none⟩) (show b<w.heap.size by omega)).trans HC.out;have d4:=Ja m;clear m b6 b7))
    have hrl:=HR.out row (Ji q);have a9:=Ja q;clear HK c4 f3 q
    go_loopw [39] (fun i wx=>∃j:Nat,j<=row.length/\i=I j/\Hid (ViewMem W0 wx (w.heap.size+1) BB bv bm bp g.length (.slice (some ⟨bo,oo,none⟩) c.length co) c (k+1) (fun y=>if y=(n:Int) then(k:Int) else atF c k y) ((row.take j).foldl (xS n) ((c.take k).foldl (yh g) (List.replicate g.length []))))) (fun i _=>row.length-(intOf i).toNat)
    case atStart=>exact⟨0,Jt _,rfl,by simpa using d4⟩
    case round=>
     obtain⟨j,hj,rfl,d⟩:=hrel
     by_cases d1:j<row.length
     ·obtain⟨s,a0⟩:∃s,row[j]? =some s:=⟨_,Jd d1⟩
      have e0:s<g.length:=HV.out.2 row (Ji a9.out) s (Ji a0);obtain⟨b2,o2,rfl,h6,c3⟩:=HX.out j s a0;have cs:=((ww rfl x d.out.hb).cell (p:=⟨b2,o2+j,none⟩) (show b2<w.heap.size by omega)).trans c3;simp only[zj] at cs;have b4:=d.out.hl;obtain⟨pr,a1⟩:∃pr,((row.take j).foldl (xS n) ((c.take k).foldl (yh g) (List.replicate g.length [])))[s]? =some pr:=⟨_,Jd (by rw[b4];exact e0)⟩
      obtain⟨ap,a8,cp,a3,fp⟩:=d.out.hp.get a1;have c2:=K2 d.out.hv;have h5:=d.out.lt.2.2.2.2.2.2;have g1:pr.length<=4000004000000:=by have:=pred_len HR.out c row k j n _ (Jn hk e2) a1;omega
      have g0:(s:Int)<g.length:=Zo;have g4:(j:Int)<row.length:=Zo;have lb:=d.out.lt;have d6:=lt_of_block d.out.hv;have b3:=d.out.hp.bplt;have d5:=zC a3 d.out.hv (.inl Zo);obtain⟨cc,a7⟩:=d.out.hp.blk;have b1:=zC a3 a7 (.inr Zd);have c5:=Ja a1;have f7:=Ja a0;have i1:=Ja a7;have f8:=Ja a3;clear a1 a0 a7 a3 c3 b4 d2 hc;have f2:∀o,N (wr.alloc o) bp s:=fun o=>(Qm (w:=wr) (Below.heap_alloc _ _ _ b3)).trans fp
      have f5:∀o,A (wr.alloc o) bp s (.slice ap pr.length a8):=fun o=>(Oo (w:=wr) (Below.heap_alloc _ _ _ b3)).trans cp
      have f6:∀o,A (wr.alloc o) bv 2 (.slice (some ⟨bp,0,none⟩) g.length g.length):=fun o=>(Oo (w:=wr) (Below.heap_alloc _ _ _ d6)).trans c2
      go_upto_block 3 with fail
      go_cut [7] (fun s7 wx=>Hid (ViewMem W0 wx (w.heap.size+1) BB bv bm bp g.length (.slice (some ⟨bo,oo,none⟩) c.length co) c (k+1) (fun y=>if y=(n:Int) then(k:Int) else atF c k y) (((row.take j).foldl (xS n) ((c.take k).foldl (yh g) (List.replicate g.length []))).set s (pr++ [n]))))
      case first=>
       go_upto_region 9 with fail
       go_region_law (first|(refine step_append_lies _ (by rfl) (.tmp 54) (.tmp 56) _ (by rfl) BB 3 ii (I 0) 1 8 Tryz.underlying22 e9 d0 c9 c8 rfl Zo (.slice ap pr.length a8) pr.length (pr.map zj) (by rfl) ((f8.out.alloc _).drew) ⟨wr.heap.size,0,none⟩ 1 1 [I n] (by rfl) (by rfl) (Oi (cs:=#[I n]) (t:=3) (fr:=(0,0)) (heap_alloc_new wr _)) (by simp[Value.oneCell']) Zo (by unfold maxLen;omega) Zo Zt (wr.heap.size+1) Zs ?_;intro gg h0 w3 b0 l f0 g3;have i0:=(l.cell_far ⟨bv,2,none⟩ Zt (Ne.symm d5)).trans (f6 _);have h8:=(l.cell_far ⟨bp,s,none⟩ Zt (Ne.symm b1)).trans (f5 _);have h7:=(l.frozen_far ⟨bp,s,none⟩ Zt (Ne.symm b1)).trans (f2 _)))
       all_goals (go_wp2_with fail;go_meet;exact Ja (d.out.push c5.out cp (uj l) b0 f0 Zo))
      case rest=>
       go_wp2_with fail;go_roundw
       case rel=>exact⟨j+1,by omega,by go_num,by rw[Nh,f7.out];simpa[xS,Jj,c5.out] using hcut⟩
       case measure=>simp[intOf];omega
     ·go_wp2_with fail;go_roundw
      case rel=>exact⟨k+1,by omega,by go_num,by
       have e8:j=row.length:=Zo;have h1:=d;rw[e8,Nl] at h1;rw[Nh,c7.out,List.foldl_append];have h2:succ g n=row:=by simp[succ,Jj,a9.out]
       have h3:atF c (k+1)=fun y=>if y=(n:Int) then(k:Int) else atF c k y:=by
        funext y;simp only[atF,Jj,c7.out,Ot]
       rw[h3]
       simpa[yh,h2] using h1⟩
      case measure=>simp[intOf];omega
   ·have e7:k=c.length:=Zo;subst e7;go_wp2_with fail;go_ret;refine⟨bv,rfl,?_,?_,ww rfl x HK.out.hb⟩
    ·have:=HK.out.lt;omega
    ·have:=HK.out.read
     rwa [Nl] at this
theorem uB {α:Type}(f:α->List Value)(n:Nat)(hf:∀a,(f a).length=n):∀(l:List α) (k:Nat) (a:α),l[k]? =some a->∀j,j<n->(l.flatMap f)[k*n+j]? =(f a)[j]?
 | [],k,a,hk,_,_=>by simp at hk
 |x::l,0,a,hk,j,hj=>by
  cases hk
  rw[Qa,Nat.zero_mul,Ng,Np (by rw[hf];exact hj)]
 |x::l,k+1,a,hk,j,hj=>by
  rw[Qa,Nc (by rw[hf,Nat.add_mul];omega),hf];have e:(k+1)*n+j-n=k*n+j:=by rw[Nat.add_mul];omega
  rw[e];exact uB f n hf l k a (by simpa using hk) j hj
theorem oW{α:Type}{f:α->List Value}{n:Nat}(hf:∀a,(f a).length=n){b:Nat}{l:List α}{e:TypeId}(h:Q w b (l.flatMap f).toArray e){a:α}(hk:l[k]? =some a){v:Value}(d:(f a)[j]? =some v):
 A w b (0+k*n+j) v:=by
 refine zA h ?_;have c:j<n:=by rw[<-hf a];exact(Jh.1 d).1
 rw[Ng,List.getElem?_toArray,uB f n hf l k a hk j c];exact d
def zU (q:IOp×Value):List Value:=[I q.1.code,I q.1.res,I q.1.a,I q.1.b,U (q.1.n:Int),q.2]
theorem agP{B b:Nat}{l:List (IOp×Value)}{e:TypeId}(h:Q w b (l.flatMap zU).toArray e)(hb:b<B)(h64:∀q∈l,qN q.1/\zY w B q.2 q.1.args)(hl:l.length<=1000000):
 mN w B (F b l.length l.length) (l.map (·.1)):=by
 refine⟨_,l.length,by rw[Nr],by rw[Nr];exact Je _,by omega,fun k o hk=>?_⟩;rw[Jr,Oz] at hk;obtain⟨q,hq,rfl⟩:=hk;have c:=fun j v (hj:(zU q)[j]? =some v)=>oW (f:=zU) (n:=6) (fun _=>rfl) h hq hj
 obtain⟨h1,h2⟩:=h64 q (Ji hq);exact⟨b,0,rfl,hb,c 0 _ rfl,c 1 _ rfl,c 2 _ rfl,c 3 _ rfl,c 4 _ rfl,h1,q.2,c 5 _ rfl,h2⟩
def za (q:IEdge×Value):List Value:=[I q.1.block,q.2]
def RetProgO (w:World)(p:IProg)(e:Ending)(w':World):Prop:=
 ∃f1 f2 a1 a2 d1 d2 b1 b2,e=.returned (.agg (R p f1 f2 a1 a2 d1 d2 b1 b2))/\
  ProgIn w' w'.heap.size ⟨.slice f1 p.funcs.length f2,.slice a1 p.args.length a2,.slice d1 p.data.length d2,.slice b1 p.banks.length b2⟩ p/\O w w'
theorem mL.open{p:IProg}{e:Ending}(h:mL w p e w'):RetProgO w p e w':=by
 obtain⟨⟨Vf,Va,Vd,Vb⟩,rfl,hp,hb⟩:=h;obtain⟨f1,f2,e1,_,_⟩:=hp.funcs.form;obtain⟨a1,a2,e2,_,_⟩:=hp.args.form;obtain⟨d1,d2,e3,_,_⟩:=hp.data.form;obtain⟨b1,b2,e4,_,_⟩:=hp.banks.form;simp only at e1 e2 e3 e4;subst e1 e2 e3 e4;exact⟨f1,f2,a1,a2,d1,d2,b1,b2,rfl,hp,hb⟩
def eM (w:World)(R:IRun)(e:Ending)(w':World):Prop:=
 ∃oa oc,e=.returned (.agg #[U (R.value:Int),.slice oa R.out.length oc,I (R.kind:Int),U (R.info:Int),.string (y9 R.ram),I (R.inputs:Int),I (R.polls:Int)])/\vM w' w'.heap.size (.slice oa R.out.length oc) R.out/\O w w'
theorem abr.open{R:IRun}{e:Ending}(h:abr w R e w'):eM w R e w':=by
 obtain⟨ov,rfl,ho,hb⟩:=h;obtain⟨oa,oc,rfl,_,_⟩:=ho.form;exact⟨oa,oc,rfl,ho,hb⟩
theorem uL {t:ITerm}{ops:List IOp}(h1:ops.length<=2000000)(h2:t.to.length<=2000000):mW (rd t ops):=by
 intro f hf;simp only[rd,Jo] at hf;subst hf;refine⟨⟨by simp,fun b hb=>?_⟩,fun b hb=>?_⟩
 ·rw[Jo] at hb;subst hb;exact⟨by simp,h1,h2⟩
 ·rw[Jo] at hb;subst hb;simp
structure Stp (X:Nat->Prop) (w:World) (X':Nat->Prop) (w':World):Prop where
 os:w'.os=w.os
 tape:w'.tape=w.tape
 output:w'.output=w.output
 size:w.heap.size<=w'.heap.size
 new:∀k,X' k->X k∨w.heap.size<=k
 kept:∀k,k<w.heap.size->¬X k->w'.heap[k]? =w.heap[k]?
theorem Stp.refl (X:Nat->Prop)(w:World):Stp X w X w:=⟨rfl,rfl,rfl,Je _,fun _ h=> .inl h,fun _ _ _=>rfl⟩
theorem Stp.trans{X1 X2:Nat->Prop}(h:Stp X w X1 w1)(k:Stp X1 w1 X2 w2):Stp X w X2 w2:=
 ⟨k.os.trans h.os,k.tape.trans h.tape,k.output.trans h.output,Jn h.size k.size,
  fun i hi=>(k.new i hi).elim (h.new i) (fun e=> .inr (Jn h.size e)),
  fun i hi hx=>(k.kept i (Jy hi h.size) (fun e=>(h.new i e).elim hx Zo)).trans (h.kept i hi hx)⟩
theorem Stp.of_below(h:O w w'):Stp X w X w':=
 ⟨h.os,h.tape,h.output,h.size,fun _ h=> .inl h,fun k hk _=>h.block k hk⟩
theorem Stp.below{B:Nat}(h:Stp X w X' w')(c:∀k,X k->B<=k)(hB:B<=w.heap.size):Below B w w':=
 ⟨h.os,h.tape,h.output,h.size,fun k hk=>h.kept k Zo (fun e=>by have:=c k e;omega)⟩
theorem Stp.blk(h:Stp X w X' w')(hk:w.heap[k]? =some o)(c:¬X k):w'.heap[k]? =some o:=(h.kept k (lt_of_block hk) c).trans hk
theorem Stp.cell {X X':Nat->Prop}{w w':World}(h:Stp X w X' w'){k i:Nat}{v:Value}(hk:A w k i v)(c:¬X k):A w' k i v:=
 (Oo (h.kept k (jU hk) c)).trans hk
theorem Stp.not(h:Stp X w X' w')(hk:k<w.heap.size)(c:¬X k):¬X' k:=fun e=>(h.new k e).elim c Zo
def yE {α:Type}(sz:Nat)(R:World->(Nat->Prop)->Nat->Nat->α->Prop)(w:World)(X:Nat->Prop)(v:Value)(xs:List α):Prop:=
 ∃(a:Option Addr) (cap:Nat),v=.slice a xs.length cap/\xs.length<=cap/\cap<=9223372036854775807/\∀(k:Nat) (x:α),xs[k]? =some x->∃b o,a=some ⟨b,o,none⟩/\b<w.heap.size/\¬X b/\R w X b (o+k*sz) x
def rP {α:Type}(R:World->(Nat->Prop)->Nat->Nat->α->Prop):Prop:=∀X w X' w' b q x,b<w.heap.size->¬X b->Stp X w X' w'->R w X b q x->R w' X' b q x
theorem yE.step {α:Type}{sz:Nat}{R:World->(Nat->Prop)->Nat->Nat->α->Prop}(i:rP R){X X':Nat->Prop}{w w':World}{v:Value}{xs:List α}(h:yE sz R w X v xs)(hs:Stp X w X' w'):yE sz R w' X' v xs:=by
 obtain⟨a,g,rfl,h1,h2,h3⟩:=h;refine⟨a,g,rfl,h1,h2,fun k x hk=>?_⟩;obtain⟨b,o,l,c,d,j⟩:=h3 k x hk;exact⟨b,o,l,Jy c hs.size,hs.not c d,i _ _ _ _ _ _ _ c d hs j⟩
theorem yE.nil{α:Type}{sz:Nat}{R:World->(Nat->Prop)->Nat->Nat->α->Prop}:yE sz R w X (L) []:=
 ⟨none,0,rfl,Je _,by omega,fun k x hk=>by simp at hk⟩
theorem yE.form{α:Type}{sz:Nat}{R:World->(Nat->Prop)->Nat->Nat->α->Prop}{v:Value}{xs:List α}(h:yE sz R w X v xs):∃a cap,v=.slice a xs.length cap/\xs.length<=cap/\cap<=9223372036854775807:=
 let⟨a,cap,e,h1,h2,_⟩:=h;⟨a,cap,e,h1,h2⟩
theorem yE.to{α:Type}{sz:Nat}{R:World->(Nat->Prop)->Nat->Nat->α->Prop}{S:World->Nat->Nat->Nat->α->Prop}{v:Value}{xs:List α}(h:yE sz R w X v xs)(c:∀b q x,R w X b q x->S w w.heap.size b q x):yN sz S w w.heap.size v xs:=by
 obtain⟨a,d,rfl,h1,h2,h3⟩:=h;refine⟨a,d,rfl,h1,h2,fun k x hk=>?_⟩;obtain⟨b,o,j,i,_,g⟩:=h3 k x hk;exact⟨b,o,j,i,c _ _ _ g⟩
def IntG (w:World)(X:Nat->Prop)(b q:Nat)(x:Int):Prop:=A w b q (I x)/\I64 x
theorem zn:rP IntG:=fun X w X' w' b q x _ hx hs h=>⟨hs.cell h.1 hx,h.2⟩
abbrev wm:=yE 1 IntG
def EdgeG (w:World)(X:Nat->Prop)(b q:Nat)(x:IEdge):Prop:=A w b q (I x.block)/\I64 x.block/\∃av,A w b (q+1) av/\wm w X av x.args
theorem yq:rP EdgeG:=fun X w X' w' b q x _ hx hs h=>by
 obtain⟨h1,h2,av,h3,c⟩:=h;exact⟨hs.cell h1 hx,h2,av,hs.cell h3 hx,c.step zn hs⟩
abbrev vT:=yE 2 EdgeG
theorem wm.to{v:Value}(h:wm w X v xs):zY w w.heap.size v xs:=yE.to h fun _ _ _ h=>h
theorem vT.to{v:Value}{xs:List IEdge}(h:vT w X v xs):wH w w.heap.size v xs:=yE.to h fun _ _ _ h=>by
 obtain⟨h1,h2,av,h3,c⟩:=h;exact⟨h1,h2,av,h3,wm.to c⟩
theorem rO{S:Nat}{v:Value}{n:Nat}(h:w.ownsRow S 3 1 v n (xs.map zN))(j:xs.length=n)(i:∀x∈xs,I64 x)(l:∀k,v.ownBlock=some k->¬X k):wm w X v xs:=by
 subst j;obtain⟨a,c,rfl⟩:=zG h;have hl:=zm h;refine⟨a,c,rfl,hl.1,by omega,fun k x hk=>?_⟩;have m:=(Jh.1 hk).1;obtain⟨g,o,e,hg,d⟩:=h.form Zo;cases e;refine⟨g,0,rfl,d,l g rfl,?_,i x (Ji hk)⟩;rw[Nk,Ng];exact(h.cellAt k Zo).trans (by rw[Jr,hk];rfl)
theorem ki{b:Nat}{e:TypeId}(h:Q w b (xs.map fun x=>I x).toArray e)(c:¬X b)(h64:∀x∈xs,I64 x)(hl:xs.length<=1000000):wm w X (F b xs.length xs.length) xs:=by
 refine⟨_,xs.length,rfl,Je _,by omega,fun k x hk=>⟨b,0,rfl,lt_of_block h,c,?_,h64 x (Ji hk)⟩⟩;rw[Ng,Nk];exact zA h (by simp[hk])
theorem ld{S:Nat}{v:Value}{l:List (IEdge×Value)}(h:w.ownsRow S 79 2 v l.length (l.flatMap za))(h64:∀q∈l,I64 q.1.block/\wm w X q.2 q.1.args)(m:∀k,v.ownBlock=some k->¬X k):vT w X v (l.map (·.1)):=by
 obtain⟨a,c,rfl⟩:=zG h;have hl:=zm h;refine⟨a,c,by rw[Nr],by rw[Nr];exact hl.1,by omega,fun k o hk=>?_⟩;rw[Jr,Oz] at hk;obtain⟨q,hq,rfl⟩:=hk;have t:=(Jh.1 hq).1;obtain⟨g,u,e,hg,hb⟩:=h.form Zo;cases e
 have i:∀j v,(za q)[j]? =some v->A w g (0+k*2+j) v:=fun j v hj=>by
  have d:j<2:=(Jh.1 hj).1;rw[Ng];exact(h.cellAt (k*2+j) Zo).trans ((uB za 2 (fun _=>rfl) l k q hq j d).trans hj)
 obtain⟨h1,h2⟩:=h64 q (Ji hq);exact⟨g,0,rfl,hb,m g rfl,i 0 _ rfl,h1,q.2,i 1 _ rfl,h2⟩
theorem qt{b:Nat}{l:List (IEdge×Value)}{e:TypeId}(h:Q w b (l.flatMap za).toArray e)(d:¬X b)(h64:∀q∈l,I64 q.1.block/\wm w X q.2 q.1.args)(hl:l.length<=1000000):
 vT w X (F b l.length l.length) (l.map (·.1)):=by
 refine⟨_,l.length,by rw[Nr],by rw[Nr];exact Je _,by omega,fun k o hk=>?_⟩;rw[Jr,Oz] at hk;obtain⟨q,hq,rfl⟩:=hk;have c:=fun j v (hj:(za q)[j]? =some v)=>oW (f:=za) (n:=2) (fun _=>rfl) h hq hj
 obtain⟨h1,h2⟩:=h64 q (Ji hq);exact⟨b,0,rfl,lt_of_block h,d,c 0 _ rfl,h1,q.2,c 1 _ rfl,h2⟩
structure MKC where
 E:ME
 sv:Value
 fpv:Value
 apv:Value
 dv:Value
 bv:Value
 pm:Nat
 pp:Nat
 B:Nat
 Z:Nat->Prop
def MKC.av (K:MKC)(X:Nat->Prop):Nat->Prop:=fun k=>X k∨K.Z k
variable {K:MKC}
theorem Stp.av(h:Stp X w X' w')(K:MKC):Stp (K.av X) w (K.av X') w':=
 ⟨h.os,h.tape,h.output,h.size,fun k hk=>hk.elim (fun e=>(h.new k e).elim (fun e=> .inl (.inl e)) .inr) (fun e=> .inl (.inr e)),fun k hk hx=>h.kept k hk (fun e=>hx (.inl e))⟩
structure BM where
 b:IBlk
 pv:Value
 ov:Value
 tv:Value
 ol:List (IOp×Value)
variable {l:List BM}{q:BM}
def xG (q:BM):List Value:=[q.pv,q.ov,I q.b.term.kind,I q.b.term.a,q.tv]
structure BMOk (w:World) (K:MKC) (X:Nat->Prop) (q:BM):Prop where
 k64:I64 q.b.term.kind/\I64 q.b.term.a
 par:wm w (K.av X) q.pv q.b.params
 ops:q.b.ops=q.ol.map (·.1)
 own:w.ownsRow K.B 76 6 q.ov q.ol.length (q.ol.flatMap zU)
 arg:∀o∈q.ol,qN o.1/\wm w (K.av X) o.2 o.1.args
 tos:vT w (K.av X) q.tv q.b.term.to
 inX:∀k,q.ov.ownBlock=some k->X k
theorem BMOk.step {w w':World}{K:MKC}{X X':Nat->Prop}{q:BM}(h:BMOk w K X q)(hs:Stp X w X' w')(hk:∀k,q.ov.ownBlock=some k->w'.heap[k]? =w.heap[k]?)(c:∀k,X k->X' k):BMOk w' K X' q:=
 ⟨h.k64,h.par.step zn (hs.av K),h.ops,yD h.own hk,fun o ho=>⟨(h.arg o ho).1,(h.arg o ho).2.step zn (hs.av K)⟩,h.tos.step yq (hs.av K),fun k hk=>c k (h.inX k hk)⟩
def uC (K:MKC)(M:MS)(fv vv:Value):Array Value:=
 #[K.sv,I (M.pos:Int),Y K.pp,I (K.E.me:Int),fv,I (M.cur:Int),I (M.next:Int),vv,I M.left]
structure MkEnv (w:World) (K:MKC) (X:Nat->Prop):Prop where
 s:zY w K.B K.sv K.E.s
 fpv:∃a c,K.fpv=.slice a K.E.nf c
 prog:w.heap[K.pp]? =some (.cells #[K.fpv,K.apv,.int .i64 0,.int .i64 K.E.handler,K.dv,K.bv] 29 (0,0))
 args:wm w (K.av X) K.apv K.E.args
 data:∃b,K.dv=.slice (some ⟨b,0,none⟩) 3 3/\¬K.av X b/\w.heap[b]? =some (.cells #[.int .i64 (-1),.int .u16 16384,.int .u16 16,.int .i64 (-1),.int .u16 16640,.int .u16 7,.int .i64 0,.int .u16 128,.int .u16 32] 89 (0,0))
 ppX:¬K.av X K.pp
 h64:I64 K.E.handler
 len:K.E.args.length=K.E.nf
 nf:K.E.nf<=4/\K.E.me<K.E.nf
 alt:∀x∈K.E.args,0<=x/\x<4
 zx:∀k,X k->¬K.Z k
 zl:∀k,K.Z k->k<w.heap.size
theorem MkEnv.step {w w':World}{K:MKC}{X X':Nat->Prop}(h:MkEnv w K X)(hs:Stp X w X' w')(hb:Below K.B w w'):MkEnv w' K X':=by
 obtain⟨b,e1,e2,e3⟩:=h.data;have c:=hs.av K;exact⟨h.s.below zO hb,h.fpv,c.blk h.prog h.ppX,h.args.step zn c,⟨b,e1,c.not (lt_of_block e3) e2,c.blk e3 e2⟩,c.not (lt_of_block h.prog) h.ppX,h.h64,h.len,h.nf,h.alt,fun k e=>(hs.new k e).elim (h.zx k) (fun e2 e3=>by have:=h.zl k e3;omega),fun k e=>Jy (h.zl k e) hs.size⟩
structure MkIn (w:World) (K:MKC) (X:Nat->Prop) (M:MS) (fv vv:Value) (l:List BM):Prop where
 blk:w.heap[K.pm]? =some (.cells (uC K M fv vv) 128 (0,0))
 own:w.ownsRow K.B 84 5 fv l.length (l.flatMap xG)
 fl:M.f=l.map (·.b)
 bok:∀q∈l,BMOk w K X q
 apart:∀(i j:Nat) (qi qj:BM) (k:Nat),l[i]? =some qi->l[j]? =some qj->qi.ov.ownBlock=some k->qj.ov.ownBlock=some k->i=j
 vown:w.ownsRow K.B 3 1 vv M.vals.length (M.vals.map zN)
 v64:∀x∈M.vals,I64 x
 xm:X K.pm
 xf:∀k,fv.ownBlock=some k->X k
 xv:∀k,vv.ownBlock=some k->X k
 xB:∀k,X k->K.B<=k
 xl:∀k,X k->k<w.heap.size
 env:MkEnv w K X
 bnd:M.sz<=1000000
 lft:6<=M.left+M.pos/\M.left<=6
def wW (w:World)(K:MKC)(X:Nat->Prop)(M:MS):Prop:=∃fv vv l,MkIn w K X M fv vv l
section
variable {w:World} {K:MKC} {X:Nat->Prop} {M:MS} {fv vv:Value} {l:List BM} (h:MkIn w K X M fv vv l)
include h
theorem MkIn.c0:A w K.pm 0 K.sv:=zA h.blk rfl
theorem MkIn.c1:A w K.pm 1 (I (M.pos:Int)):=zA h.blk rfl
theorem MkIn.c2:A w K.pm 2 (Y K.pp):=zA h.blk rfl
theorem MkIn.c3:A w K.pm 3 (I (K.E.me:Int)):=zA h.blk rfl
theorem MkIn.c4:A w K.pm 4 fv:=zA h.blk rfl
theorem MkIn.c5:A w K.pm 5 (I (M.cur:Int)):=zA h.blk rfl
theorem MkIn.c6:A w K.pm 6 (I (M.next:Int)):=zA h.blk rfl
theorem MkIn.c7:A w K.pm 7 vv:=zA h.blk rfl
theorem MkIn.c8:A w K.pm 8 (I M.left):=zA h.blk rfl
theorem MkIn.free (i:Nat):N w K.pm i:=zE h.blk
theorem MkIn.size:K.B<=w.heap.size:=Jn (h.xB _ h.xm) (Qd (h.xl _ h.xm))
theorem MkIn.keep(hb:O w w'):MkIn w' K X M fv vv l:=
 have hs:Stp X w X w':=Stp.of_below hb;have hk:∀ {v:Value} {e:TypeId} {sz n:Nat} {xs:List Value},w.ownsRow K.B e sz v n xs->∀k,v.ownBlock=some k->w'.heap[k]? =w.heap[k]?:=fun ho k hk=>hb.block k (ho.lt k hk).2
 ⟨zH hb h.blk (lt_of_block h.blk),yD h.own (hk h.own),h.fl,fun q hq=>(h.bok q hq).step hs (hk (h.bok q hq).own) (fun _ e=>e),h.apart,yD h.vown (hk h.vown),h.v64,h.xm,h.xf,h.xv,h.xB,fun k e=>Jy (h.xl k e) hb.size,
  h.env.step hs (hb.mono h.size),h.bnd,h.lft⟩
theorem MkIn.setC (i:Nat)(u:Value)(M':MS)(vv':Value)(j:(uC K M fv vv).setIfInBounds i u=uC K M' fv vv')(hf:M'.f=M.f)(hv:w.ownsRow K.B 3 1 vv' M'.vals.length (M'.vals.map zN))(h64:∀x∈M'.vals,I64 x)(g:∀k,vv'.ownBlock=some k->X k)
 (d:M'.sz<=1000000) (hl:6<=M'.left+M'.pos/\M'.left<=6):MkIn (w.setCell ⟨K.pm,i,none⟩ u) K X M' fv vv' l/\Stp X w X (w.setCell ⟨K.pm,i,none⟩ u):=by
 have hs:Stp X w X (w.setCell ⟨K.pm,i,none⟩ u):=⟨rfl,rfl,rfl,by simp,fun _ h=> .inl h,fun k hk hx=>Below.heap_setCell _ _ _ _ (fun e=>hx (by rw[e];exact h.xm))⟩
 have c:∀ {v:Value} {e:TypeId} {sz n:Nat} {xs:List Value},w.ownsRow K.B e sz v n xs->e≠128->∀k,v.ownBlock=some k->(w.setCell ⟨K.pm,i,none⟩ u).heap[k]? =w.heap[k]?:=fun ho he k hk=>
  Below.heap_setCell _ _ _ _ (fun e=>zC ho h.blk (.inr he) (by rw[hk];exact congrArg some e))
 refine⟨⟨?_,yD h.own (c h.own Zd),hf.trans h.fl,fun q hq=>(h.bok q hq).step hs (c (h.bok q hq).own Zd) (fun _ e=>e),h.apart,yD hv (c hv Zd),h64,h.xm,h.xf,g,h.xB,fun k e=>by simpa using h.xl k e,
  h.env.step hs ((Below.refl _ _).setCell (h.xB _ h.xm) _),d,hl⟩,hs⟩
 rw[zD h.blk,j]
end
def aav {α:Type}:List α->Nat->List α->List α
 |xs,_,[]=>xs
 |xs,o,v::vs=>aav (xs.set o v) (o+1) vs
theorem mV {α:Type}:∀(vs:List α) (xs:List α) (o:Nat),(aav xs o vs).length=xs.length
 | [],xs,o=>rfl
 |v::vs,xs,o=>(mV vs _ _).trans Zs
theorem afD {α:Type}(m:Nat):∀(vs:List α) (xs:List α) (o:Nat),(aav xs o vs).take m=aav (xs.take m) o vs
 | [],xs,o=>rfl
 |v::vs,xs,o=>(afD m vs _ _).trans (by rw[List.take_set];rfl)
theorem fV {α:Type}:∀(vs p q r:List α),q.length=vs.length->aav (p++(q++r)) p.length vs=p++(vs++r)
 | [],p,[],r,_=>rfl
 |v::vs,p,x::q,r,h=>by
  have e:(p++(x::q++r)).set p.length v=(p++ [v])++(q++r):=by
   rw[Uj _ _ (Je _)];simp
  show aav ((p++(x::q++r)).set p.length v) (p.length+1) vs=_
  rw[e];have:=fV vs (p++ [v]) q r (by simpa using h);rw[Jk,Ju] at this;rw[this]
  simp
 | [],p,x::q,r,h=>by simp at h
 |v::vs,p,[],r,h=>by simp at h
theorem wq {α:Type}(f:α->List Value)(n:Nat)(hf:∀a,(f a).length=n):∀l:List α,(l.flatMap f).length=l.length*n
 | []=>by simp
 |a::l=>by rw[Qa,Jk,hf,wq f n hf l,Nq,Nat.add_mul];omega
theorem js {α:Type}(f:α->List Value)(n:Nat)(hf:∀a,(f a).length=n)(l:List α)(k:Nat)(b a:α)(hk:l[k]? =some b):aav (l.flatMap f) (k*n) (f a)=(l.set k a).flatMap f:=by
 have c:=(Jh.1 hk).1;have hb:l[k]=b:=(Jh.1 hk).2
 have e1:l=l.take k++b::l.drop (k+1):=by
  rw[<-hb,Ue,Qi]
 have hl:(l.take k).length=k:=by simp;omega
 have e2:l.set k a=l.take k++a::l.drop (k+1):=by
  rw[List.set_eq_take_append_cons_drop,if_pos c]
 rw[e2]
 have e3:l.flatMap f=(l.take k).flatMap f++(f b++(l.drop (k+1)).flatMap f):=by
  conv=>lhs;rw[e1]
  rw[Nx,Qa]
 have d:((l.take k).flatMap f).length=k*n:=by rw[wq f n hf,hl]
 rw[e3,Nx,Qa,<-d];exact fV _ _ _ _ (by rw[hf,hf])
theorem th (b:Nat)(t:TypeId):∀(vs:List Value) (o:Nat) (w:World) (cur:Array Value),Q w b cur t->Q (w.setCells b o vs) b (aav cur.toList o vs).toArray t
 | [],o,w,cur,h=>by simpa[aav,World.setCells] using h
 |v::vs,o,w,cur,h=>by
  have:=th b t vs (o+1) (w.setCell ⟨b,o,none⟩ v) _ (zD h v);rw[Array.toList_setIfInBounds] at this;exact this
theorem ye (b k:Nat)(hne:k≠b):∀(vs:List Value) (o:Nat) (w:World),(w.setCells b o vs).heap[k]? =w.heap[k]?
 | [],o,w=>rfl
 |v::vs,o,w=>(ye b k hne vs (o+1) _).trans (Below.heap_setCell _ _ _ _ (by simpa using hne))
theorem y8 (b:Nat):∀(vs:List Value) (o:Nat) (w:World),(w.setCells b o vs).heap.size=w.heap.size
 | [],_,_=>rfl
 |v::vs,o,w=>(y8 b vs (o+1) _).trans Zs
theorem ze (b:Nat):∀(vs:List Value) (o:Nat) (w:World),(w.setCells b o vs).os=w.os/\(w.setCells b o vs).tape=w.tape/\(w.setCells b o vs).output=w.output
 | [],_,_=>⟨rfl,rfl,rfl⟩
 |v::vs,o,w=>ze b vs (o+1) _
section
variable {α:Type} {f:α->List Value} {n:Nat} {w:World} {base g:Nat} {e:TypeId} {v:Value} {l:List α} {k:Nat} {b:α}
theorem z9 (hf:∀a,(f a).length=n)(h:w.ownsRow base e n v l.length (l.flatMap f))(hg:v.ownBlock=some g)(hk:l[k]? =some b):w.rangeAt g (k*n) (f b):=fun j u hj=>by
 have c:j<n:=by rw[<-hf b];exact(Jh.1 hj).1
 have h1:=h.cells hg (k*n+j) u ((uB f n hf l k b hk j c).trans hj);rw[Addr.add_mid,Ng] at h1;exact h1
theorem zq (m:0<n)(hf:∀a,(f a).length=n)(h:w.ownsRow base e n v l.length (l.flatMap f))(hg:v.ownBlock=some g)(hk:l[k]? =some b):w.there g (k*n) n:=fun j hj=>by
 refine⟨?_,?_⟩
 ·obtain⟨u,c⟩:∃u,(f b)[j]? =some u:=⟨_,Jd (by rw[hf];exact hj)⟩
  rw[z9 hf h hg hk j u c];rfl
 ·rcases h.2 with⟨rfl,_⟩|⟨g',i,cur,rfl,_,d,_⟩
  ·simp[Value.ownBlock] at hg
  ·simp[Value.ownBlock] at hg;subst hg;exact zE d
theorem uZ (hf:∀a,(f a).length=n)(h:w.ownsRow base e n v l.length (l.flatMap f))(hg:v.ownBlock=some g)(hk:l[k]? =some b)(a:α):(w.setCells g (k*n) (f a)).ownsRow base e n v l.length ((l.set k a).flatMap f):=by
 refine⟨by rw[wq f n hf,Nd],?_⟩;rcases h.2 with⟨rfl,_⟩|⟨g',c,cur,rfl,h1,h2,h3,j,i,d⟩
 ·simp[Value.ownBlock] at hg
 ·simp[Value.ownBlock] at hg;subst hg;refine .inr ⟨g',c,_,rfl,h1,th _ _ _ _ _ _ h2,h3,j,?_,?_⟩
  ·rw[List.size_toArray,mV];simpa using i
  ·rw[afD,d];exact js f n hf l k b a hk
end
theorem yr (q:BM):(xG q).length=5:=rfl
section
variable {w:World} {K:MKC} {X:Nat->Prop} {M:MS} {fv vv:Value} {l:List BM} (h:MkIn w K X M fv vv l)
include h
theorem MkIn.getB{b:IBlk}(hb:M.f[i]? =some b):∃q,l[i]? =some q/\q.b=b/\BMOk w K X q:=by
 rw[h.fl,Jr,Oz] at hb;obtain⟨q,hq,rfl⟩:=hb;exact⟨q,hq,rfl,h.bok q (Ji hq)⟩
theorem MkIn.len:l.length=M.f.length:=by rw[h.fl,Nr]
theorem MkIn.flen:M.f.length<=1000000:=by have:=h.bnd;unfold MS.sz at this;omega
theorem MkIn.fblk(hq:l[i]? =some q):∃g c,fv=F g l.length c/\X g/\g<w.heap.size/\g≠K.pm:=by
 have j:=(Jh.1 hq).1;obtain⟨a,c,e⟩:=zG h.own;rw[e];have ho:=h.own;rw[e] at ho;obtain⟨g,k,e2,hg,d⟩:=ho.form Zo;cases e2;exact⟨g,_,rfl,h.xf g (by rw[e];rfl),d,fun e3=>zC ho h.blk (.inr Zd) (by rw[<-e3];rfl)⟩
end
theorem MkIn.only{fv:Value}(h:MkIn w K X M fv vv l)(d:w.heap.size<=W.heap.size)(ho:W.os=w.os/\W.tape=w.tape/\W.output=w.output)
 (hk:∀k,k<w.heap.size->k≠K.pm->W.heap[k]? =w.heap[k]?) (i:Q W K.pm (uC K M' fv vv) 128) (hf:M'.f=M.f) (hv:M'.vals=M.vals) (g:M'.sz<=1000000) (hl:6<=M'.left+M'.pos/\M'.left<=6):
 MkIn W K X M' fv vv l/\Stp X w X W:=by
 have hs:Stp X w X W:=⟨ho.1,ho.2.1,ho.2.2,d,fun _ h=> .inl h,fun k hk' hx=>hk k hk' (fun e=>hx (by rw[e];exact h.xm))⟩
 have c:∀ {v:Value} {e:TypeId} {sz n:Nat} {xs:List Value},w.ownsRow K.B e sz v n xs->e≠128->∀k,v.ownBlock=some k->W.heap[k]? =w.heap[k]?:=fun ho he k hk'=>
  hk k (ho.lt k hk').2 (fun e=>zC ho h.blk (.inr he) (by rw[hk',e]))
 exact⟨⟨i,yD h.own (c h.own Zd),hf.trans h.fl,fun q hq=>(h.bok q hq).step hs (c (h.bok q hq).own Zd) (fun _ e=>e),h.apart,by rw[hv];exact yD h.vown (c h.vown Zd),by rw[hv];exact h.v64,h.xm,h.xf,h.xv,h.xB,fun k e=>Jy (h.xl k e) d,
  h.env.step hs (hs.below h.xB h.size),g,hl⟩,hs⟩
theorem MkIn.turn{fv:Value}(h:MkIn w K X M fv vv l){q':BM}{c:Nat}(hq:l[c]? =some q)(hg:fv.ownBlock=some g)
 (hs:Stp X w X' W) (m:∀k,X k->X' k) (a4:∀k,X' k->k<W.heap.size) (a5:∀k,X' k->K.B<=k)
 (hk:∀k,k<w.heap.size->X k->k≠g->q.ov.ownBlock≠some k->W.heap[k]? =w.heap[k]?)
 (a0:q.ov.ownBlock≠some K.pm) (u:W.ownsRow K.B 84 5 fv l.length ((l.set c q').flatMap xG)) (y:BMOk W K X' q')
 (t:∀(j:Nat) (qj:BM) (k:Nat),l[j]? =some qj->q'.ov.ownBlock=some k->qj.ov.ownBlock=some k->j=c) (hf:M'.f=M.f.set c q'.b) (hM:M'.pos=M.pos/\M'.cur=M.cur/\M'.next=M.next/\M'.vals=M.vals/\M'.left=M.left) (hz:M'.sz<=1000000):
 MkIn W K X' M' fv vv (l.set c q'):=by
 have x:=(Jh.1 hq).1;have a1:K.pm≠g:=fun e=>zC h.own h.blk (.inr Zd) (by rw[hg,e])
 obtain⟨m1,m2,m3,m4,m5⟩:=hM;have o:uC K M' fv vv=uC K M fv vv:=by unfold uC;rw[m1,m2,m3,m5]
 have a2:∀k,vv.ownBlock=some k->k≠g/\q.ov.ownBlock≠some k:=fun k hk=>by
  obtain⟨_,_,hx⟩:=zG h.vown;refine⟨fun e=>?_,fun e=>?_⟩
  ·rcases zo h.vown h.own Zd with h1|h1
   ·rw[h1] at hk;cases hk
   ·exact h1 (by rw[hk,hg,e])
  ·rcases zo h.vown (h.bok q (Ji hq)).own Zd with h1|h1
   ·rw[h1] at hk;cases hk
   ·exact h1 (by rw[hk,e])
 have a3:∀j qj,l[j]? =some qj->j≠c->∀k,qj.ov.ownBlock=some k->k≠g/\q.ov.ownBlock≠some k:=fun j qj d hne k hk=>by
  refine⟨fun e=>?_,fun e=>hne (h.apart j c qj q k d hq hk e)⟩;rcases zo (h.bok qj (Ji d)).own h.own Zd with h1|h1
  ·rw[h1] at hk;cases hk
  ·exact h1 (by rw[hk,hg,e])
 refine⟨?_,by rw[Nd];exact u,by rw[hf,h.fl,Ox],fun p hp=>?_,fun i j qi qj k hi d hqi hqj=>?_,?_,by rw[m4];exact h.v64,m _ h.xm,fun k hk=>m _ (h.xf k hk),fun k hk=>m _ (h.xv k hk),a5,a4,h.env.step hs (hs.below h.xB h.size),hz,by rw[m5,m1];exact h.lft⟩
 ·rw[o,hk K.pm (lt_of_block h.blk) h.xm a1 a0];exact h.blk
 ·obtain⟨j,d⟩:=Ny hp;rw[Ov] at d
  by_cases e:c=j
  ·subst e;rw[if_pos rfl,if_pos x] at d;cases d;exact y
  ·rw[if_neg e] at d;refine(h.bok p (Ji d)).step hs (fun k hk'=>?_) m;obtain⟨h1,h2⟩:=a3 j p d (Ne.symm e) k hk';exact hk k (((h.bok p (Ji d)).own.lt k hk').2) ((h.bok p (Ji d)).inX k hk') h1 h2
 ·rw[Ov] at hi d
  by_cases ei:c=i
  ·rw[if_pos ei,if_pos x] at hi;cases hi
   by_cases ej:c=j
   ·omega
   ·rw[if_neg ej] at d;have:=t j qj k d hqi hqj;omega
  ·rw[if_neg ei] at hi
   by_cases ej:c=j
   ·rw[if_pos ej,if_pos x] at d;cases d;have:=t i qi k hi hqj hqi;omega
   ·rw[if_neg ej] at d;exact h.apart i j qi qj k hi d hqi hqj
 ·rw[m4];refine yD h.vown (fun k hk'=>?_);obtain⟨h1,h2⟩:=a2 k hk';exact hk k ((h.vown.lt k hk').2) (h.xv k hk') h1 h2
theorem MkIn.putV{fv vv':Value}(h:MkIn w K X M fv vv l)(hg:(w.alloc o).grownBy w3 vv.ownBlock){x:Int}
 (c:w3.ownsRow K.B 3 1 vv' (M.vals.length+1) (M.vals.map zN++ [zN x])) (t:∀k,vv'.ownBlock=some k->vv.ownBlock=some k∨w.heap.size<=k) (u:I64 x) (hz:M.sz+1<=1000000):
 MkIn (w3.setCell ⟨K.pm,7,none⟩ vv') K (fun k=>X k∨vv'.ownBlock=some k) {M with vals:=M.vals++ [x]} fv vv' l/\Stp X w (fun k=>X k∨vv'.ownBlock=some k) (w3.setCell ⟨K.pm,7,none⟩ vv'):=by
 have n1:=zC h.vown h.blk (.inr Zd);have i:=zL hg (zB h.blk) n1;have m:w.heap.size<=w3.heap.size:=by have:=hg.size;simp at this;omega
 have hk:∀k,k<w.heap.size->k≠K.pm->vv.ownBlock≠some k->(w3.setCell ⟨K.pm,7,none⟩ vv').heap[k]? =w.heap[k]?:=fun k hk hne hv=>
  (Below.heap_setCell w3 ⟨K.pm,7,none⟩ vv' k hne).trans ((hg.block k Zt (fun e=>hv e.symm)).trans (Below.heap_alloc w o k hk))
 have hs:Stp X w (fun k=>X k∨vv'.ownBlock=some k) (w3.setCell ⟨K.pm,7,none⟩ vv'):=
  ⟨hg.os,hg.tape,hg.output,by simpa using m,fun k hx'=>hx'.elim .inl (fun e=>(t k e).elim (fun e2=> .inl (h.xv k e2)) .inr),fun k hk' hxk=>hk k hk' (fun e=>hxk (by rw[e];exact h.xm)) (fun e=>hxk (h.xv k e))⟩
 have g:∀ {v:Value} {e:TypeId} {sz n:Nat} {xs:List Value},w.ownsRow K.B e sz v n xs->e≠3->e≠128->∀k,v.ownBlock=some k->(w3.setCell ⟨K.pm,7,none⟩ vv').heap[k]? =w.heap[k]?:=fun {v e sz n xs} ho h1 h2 k hk'=>by
  refine hk k (ho.lt k hk').2 (fun e3=>zC ho h.blk (.inr h2) (by rw[hk',e3])) (fun e3=>?_);rcases zo ho h.vown h1 with j|j
  ·rw[j] at hk';cases hk'
  ·exact j (by rw[hk',e3])
 refine⟨⟨?_,yD h.own (g h.own Zd Zd),h.fl,fun q hq=>(h.bok q hq).step hs (g (h.bok q hq).own Zd Zd) (fun _ e=> .inl e),h.apart,?_,?_,.inl h.xm,fun k e=> .inl (h.xf k e),fun k e=> .inr e,fun k e=>e.elim (h.xB k) (fun e2=>(c.lt k e2).1),fun k e=>?_,h.env.step hs (hs.below h.xB h.size),?_,h.lft⟩,hs⟩
 ·rw[zD i];rfl
 ·show(w3.setCell ⟨K.pm,7,none⟩ vv').ownsRow K.B 3 1 vv' (M.vals++ [x]).length ((M.vals++ [x]).map zN)
  rw[Jk,Ju,Js];exact ownsRow_setCell_other c (fun e=>zC c i (.inr Zd) (by simpa using e)) _
 ·intro y d;rcases Jl.1 d with d|d
  ·exact h.v64 y d
  ·rw[Jo] at d;subst d;exact u
 ·rcases e with e|e
  ·have:=h.xl k e;simp;omega
  ·have:=(c.lt k e).2;simpa using this
 ·unfold MS.sz at *;simp only[Jk,Ju];omega
theorem MkIn.putO{w6:World}{fv i:Value}(h:MkIn w K X M fv vv l){c lb:Nat}(hq:l[c]? =some q)(hg:fv.ownBlock=some g)
 {W3:World} (m:O w W3) (t:W3.grownBy w6 q.ov.ownBlock) {o:IOp} {av:Value} (x:w6.ownsRow K.B 76 6 i (q.ol.length+1) (q.ol.flatMap zU++zU (o,av)))
 (y:∀k,i.ownBlock=some k->q.ov.ownBlock=some k∨w.heap.size<=k) (a6:w.heap.size<=lb) {cs:Array Value} (a2:Q w6 lb cs 84)
 (hW:∃u,W=((w6.setCell ⟨lb,1,none⟩ u).drew.setCells g (c*5) (xG ⟨{q.b with ops:=q.b.ops++ [o]},q.pv,i,q.tv,q.ol++ [(o,av)]⟩)))
 (ho:qN o/\wm w (K.av X) av o.args) (hf:M'.f=M.f.set c {q.b with ops:=q.b.ops++ [o]}) (hM:M'.pos=M.pos/\M'.cur=M.cur/\M'.next=M.next/\M'.vals=M.vals/\M'.left=M.left) (hz:M'.sz<=1000000):
 ∃X',MkIn W K X' M' fv vv (l.set c ⟨{q.b with ops:=q.b.ops++ [o]},q.pv,i,q.tv,q.ol++ [(o,av)]⟩)/\Stp X w X' W:=by
 obtain⟨u,rfl⟩:=hW;have d:=h.bok q (Ji hq);have a0:=h.xf g hg;have a4:=h.xl g a0
 have hk:∀k,k<w.heap.size->k≠g->q.ov.ownBlock≠some k->((w6.setCell ⟨lb,1,none⟩ u).drew.setCells g (c*5) (xG ⟨{q.b with ops:=q.b.ops++ [o]},q.pv,i,q.tv,q.ol++ [(o,av)]⟩)).heap[k]? =w.heap[k]?:=fun k hk hne hv=>
  (ye g k hne _ _ _).trans ((Below.heap_setCell w6 ⟨lb,1,none⟩ u k (by show k≠lb;omega)).trans ((t.block k (by have:=m.size;omega) (fun e=>hv e.symm)).trans (m.block k hk)))
 have hs:Stp X w (fun k=>X k∨i.ownBlock=some k) ((w6.setCell ⟨lb,1,none⟩ u).drew.setCells g (c*5) (xG ⟨{q.b with ops:=q.b.ops++ [o]},q.pv,i,q.tv,q.ol++ [(o,av)]⟩)):=
  ⟨(ze g _ _ _).1.trans (t.os.trans m.os),(ze g _ _ _).2.1.trans (t.tape.trans m.tape),(ze g _ _ _).2.2.trans (t.output.trans m.output),by rw[y8];have:=m.size;have:=t.size;simp;omega,
   fun k hx'=>hx'.elim .inl (fun e=>(y k e).elim (fun e2=> .inl (d.inX k e2)) .inr),fun k hk' hxk=>hk k hk' (fun e=>hxk (by rw[e];exact a0)) (fun e=>hxk (d.inX k e))⟩
 have a1:∀k,i.ownBlock=some k->k≠lb/\k≠g:=fun k e=>⟨fun e2=>zC x a2 (.inr Zd) (by rw[e,e2]),fun e2=>by
  rcases y k e with e3|e3
  ·rcases zo d.own h.own Zd with h1|h1
   ·rw[h1] at e3;cases e3
   ·exact h1 (by rw[e3,hg,e2])
  ·omega⟩
 have a3:q.ov.ownBlock≠some g:=fun e=>by
  rcases zo d.own h.own Zd with h1|h1
  ·rw[h1] at e;cases e
  ·exact h1 (by rw[e,hg])
 have a5:(w6.setCell ⟨lb,1,none⟩ u).drew.ownsRow K.B 84 5 fv l.length (l.flatMap xG):=yD h.own (fun k e=>by
  have e2:k=g:=by rw[hg] at e;cases e;rfl
  subst e2
  exact(Below.heap_setCell w6 ⟨lb,1,none⟩ u k (by show k≠lb;omega)).trans ((t.block k (by have:=m.size;omega) (fun e3=>a3 e3.symm)).trans (m.block k a4)))
 refine⟨_,h.turn (M':=M') hq hg hs (fun k e=> .inl e) (fun k e=>?_) (fun k e=>e.elim (h.xB k) (fun e2=>(x.lt k e2).1)) (fun k hk' _ hne hv=>hk k hk' hne hv) (fun e=>zC d.own h.blk (.inr Zd) e) (uZ yr a5 hg hq _) ?_ (fun j qj k hj h1 h2=>?_) hf hM hz,hs⟩
 ·rcases e with e|e
  ·exact Jy (h.xl k e) hs.size
  ·rw[y8];have:=(x.lt k e).2;simpa using this
 ·refine⟨d.k64,d.par.step zn (hs.av K),by rw[Js,<-d.ops];rfl,?_,fun p hp=>?_,d.tos.step yq (hs.av K),fun k e=> .inr e⟩
  ·rw[Jk,Ju,Nx];refine yD (show w6.ownsRow K.B 76 6 i (q.ol.length+1) (q.ol.flatMap zU++ [(o,av)].flatMap zU) from x) (fun k e=>?_);obtain⟨e1,e2⟩:=a1 k e;exact(ye g k e2 _ _ _).trans (Below.heap_setCell w6 ⟨lb,1,none⟩ u k e1)
  ·rcases Jl.1 hp with hp|hp
   ·exact⟨(d.arg p hp).1,(d.arg p hp).2.step zn (hs.av K)⟩
   ·rw[Jo] at hp;subst hp;exact⟨ho.1,ho.2.step zn (hs.av K)⟩
 ·rcases y k h1 with e|e
  ·exact h.apart j c qj q k hj hq h2 e
  ·have:=((h.bok qj (Ji hj)).own.lt k h2).2;omega
theorem MkIn.putB{fv fv':Value}(h:MkIn w K X M fv vv l)(hg:(w.alloc o).grownBy w3 fv.ownBlock){b:IBlk}{pv:Value}(hb:b.ops=[]/\b.term=⟨0,0,[]⟩)
 (c:w3.ownsRow K.B 84 5 fv' (l.length+1) (l.flatMap xG++xG ⟨b,pv,L,L,[]⟩)) (a0:∀k,fv'.ownBlock=some k->fv.ownBlock=some k∨w.heap.size<=k) (u:wm w (K.av X) pv b.params) (hz:M.sz+1<=1000000):
 MkIn (w3.setCell ⟨K.pm,4,none⟩ fv') K (fun k=>X k∨fv'.ownBlock=some k) {M with f:=M.f++ [b]} fv' vv (l++ [⟨b,pv,.slice none 0 0,.slice none 0 0,[]⟩])/\Stp X w (fun k=>X k∨fv'.ownBlock=some k) (w3.setCell ⟨K.pm,4,none⟩ fv'):=by
 have n1:=zC h.own h.blk (.inr Zd);have t:=zL hg (zB h.blk) n1;have y:w.heap.size<=w3.heap.size:=by have:=hg.size;simp at this;omega
 have hk:∀k,k<w.heap.size->k≠K.pm->fv.ownBlock≠some k->(w3.setCell ⟨K.pm,4,none⟩ fv').heap[k]? =w.heap[k]?:=fun k hk hne hv=>
  (Below.heap_setCell w3 ⟨K.pm,4,none⟩ fv' k hne).trans ((hg.block k Zt (fun e=>hv e.symm)).trans (Below.heap_alloc w o k hk))
 have hs:Stp X w (fun k=>X k∨fv'.ownBlock=some k) (w3.setCell ⟨K.pm,4,none⟩ fv'):=
  ⟨hg.os,hg.tape,hg.output,by simpa using y,fun k hx'=>hx'.elim .inl (fun e=>(a0 k e).elim (fun e2=> .inl (h.xf k e2)) .inr),fun k hk' hxk=>hk k hk' (fun e=>hxk (by rw[e];exact h.xm)) (fun e=>hxk (h.xf k e))⟩
 have d:∀ {v:Value} {e:TypeId} {sz n:Nat} {xs:List Value},w.ownsRow K.B e sz v n xs->e≠84->e≠128->∀k,v.ownBlock=some k->(w3.setCell ⟨K.pm,4,none⟩ fv').heap[k]? =w.heap[k]?:=fun {v e sz n xs} ho h1 h2 k hk'=>by
  refine hk k (ho.lt k hk').2 (fun e3=>zC ho h.blk (.inr h2) (by rw[hk',e3])) (fun e3=>?_);rcases zo ho h.own h1 with x|x
  ·rw[x] at hk';cases hk'
  ·exact x (by rw[hk',e3])
 refine⟨⟨?_,?_,?_,fun q hq=>?_,fun i j qi qj k hi hj hqi hqj=>?_,yD h.vown (d h.vown Zd Zd),h.v64,.inl h.xm,fun k e=> .inr e,fun k e=> .inl (h.xv k e),fun k e=>e.elim (h.xB k) (fun e2=>(c.lt k e2).1),fun k e=>?_,h.env.step hs (hs.below h.xB h.size),?_,h.lft⟩,hs⟩
 ·rw[zD t];rfl
 ·rw[Jk,Ju,Nx];exact ownsRow_setCell_other (show w3.ownsRow K.B 84 5 fv' (l.length+1) (l.flatMap xG++ [(⟨b,pv,.slice none 0 0,.slice none 0 0,[]⟩:BM)].flatMap xG) from c) (fun e=>zC c t (.inr Zd) (by simpa using e)) _
 ·rw[Js,<-h.fl];rfl
 ·rcases Jl.1 hq with hq|hq
  ·exact(h.bok q hq).step hs (d (h.bok q hq).own Zd Zd) (fun _ e=> .inl e)
  ·rw[Jo] at hq;subst hq;refine⟨?_,u.step zn (hs.av K),hb.1,Jv _ _ _ _,(fun o ho=>by cases ho),?_,(fun k e=>by simp[Value.ownBlock] at e)⟩
   ·rw[hb.2];exact⟨⟨by decide,by decide⟩,⟨by decide,by decide⟩⟩
   ·rw[hb.2];exact yE.nil
 ·have g:∀(m:Nat) (qm:BM),(l++ [(⟨b,pv,.slice none 0 0,.slice none 0 0,[]⟩:BM)])[m]? =some qm->qm.ov.ownBlock=some k->l[m]? =some qm:=fun m qm hm hqm=>by
   by_cases e:m<l.length
   ·rwa [Np e] at hm
   ·rw[Nc Zo] at hm;have:m-l.length=0:=by have:=(Jh.1 hm).1;simp at this;omega
    rw[this] at hm;cases hm;simp[Value.ownBlock] at hqm
  exact h.apart i j qi qj k (g i qi hi hqi) (g j qj hj hqj) hqi hqj
 ·rcases e with e|e
  ·have:=h.xl k e;simp;omega
  ·have:=(c.lt k e).2;simpa using this
 ·have e:opsN [b]=0:=by unfold opsN;simp[hb.1]
  unfold MS.sz at *;simp only[Jk,Ju,ry,e];omega
def lx (w:World)(a:Rg)(e:Ending)(w':World):Prop:=e=.returned (.agg #[U (a.lo:Int),U (a.hi:Int)])/\O w w'
theorem ahg (x y:Nat):∀(ts:Array TypeId) (t:TypeId) (W:World),(Builtin.max_ ts t #[U x,U y]).run Tryz.prog W=.ok (U ((max x y:Nat):Int)) W:=fun ts t W=>by
 rw[run_max_int2,show(if(y:Int)>x then(y:Int) else x)=((max x y:Nat):Int) by split<;>omega]
theorem min16 (x y:Nat):∀(ts:Array TypeId) (t:TypeId) (W:World),(Builtin.min_ ts t #[U x,U y]).run Tryz.prog W=.ok (U ((min x y:Nat):Int)) W:=fun ts t W=>by
 rw[run_min_int2,show(if(y:Int)<x then(y:Int) else x)=((min x y:Nat):Int) by split<;>omega]
theorem full_any (w:World):G 39 #[] w (lx w vu):=by
 go_enter Tryz.func39,Tryz.ntmps39;go_wp2;refine bodyPost_ret (v:=.agg #[U 0,U 65535]) ?_ rfl ?_
 ·rw[zM rfl];go_simp
 ·exact⟨rfl,Zx⟩
theorem d8 (w:World):G 39 #[] w (fun e w'=>e=.returned (.agg #[U 0,U 65535])/\O w w'):=full_any w
theorem afP (w:World)(n:Nat):G 122 #[U n] w (lx w (agn n)):=by
 go_enter Tryz.func122,Tryz.ntmps122;go_wp2;refine bodyPost_ret (v:=.agg #[U n,U n]) ?_ rfl ?_
 ·rw[zM rfl];go_simp
 ·exact⟨rfl,Zx⟩
theorem aeI (w:World)(a:Rg):G 83 #[.agg #[U (a.lo:Int),U (a.hi:Int)]] w (fun e w'=>e=.returned (.bool (sq a))/\O w w'):=by
 obtain⟨q,hq⟩:∃q,sq a=q:=⟨_,rfl⟩
 have hb:((a.lo:Int)==(a.hi:Int))=q:=by rw[<-hq];unfold sq;rw[Bool.eq_iff_iff,beq_iff_eq,decide_eq_true_eq];omega
 rw[hq];clear hq;go_enter Tryz.func83,Tryz.ntmps83;go_wp2;go_ret;exact⟨rfl,Zx⟩
theorem hull_any (w:World)(a b:Rg):G 92 #[.agg #[U (a.lo:Int),U (a.hi:Int)],.agg #[U (b.lo:Int),U (b.hi:Int)]] w (lx w (aeG a b)):=by
 obtain⟨x,d⟩:∃x,min a.lo b.lo=x:=⟨_,rfl⟩
 obtain⟨y,c⟩:∃y,max a.hi b.hi=y:=⟨_,rfl⟩
 have h1:=min16 a.lo b.lo;have h2:=ahg a.hi b.hi;rw[d] at h1;rw[c] at h2;have hr:aeG a b=⟨x,y⟩:=by unfold aeG;rw[d,c]
 rw[hr];clear d c hr;go_enter Tryz.func92,Tryz.ntmps92;go_wp2;refine bodyPost_ret (v:=.agg #[U x,U y]) ?_ rfl ?_
 ·rw[zM rfl];go_simp
 ·exact⟨rfl,Zx⟩
theorem aeZ (w:World){lo hi:Int}(hl:-70000000<=lo/\lo<=70000000)(l:-70000000<=hi/\hi<=70000000):G 71 #[I lo,I hi] w (lx w (vy lo hi)):=by
 obtain⟨x,g⟩:∃x,(lo%65536).toNat=x:=⟨_,rfl⟩
 obtain⟨y,d⟩:∃y,(hi%65536).toNat=y:=⟨_,rfl⟩
 have e1:IntKind.u16.wrap lo=(x:Int):=by rw[xY];omega
 have e2:IntKind.u16.wrap hi=(y:Int):=by rw[xY];omega
 by_cases h:lo/65536=hi/65536
 ·have hr:vy lo hi=⟨x,y⟩:=by unfold vy;rw[if_pos h,g,d]
  have hb:(lo/65536 !=hi/65536)=false:=by simp[h]
  rw[hr];clear hr g d h;go_enter Tryz.func71,Tryz.ntmps71;go_wp2;refine bodyPost_ret (v:=.agg #[U x,U y]) ?_ rfl ⟨rfl,Zx⟩;rw[zM rfl];go_simp
 ·have hr:vy lo hi=⟨0,65535⟩:=by unfold vy;rw[if_neg h];rfl
  have hb:(lo/65536 !=hi/65536)=true:=by simp[h]
  rw[hr];clear hr g d h;go_enter Tryz.func71,Tryz.ntmps71;go_wp2_with (go_at_call 39;go_must (refine(d8 _).mono ?_;rintro e w1 ⟨rfl,c⟩;have hk:Q w1 w.heap.size #[U 0,U 0] 45:=zH c (zI Zs) Zs;have f0:=zA (i:=0) hk rfl;have f1:=zA (i:=1) hk rfl;have g0:=zE (i:=0) hk;have g1:=zE (i:=1) hk;have j:=lt_of_block hk;have k:=Below.trans (show O w _ from Zv) (c.mono Zy);clear c hk))
  refine bodyPost_ret (v:=.agg #[U 0,U 65535]) ?_ rfl ⟨rfl,Zx⟩;rw[zM rfl];go_simp
theorem afg (w:World){lo hi:Nat}(hl:lo<=hi)(j:hi<9223372036854775807):G 76 #[I lo,I hi] w (lx w (vx lo hi)):=by
 by_cases h:hi<=65535
 ·have hr:vx lo hi=⟨lo,hi⟩:=by unfold vx;rw[if_pos h]
  have e1:IntKind.u16.wrap (lo:Int)=(lo:Int):=by rw[xY];omega
  have e2:IntKind.u16.wrap (hi:Int)=(hi:Int):=by rw[xY];omega
  have hb:¬(65535:Int)<(hi:Int):=Zo;rw[hr];clear hr h;go_enter Tryz.func76,Tryz.ntmps76;go_wp2;refine bodyPost_ret (v:=.agg #[U lo,U hi]) ?_ rfl ⟨rfl,Zx⟩;rw[zM rfl];go_simp
 ·have hr:vx lo hi=⟨0,65535⟩:=by unfold vx;rw[if_neg h];rfl
  have hb:(65535:Int)<(hi:Int):=Zo;rw[hr];clear hr h;go_enter Tryz.func76,Tryz.ntmps76;go_wp2_with (go_at_call 39;go_must (refine(d8 _).mono ?_;rintro e w1 ⟨rfl,c⟩;have hk:Q w1 w.heap.size #[U 0,U 0] 45:=zH c (zI Zs) Zs;have f0:=zA (i:=0) hk rfl;have f1:=zA (i:=1) hk rfl;have g0:=zE (i:=0) hk;have g1:=zE (i:=1) hk;have d:=lt_of_block hk;have g:=Below.trans (show O w _ from Zv) (c.mono Zy);clear c hk))
  refine bodyPost_ret (v:=.agg #[U 0,U 65535]) ?_ rfl ⟨rfl,Zx⟩;rw[zM rfl];go_simp
theorem afF (w:World){a b:Rg}(i:a.lo<65536/\a.hi<65536)(hb:b.lo<65536):G 84 #[.agg #[U (a.lo:Int),U (a.hi:Int)],.agg #[U (b.lo:Int),U (b.hi:Int)]] w (lx w (dp a b)):=by
 by_cases h:b.lo=b.hi
 ·obtain⟨x,d⟩:∃x,a.lo/2^(b.lo%16)=x:=⟨_,rfl⟩
  obtain⟨y,c⟩:∃y,a.hi/2^(b.lo%16)=y:=⟨_,rfl⟩
  have hr:dp a b=⟨x,y⟩:=by unfold dp sq;rw[if_pos (by simpa using h),d,c]
  have hq:((b.lo:Int)==(b.hi:Int))=true:=by rw[beq_iff_eq];omega
  rw[hr];have g:=Ja (Jb d c);clear hr h d c;go_enter Tryz.func84,Tryz.ntmps84;go_wp2_with go_in;refine bodyPost_ret (v:=.agg #[U ((a.lo:Int)/2^(b.lo%16)),U ((a.hi:Int)/2^(b.lo%16))]) ?_ rfl ⟨by rw[<-g.out.1,<-g.out.2];simp,Zx⟩;rw[zM rfl];go_simp
 ·have hr:dp a b=⟨0,a.hi⟩:=by unfold dp sq;rw[if_neg (by simpa using h)]
  have hq:((b.lo:Int)==(b.hi:Int))=false:=Ze;rw[hr];clear hr h;go_enter Tryz.func84,Tryz.ntmps84;go_wp2_with go_in;refine bodyPost_ret (v:=.agg #[U 0,U (a.hi:Int)]) ?_ rfl ⟨rfl,Zx⟩;rw[zM rfl];go_simp
theorem aff (w:World)(p q:Bool):G 87 #[.bool p,.bool q] w (lx w (if p=true then⟨1,1⟩ else if q=true then⟨0,0⟩ else⟨0,1⟩)):=by
 cases p
 ·cases q
  ·show G 87 #[.bool false,.bool false] w (lx w ⟨0,1⟩)
   go_enter Tryz.func87,Tryz.ntmps87;go_wp2;refine bodyPost_ret (v:=.agg #[U 0,U 1]) ?_ rfl ⟨rfl,Zx⟩;rw[zM rfl];go_simp
  ·show G 87 #[.bool false,.bool true] w (lx w ⟨0,0⟩)
   go_enter Tryz.func87,Tryz.ntmps87;go_wp2_with (go_at_call 122;go_must (refine(show G 122 #[U 0] _ (fun e w'=>e=.returned (.agg #[U 0,U 0])/\Below _ _ w') from afP _ 0).mono ?_;rintro e w1 ⟨rfl,c⟩;have hk:Q w1 w.heap.size #[U 0,U 0] 45:=zH c (zI Zs) Zs;have f0:=zA (i:=0) hk rfl;have f1:=zA (i:=1) hk rfl;have g0:=zE (i:=0) hk;have g1:=zE (i:=1) hk;have d:=lt_of_block hk;have g:=Below.trans (show O w _ from Zv) (c.mono Zy);clear c hk))
   refine bodyPost_ret (v:=.agg #[U 0,U 0]) ?_ rfl ⟨rfl,Zx⟩;rw[zM rfl];go_simp
 ·show G 87 #[.bool true,.bool q] w (lx w ⟨1,1⟩)
  go_enter Tryz.func87,Tryz.ntmps87;go_wp2_with (go_at_call 122;go_must (refine(show G 122 #[U 1] _ (fun e w'=>e=.returned (.agg #[U 1,U 1])/\Below _ _ w') from afP _ 1).mono ?_;rintro e w1 ⟨rfl,c⟩;have hk:Q w1 w.heap.size #[U 0,U 0] 45:=zH c (zI Zs) Zs;have f0:=zA (i:=0) hk rfl;have f1:=zA (i:=1) hk rfl;have g0:=zE (i:=0) hk;have g1:=zE (i:=1) hk;have d:=lt_of_block hk;have g:=Below.trans (show O w _ from Zv) (c.mono Zy);clear c hk))
  refine bodyPost_ret (v:=.agg #[U 1,U 1]) ?_ rfl ⟨rfl,Zx⟩;rw[zM rfl];go_simp
theorem agd(w:World){y:Nat}(u:x<65536)(t:y<65536):G 80 #[U x,U y] w (fun e w'=>e=.returned (U ((fu (max x y):Nat):Int))/\w=w'):=by
 obtain⟨z,o⟩:∃z,max x y=z:=⟨_,rfl⟩
 have h1:=ahg x y;rw[o] at h1 ⊢;have l:z<65536:=Zo;have c:=ag3 l;have i:=Ja (Jb (aha z) (Jb c (ae4 z)));clear o u t c;go_enter Tryz.func80,Tryz.ntmps80;go_wp2
 go_loop [5] (fun mv=>∃m k:Nat,mv=I m/\m+1=2^k/\m<=fu z) (fun mv=>(65536-intOf mv).toNat)
 case atStart=>exact⟨0,0,rfl,rfl,Jt _⟩
 case round=>
  obtain⟨m,k,rfl,hk,hm⟩:=hrel;have d:=i.out.2.1;have HK:=Ja (Jb hk hm);have a2:m<65536:=Zo
  by_cases g:m<z
  ·have h:(m:Int)<(z:Int):=Zo
   have q:2*m+1<=fu z:=by
    obtain⟨j,h3,h4,_⟩:=i.out.2.2;have h5:=i.out.1;have h6:k<j:=(Nat.pow_lt_pow_iff_right (a:=2) Zd).1 Zo;have h7:=Nat.pow_le_pow_right (show 0<2 by decide) (show k+1<=j by omega);rw[Nat.pow_succ] at h7;omega
   have HN:=Ja q;clear hk hm d q g;go_wp2
   go_round
   case rel=>exact⟨2*m+1,k+1,by go_num,by have:=HK.out.1;rw[Nat.pow_succ];omega,HN.out⟩
   case measure=>simp[intOf];omega
  ·have h:¬(m:Int)<(z:Int):=Zo
   have a1:fu z=m:=by
    have:=mask_min z m k hk Zo;omega
   have a0:IntKind.u16.wrap (m:Int)=(m:Int):=by rw[xY];omega
   clear g hk hm d;go_wp2;go_ret;exact⟨rfl,rfl⟩
theorem bad_q{V:PV}{p:IProg}(hp:ProgIn w w.heap.size V p)(o:IObj)(ho:I64 o.bank/\o.addr<65536/\o.size<65536):
 G 60 #[yH V p,iz o] w (ym w (!sW p.banks.length o)):=by
 obtain⟨Vf,Va,Vd,Vb⟩:=V;obtain⟨f1,f2,e1,_,_⟩:=hp.funcs.form;obtain⟨a1,a2,e2,_,_⟩:=hp.args.form;obtain⟨d1,d2,e3,_,_⟩:=hp.data.form;obtain⟨b1,b2,e4,t,m⟩:=hp.banks.form;simp only at e1 e2 e3 e4;subst e1 e2 e3 e4;unfold yH;simp only;unfold iz;have h:=((Below.refl w.heap.size w).alloc (Je _) (T (R p f1 f2 a1 a2 d1 d2 b1 b2) 29)).alloc Zs (T #[I o.bank,U (o.addr:Int),U (o.size:Int)] 89);have g:=Ja h;obtain⟨k,l,j⟩:=ho;have q:p.banks.length<=9223372036854775807:=Zo;obtain⟨res,c⟩:∃r,(!sW p.banks.length o)=r:=⟨_,rfl⟩
 rw[c];unfold sW at c;clear h hp;have d:o.size=0∨0<o.size:=Zo
 by_cases i:o.size=0
 ·have hr:res=true:=by rw[<-c];simp[i]
  subst hr;have z0:((o.size:Int)==0)=true:=by rw[beq_iff_eq];omega
  clear c d i;go_enter Tryz.func60,Tryz.ntmps60;go_wp2;go_ret;exact⟨rfl,g.out⟩
 by_cases hb:o.bank=-1
 ·rw[if_pos hb] at c
  by_cases h1:o.addr<16384
  ·have hr:res=true:=by rw[<-c];simp;omega
   subst hr;have z0:((o.size:Int)==0)=false:=Ze;have zb:(o.bank==-1)=true:=by rw[beq_iff_eq];exact hb
   have g3:(o.addr:Int)<16384:=Zo;clear c d hb;go_enter Tryz.func60,Tryz.ntmps60;go_wp2;go_ret;exact⟨rfl,g.out⟩
  by_cases h2:24576<o.addr+o.size
  ·have hr:res=true:=by rw[<-c];simp;omega
   subst hr;have z0:((o.size:Int)==0)=false:=Ze;have zb:(o.bank==-1)=true:=by rw[beq_iff_eq];exact hb
   have g3:¬(o.addr:Int)<16384:=Zo;have g4:(24575:Int)<(o.addr:Int)+(o.size:Int)-1:=Zo;clear c d hb;go_enter Tryz.func60,Tryz.ntmps60;go_wp2;go_ret;exact⟨rfl,g.out⟩
  ·have hr:res=false:=by rw[<-c];simp;omega
   subst hr;have z0:((o.size:Int)==0)=false:=Ze;have zb:(o.bank==-1)=true:=by rw[beq_iff_eq];exact hb
   have g3:¬(o.addr:Int)<16384:=Zo;have g4:¬(24575:Int)<(o.addr:Int)+(o.size:Int)-1:=Zo;clear c d hb;go_enter Tryz.func60,Tryz.ntmps60;go_wp2;go_ret;exact⟨rfl,g.out⟩
 ·rw[if_neg hb] at c
  by_cases h1:o.bank<0
  ·have hr:res=true:=by rw[<-c];simp;omega
   subst hr;have z0:((o.size:Int)==0)=false:=Ze;have zb:(o.bank==-1)=false:=Ze;clear c d;go_enter Tryz.func60,Tryz.ntmps60;go_wp2;go_ret;exact⟨rfl,g.out⟩
  by_cases h2:(p.banks.length:Int)<=o.bank
  ·have hr:res=true:=by rw[<-c];simp;omega
   subst hr;have z0:((o.size:Int)==0)=false:=Ze;have zb:(o.bank==-1)=false:=Ze;clear c d;go_enter Tryz.func60,Tryz.ntmps60;go_wp2;go_ret;exact⟨rfl,g.out⟩
  by_cases h3:4096<o.addr+o.size
  ·have hr:res=true:=by rw[<-c];simp;omega
   subst hr;have z0:((o.size:Int)==0)=false:=Ze;have zb:(o.bank==-1)=false:=Ze;have g4:(4095:Int)<(o.addr:Int)+(o.size:Int)-1:=Zo;clear c d;go_enter Tryz.func60,Tryz.ntmps60;go_wp2;go_ret;exact⟨rfl,g.out⟩
  ·have hr:res=false:=by rw[<-c];simp;omega
   subst hr;have z0:((o.size:Int)==0)=false:=Ze;have zb:(o.bank==-1)=false:=Ze;have g4:¬(4095:Int)<(o.addr:Int)+(o.size:Int)-1:=Zo;clear c d;go_enter Tryz.func60,Tryz.ntmps60;go_wp2;go_ret;exact⟨rfl,g.out⟩
def aat (i:Int):List IOp->Int->wO->Option wO
 | [],_,d=>some d
 |o::os,k,d=>if o.res=-1 then aat i os (k+1) d else(rB d o.res i k).bind (aat i os (k+1))
def aax (i:Int)(b:IBlk)(d:wO):Option wO:=(vJ i b.params d).bind (aat i b.ops 0)
def dD:List IBlk->Int->wO->Option wO
 | [],_,d=>some d
 |b::bs,i,d=>(aax i b d).bind (dD bs (i+1))
theorem ct {p:IProg}{o:IOp}(h:opF p o=true):-1<=o.res:=by
 unfold opF at h;rw[Jm] at h;have h2:=h.2
 split at h2
 ·simp only[Jm,decide_eq_true_eq] at h2;omega
 ·split at h2
  ·simp only[Jm,decide_eq_true_eq] at h2;omega
  ·simp only[Jm,decide_eq_true_eq] at h2;omega
theorem aah {p:IProg}{i:Int}:∀(os:List IOp) (k:Int) (d:wO),(∀o∈os,opF p o=true)->sS p i os k d=aat i os k d
 | [],k,d,h=>rfl
 |o::os,k,d,h=>by
  have h1:=h o (List.mem_cons_self ..);have h2:=ct h1;have ih:=fun d=>aah (i:=i) os (k+1) d (fun x hx=>h x (List.mem_cons_of_mem _ hx))
  unfold sS aat;rw[if_pos h1]
  by_cases hr:o.res=-1
  ·rw[if_pos hr,if_neg Zo];exact ih d
  ·rw[if_neg hr,if_pos Zo]
   cases rB d o.res i k with
   |none=>rfl
   |some d'=>exact ih d'
theorem bM {p:IProg}{blocks:List IBlk}:∀(bs:List IBlk) (i:Int) (d:wO),(∀b∈bs,(∀o∈b.ops,opF p o=true)/\wn blocks b.term=true)->uH p blocks bs i d=dD bs i d
 | [],i,d,h=>rfl
 |b::bs,i,d,h=>by
  have h1:=h b (List.mem_cons_self ..);have ih:=fun d=>bM bs (i+1) d (fun x hx=>h x (List.mem_cons_of_mem _ hx))
  unfold uH dD
  have e:pS p blocks i b d=aax i b d:=by
   unfold pS aax
   cases vJ i b.params d with
   |none=>rfl
   |some d'=>
    simp only[Nw];rw[aah _ _ _ h1.1]
    cases aat i b.ops 0 d' with
    |none=>rfl
    |some d''=>simp[h1.2]
  rw[e]
  cases aax i b d with
  |none=>rfl
  |some d'=>exact ih d'
theorem aW (l:List Int):∀(n:Int),n<=qK n l/\∀v∈l,cG v<=qK n l:=by
 induction l with
 |nil=>intro n;exact⟨Og _,fun v hv=>by cases hv⟩
 |cons x l ih=>
  intro n;obtain⟨h1,h2⟩:=ih (max n (cG x));have e:qK n (x::l)=qK (max n (cG x)) l:=rfl;rw[e];refine⟨by omega,fun v hv=>?_⟩;rcases Jq.1 hv with rfl|hv
  ·omega
  ·exact h2 v hv
theorem adH (l:List IOp):∀(n:Int),n<=o8 n l/\∀o∈l,cG o.res<=o8 n l:=by
 induction l with
 |nil=>intro n;exact⟨Og _,fun v hv=>by cases hv⟩
 |cons x l ih=>
  intro n;obtain⟨h1,h2⟩:=ih (max n (cG x.res));have e:o8 n (x::l)=o8 (max n (cG x.res)) l:=rfl;rw[e];refine⟨by omega,fun v hv=>?_⟩;rcases Jq.1 hv with rfl|hv
  ·omega
  ·exact h2 v hv
theorem dr (l:List IBlk):∀(n:Int),n<=l.foldl iL n/\∀b∈l,(∀v∈b.params,cG v<=l.foldl iL n)/\∀o∈b.ops,cG o.res<=l.foldl iL n:=by
 induction l with
 |nil=>intro n;exact⟨Og _,fun v hv=>by cases hv⟩
 |cons x l ih=>
  intro n;obtain⟨h1,h2⟩:=ih (iL n x);have p1:=aW x.params n;have p2:=adH x.ops (qK n x.params);have e:iL n x=o8 (qK n x.params) x.ops:=rfl;rw[Qk];refine⟨by omega,fun b hb=>?_⟩;rcases Jq.1 hb with rfl|hb
  ·exact⟨fun v hv=>by have:=p1.2 v hv;omega,fun o ho=>by have:=p2.2 o ho;omega⟩
  ·exact h2 b hb
theorem bO (blocks:List IBlk):0<=aaG blocks:=(dr blocks 0).1
theorem wrap64_in {n:Int}(h1:-9223372036854775808<=n)(h2:n<=9223372036854775807):wrap64 n=n:=by first|exact Om _ Zo|(unfold wrap64;omega)
theorem aaY {v:Int}(h:-1<=v)(h2:v<=65535):cG v=v+1:=by unfold cG;rw[wrap64_in Zo Zo]
def agZ (a:Int):List IOp:=[⟨1,1,0,0,15,[]⟩,⟨9,2,0,1,0,[]⟩,⟨2,3,0,0,0,[]⟩,⟨5,4,2,3,0,[]⟩,⟨a,5,4,0,0,[]⟩]
def mainL:List IBlk:=[⟨[],[],⟨5,0,[]⟩⟩]
def agE (a:Int):List IBlk:=[⟨[0],agZ a,⟨4,5,[]⟩⟩]
def afN (a:Int):IProg:=⟨[mainL,agE a],[0,1],0,-1,[⟨-1,16384,16⟩],[]⟩
theorem yN.two{α:Type}{sz:Nat}{R:World->Nat->Nat->Nat->α->Prop}{B b:Nat}{x y:α}(hb:b<B)(c:R w B b 0 x)(h1:R w B b sz y):yN sz R w B (F b 2 2) [x,y]:=by
 refine⟨_,2,rfl,Je _,by omega,fun k z hk=>⟨b,0,rfl,hb,?_⟩⟩
 match k,hk with
 |0,hk=>cases hk;rw[Ng,Nat.zero_mul];exact c
 |1,hk=>cases hk;rw[Ng,Nat.one_mul];exact h1
def ahh (o:IOp):IOp×Value:=(o,L)
theorem ops_nil{B b n:Nat}{l:List IOp}{e:TypeId}(h:Q w b ((l.map ahh).flatMap zU).toArray e)(hb:b<B)(h64:∀o∈l,qN o/\o.args=[])(c:n=l.length)(hl:l.length<=1000000):
 mN w B (F b n n) l:=by
 have:=agP (l:=l.map ahh) h hb (fun q hq=>by
  obtain⟨o,ho,rfl⟩:=Nu.1 hq;obtain⟨h1,h2⟩:=h64 o ho;refine⟨h1,?_⟩
  show zY w B (L) o.args
  rw[h2]
  exact yN.nil) (by rw[Nr];exact hl)
 rw[Nr,List.map_map,show((fun q:IOp×Value=>q.1) ∘ ahh)=id from rfl,List.map_id] at this;rw[c];exact this
theorem afS (w:World)(a:Int)(j:I64 a):G 30 #[I a] w (mL w (afN a)):=by
 have q:=Ja j;clear j;obtain⟨s,hs⟩:∃s,w.heap.size=s:=⟨_,rfl⟩
 go_enter Tryz.func30,Tryz.ntmps30;go_wp2;generalize c:World.alloc _ _=W;have hb:Below s w W:=by rw[<-c,<-hs];repeat' (first|exact Below.refl _ _|refine Below.alloc ?_ (by first|exact Je _|(simp;done)|(simp;omega)) _)
 have d:Q W s #[F (s+1+1+1+1+1+1+1) 2 2,F (s+1+1+1+1+1+1+1+1) 2 2,I 0,I (-1),F (s+1+1+1+1+1+1+1+1+1) 1 1,L] 29:=by rw[<-c];repeat' (first|exact zI (by first|exact hs|rfl|(simp;done)|(simp;omega))|refine zB ?_)
 have h1:Q W (s+1) (((agZ a).map ahh).flatMap zU).toArray 76:=by rw[<-c];repeat' (first|exact zI (by first|exact hs|rfl|(simp;done)|(simp;omega))|refine zB ?_)
 have h2:Q W (s+1+1) #[L,L,I 5,I 0,L] 84:=by rw[<-c];repeat' (first|exact zI (by first|exact hs|rfl|(simp;done)|(simp;omega))|refine zB ?_)
 have m:Q W (s+1+1+1+1) #[I 0] 3:=by rw[<-c];repeat' (first|exact zI (by first|exact hs|rfl|(simp;done)|(simp;omega))|refine zB ?_)
 have g:Q W (s+1+1+1+1+1) #[F (s+1+1+1+1) 1 1,F (s+1) 5 5,I 4,I 5,L] 84:=by rw[<-c];repeat' (first|exact zI (by first|exact hs|rfl|(simp;done)|(simp;omega))|refine zB ?_)
 have l:Q W (s+1+1+1+1+1+1+1) #[F (s+1+1) 1 1,F (s+1+1+1+1+1) 1 1] 39:=by rw[<-c];repeat' (first|exact zI (by first|exact hs|rfl|(simp;done)|(simp;omega))|refine zB ?_)
 have k:Q W (s+1+1+1+1+1+1+1+1) #[I 0,I 1] 3:=by rw[<-c];repeat' (first|exact zI (by first|exact hs|rfl|(simp;done)|(simp;omega))|refine zB ?_)
 have h:Q W (s+1+1+1+1+1+1+1+1+1) #[I (-1),U 16384,U 16] 89:=by rw[<-c];repeat' (first|exact zI (by first|exact hs|rfl|(simp;done)|(simp;omega))|refine zB ?_)
 clear c;have u:=lt_of_block h;refine bodyPost_ret (v:=.agg #[F (s+1+1+1+1+1+1+1) 2 2,F (s+1+1+1+1+1+1+1+1) 2 2,I 0,I (-1),F (s+1+1+1+1+1+1+1+1+1) 1 1,L]) ?_ rfl ?_
 ·have x0:=zA (i:=0) d rfl;have x1:=zA (i:=1) d rfl;have x2:=zA (i:=2) d rfl;have x3:=zA (i:=3) d rfl;have x4:=zA (i:=4) d rfl;have x5:=zA (i:=5) d rfl;have t:=lt_of_block d;rw[zM rfl];go_simp
 ·refine⟨⟨_,_,_,_⟩,rfl,⟨?_,?_,?_,yN.nil,pZ,i64_neg⟩,by rw[hs];exact hb⟩
  ·refine yN.two Zo ⟨_,zA l rfl,yN.one Zo ?_⟩ ⟨_,zA l rfl,yN.one Zo ?_⟩
   ·exact⟨zA h2 rfl,zA h2 rfl,⟨⟨by decide,by decide⟩,⟨by decide,by decide⟩⟩,_,_,_,zA h2 rfl,zA h2 rfl,zA h2 rfl,yN.nil,yN.nil,yN.nil⟩
   ·refine⟨zA g rfl,zA g rfl,⟨(show I64 (4) from⟨by decide,by decide⟩),(show I64 (5) from⟨by decide,by decide⟩)⟩,_,_,_,zA g rfl,zA g rfl,zA g rfl,yN.one Zo ⟨zA m rfl,⟨by decide,by decide⟩⟩,ops_nil h1 Zo (fun o ho=>?_) rfl (by show(5:Nat)<=_;omega),yN.nil⟩;simp only[agZ,Jq,List.not_mem_nil,or_false] at ho;rcases ho with rfl|rfl|rfl|rfl|rfl
    ·exact⟨⟨⟨by decide,by decide⟩,⟨by decide,by decide⟩,⟨by decide,by decide⟩,⟨by decide,by decide⟩,by decide⟩,rfl⟩
    ·exact⟨⟨⟨by decide,by decide⟩,⟨by decide,by decide⟩,⟨by decide,by decide⟩,⟨by decide,by decide⟩,by decide⟩,rfl⟩
    ·exact⟨⟨⟨by decide,by decide⟩,⟨by decide,by decide⟩,⟨by decide,by decide⟩,⟨by decide,by decide⟩,by decide⟩,rfl⟩
    ·exact⟨⟨⟨by decide,by decide⟩,⟨by decide,by decide⟩,⟨by decide,by decide⟩,⟨by decide,by decide⟩,by decide⟩,rfl⟩
    ·exact⟨⟨q.out,(show I64 (5) from⟨by decide,by decide⟩),(show I64 (4) from⟨by decide,by decide⟩),(show I64 (0) from⟨by decide,by decide⟩),(show(0:Nat)<65536 by decide)⟩,rfl⟩
  ·exact yN.two Zo ⟨zA k rfl,⟨by decide,by decide⟩⟩ ⟨zA k rfl,⟨by decide,by decide⟩⟩
  ·exact yN.one Zo ⟨zA h rfl,zA h rfl,zA h rfl,⟨by decide,by decide⟩,by decide,by decide⟩
end Go.Proofs.YtoahcpkibpomcaaGreat
