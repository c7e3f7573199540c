/- Part of a proof. -/
import Derived.Test.YtoahcpkibpomcaaGreatGLift7
set_option linter.all false
set_option maxHeartbeats 16000000
set_option maxRecDepth 100000
namespace Go.Proofs.YtoahcpkibpomcaaGreat
open Go.RowKit
variable {bl:List IBlk}{c f i j k m ob t2:Nat}{W w wx:World}{o:IOp}{ns o1 o2 xs:List Nat}{K:SK}{t:Slv}{R:List Rg}{l:List IOp}{oc pc:Array Value}{x:Int}{l1:List Evn}
def RgsRet (w:World)(l:List Rg)(e:Ending)(w':World):Prop:=∃b,e=.returned (L b l.length l.length)/\A w' b (l.flatMap xB).toArray 45/\w.heap.size<=b/\Q w w'
theorem ahk{p:IProg}(hv:vC p=0){n:Nat}(c:p.funcs[n]? =some bl):∀b∈bl,aq (aaG bl).toNat b:=
 (dw c ((rz hv).2 n (Jh.1 c).1)).2
theorem agE {c:Int}(h:ruG c≠none):(c=3∨c=4∨c=19∨c=23)∨5<=c/\c<=17:=by
 by_cases d:(c=3∨c=4∨c=19∨c=23)∨5<=c/\c<=17
 ·exact d
 ·exfalso;apply h;simp only[ruG,putR]
  iterate 17 rw[if_neg Zo]
theorem ahb{p:IProg}(h:FnS p bl)(u:∀b∈bl,aq (aaG bl).toNat b)(hi:i<bl.length):BlkW (aaG bl).toNat p bl (xz bl i):=by
 obtain⟨b,hb⟩:∃b,bl[i]? =some b:=⟨_,Jd hi⟩
 have t:=y7 hb;have m:=u b (Ji hb);refine⟨fun o ho h0=>⟨(h.sol i hi).1 o ho,?_,?_⟩,fun e he=>?_⟩
 ·intro h2;have:=(afl (h.st.opok i hi o ho)).2.1 h2;omega
 ·intro h1 h2 hr;have d:=h.st.opok i hi o ho;have j:=((h.rng i hi).2 o ho).1;have q:=agE hr
  have w:(zi o.code).a=true:=by
   rcases q with(e|e|e|e)|e
   ·rw[e];rfl
   ·rw[e];rfl
   ·rw[e];rfl
   ·rw[e];rfl
   ·unfold zi;rw[if_neg Zo,if_neg Zo,if_pos e]
  have h3:=j.a w;refine⟨by omega,?_⟩
  by_cases k:(zi o.code).b=true
  ·have:=j.b k;omega
  ·unfold opF at d;rw[Jm] at d;have l:=d.2;rw[if_neg Zo,if_neg h2] at l;simp only[Jm,Bool.or_eq_true,decide_eq_true_eq] at l
   have g:o.b=0:=by
    rcases l.1.1.1.2 with g|g
    ·exact absurd g k
    ·exact g
   omega
 ·have c:=h.st.trm i hi;unfold tz at c;rw[Jm,Oe] at c;have f:=c.1 e he;unfold uM at f;simp only[Jm,decide_eq_true_eq] at f;refine⟨by omega,f.2,fun x hx=>?_,fun x hx=>?_⟩
  ·rw[t] at he;have:=m.2.2 x (by unfold mE;rw[Jl];exact .inr (List.mem_flatten.2 ⟨_,Nu.2 ⟨e,he,rfl⟩,hx⟩));omega
  ·have:=(h.rng e.block.toNat Zo).1 x (by rw[show((e.block.toNat:Nat):Int)=e.block by omega];exact hx);omega
theorem ru_cells (n:Nat):madeCells (#[M 0,M 0]:Array Value) (n*2)=((List.replicate n (⟨0,0⟩:Rg)).flatMap xB).toArray:=by
 apply Array.ext
 ·simp[madeCells,xB,List.length_flatMap]
 ·intro i h1 h2;have hi:i<n*2:=by simpa[madeCells] using h1
  have h3:((List.replicate n (⟨0,0⟩:Rg)).flatMap xB)=List.replicate (n*2) (M 0):=by
   clear h1 h2 hi
   induction n with
   |zero=>rfl
   |succ n ih=>rw[Qz,Qa,ih,show(n+1)*2=n*2+1+1 by omega];rfl
  simp only[h3,List.getElem_toArray,List.getElem_replicate];simp only[madeCells,Array.getElem_map,Array.getElem_range];have c:i%2=0∨i%2=1:=Zo;rcases c with c|c
  ·show((#[M 0,M 0]:Array Value)[i%2]!)=_;rw[c];rfl
  ·show((#[M 0,M 0]:Array Value)[i%2]!)=_;rw[c];rfl
theorem ej{b:Nat}{o:Option Obj}(h:w.heap[b]? =o):w.drew.heap[b]? =o:=h
theorem aga (n:Nat):madeCells (#[.bool false]:Array Value) n=((List.replicate n false).map Value.bool).toArray:=by rw[yA];simp
def ag2 (w wx:World)(K:SK)(p:IProg)(bl:List IBlk):Prop:=SlvAt wx K p bl 0 ⟨List.replicate K.n ⟨0,0⟩,List.replicate K.n false⟩/\Q w wx/\w.heap.size<=K.rb/\w.heap.size<=K.kb/\w.heap.size<=K.sb
theorem slvNew{B n sb rb kb rm:Nat}{V:PV}{fv:Value}{p:IProg}(hp:ProgIn wx B V p)(h:wX wx B fv bl)(d:B<=w.heap.size)(i:n<=1000000)(g:Q w wx)
 (hm:qz wx rm 17 ruG) (hs:A wx sb #[V.fv,V.av,I p.entry,I p.handler,V.dv,V.bv,fv,.map (some rm),L rb n n,L kb n n,I 0] 99)
 (hr:A wx rb ((List.replicate n (⟨0,0⟩:Rg)).flatMap xB).toArray 45) (hk:A wx kb ((List.replicate n false).map Value.bool).toArray 4)
 (c:w.heap.size<=sb/\w.heap.size<=rb/\w.heap.size<=kb/\w.heap.size<=rm) (f:sb≠rb/\sb≠kb/\sb≠rm/\rb≠kb/\rb≠rm/\kb≠rm):ag2 w wx ⟨sb,rb,kb,rm,n,B,V,fv⟩ p bl:=
 ⟨⟨hp,h,hm,hs,hr,hk,⟨by simp,by simp,fun a ha=>by rw[(List.mem_replicate.1 ha).2];exact⟨Je _,Jt _⟩⟩,i,⟨Jn d c.1,Jn d c.2.1,Jn d c.2.2.1,Jn d c.2.2.2⟩,f⟩,g,c.2.1,c.2.2.1,c.1⟩
theorem slvNew'{B n sb rb kb rm:Nat}{V:PV}{fv:Value}{p:IProg}(hs:A wx sb #[V.fv,V.av,I p.entry,I p.handler,V.dv,V.bv,fv,.map (some rm),L rb n n,L kb n n,I 0] 99)
 (i:B<=w.heap.size) (h:n<=1000000) (hp:ProgIn wx B V p) (g:wX wx B fv bl) (f:Q w wx) (hm:qz wx rm 17 ruG)
 (hr:A wx rb ((List.replicate n (⟨0,0⟩:Rg)).flatMap xB).toArray 45) (hk:A wx kb ((List.replicate n false).map Value.bool).toArray 4)
 (d:w.heap.size<=sb/\w.heap.size<=rb/\w.heap.size<=kb/\w.heap.size<=rm) (c:sb≠rb/\sb≠kb/\sb≠rm/\rb≠kb/\rb≠rm/\kb≠rm):∃K:SK,Value.pointer (some ⟨sb,0,none⟩)=F K.sb/\K.n=n/\Hid (ag2 w wx K p bl):=
 ⟨_,rfl,rfl,Ja (slvNew hp g i h f hm hs hr hk d c)⟩
theorem Tryz.info_range:(Tryz.prog.info? 45).map (fun i=>(i.zero,i.size,i.bytes))=some (some (.agg #[M 0,M 0]),2,4):=by kernel_rfl
theorem afQ (n:Nat)(c:n<=1000000)(w:World):(Instr.makeSlice 34 (I n) (I n)).run Tryz.prog w=.ok (L w.heap.size n n) (w.alloc (G ((List.replicate n (⟨0,0⟩:Rg)).flatMap xB).toArray 45)):=by
 obtain⟨i,hi,h0,h1,h2⟩:=info_parts Tryz.info_range;have:=run_make (P:=Tryz.prog) w 34 45 i (.agg #[M 0,M 0]) Tryz.underlying34 hi h0 .i64 .i64 n n Zo (Og _) (by rw[h2];omega) Zo;rw[this,h1,Ni,<-ru_cells];rfl
def aeR (w:World)(ob:Nat)(xs:List Nat):Prop:=∃cur,A w ob cur 3/\∀(k x:Nat),xs[k]? =some x->cur[k]? =some (I x)
theorem ahr{n:Nat}{v:Value}(h:w.ownsRow c 3 1 v n (xs.map zj))(o:n=xs.length)(h0:0<xs.length):∃ob oc,v=L ob n oc/\n<=oc/\oc<=9223372036854775807/\c<=ob/\aeR w ob xs:=by
 rcases h.2 with⟨_,e⟩|⟨g,i,d,rfl,hg,j,h1,h2,h3,l⟩
 ·omega
 ·refine⟨g,i,rfl,h1,by unfold maxLen at h2;omega,hg,d,j,fun k x hk=>?_⟩;have m:=(Jh.1 hk).1;have f:(d.toList.take (n*1))[k]? =some (zj x):=by rw[l,Jr,hk];rfl
  rw[List.getElem?_take_of_lt Zo] at f
  simpa[zj] using f
theorem aeR.to{w':World}(h:aeR w ob xs)(ht:SlvTo w w' K)(c:ob≠K.rb/\ob≠K.kb/\ob≠K.sb):aeR w' ob xs:=by
 obtain⟨d,h1,h2⟩:=h;exact⟨d,ht.blk h1 (lt_of_block h1) c,h2⟩
theorem aeR.lt(h:aeR w ob xs):ob<w.heap.size:=by obtain⟨c,h1,_⟩:=h;exact lt_of_block h1
theorem aeR.cell {w:World}{ob:Nat}{xs:List Nat}(h:aeR w ob xs){k x:Nat}(hk:xs[k]? =some x):T w ob k (I x):=by
 obtain⟨c,h1,h2⟩:=h;exact zA h1 (h2 k x hk)
theorem SlvAt.round{p:IProg}{c:List IBlk}{s:Slv}(h:SlvAt w K p c k s)(d:w.setCell ⟨K.sb,10,none⟩ (I (((k+1:Nat)):Int))=W):SlvAt W K p c (k+1) s/\SlvTo w W K:=by
 have g:=h.ne;have hb:Below K.B w W:=by rw[<-d];exact(Below.refl K.B w).setCell h.lt.1 _
 have ho:∀i,i≠K.sb->W.heap[i]? =w.heap[i]?:=fun i h1=>by rw[<-d,Below.heap_setCell _ _ _ _ h1]
 have f:=zD (i:=10) h.cell (I (((k+1:Nat)):Int));rw[d] at f;exact⟨⟨h.prog.below hb,h.blks.below yT hb,h.map.same (ho _ Zo),f,(ho _ Zo).trans h.row,(ho _ Zo).trans h.kn,h.oks,h.n64,h.lt,h.ne⟩,⟨hb.os,hb.tape,hb.output,hb.size,fun i _ _ _ h3=>ho i h3⟩⟩
theorem SlvAt.putR{X:World}{p:IProg}{f:List IBlk}{s:Slv}(h:SlvAt X K p f k s){v:Nat}(hv:v<K.n){a:Rg}(m:a.ok)
 (j:(X.setCell ⟨K.rb,v*2,none⟩ (M (a.lo:Int))).setCell ⟨K.rb,v*2+1,none⟩ (M (a.hi:Int))=W):
 SlvAt W K p f k ⟨s.r.set v a,s.kn⟩/\SlvTo X W K:=by
 have l:=h.ne;have c:=h.lt;have d:=zD (i:=v*2+1) (zD (i:=v*2) h.row (M (a.lo:Int))) (M (a.hi:Int));rw[j] at d
 have hb:Below K.B X W:=by
  rw[<-j];exact((Below.refl K.B X).setCell c.2.1 _).setCell c.2.1 _
 have ho:∀i,i≠K.rb->W.heap[i]? =X.heap[i]?:=fun i h1=>by
  rw[<-j,Below.heap_setCell _ _ _ _ h1,Below.heap_setCell _ _ _ _ h1]
 refine⟨⟨h.prog.below hb,h.blks.below yT hb,h.map.same (ho _ Zo),(ho _ Zo).trans h.cell,?_,(ho _ Zo).trans h.kn,⟨by show(s.r.set _ _).length=_;rw[Nd,h.oks.rl],h.oks.kl,fun x g=>?_⟩,h.n64,c,l⟩,⟨hb.os,hb.tape,hb.output,hb.size,fun i _ h1 _ _=>ho i h1⟩⟩
 ·have:=aeZ s.r v a (by rw[h.oks.rl];exact hv);rw[<-this];exact d
 ·rcases Qe g with g|rfl
  ·exact h.oks.ok x g
  ·exact m
def o5 (t:Slv)(m:Nat):Slv:=⟨(mo t).take m++t.r.drop m,t.kn⟩
theorem j3{n:Nat}(h:OkS n t):(mo t).length=n:=by unfold mo;rw[Nr,List.length_zip,h.rl,h.kl,Nat.min_self]
theorem agp{n:Nat}(h:OkS n t):o5 t n=⟨mo t,t.kn⟩:=by
 unfold o5;rw[Oy (by rw[j3 h];exact Je _),List.drop_of_length_le (by rw[h.rl];exact Je _),Ua]
theorem afh{n:Nat}(h:OkS n t)(hm:m<n):(mo t)[m]? =some (if t.knw (m:Int)=true then t.get (m:Int) else zx):=by
 have h1:m<t.r.length:=by rw[h.rl];exact hm
 have h2:m<t.kn.length:=by rw[h.kl];exact hm
 unfold mo Slv.knw Slv.get;rw[Jr,Jd (by rw[List.length_zip];omega)];simp[Jj,Jd h1,Jd h2]
theorem agq (t:Slv)(m:Nat)(v:Int):(o5 t m).knw v=t.knw v:=rfl
theorem agn{n:Nat}(h:OkS n t)(hm:m<n)(hk:t.knw (m:Int)=true):o5 t (m+1)=o5 t m:=by
 have h1:m<t.r.length:=by rw[h.rl];exact hm
 have hg:=afh h hm;rw[if_pos hk] at hg;have h3:t.get (m:Int)=t.r[m]:=by unfold Slv.get;simp[Jj,Jd h1]
 unfold o5;rw[Nh,hg,Qn h1,h3];simp
theorem ahh{n:Nat}(h:OkS n t)(hm:m<n)(hk:t.knw (m:Int)=false):o5 t (m+1)=⟨(o5 t m).r.set m zx,(o5 t m).kn⟩:=by
 have h1:m<t.r.length:=by rw[h.rl];exact hm
 have hg:=afh h hm;rw[hk,if_neg Zd] at hg;have hl:((mo t).take m).length=m:=by rw[Oc,j3 h];omega
 unfold o5;simp only;rw[Nh,hg,Uj _ _ Zo,hl,Qy,Qn h1,Jf];simp
theorem ac1{B:Nat}{V:PV}{p:IProg}(hp:ProgIn w B V p)(hB:B<=w.heap.size)(hs:∀f∈p.funcs,vZ f)(hv:vC p=0)(hf:p.funcs[f]? =some bl)(h0:bl≠ []):
 O 15 #[yH V p,I f] w (RgsRet w (ux p bl)):=by
 have hF:=afR hv hs hp.p64 hf h0;have hU:=ahk hv hf
 have j9:∀W,Q w W->O 35 #[yH V p] W (m9 W 0):=fun W hb=>by
  have:=tu (hp.below (hb.mono hB)) (Jn hB hb.size) hs;rw[hv] at this;exact this
 obtain⟨Vf,Va,Vd,Vb⟩:=V;obtain⟨f1,f2,e1,s6,s5⟩:=hp.funcs.form;have n4:Vf=.slice f1 p.funcs.length f2:=e1;subst n4;obtain⟨gb,go,rfl,i0,bv,g0,e8⟩:=hp.funcs.get hf;obtain⟨ka,kc,rfl,s1,s0⟩:=e8.form;rw[Nk] at g0;have s4:=(Jh.1 hf).1;have k6:=hF.pos;have g6:=hs bl (Ji hf);obtain⟨X,hX⟩:∃X,w.alloc (G #[.slice (some ⟨gb,go,none⟩) p.funcs.length f2,Va,I p.entry,I p.handler,Vd,Vb] 29)=X:=⟨_,rfl⟩
 have c3:Q w X:=by rw[<-hX];exact(Below.refl _ _).alloc (Je _) _
 have a0:A X w.heap.size #[.slice (some ⟨gb,go,none⟩) p.funcs.length f2,Va,I p.entry,I p.handler,Vd,Vb] 29:=by rw[<-hX];exact zI rfl
 have HX:=Ja (Jb c3 (Jb a0 (show ∀W,Q w W->ProgIn W B ⟨.slice (some ⟨gb,go,none⟩) p.funcs.length f2,Va,Vd,Vb⟩ p/\wX W B (.slice ka bl.length kc) bl/\W.cell? ⟨gb,go+f,none⟩=some (.slice ka bl.length kc) from fun W hb=>⟨hp.below (hb.mono hB),e8.below yT (hb.mono hB),zV (hb.mono hB) i0 g0⟩)));have o:=Ja (Jb hF (Jb hU (Jb hs (Jb hv (Jb g6 (Jb hB (Jb h0 i0)))))));have n7:=Ja (show ∀W,Q X W->O 35 #[.agg #[.slice (some ⟨gb,go,none⟩) p.funcs.length f2,Va,I p.entry,I p.handler,Vd,Vb]] W (m9 W 0) from fun W hb=>j9 W (c3.trans (hb.mono c3.size)));have q9:decide ((f:Int)<0)=false:=decide_eq_false Zo;have q5:decide ((p.funcs.length:Int)<=(f:Int))=false:=decide_eq_false Zo;have q4:decide (p.funcs.length<=f)=false:=decide_eq_false Zo;have q3:((bl.length:Int)==0)=false:=Ze;have q0:(bl.length==0)=false:=beq_eq_false_iff_ne.2 Zo;have m8:gb<w.heap.size:=Zo;have x0:=zA (i:=0) a0 rfl;have x1:=zA (i:=1) a0 rfl;have x2:=zA (i:=2) a0 rfl;have x3:=zA (i:=3) a0 rfl;have x4:=zA (i:=4) a0 rfl;have x5:=zA (i:=5) a0 rfl;have k4:=lt_of_block a0;clear hp hB hs hv hf h0 hF hU j9 g0 e8 g6 c3 a0;unfold yH;go_enter Tryz.func15,Tryz.ntmps15;go_wp2_with fail
 go_step3
 go_upto_region 3 with(go_at_call 35;go_must (refine(n7.out _ (Below.refl _ _)).mono ?_;rintro e w1 ⟨rfl,c7⟩;have x:=zH c7 HX.out.2.1 k4;have y0:=zA (i:=0) x rfl;have yg:=(HX.out.2.2 w1 (HX.out.1.trans (c7.mono HX.out.1.size))).2.2;have m3:=lt_of_block x;have m2:gb<w1.heap.size:=by omega))
 clear hX x0 x1 x2 x3 x4 x5;obtain⟨N,hN⟩:∃N:Nat,aaG bl=N:=⟨(aaG bl).toNat,by have:=o.out.1.cnt;omega⟩
 have s7:N<=65536:=by have:=o.out.1.cnt;omega
 obtain⟨Y,hY⟩:∃Y,w1.alloc (G #[.slice ka bl.length kc] 39)=Y:=⟨_,rfl⟩
 obtain⟨t5,g5⟩:∃t,w1.heap.size=t:=⟨_,rfl⟩
 have b9:Q w1 Y:=by rw[<-hY];exact(Below.refl _ _).alloc (Je _) _
 have d3:A Y w1.heap.size #[.slice ka bl.length kc] 39:=by rw[<-hY];exact zI rfl
 have b7:=HX.out.1.trans (c7.mono HX.out.1.size);have HY:=Ja (show Q w Y/\A Y w.heap.size #[.slice (some ⟨gb,go,none⟩) p.funcs.length f2,Va,I p.entry,I p.handler,Vd,Vb] 29/\A Y w1.heap.size #[.slice ka bl.length kc] 39/\w.heap.size<w1.heap.size/\w1.heap.size<Y.heap.size from⟨b7.trans (b9.mono b7.size),zH b9 x (lt_of_block x),d3,lt_of_block x,lt_of_block d3⟩);rw[g5] at HY;have y5:=zA (i:=0) HY.out.2.2.1 rfl;have l2:t5<Y.heap.size:=HY.out.2.2.2.2
 have o6:=Ja (show ∀W,Q Y W->O 36 #[.agg #[.slice ka bl.length kc]] W (pn W (N:Int)) from fun W hb=>by
  have:=ls (w:=W) (HX.out.2.2 W (HY.out.1.trans (hb.mono HY.out.1.size))).2.1 (Jn o.out.2.2.2.2.2.1 (Jn HY.out.1.size hb.size)) o.out.2.2.2.2.1;rw[hN] at this
  exact this)
 have HN:=Ja hN;clear hN b9 d3 b7 x c7 m8;go_upto_region 5 with(go_at_call 36;go_must (refine(o6.out _ (Below.refl _ _)).mono ?_;rintro e w2 ⟨rfl,c5⟩))
 clear hY g5 y5 y0 yg m3 m2;have f3:Q w w2:=HY.out.1.trans (c5.mono HY.out.1.size);have x:=zH c5 HY.out.2.1 (lt_of_block HY.out.2.1);have e5:=zH c5 HY.out.2.2.1 (lt_of_block HY.out.2.2.1);have l:=Ja (show Q w w2/\w2.heap[w.heap.size]? =_/\w2.heap[t5]? =_ from⟨f3,x,e5⟩);have a1:w.heap.size<w2.heap.size:=lt_of_block x;have c0:t5<w2.heap.size:=lt_of_block e5;clear c5 f3 x e5 l2;have HC:=Ja (show ∀w',Q w2 w'->(w'.cell? ⟨w.heap.size,0,none⟩=some (.slice (some ⟨gb,go,none⟩) p.funcs.length f2)/\w'.cell? ⟨w.heap.size,1,none⟩=some Va/\w'.cell? ⟨w.heap.size,2,none⟩=some (I p.entry)/\w'.cell? ⟨w.heap.size,3,none⟩=some (I p.handler)/\w'.cell? ⟨w.heap.size,4,none⟩=some Vd/\w'.cell? ⟨w.heap.size,5,none⟩=some Vb)/\w'.cell? ⟨t5,0,none⟩=some (.slice ka bl.length kc) from fun W hb=>⟨⟨zA (zH hb l.out.2.1 a1) rfl,zA (zH hb l.out.2.1 a1) rfl,zA (zH hb l.out.2.1 a1) rfl,zA (zH hb l.out.2.1 a1) rfl,zA (zH hb l.out.2.1 a1) rfl,zA (zH hb l.out.2.1 a1) rfl⟩,zA (zH hb l.out.2.2 c0) rfl⟩);obtain⟨⟨x0,x1,x2,x3,x4,x5⟩,y5⟩:=HC.out w2 (Below.refl _ _);have e2:=afQ N Zo;have b6:=run_make_row' (P:=Tryz.prog) 97 4 (.bool false) 1 Tryz.underlying97 Tryz.info_bool rfl .i64 .i64 N Zo Zo;rw[aga] at b6;obtain⟨ZR,f5⟩:∃Z,((List.replicate N (⟨0,0⟩:Rg)).flatMap xB).toArray=Z:=⟨_,rfl⟩
 obtain⟨ZB,f6⟩:∃Z,((List.replicate N false).map Value.bool).toArray=Z:=⟨_,rfl⟩
 rw[f5] at e2;rw[f6] at b6;have HZ:=Ja (Jb f5 f6);clear f5 f6
 go_cut [7] from 46 to 54 (fun s wx=>∃K:SK,s=F K.sb/\K.n=N/\Hid (ag2 w2 wx K p bl))
 case first=>
  go_region_held3 (fun w'=>(w'.cell? ⟨w.heap.size,0,none⟩=some (.slice (some ⟨gb,go,none⟩) p.funcs.length f2)/\w'.cell? ⟨w.heap.size,1,none⟩=some Va/\w'.cell? ⟨w.heap.size,2,none⟩=some (I p.entry)/\w'.cell? ⟨w.heap.size,3,none⟩=some (I p.handler)/\w'.cell? ⟨w.heap.size,4,none⟩=some Vd/\w'.cell? ⟨w.heap.size,5,none⟩=some Vb)/\w'.cell? ⟨t5,0,none⟩=some (.slice ka bl.length kc))
   ((refine HC.out _ ?_;repeat' (first|with_reducible exact Below.refl _ _|with_reducible assumption|with_reducible refine Below.drew ?_|with_reducible refine Below.alloc ?_ Zn _|with_reducible refine Below.setCell ?_ Zn _)))
   ((go_at_call 37;refine(ag5 _).mono ?_;rintro e w3 ⟨rfl,h4,f0,e4⟩;have n2:Q w2 w3:=Below.trans (show Q w2 _ from by repeat' (first|with_reducible exact Below.refl _ _|with_reducible assumption|with_reducible refine Below.drew ?_|with_reducible refine Below.alloc ?_ Zn _|with_reducible refine Below.setCell ?_ Zn _)) (f0.mono Zn);have l4:w2.heap.size<=w3.heap.size:=n2.size;have h6:=e4;rw[show ∀v:World,v.drew.heap=v.heap from fun _=>rfl] at h6;(try simp at h6)))
  all_goals go_wp2_with fail
  all_goals go_meet
  all_goals (
   refine slvNew' (B:=B) (V:=⟨.slice (some ⟨gb,go,none⟩) p.funcs.length f2,Va,Vd,Vb⟩) (fv:=.slice ka bl.length kc) (zI (by first|rfl|(simp;done)|(simp;omega))) (Jn o.out.2.2.2.2.2.1 l.out.1.size) Zo ?_ ?_ ?_ ?_ ?_ ?_ ?_ ?_
   ·exact(HX.out.2.2 _ (l.out.1.trans (Below.mono (show Q w2 _ from by repeat' (first|with_reducible exact Below.refl _ _|with_reducible assumption|with_reducible refine Below.drew ?_|with_reducible refine Below.alloc ?_ Zn _|with_reducible refine Below.setCell ?_ Zn _)) l.out.1.size))).1
   ·exact(HX.out.2.2 _ (l.out.1.trans (Below.mono (show Q w2 _ from by repeat' (first|with_reducible exact Below.refl _ _|with_reducible assumption|with_reducible refine Below.drew ?_|with_reducible refine Below.alloc ?_ Zn _|with_reducible refine Below.setCell ?_ Zn _)) l.out.1.size))).2.1
   ·repeat' (first|with_reducible exact Below.refl _ _|with_reducible assumption|with_reducible refine Below.drew ?_|with_reducible refine Below.alloc ?_ Zn _|with_reducible refine Below.setCell ?_ Zn _)
   ·exact qz.below (by first|exact h4|simpa using h4) (by repeat' (first|with_reducible exact Below.refl _ _|with_reducible assumption|with_reducible refine Below.drew ?_|with_reducible refine Below.alloc ?_ Zn _|with_reducible refine Below.setCell ?_ Zn _))
   ·rw[HZ.out.1];repeat' (first|exact zI (by first|rfl|(simp;done)|(simp;omega))|exact zH f0 (by repeat' (first|exact zI (by first|rfl|(simp;done)|(simp;omega))|refine ej ?_|refine zB ?_)) (by first|exact e4|omega|(simp;done)|(simp;omega))|refine ej ?_|refine zB ?_)
   ·rw[HZ.out.2];repeat' (first|exact zI (by first|rfl|(simp;done)|(simp;omega))|exact zH f0 (by repeat' (first|exact zI (by first|rfl|(simp;done)|(simp;omega))|refine ej ?_|refine zB ?_)) (by first|exact e4|omega|(simp;done)|(simp;omega))|refine ej ?_|refine zB ?_)
   ·refine⟨?_,?_,?_,?_⟩<;>(first|exact Je _|omega|(simp;done)|(simp;omega))
   ·refine⟨?_,?_,?_,?_,?_,?_⟩<;>(first|omega|(simp;done)|(simp;omega)))
 case rest=>
  obtain⟨K,rfl,k1,HK⟩:=hcut;have a4:=HK.out.2.1;have y5:wc.cell? ⟨t5,0,none⟩=some (.slice ka bl.length kc):=zA (zH a4 l.out.2.2 c0) rfl;have k5:=lt_of_block (zH a4 l.out.2.2 c0);obtain⟨b0,f4⟩:∃b,bl[0]? =some b:=⟨_,Jd k6⟩
  have e7:=(HX.out.2.2 wc (l.out.1.trans (a4.mono l.out.1.size))).2.1;obtain⟨qb,qo,l6,l7,_,_,_,pv,_,_,u0,_,_,b3,_,_⟩:=e7.get f4;obtain⟨pa,pc,rfl,m0,l9⟩:=b3.form;subst l6;rw[Nat.zero_mul,Uk] at u0;have r4:qb<wc.heap.size:=Jy l7 (Jn o.out.2.2.2.2.2.1 (Jn l.out.1.size a4.size));have p0:b0.params.length<=9223372036854775807:=Zo;have a3:=Ja (Jb f4 (Jb b3 a4));have h7:K.n=(aaG bl).toNat:=by rw[k1,HN.out];rfl
  have d0:=Ja h7;clear k1 h7 e7 b3 f4 m0 l9 a4 HC e2 b6 x0 x1 x2 x3 x4 x5;have a7:=HK.out.2.2;have d1:=Ja (show ∀wx,SlvTo wc wx K->Below w2.heap.size wc wx from fun wx h=>h.below ⟨a7.1,a7.2.1,a7.2.2,HK.out.2.1.size⟩);have g1:=Ja (show ∀wx,SlvTo wc wx K->wX wx B (.slice (some ⟨qb,qo,none⟩) bl.length kc) bl/\zY wx B (.slice pa b0.params.length pc) b0.params/\wx.cell? ⟨t5,0,none⟩=some (.slice (some ⟨qb,qo,none⟩) bl.length kc)/\t5<wx.heap.size/\B<=wx.heap.size from fun wx h=>⟨(HX.out.2.2 wx (l.out.1.trans ((a3.out.2.2.trans ((d1.out wx h).mono (Je _))).mono l.out.1.size))).2.1,a3.out.2.1.below zO ((d1.out wx h).mono (Jn o.out.2.2.2.2.2.1 l.out.1.size)),zA (zH (a3.out.2.2.trans (d1.out wx h)) l.out.2.2 c0) rfl,Jy k5 h.size,Jn o.out.2.2.2.2.2.1 (Jn l.out.1.size (Jn a3.out.2.2.size h.size))⟩);clear a7;go_wp2;clear y5 u0
  go_loopw [61] (fun kv wx=>∃(j:Nat) (s':Slv) (c:Bool),j<=b0.params.length/\kv=I j/\Hid ((b0.params.take j).foldl (fun q v=>q7 0 v zx q) (⟨List.replicate K.n ⟨0,0⟩,List.replicate K.n false⟩,false)=(s',c)/\SlvAt wx K p bl 0 s'/\SlvTo wc wx K)) (fun kv _=>b0.params.length-(intOf kv).toNat)
  case atStart=>exact⟨0,_,_,Jt _,rfl,Ja ⟨rfl,HK.out.1,SlvTo.refl _ _⟩⟩
  case round=>
   obtain⟨j,s',c,hj,rfl,HJ⟩:=hrel
   by_cases d:j<b0.params.length
   ·have a2:(j:Int)<(b0.params.length:Int):=Zo;obtain⟨v,hv⟩:∃v,b0.params[j]? =some v:=⟨_,Jd d⟩
    obtain⟨pb,po,m1,g9,l1,_⟩:=(g1.out wr HJ.out.2.2).2.1.get hv;subst m1;rw[Nk] at l1;have p1:pb<wr.heap.size:=Jy g9 (g1.out wr HJ.out.2.2).2.2.2.2;have d4:=((o.out.1.rng 0 o.out.1.pos).1 v (by rw[show((0:Nat):Int)=((0:Nat):Int) from rfl,y7 a3.out.1];exact Ji hv))
    rw[<-d0.out] at d4;obtain⟨vn,rfl⟩:∃vn:Nat,v=vn:=⟨v.toNat,by omega⟩
    obtain⟨s2,r,hq⟩:∃s2 r,setF 0 s' (vn:Int) zx=(s2,r):=⟨_,_,rfl⟩
    have o0:=Ja (show ∀W,SlvAt W K p bl 0 s'->O 38 #[F K.sb,I vn,.agg #[M 0,M 65535]] W (ng W K p bl 0 (s2,r)) from fun W hb=>by
     have:=afA hb (v:=vn) (by have:=d4.2;rw[Ni] at this;exact this) xr (i7 xr (hb.oks.get _));rw[hq] at this
     exact this)
    have HV:=Ja (Jb hv (Jb hq d));clear hv hq d4 d g9
    go_wp2_with (first
     |(go_at_call 39;go_must (refine(q6 _).mono ?_;rintro e w5 ⟨rfl,a5⟩))
     |(go_at_call 38;go_must (refine(o0.out _ (HJ.out.2.1.below a5)).mono ?_;rintro e w6 ⟨rfl,d6,g4⟩;have H6:=Ja (Jb d6 ((SlvTo.of_below a5).trans g4));clear d6 g4 a5)))
    go_roundw
    case rel=>exact⟨j+1,s2,_,HV.out.2.2,by go_num,Ja ⟨by rw[x9 HV.out.1,HJ.out.1];unfold q7;rw[HV.out.2.1],H6.out.1,HJ.out.2.2.trans H6.out.2⟩⟩
    case measure=>have:=HV.out.2.2;simp[intOf];omega
   ·obtain rfl:j=b0.params.length:=by omega
    have a2:¬(b0.params.length:Int)<(b0.params.length:Int):=Zo
    have o2:=Ja (show fx (aaG bl).toNat (xz bl (0:Nat)).params=s' by
     unfold fx;rw[<-d0.out,y7 a3.out.1];have:=HJ.out.1;rw[Nl] at this
     rw[this])
    have d2:=Ja HJ.out.2;clear hj d HJ;obtain⟨z1,z2,z3,z4,z5⟩:=g1.out wr d2.out.2;have HG:=Ja (ox z1 z5 ⟨o.out.2.2.2.2.1.1,fun b hb=>(o.out.2.2.2.2.1.2 b hb).2.2⟩)
    have g2:∀b∈bl,tz bl b.term=true:=fun b hb=>by
     obtain⟨i,hi⟩:=Ny hb;have:=o.out.1.st.trm i (Jh.1 hi).1;rw[y7 hi] at this;exact this
    have o3:=Ja (show ∀W b1,OwnRows zN 3 22 W wr.heap.size b1 (zk bl)->GraphIn W (L b1 (zk bl).length (zk bl).length) (zy bl) from fun W b1 h=>bU o.out.2.2.2.2.1 o.out.2.2.2.2.2.2.1 g2 (h.asRows (Je _)));obtain⟨od,d8⟩:∃od,vD (zy bl)=od:=⟨_,rfl⟩
    obtain⟨gl,h9⟩:∃n,(zk bl).length=n:=⟨_,rfl⟩
    have f9:0∈od:=by rw[<-d8];exact(o.out.1.ord 0).2 o.out.1.pos
    have k7:0<od.length:=List.length_pos_of_mem f9;have a6:=Ja (Jb d8 h9);clear z1 z2 z5 g2 d8 h9 f9
    go_wp2_with (first
     |(go_at_call 41;go_must (refine HG.out.mono ?_;rintro e w7 ⟨b1,rfl,c1,n1,c4⟩;rw[a6.out.2]))
     |(go_at_call 40;go_must (refine(iJ (by have:=o3.out w7 b1 c1;rw[a6.out.2] at this;exact this)).mono ?_;rintro e w8 ⟨ov,rfl,b4,i1⟩;rw[a6.out.1] at b4;obtain⟨ob,oc,rfl,p5,p4,d9,k0⟩:=ahr b4 rfl k7)))
    have b8:Q wr w8:=c4.trans (i1.mono c4.size);have e0:=d2.out.1.fresh (b:=ob) (Jn c4.size d9)
    have d5:∀i∈od,qf K.n bl (xz bl i):=fun i hi=>by
     rw[d0.out];exact o.out.1.sol i ((o.out.1.ord i).1 (by rw[a6.out.1];exact hi))
    obtain⟨T,hT⟩:∃T,ahu p bl od 0 s'=T:=⟨_,rfl⟩
    have e6:ux p bl=mo T:=by
     unfold ux fnT;rw[o2.out,a6.out.1,hT]
    have HQ:=Ja (show SlvAt w8 K p bl 0 s'/\SlvTo wc w8 K/\aeR w8 ob od/\(ob≠K.rb/\ob≠K.kb/\ob≠K.sb)/\(∀i∈od,qf K.n bl (xz bl i))/\ahu p bl od 0 s'=T/\ux p bl=mo T from⟨d2.out.1.below b8,d2.out.2.trans (SlvTo.of_below b8),k0,e0,d5,hT,e6⟩);have p3:od.length<=9223372036854775807:=Zo;clear b8 e0 d5 hT e6 k0 c4 i1 b4 c1 n1 d9 z3 z4;go_wp2
    go_step3
    go_wp2
    go_loopg [11] (kI 0 s') (fun g cv wx=>∃(j:Nat) (t:Slv),Hid (g=kI j t/\j+kI j t<=4+K.n/\ahu p bl od j t=T/\SlvAt wx K p bl j t/\SlvTo w8 wx K))
    case atStart=>exact⟨0,s',Ja ⟨rfl,by have:=nfL_le s'.r s'.kn;have:=HQ.out.1.oks.rl;unfold kI Slv.nf;omega,HQ.out.2.2.2.2.2.1,HQ.out.1,SlvTo.refl _ _⟩⟩
    case round=>
     obtain⟨j,t,y⟩:=hrel;have s3:j<=2000000:=by have:=y.out.2.1;have:=y.out.2.2.2.1.n64;omega
     have c10:=y.out.2.2.2.1.cells.2.2.2.2.1;have n3:=zE (i:=10) y.out.2.2.2.1.cell;have l3:=lt_of_block y.out.2.2.2.1.cell;obtain⟨W4,i2⟩:∃W,wr.setCell ⟨K.sb,10,none⟩ (I ((j:Int)+1))=W:=⟨_,rfl⟩
     obtain⟨q1,q2⟩:=y.out.2.2.2.1.round i2;have H4:=Ja (Jb q1 (y.out.2.2.2.2.trans q2));clear q1 q2;go_upto_region 14 with fail;clear i2 c10 n3 l3;go_wp2
     go_loopw [11,82] (fun cv kv wx=>∃(m:Nat) (t2:Slv) (c:Bool),m<=od.length/\cv=.bool c/\kv=I m/\Hid ((od.take m).foldl (goS p bl (j+1)) (t,false)=(t2,c)/\SlvAt wx K p bl (j+1) t2/\SlvTo w8 wx K)) (fun _ kv _=>od.length-(intOf kv).toNat)
     case atStart=>exact⟨0,t,false,Jt _,rfl,rfl,Ja ⟨rfl,H4.out.1,H4.out.2⟩⟩
     case round=>
      obtain⟨m,t2,c,hm,rfl,rfl,u⟩:=hrel
      by_cases d:m<od.length
      ·have a2:(m:Int)<(od.length:Int):=Zo;obtain⟨i,hi⟩:∃i,od[m]? =some i:=⟨_,Jd d⟩
       have b5:=HQ.out.2.2.1.to u.out.2.2 HQ.out.2.2.2.1;have ci:=b5.cell hi;have r5:=b5.lt;have h8:i<bl.length:=(o.out.1.ord i).1 (by rw[a6.out.1];exact Ji hi);obtain⟨bx,c2⟩:∃b,bl[i]? =some b:=⟨_,Jd h8⟩
       obtain⟨t3,r,hq⟩:∃t3 r,aft p bl (j+1) (t2,false) bx=(t3,r):=⟨_,_,rfl⟩
       have o9:=Ja (show O 42 #[F K.sb,I i] wr (ng wr K p bl (j+1) (t3,r)) from by
        have hw:=ahb o.out.1 o.out.2.1 h8;rw[<-d0.out,y7 c2] at hw;have:=agB u.out.2.1 c2 hw;rw[hq] at this
        exact this)
       have HI:=Ja (Jb hi (Jb c2 (Jb hq d)));clear hi c2 hq b5 d;cases r
       all_goals go_wp2_with (go_at_call 42;go_must (refine o9.out.mono ?_;rintro e w9 ⟨rfl,g7,g3⟩;have H9:=Ja (Jb g7 g3);clear g7 g3))
       all_goals (
        go_roundw
        case rel=>exact⟨m+1,t3,_,HI.out.2.2.2,by first|rfl|(cases c<;>rfl),by go_num,Ja ⟨by rw[x9 HI.out.1,u.out.1];unfold goS;rw[y7 HI.out.2.1,show(aft p bl (j+1) ((t2,c).1,false) bx)=_ from HI.out.2.2.1];first|rw[Bool.or_true]|rw[Bool.or_false],H9.out.1,u.out.2.2.trans H9.out.2⟩⟩
        case measure=>have:=HI.out.2.2.2;simp[intOf];omega)
      ·obtain rfl:m=od.length:=by omega
       have a2:¬(od.length:Int)<(od.length:Int):=Zo
       have HR:=Ja (show rk p bl od (j+1) t=(t2,c) by
        have:=u.out.1;rw[Nl] at this
        exact this)
       clear hm d;cases c
       ·have k2:=Ja (show t2=T by
         have:=y.out.2.2.1;rw[j0 HQ.out.2.2.2.2.1 y.out.2.2.2.1.oks,HR.out,if_neg (fun h=>by cases h)] at this
         exact this)
        have c8:=u.out.2.1.cells.2.2.1;have g8:=lt_of_block u.out.2.1.cell;have r6:=u.out.2.1.n64;go_wp2;clear c8
        go_loopw [97] (fun kv wx=>∃m:Nat,m<=K.n/\kv=I m/\Hid (SlvAt wx K p bl (j+1) (o5 t2 m)/\SlvTo w8 wx K)) (fun kv _=>K.n-(intOf kv).toNat)
        case atStart=>exact⟨0,Jt _,rfl,Ja ⟨u.out.2.1,u.out.2.2⟩⟩
        case round=>
         obtain⟨m,hm,rfl,HL⟩:=hrel;have c8:=HL.out.1.cells.2.2.1;have c9:=HL.out.1.cells.2.2.2.1;have g8:=lt_of_block HL.out.1.cell;have a1:=lt_of_block HL.out.1.row;have l4:=lt_of_block HL.out.1.kn
         by_cases d:m<K.n
         ·have a2:(m:Int)<(K.n:Int):=Zo;have kx:=sg HL.out.1 d;rw[agq] at kx
          cases hk:t2.knw (m:Int) with
          |true=>
           rw[hk] at kx;have HE:=Ja (agn u.out.2.1.oks d hk);clear hk;go_wp2;go_roundw
           case rel=>exact⟨m+1,d,by go_num,Ja ⟨by rw[HE.out];exact HL.out.1,HL.out.2⟩⟩
           case measure=>simp[intOf];omega
          |false=>
           rw[hk] at kx;have HE:=Ja (ahh u.out.2.1.oks d hk);clear hk;go_upto_region 25 with fail;clear c9 kx;obtain⟨r0,r1⟩:=HL.out.1.rcell (v:=(m:Int)) Zo;rw[Ni] at r0 r1;have HC:=Ja (show ∀W:World,W.heap[K.sb]? =wr.heap[K.sb]?->W.cell? ⟨K.sb,8,none⟩=some (L K.rb K.n K.n) from fun W h=>zA (h.trans HL.out.1.cell) rfl);have e0:=HL.out.1.ne
           go_region_held3 (fun w'=>w'.cell? ⟨K.sb,8,none⟩=some (L K.rb K.n K.n))
            ((refine HC.out _ ?_;repeat' (first|exact rfl|exact m4|rw[Below.heap_setCell _ _ _ _ (show K.sb≠K.rb by omega)]|rw[show ∀v:World,v.drew.heap=v.heap from fun _=>rfl])))
            ((go_at_call 39;refine(q6 _).mono ?_;rintro e w5 ⟨rfl,a5⟩;have f8:Q wr w5:=Below.trans (show Q wr _ from by repeat' (first|with_reducible exact Below.refl _ _|with_reducible refine Below.drew ?_)) (a5.mono (Je _));clear a5;have m4:w5.heap[K.sb]? =wr.heap[K.sb]?:=f8.block _ g8;have b2:=Ja (HL.out.1.below f8);obtain⟨r2,r3⟩:=b2.out.rcell (v:=(m:Int)) Zo;rw[Ni] at r2 r3;have l0:=zE (i:=m*2) b2.out.row;have k9:=zE (i:=m*2+1) b2.out.row;have d6:=lt_of_block b2.out.row))
           all_goals go_wp2_with fail
           all_goals (
            obtain⟨W,hW⟩:∃W,(w5.setCell ⟨K.rb,m*2,none⟩ (M 0)).setCell ⟨K.rb,m*2+1,none⟩ (M 65535)=W:=⟨_,rfl⟩
            obtain⟨j1,j2⟩:=b2.out.putR d xr hW;rw[hW];clear r2 r3 l0 k9;have k3:=Ja (Jb j1 (((SlvTo.of_below f8).trans j2)));clear j1 j2 hW;go_roundw
            case rel=>exact⟨m+1,d,by go_num,Ja ⟨by rw[HE.out];exact k3.out.1.below (by first|exact Below.refl _ _|exact(Below.refl _ _).drew),HL.out.2.trans (k3.out.2.trans (SlvTo.of_below (by first|exact Below.refl _ _|exact(Below.refl _ _).drew)))⟩⟩
            case measure=>simp[intOf];omega)
         ·obtain rfl:m=K.n:=by omega
          have a2:¬(K.n:Int)<(K.n:Int):=Zo;have HE:=Ja (show o5 t2 K.n=⟨ux p bl,t2.kn⟩ by rw[agp u.out.2.1.oks,HQ.out.2.2.2.2.2.2,k2.out]);have e3:(ux p bl).length=K.n:=by rw[HQ.out.2.2.2.2.2.2,<-k2.out];exact j3 u.out.2.1.oks
          have o1:=Ja e3;clear hm d e3 c9;go_wp2
          try rw[Exit.noGoto_ret]
          go_ret;have d7:=HL.out.1.row;rw[HE.out] at d7;refine⟨K.rb,by rw[o1.out];rfl,d7,?_,?_⟩
          ·exact Jn l.out.1.size HK.out.2.2.1
          ·exact l.out.1.trans ((a3.out.2.2.trans (d1.out wr (HQ.out.2.1.trans HL.out.2))).mono l.out.1.size)
       ·go_wp2
        go_roundg (kI (j+1) t2)
        case measure=>
         have:=aeA (p:=p) HQ.out.2.2.2.2.1 y.out.2.2.2.1.oks (k:=j) (by rw[HR.out]);rw[HR.out] at this;rw[y.out.1];exact this
        case rel=>
         refine⟨j+1,t2,Ja ⟨rfl,?_,?_,u.out.2.1,u.out.2.2⟩⟩
         ·have:=aeA (p:=p) HQ.out.2.2.2.2.1 y.out.2.2.2.1.oks (k:=j) (by rw[HR.out]);rw[HR.out] at this;have h5:kI (j+1) t2<kI j t:=this;have:=y.out.2.1;omega
         ·have:=y.out.2.2.1;rw[j0 HQ.out.2.2.2.2.1 y.out.2.2.2.1.oks,HR.out,if_pos rfl] at this;exact this
def obs (data:List IObj)(R:List Rg)(l:List IOp):List Int:=(l.filter aeB).map (ahm data R)
theorem ae5{data:List IObj}(h:aeB o=true):obs data R (l++ [o])=obs data R l++ [ahm data R o]:=by
 unfold obs;rw[List.filter_append,List.filter_cons_of_pos h,List.filter_nil,Js];rfl
theorem afK{data:List IObj}(h:aeB o=false):obs data R (l++ [o])=obs data R l:=by
 unfold obs;rw[List.filter_append,List.filter_cons_of_neg (by rw[h];decide),List.filter_nil,Ua]
theorem obs_le (data:List IObj)(R:List Rg)(l:List IOp):(obs data R l).length<=l.length:=by unfold obs;rw[Nr];exact List.length_filter_le _ _
theorem ahg:∀(l:List IBlk),(∀b∈l,b.ops.length<=2000000)->(l.flatMap (·.ops)).length<=l.length*2000000
 | [],_=>by simp
 |b::l,h=>by
  have h1:=ahg l fun x hx=>h x (.tail _ hx)
  have h2:=h b (.head _);rw[Qa,Jk,Nq];omega
theorem j5(h:l[j]? =some o):l.take (j+1)=l.take j++ [o]:=by rw[Nh,h];rfl
theorem afi{b:IBlk}(h:bl[k]? =some b):(bl.take (k+1)).flatMap (·.ops)=(bl.take k).flatMap (·.ops)++b.ops:=by rw[Nh,h,Nx];simp
structure ObS (w wx:World) (t2 rb:Nat) (pc:Array Value) (R:List Rg) (bl:List IBlk):Prop where
 below:Below t2 w wx
 p2:wx.heap[t2]? =some (.cells pc 29 (0,0))
 row:bl≠ []->wx.heap[rb]? =some (.cells (R.flatMap xB).toArray 45 (0,0))
theorem ObS.lt{rb:Nat}(h:ObS w wx t2 rb pc R bl):t2<=wx.heap.size:=Qd (lt_of_block h.p2)
theorem ObS.keep{rb:Nat}(h:ObS w wx t2 rb pc R bl)(hb:Q wx W):ObS w W t2 rb pc R bl:=
 ⟨h.below.trans (hb.mono h.lt),zH hb h.p2 (lt_of_block h.p2),fun h0=>zH hb (h.row h0) (lt_of_block (h.row h0))⟩
theorem ObS.drew{rb:Nat}(h:ObS w wx t2 rb pc R bl):ObS w wx.drew t2 rb pc R bl:=⟨h.below.drew,h.p2,h.row⟩
theorem ae8{n:Nat}{v:Value}{xs:List Value}(ho:wx.ownsRow t2 3 1 v n xs):∀k,v.ownBlock=some k->t2<=k:=fun k hk=>by
 rcases ho.2 with⟨rfl,_⟩|⟨g,f,d,rfl,c,_⟩
 ·cases hk
 ·cases hk;exact c
theorem ObS.grown{rb:Nat}(h:ObS w wx t2 rb pc R bl){n:Nat}{v:Value}{xs:List Value}(ho:wx.ownsRow t2 3 1 v n xs)(hg:wx.grownBy W v.ownBlock):ObS w W t2 rb pc R bl:=
 ⟨h.below.grown hg h.lt (ae8 ho),zL hg h.p2 (zC ho h.p2 (.inr Zd)),fun h0=>zL hg (h.row h0) (zC ho (h.row h0) (.inr Zd))⟩
structure ObT (w wx:World) (t2 rb:Nat) (pc:Array Value) (R:List Rg) (bl:List IBlk) (t10:Nat) (oc:Array Value):Prop where
 s:ObS w wx t2 rb pc R bl
 op:wx.heap[t10]? =some (.cells oc 76 (0,0))
theorem ObT.keep{rb:Nat}(h:ObT w wx t2 rb pc R bl c oc)(hb:Q wx W):ObT w W t2 rb pc R bl c oc:=
 ⟨h.s.keep hb,zH hb h.op (lt_of_block h.op)⟩
theorem ObT.grown{rb:Nat}(h:ObT w wx t2 rb pc R bl c oc){n:Nat}{v:Value}{xs:List Value}(ho:wx.ownsRow t2 3 1 v n xs)(hg:wx.grownBy W v.ownBlock):ObT w W t2 rb pc R bl c oc:=
 ⟨h.s.grown ho hg,zL hg h.op (zC ho h.op (.inr Zd))⟩
theorem ObS.rcell{rb:Nat}(h:ObS w wx t2 rb pc R bl)(h0:bl≠ []){x:Nat}(c:x<R.length):
 T wx rb (x*2) (M ((R.getD x ⟨0,0⟩).lo:Int))/\T wx rb (x*2+1) (M ((R.getD x ⟨0,0⟩).hi:Int)):=by
 have hg:R[x]? =some (R.getD x ⟨0,0⟩):=by rw[Jj,Jd c];rfl
 exact⟨by have:=oW (f:=xB) (n:=2) (fun _=>rfl) (h.row h0) hg (j:=0) rfl;rw[Ng,Uk] at this;exact this,by have:=oW (f:=xB) (n:=2) (fun _=>rfl) (h.row h0) hg (j:=1) rfl;rw[Ng] at this;exact this⟩
def ObjRet (w:World)(l:List Int)(e:Ending)(w':World):Prop:=∃v,e=.returned v/\w'.ownsRow w.heap.size 3 1 v l.length (l.map zN)/\Q w w'
theorem il{p:IProg}(h:FnS p bl):(∀a∈ux p bl,a.ok)/\(ux p bl).length=(aaG bl).toNat:=by
 refine⟨fun a ha=>?_,j3 h.end.ok⟩;unfold ux mo at ha;obtain⟨⟨x,b⟩,c,rfl⟩:=Nu.1 ha
 dsimp only
 split
 ·exact h.end.ok.ok x (List.of_mem_zip c).1
 ·exact xr
theorem acc_use{p:IProg}(h:FnS p bl){b:IBlk}(hb:bl[k]? =some b)(ho:o∈b.ops)(c:aeB o=true):0<=o.a/\o.a.toNat<(ux p bl).length:=by
 have hk:=(Jh.1 hb).1;have:=((h.rng k hk).2 o (by rw[y7 hb];exact ho)).1.a (acc_a c);rw[(il h).2];exact this
theorem afV:aeB o=decide (o.code=18∨o.code=19∨o.code=20∨o.code=21):=by
 unfold aeB;rw[Bool.eq_iff_iff];simp only[Jm,decide_eq_true_eq];omega
theorem ags{B:Nat}{V:PV}{p:IProg}(hp:ProgIn w B V p)(hB:B<=w.heap.size)(hs:∀f∈p.funcs,vZ f)(hv:vC p=0)(hf:p.funcs[f]? =some bl):
 O 16 #[yH V p,I f] w (ObjRet w (agS p.data (ux p bl) bl)):=by
 have a0:=hs bl (Ji hf);have m0:=(Jh.1 hf).1;obtain⟨R,hR⟩:∃R,ux p bl=R:=⟨_,rfl⟩
 have hF:bl≠ []->FnS p bl:=fun h0=>afR hv hs hp.p64 hf h0
 have g8:∀W,Q w W->O 35 #[yH V p] W (m9 W 0):=fun W hb=>by
  have:=tu (hp.below (hb.mono hB)) (Jn hB hb.size) hs;rw[hv] at this;exact this
 have g9:∀W,Q w W->O 15 #[yH V p,I f] W (fun e w'=>∃(ra:Option Addr) (rn rc:Nat),e=.returned (.slice ra rn rc)/\Q W w'/\((bl=[]/\ra=none/\rn=0/\rc=0)∨bl≠ []/\rn=R.length/\rc=R.length/\∃rb,ra=some ⟨rb,0,none⟩/\A w' rb (R.flatMap xB).toArray 45)):=fun W hb=>by
  by_cases h0:bl=[]
  ·subst h0;refine(agz (hp.below (hb.mono hB)) (Jn hB hb.size) hs hv f hf).mono ?_;rintro e w' ⟨rfl,i0⟩;exact⟨none,0,0,rfl,i0,.inl ⟨rfl,rfl,rfl,rfl⟩⟩
  ·refine(ac1 (hp.below (hb.mono hB)) (Jn hB hb.size) hs hv hf h0).mono ?_;rintro e w' ⟨rb,rfl,h1,h2,h3⟩;rw[hR] at h1 ⊢;exact⟨_,_,_,rfl,h3,.inr ⟨h0,rfl,rfl,rb,rfl,h1⟩⟩
 have h5:∀(a:Rg) (n:Int) W,Q w W->a.ok->(0<=n/\n<=2)->O 43 #[yH V p,.agg #[M (a.lo:Int),M (a.hi:Int)],I n] W (pn W (eC p.data 0 a n)):=fun a n W hb ha hn=>agj (hp.below (hb.mono hB)) (Jn hB hb.size) ha n hn
 obtain⟨Vf,Va,Vd,Vb⟩:=V;obtain⟨f1,f2,e1,m2,m1⟩:=hp.funcs.form;have i1:Vf=.slice f1 p.funcs.length f2:=e1;subst i1;obtain⟨gb,go,rfl,e6,bv,g0,e8⟩:=hp.funcs.get hf;obtain⟨ka,kc,rfl,l7,l6⟩:=e8.form;rw[Nk] at g0;obtain⟨X,hX⟩:∃X,w.alloc (G #[.slice (some ⟨gb,go,none⟩) p.funcs.length f2,Va,I p.entry,I p.handler,Vd,Vb] 29)=X:=⟨_,rfl⟩
 have g4:Q w X:=by rw[<-hX];exact(Below.refl _ _).alloc (Je _) _
 have a7:A X w.heap.size #[.slice (some ⟨gb,go,none⟩) p.funcs.length f2,Va,I p.entry,I p.handler,Vd,Vb] 29:=by rw[<-hX];exact zI rfl
 have x0:=zA (i:=0) a7 rfl;have x1:=zA (i:=1) a7 rfl;have x2:=zA (i:=2) a7 rfl;have x3:=zA (i:=3) a7 rfl;have x4:=zA (i:=4) a7 rfl;have x5:=zA (i:=5) a7 rfl;have d5:=lt_of_block a7;have HX:=Ja (Jb g4 a7)
 have HC:=Ja (show(∀W,Q w W->O 35 #[.agg #[.slice (some ⟨gb,go,none⟩) p.funcs.length f2,Va,I p.entry,I p.handler,Vd,Vb]] W (m9 W 0))/\(∀W,Q w W->O 15 #[.agg #[.slice (some ⟨gb,go,none⟩) p.funcs.length f2,Va,I p.entry,I p.handler,Vd,Vb],I f] W (fun e w'=>∃(ra:Option Addr) (rn rc:Nat),e=.returned (.slice ra rn rc)/\Q W w'/\((bl=[]/\ra=none/\rn=0/\rc=0)∨bl≠ []/\rn=R.length/\rc=R.length/\∃rb,ra=some ⟨rb,0,none⟩/\A w' rb (R.flatMap xB).toArray 45)))/\
  (∀(a:Rg) (n:Int) W,Q w W->a.ok->(0<=n/\n<=2)->O 43 #[.agg #[.slice (some ⟨gb,go,none⟩) p.funcs.length f2,Va,I p.entry,I p.handler,Vd,Vb],.agg #[M (a.lo:Int),M (a.hi:Int)],I n] W (pn W (eC p.data 0 a n))) from⟨g8,g9,h5⟩)
 have HG:=Ja (show ∀W,Q w W->T W gb (go+f) (.slice ka bl.length kc)/\wX W B (.slice ka bl.length kc) bl/\B<=W.heap.size/\gb<W.heap.size from fun W hb=>⟨zV (hb.mono hB) e6 g0,e8.below yT (hb.mono hB),Jn hB hb.size,Jy e6 (Jn hB hb.size)⟩);have HF:=Ja (Jb hF (Jb hR a0));have k2:decide ((f:Int)<0)=false:=decide_eq_false Zo;have k1:decide ((p.funcs.length:Int)<=(f:Int))=false:=decide_eq_false Zo;have k0:decide (p.funcs.length<=f)=false:=decide_eq_false Zo;have k4:bl.length<=2000000:=a0.1;clear hp hB hs hv g8 g9 h5 g0 e8 e6 g4 a7 hF hR a0 hf;unfold yH;go_enter Tryz.func16,Tryz.ntmps16;go_upto_region 2 with(go_at_call 15;go_must (refine(HC.out.2.1 _ HX.out.1).mono ?_;rintro e w1 ⟨ra,rn,rc,rfl,f0,g1⟩))
 have c5:=zH f0 HX.out.2 d5;have H1:=Ja (Jb (HX.out.1.trans (f0.mono HX.out.1.size)) (Jb c5 g1));clear hX x0 x1 x2 x3 x4 x5 f0 c5 g1 d5;have f9:=lt_of_block H1.out.2.1
 go_cut [5,31] from 14 to 31 (fun s v wx=>s=.slice ra rn rc/\v=.bool false/\Hid (Q w1 wx))
 case first=>
  have y0:=zA (i:=0) H1.out.2.1 rfl;have y1:=zA (i:=1) H1.out.2.1 rfl;have y2:=zA (i:=2) H1.out.2.1 rfl;have y3:=zA (i:=3) H1.out.2.1 rfl;have y4:=zA (i:=4) H1.out.2.1 rfl;have y5:=zA (i:=5) H1.out.2.1 rfl;have hq:=fun W=>Lib.run_eql_slice_nil (P:=Tryz.prog) W 34 45 ra rn rc 0 0 Tryz.underlying34
  cases ra with
  |none=>
   go_wp2_with (go_at_call 35;go_must (refine(HC.out.1 _ H1.out.1).mono ?_;rintro e w2 ⟨rfl,g6⟩;have c5:=zH g6 H1.out.2.1 f9;have z0:=zA (i:=0) c5 rfl;have l4:=lt_of_block c5))
   go_meet
   exact⟨rfl,rfl,Ja g6⟩
  |some ra=>
   go_wp2_with fail;go_meet;exact⟨rfl,rfl,Ja (Below.refl _ _)⟩
 case rest=>
  obtain⟨rfl,rfl,HW⟩:=hcut;obtain⟨ii,d0,b5,b4,b3⟩:=info_parts Tryz.info_int;have b6:=zH HW.out H1.out.2.1 f9;have y0:=zA (i:=0) b6 rfl;obtain⟨yg,_,m4,l9⟩:=HG.out wc (H1.out.1.trans (HW.out.mono H1.out.1.size));have h6:=lt_of_block b6;obtain⟨t2,d7⟩:∃t,w.heap.size=t:=⟨_,rfl⟩
  obtain⟨rb,b9⟩:∃rb:Nat,bl≠ []->ra=some ⟨rb,0,none⟩/\rn=R.length/\rc=R.length/\A wc rb (R.flatMap xB).toArray 45:=by
   rcases H1.out.2.2 with⟨h0,_⟩|⟨h0,h1,h2,rb,h3,h4⟩
   ·exact⟨0,fun h=>absurd h0 h⟩
   ·exact⟨rb,fun _=>⟨h3,h1,h2,zH HW.out h4 (lt_of_block h4)⟩⟩
  have HS:=Ja (show ObS w wc w.heap.size rb #[.slice (some ⟨gb,go,none⟩) p.funcs.length f2,Va,I p.entry,I p.handler,Vd,Vb] R bl from⟨H1.out.1.trans (HW.out.mono H1.out.1.size),b6,fun h0=>(b9 h0).2.2.2⟩);have i2:=Ja (show bl≠ []->ra=some ⟨rb,0,none⟩/\rn=R.length/\rc=R.length from fun h=>⟨(b9 h).1,(b9 h).2.1,(b9 h).2.2.1⟩);rw[d7] at HS y0 h6 HG HC ⊢;have HT:=Ja d7;clear d7;have j2:=Ja (show B<=t2 by rw[<-HT.out];exact(HG.out w (Below.refl _ _)).2.2.1);have c9:wc.ownsRow t2 3 1 (U) 0 ((obs p.data R ([]:List IOp)).map zN):=Jv _ _ _ _;have j1:=Ja c9;clear b9 c9 b6;go_wp2;clear y0 yg
  go_loopw [6,39] (fun sv kv wx=>∃(k:Nat) (oa:Option Addr) (on oc:Nat),k<=bl.length/\sv=.slice oa on oc/\kv=I k/\Hid (on=(obs p.data R ((bl.take k).flatMap (·.ops))).length/\ObS w wx t2 rb #[.slice (some ⟨gb,go,none⟩) p.funcs.length f2,Va,I p.entry,I p.handler,Vd,Vb] R bl/\wx.ownsRow t2 3 1 (.slice oa on oc) on ((obs p.data R ((bl.take k).flatMap (·.ops))).map zN))) (fun _ kv _=>bl.length-(intOf kv).toNat)
  case atStart=>exact⟨0,none,0,0,Jt _,rfl,rfl,Ja ⟨rfl,HS.out,j1.out⟩⟩
  case round=>
   obtain⟨k,oa,on,oc,hk,rfl,rfl,HK⟩:=hrel
   by_cases a3:k<bl.length
   ·have c8:(k:Int)<(bl.length:Int):=Zo;obtain⟨b,hb⟩:∃b,bl[k]? =some b:=⟨_,Jd a3⟩
    have h8:bl≠ []:=fun e=>by rw[e] at a3;exact absurd a3 (Nat.not_lt_zero _)
    obtain⟨_,e7,b2,_⟩:=HG.out wr HK.out.2.1.below;obtain⟨bb,bo,h9,g5,c2,c3,f4,pv,ov,tv,c0,c1,c4,d9,c7,d6⟩:=e7.get hb;obtain⟨pa,pc,rfl,l2,l1⟩:=d9.form;obtain⟨qa,qc,rfl,l0,k9⟩:=c7.form;obtain⟨ta,tc,rfl,k7,k6⟩:=d6.form;subst h9;have k5:bb<wr.heap.size:=Jy g5 b2;have g3:=HF.out.2.2.2 b (Ji hb);have l3:b.ops.length<=2000000:=g3.2.1;obtain⟨Y,hY⟩:∃Y,wr.alloc (G #[.slice pa b.params.length pc,.slice qa b.ops.length qc,I b.term.kind,I b.term.a,.slice ta b.term.to.length tc] 84)=Y:=⟨_,rfl⟩
    have d2:Q wr Y:=by rw[<-hY];exact(Below.refl _ _).alloc (Je _) _
    have f6:A Y wr.heap.size #[.slice pa b.params.length pc,.slice qa b.ops.length qc,I b.term.kind,I b.term.a,.slice ta b.term.to.length tc] 84:=by rw[<-hY];exact zI rfl
    have HY:=Ja (show ObS w Y t2 rb #[.slice (some ⟨gb,go,none⟩) p.funcs.length f2,Va,I p.entry,I p.handler,Vd,Vb] R bl/\Y.ownsRow t2 3 1 (.slice oa on oc) on ((obs p.data R ((bl.take k).flatMap (·.ops))).map zN)/\A Y wr.heap.size #[.slice pa b.params.length pc,.slice qa b.ops.length qc,I b.term.kind,I b.term.a,.slice ta b.term.to.length tc] 84/\mN Y B (.slice qa b.ops.length qc) b.ops from⟨HK.out.2.1.keep d2,p7 HK.out.2.2 d2 (Je _),f6,c7.below xA (d2.mono b2)⟩);have q:=Ja (Jb hb (Jb h8 (Jb a3 HK.out.1)));clear e7 hb g5 d9 c7 d6 d2 f6 g3 f4 a3 b2;go_upto_region 8 with fail;clear hY c0 c1 c2 c3 c4;obtain⟨t8,f8⟩:∃t,wr.heap.size=t:=⟨_,rfl⟩
    rw[f8] at HY ⊢;clear f8;have z1:T Y t8 1 (.slice qa b.ops.length qc):=zA HY.out.2.2.1 rfl;go_wp2;clear z1
    go_loopw [6,46] (fun sv jv wx=>∃(j:Nat) (oa:Option Addr) (on oc:Nat),j<=b.ops.length/\sv=.slice oa on oc/\jv=I j/\Hid (on=(obs p.data R ((bl.take k).flatMap (·.ops)++b.ops.take j)).length/\ObS w wx t2 rb #[.slice (some ⟨gb,go,none⟩) p.funcs.length f2,Va,I p.entry,I p.handler,Vd,Vb] R bl/\wx.ownsRow t2 3 1 (.slice oa on oc) on ((obs p.data R ((bl.take k).flatMap (·.ops)++b.ops.take j)).map zN)/\Below t2 Y wx)) (fun _ jv _=>b.ops.length-(intOf jv).toNat)
    case atStart=>exact⟨0,oa,on,oc,Jt _,rfl,rfl,Ja ⟨by rw[Uc,Ua];exact q.out.2.2.2,HY.out.1,by rw[Uc,Ua];exact HY.out.2.1,Below.refl _ _⟩⟩
    case round=>
     obtain⟨j,oa,on,oc,hj,rfl,rfl,HJ⟩:=hrel
     by_cases a3:j<b.ops.length
     ·have c8:(j:Int)<(b.ops.length:Int):=Zo;obtain⟨o,ho⟩:∃o,b.ops[j]? =some o:=⟨_,Jd a3⟩
      obtain⟨qb,qo,h7,g2,e0,e1,e2,e3,e4,f4,av,e5,g7⟩:=(HY.out.2.2.2.below xA (HJ.out.2.2.2.mono j2.out)).get ho;obtain⟨aa,ac,rfl,_,_⟩:=g7.form;subst h7;have b2:B<=wr.heap.size:=(HG.out wr HJ.out.2.1.below).2.2.1;have j9:qb<wr.heap.size:=Jy g2 b2;obtain⟨c,hc⟩:∃c,o.code=c:=⟨_,rfl⟩
      obtain⟨y,hy⟩:∃y,o.a=y:=⟨_,rfl⟩
      rw[hc] at e0;rw[hy] at e2;obtain⟨Z,hZ⟩:∃Z,wr.alloc (G #[I c,I o.res,I y,I o.b,M (o.n:Int),.slice aa o.args.length ac] 76)=Z:=⟨_,rfl⟩
      have d1:Q wr Z:=by rw[<-hZ];exact(Below.refl _ _).alloc (Je _) _
      have d3:A Z wr.heap.size #[I c,I o.res,I y,I o.b,M (o.n:Int),.slice aa o.args.length ac] 76:=by rw[<-hZ];exact zI rfl
      have l:=Ja (show ObS w Z t2 rb #[.slice (some ⟨gb,go,none⟩) p.funcs.length f2,Va,I p.entry,I p.handler,Vd,Vb] R bl/\Z.ownsRow t2 3 1 (.slice oa on oc) on ((obs p.data R ((bl.take k).flatMap (·.ops)++b.ops.take j)).map zN)/\A Z wr.heap.size #[I c,I o.res,I y,I o.b,M (o.n:Int),.slice aa o.args.length ac] 76/\Below t2 Y Z from⟨HJ.out.2.1.keep d1,p7 HJ.out.2.2.1 d1 (Je _),d3,HJ.out.2.2.2.trans (d1.mono HJ.out.2.1.lt)⟩)
      have k3:on<=4000000000000:=by
       have h1:=HJ.out.1;have h2:=obs_le p.data R ((bl.take k).flatMap (·.ops)++b.ops.take j);have h3:=ahg (bl.take k) fun x hx=>(HF.out.2.2.2 x (List.mem_of_mem_take hx)).2.1
       rw[Jk,Oc] at h2;rw[Oc] at h3;have h4:=q.out.2.2.1;omega
      have HO:=Ja (Jb ho (Jb hc (Jb hy (Jb a3 HJ.out.1))));clear ho f4 g7 d1 d3 a3 g2 b2;go_upto_region 11 with fail;clear hZ e0 e1 e2 e3 e4 e5 hc hy;obtain⟨a2,d8⟩:∃t,wr.heap.size=t:=⟨_,rfl⟩
      rw[d8] at l ⊢;clear d8;have z0:T Z a2 0 (I c):=zA l.out.2.2.1 rfl
      by_cases b7:c=18∨c=19∨c=20∨c=21
      ·have b0:aeB o=true:=by rw[afV,HO.out.2.1];exact decide_eq_true b7
       have d4:=acc_use (HF.out.1 q.out.2.1) q.out.1 (Ji HO.out.1) b0;rw[HF.out.2.1,HO.out.2.2.1] at d4;obtain⟨yn,rfl⟩:∃yn:Nat,y=yn:=⟨y.toNat,by omega⟩
       have a5:yn<R.length:=by have:=d4.2;rw[Ni] at this;exact this
       obtain⟨rfl,rfl,rfl⟩:=i2.out q.out.2.1
       have m3:R.length<=65536:=by
        have h1:=(il (HF.out.1 q.out.2.1)).2;rw[HF.out.2.1] at h1;have h2:=(HF.out.1 q.out.2.1).cnt;omega
       obtain⟨a,ha⟩:∃a,R.getD yn ⟨0,0⟩=a:=⟨_,rfl⟩
       have f3:a.ok:=by
        have h1:=(il (HF.out.1 q.out.2.1)).1;rw[HF.out.2.1] at h1;refine h1 a ?_;rw[<-ha,Jj,Jd a5];exact Uf a5
       obtain⟨z,hz⟩:∃z,ahm p.data R o=z:=⟨_,rfl⟩
       have f5:∀n,aht o=n->eC p.data 0 a n=z:=fun n hn=>by rw[<-hz,<-ha,<-hn];unfold ahm;rw[HO.out.2.2.1,Ni]
       have b8:obs p.data R ((bl.take k).flatMap (·.ops)++b.ops.take (j+1))=obs p.data R ((bl.take k).flatMap (·.ops)++b.ops.take j)++ [z]:=by
        rw[j5 HO.out.1,<-Nv,ae5 b0,hz]
       have HA:=Ja (Jb b8 (Jb f3 (Jb f5 (Jb b0 ha))));have hrl:=lt_of_block (l.out.1.row q.out.2.1);clear d4 ha f3 hz f5 b8 b0;rcases b7 with rfl|rfl|rfl|rfl
       ·have HS:=Ja (show ∀w',ObT w w' t2 rb #[.slice (some ⟨gb,go,none⟩) p.funcs.length f2,Va,I p.entry,I p.handler,Vd,Vb] R bl a2 #[I 18,I o.res,I yn,I o.b,M (o.n:Int),.slice aa o.args.length ac]->(T w' t2 0 (.slice (some ⟨gb,go,none⟩) p.funcs.length f2)/\T w' t2 1 Va/\T w' t2 2 (I p.entry)/\T w' t2 3 (I p.handler)/\T w' t2 4 Vd/\T w' t2 5 Vb)/\T w' a2 2 (I yn)/\T w' rb (yn*2) (M (a.lo:Int))/\T w' rb (yn*2+1) (M (a.hi:Int)) from fun W h=>⟨⟨zA h.s.p2 rfl,zA h.s.p2 rfl,zA h.s.p2 rfl,zA h.s.p2 rfl,zA h.s.p2 rfl,zA h.s.p2 rfl⟩,zA h.op rfl,by rw[<-HA.out.2.2.2.2];exact(h.s.rcell q.out.2.1 a5).1,by rw[<-HA.out.2.2.2.2];exact(h.s.rcell q.out.2.1 a5).2⟩);have a0:aht o=2:=by unfold aht;(rw[HO.out.2.1])<;>rfl
        have b1:=Ja (show ∀W,Below t2 w W->O 43 #[.agg #[.slice (some ⟨gb,go,none⟩) p.funcs.length f2,Va,I p.entry,I p.handler,Vd,Vb],.agg #[M (a.lo:Int),M (a.hi:Int)],I 2] W (pn W z) from fun W hb=>by
         rw[<-HA.out.2.2.1 2 a0];exact HC.out.2.2 a 2 W hb HA.out.2.1 Zd)
        clear a0;go_upto_region 14 with fail;clear z0;refine wp_region_noPanic ?_;refine yQ (S:=(fun w'=>(T w' t2 0 (.slice (some ⟨gb,go,none⟩) p.funcs.length f2)/\T w' t2 1 Va/\T w' t2 2 (I p.entry)/\T w' t2 3 (I p.handler)/\T w' t2 4 Vd/\T w' t2 5 Vb)/\T w' a2 2 (I yn)/\T w' rb (yn*2) (M (a.lo:Int))/\T w' rb (yn*2+1) (M (a.hi:Int)))) 10 Zk (HS.out _ ⟨l.out.1.drew,l.out.2.2.1⟩) (fun hHeld=>?_);refine Tl 0 ?_
        try simp only[Yp]
        refine Tl 1 ?_
        try simp only[Yp]
        refine Tl 2 ?_
        try simp only[Yp]
        refine Tl 3 ?_
        try simp only[Yp]
        refine Tl 4 ?_
        try simp only[Yp]
        refine Tl 5 ?_
        try simp only[Yp]
        refine Tl 6 ?_
        try simp only[Yp]
        refine z8 (rs:=[7]) Zk Zs ?_;refine zS.cons (o:=_) rfl (fun K hK=>?_) ?_
        ·skip
         (go_simp;refine(b1.out _ l.out.1.below.drew).mono ?_;rintro e w5 ⟨rfl,a4⟩;have m:Q Z w5:=(Below.refl Z.heap.size Z).drew.trans a4;clear a4;have g:=Ja (Jb (ObT.keep ⟨l.out.1,l.out.2.2.1⟩ m) (Jb (p7 l.out.2.1 m (Je _)) (Jb m (show t2<=(w5.alloc (G #[I z] 3)).heap.size by have:=l.out.1.lt;have:=m.size;simp;omega))));clear m)
         refine hK.out _ _ (HS.out _ g.out.1) (fun hHeld=>?_);clear hK K
         try simp only[Yp]
         refine z8 (rs:=[8]) Zk Zs ?_;refine zS.cons (o:=_) rfl (fun K hK=>?_) ?_
         ·skip
          go_simp;refine hK.out _ _ (HS.out _ (g.out.1.keep ((Below.refl _ _).alloc (Je _) _))) (fun hHeld=>?_);clear hK K
          try simp only[Yp]
          refine z8 (rs:=[9]) Zk Zs ?_;refine zS.cons (o:=_) rfl (fun K hK=>?_) ?_
          ·skip
           (refine yG (by rfl) (.tmp 55) (.tmp 63) _ (by rfl) t2 3 ii (I 0) 1 8 Tryz.underlying22 d0 b5 b4 b3 rfl Zo (.slice oa on oc) on ((obs p.data R ((bl.take k).flatMap (·.ops)++b.ops.take j)).map zN) (by rfl) (g.out.2.1.alloc _) (L w5.heap.size 1 1) 1 [I z] (by rfl) (yM.one (zI rfl) rfl) (by unfold maxLen;omega) Zo g.out.2.2.2 ?_;intro va9 vc9 w9 u d a6;(try dsimp only))
           refine hK.out _ _ (HS.out _ ((g.out.1.keep ((Below.refl _ _).alloc (Je _) _)).grown (g.out.2.1.alloc _) d)) (fun hHeld=>?_);clear hK K
           try simp only[Yp]
           refine z8 (rs:=[10]) Zk Zs ?_;refine zS.last (o:=_) rfl (fun K hK=>?_);go_simp;refine hK.out _ _ ?_;clear hK K
           try simp only[Yp]
           refine xj Zk (NoPanic.normal ?_) _
           have a1:=Ja (show ObS w w9 t2 rb #[.slice (some ⟨gb,go,none⟩) p.funcs.length f2,Va,I p.entry,I p.handler,Vd,Vb] R bl/\w9.ownsRow t2 3 1 (.slice va9 (on+1) vc9) (on+1) ((obs p.data R ((bl.take k).flatMap (·.ops)++b.ops.take (j+1))).map zN)/\Below t2 Y w9 from by
            have h2:=(g.out.1.s.keep ((Below.refl _ _).alloc (Je _) (G #[I z] 3))).grown (g.out.2.1.alloc _) d;have h4:Below t2 Y (w5.alloc (G #[I z] 3)):=(l.out.2.2.2.trans (g.out.2.2.1.mono l.out.1.lt)).alloc g.out.1.s.lt _
            exact⟨h2,by rw[HA.out.1,Js];exact u,h4.grown d g.out.2.2.2 (ae8 g.out.2.1)⟩)
           clear u d a6 hHeld;go_wp2_with fail;go_roundw
           case rel=>exact⟨j+1,va9,on+1,vc9,HO.out.2.2.2.1,rfl,by go_num,Ja ⟨by rw[HA.out.1,Jk,<-HO.out.2.2.2.2];rfl,a1.out.1,a1.out.2.1,a1.out.2.2⟩⟩
           case measure=>have:=HO.out.2.2.2.1;simp[intOf];omega
          exact zS.nil
         exact zS.nil
        exact zS.nil
       ·have HS:=Ja (show ∀w',ObT w w' t2 rb #[.slice (some ⟨gb,go,none⟩) p.funcs.length f2,Va,I p.entry,I p.handler,Vd,Vb] R bl a2 #[I 19,I o.res,I yn,I o.b,M (o.n:Int),.slice aa o.args.length ac]->(T w' t2 0 (.slice (some ⟨gb,go,none⟩) p.funcs.length f2)/\T w' t2 1 Va/\T w' t2 2 (I p.entry)/\T w' t2 3 (I p.handler)/\T w' t2 4 Vd/\T w' t2 5 Vb)/\T w' a2 2 (I yn)/\T w' rb (yn*2) (M (a.lo:Int))/\T w' rb (yn*2+1) (M (a.hi:Int)) from fun W h=>⟨⟨zA h.s.p2 rfl,zA h.s.p2 rfl,zA h.s.p2 rfl,zA h.s.p2 rfl,zA h.s.p2 rfl,zA h.s.p2 rfl⟩,zA h.op rfl,by rw[<-HA.out.2.2.2.2];exact(h.s.rcell q.out.2.1 a5).1,by rw[<-HA.out.2.2.2.2];exact(h.s.rcell q.out.2.1 a5).2⟩);have a0:aht o=1:=by unfold aht;(rw[HO.out.2.1])<;>rfl
        have b1:=Ja (show ∀W,Below t2 w W->O 43 #[.agg #[.slice (some ⟨gb,go,none⟩) p.funcs.length f2,Va,I p.entry,I p.handler,Vd,Vb],.agg #[M (a.lo:Int),M (a.hi:Int)],I 1] W (pn W z) from fun W hb=>by
         rw[<-HA.out.2.2.1 1 a0];exact HC.out.2.2 a 1 W hb HA.out.2.1 Zd)
        clear a0;go_upto_region 17 with fail;clear z0;refine wp_region_noPanic ?_;refine yQ (S:=(fun w'=>(T w' t2 0 (.slice (some ⟨gb,go,none⟩) p.funcs.length f2)/\T w' t2 1 Va/\T w' t2 2 (I p.entry)/\T w' t2 3 (I p.handler)/\T w' t2 4 Vd/\T w' t2 5 Vb)/\T w' a2 2 (I yn)/\T w' rb (yn*2) (M (a.lo:Int))/\T w' rb (yn*2+1) (M (a.hi:Int)))) 10 Zk (HS.out _ ⟨l.out.1.drew,l.out.2.2.1⟩) (fun hHeld=>?_);refine Tl 0 ?_
        try simp only[Yp]
        refine Tl 1 ?_
        try simp only[Yp]
        refine Tl 2 ?_
        try simp only[Yp]
        refine Tl 3 ?_
        try simp only[Yp]
        refine Tl 4 ?_
        try simp only[Yp]
        refine Tl 5 ?_
        try simp only[Yp]
        refine Tl 6 ?_
        try simp only[Yp]
        refine z8 (rs:=[7]) Zk Zs ?_;refine zS.cons (o:=_) rfl (fun K hK=>?_) ?_
        ·skip
         (go_simp;refine(b1.out _ l.out.1.below.drew).mono ?_;rintro e w5 ⟨rfl,a4⟩;have m:Q Z w5:=(Below.refl Z.heap.size Z).drew.trans a4;clear a4;have g:=Ja (Jb (ObT.keep ⟨l.out.1,l.out.2.2.1⟩ m) (Jb (p7 l.out.2.1 m (Je _)) (Jb m (show t2<=(w5.alloc (G #[I z] 3)).heap.size by have:=l.out.1.lt;have:=m.size;simp;omega))));clear m)
         refine hK.out _ _ (HS.out _ g.out.1) (fun hHeld=>?_);clear hK K
         try simp only[Yp]
         refine z8 (rs:=[8]) Zk Zs ?_;refine zS.cons (o:=_) rfl (fun K hK=>?_) ?_
         ·skip
          go_simp;refine hK.out _ _ (HS.out _ (g.out.1.keep ((Below.refl _ _).alloc (Je _) _))) (fun hHeld=>?_);clear hK K
          try simp only[Yp]
          refine z8 (rs:=[9]) Zk Zs ?_;refine zS.cons (o:=_) rfl (fun K hK=>?_) ?_
          ·skip
           (refine yG (by rfl) (.tmp 68) (.tmp 76) _ (by rfl) t2 3 ii (I 0) 1 8 Tryz.underlying22 d0 b5 b4 b3 rfl Zo (.slice oa on oc) on ((obs p.data R ((bl.take k).flatMap (·.ops)++b.ops.take j)).map zN) (by rfl) (g.out.2.1.alloc _) (L w5.heap.size 1 1) 1 [I z] (by rfl) (yM.one (zI rfl) rfl) (by unfold maxLen;omega) Zo g.out.2.2.2 ?_;intro va9 vc9 w9 u d a6;(try dsimp only))
           refine hK.out _ _ (HS.out _ ((g.out.1.keep ((Below.refl _ _).alloc (Je _) _)).grown (g.out.2.1.alloc _) d)) (fun hHeld=>?_);clear hK K
           try simp only[Yp]
           refine z8 (rs:=[10]) Zk Zs ?_;refine zS.last (o:=_) rfl (fun K hK=>?_);go_simp;refine hK.out _ _ ?_;clear hK K
           try simp only[Yp]
           refine xj Zk (NoPanic.normal ?_) _
           have a1:=Ja (show ObS w w9 t2 rb #[.slice (some ⟨gb,go,none⟩) p.funcs.length f2,Va,I p.entry,I p.handler,Vd,Vb] R bl/\w9.ownsRow t2 3 1 (.slice va9 (on+1) vc9) (on+1) ((obs p.data R ((bl.take k).flatMap (·.ops)++b.ops.take (j+1))).map zN)/\Below t2 Y w9 from by
            have h2:=(g.out.1.s.keep ((Below.refl _ _).alloc (Je _) (G #[I z] 3))).grown (g.out.2.1.alloc _) d;have h4:Below t2 Y (w5.alloc (G #[I z] 3)):=(l.out.2.2.2.trans (g.out.2.2.1.mono l.out.1.lt)).alloc g.out.1.s.lt _
            exact⟨h2,by rw[HA.out.1,Js];exact u,h4.grown d g.out.2.2.2 (ae8 g.out.2.1)⟩)
           clear u d a6 hHeld;go_wp2_with fail;go_roundw
           case rel=>exact⟨j+1,va9,on+1,vc9,HO.out.2.2.2.1,rfl,by go_num,Ja ⟨by rw[HA.out.1,Jk,<-HO.out.2.2.2.2];rfl,a1.out.1,a1.out.2.1,a1.out.2.2⟩⟩
           case measure=>have:=HO.out.2.2.2.1;simp[intOf];omega
          exact zS.nil
         exact zS.nil
        exact zS.nil
       ·have HS:=Ja (show ∀w',ObT w w' t2 rb #[.slice (some ⟨gb,go,none⟩) p.funcs.length f2,Va,I p.entry,I p.handler,Vd,Vb] R bl a2 #[I 20,I o.res,I yn,I o.b,M (o.n:Int),.slice aa o.args.length ac]->(T w' t2 0 (.slice (some ⟨gb,go,none⟩) p.funcs.length f2)/\T w' t2 1 Va/\T w' t2 2 (I p.entry)/\T w' t2 3 (I p.handler)/\T w' t2 4 Vd/\T w' t2 5 Vb)/\T w' a2 2 (I yn)/\T w' rb (yn*2) (M (a.lo:Int))/\T w' rb (yn*2+1) (M (a.hi:Int)) from fun W h=>⟨⟨zA h.s.p2 rfl,zA h.s.p2 rfl,zA h.s.p2 rfl,zA h.s.p2 rfl,zA h.s.p2 rfl,zA h.s.p2 rfl⟩,zA h.op rfl,by rw[<-HA.out.2.2.2.2];exact(h.s.rcell q.out.2.1 a5).1,by rw[<-HA.out.2.2.2.2];exact(h.s.rcell q.out.2.1 a5).2⟩);have a0:aht o=2:=by unfold aht;(rw[HO.out.2.1])<;>rfl
        have b1:=Ja (show ∀W,Below t2 w W->O 43 #[.agg #[.slice (some ⟨gb,go,none⟩) p.funcs.length f2,Va,I p.entry,I p.handler,Vd,Vb],.agg #[M (a.lo:Int),M (a.hi:Int)],I 2] W (pn W z) from fun W hb=>by
         rw[<-HA.out.2.2.1 2 a0];exact HC.out.2.2 a 2 W hb HA.out.2.1 Zd)
        clear a0;go_upto_region 14 with fail;clear z0;refine wp_region_noPanic ?_;refine yQ (S:=(fun w'=>(T w' t2 0 (.slice (some ⟨gb,go,none⟩) p.funcs.length f2)/\T w' t2 1 Va/\T w' t2 2 (I p.entry)/\T w' t2 3 (I p.handler)/\T w' t2 4 Vd/\T w' t2 5 Vb)/\T w' a2 2 (I yn)/\T w' rb (yn*2) (M (a.lo:Int))/\T w' rb (yn*2+1) (M (a.hi:Int)))) 10 Zk (HS.out _ ⟨l.out.1.drew,l.out.2.2.1⟩) (fun hHeld=>?_);refine Tl 0 ?_
        try simp only[Yp]
        refine Tl 1 ?_
        try simp only[Yp]
        refine Tl 2 ?_
        try simp only[Yp]
        refine Tl 3 ?_
        try simp only[Yp]
        refine Tl 4 ?_
        try simp only[Yp]
        refine Tl 5 ?_
        try simp only[Yp]
        refine Tl 6 ?_
        try simp only[Yp]
        refine z8 (rs:=[7]) Zk Zs ?_;refine zS.cons (o:=_) rfl (fun K hK=>?_) ?_
        ·skip
         (go_simp;refine(b1.out _ l.out.1.below.drew).mono ?_;rintro e w5 ⟨rfl,a4⟩;have m:Q Z w5:=(Below.refl Z.heap.size Z).drew.trans a4;clear a4;have g:=Ja (Jb (ObT.keep ⟨l.out.1,l.out.2.2.1⟩ m) (Jb (p7 l.out.2.1 m (Je _)) (Jb m (show t2<=(w5.alloc (G #[I z] 3)).heap.size by have:=l.out.1.lt;have:=m.size;simp;omega))));clear m)
         refine hK.out _ _ (HS.out _ g.out.1) (fun hHeld=>?_);clear hK K
         try simp only[Yp]
         refine z8 (rs:=[8]) Zk Zs ?_;refine zS.cons (o:=_) rfl (fun K hK=>?_) ?_
         ·skip
          go_simp;refine hK.out _ _ (HS.out _ (g.out.1.keep ((Below.refl _ _).alloc (Je _) _))) (fun hHeld=>?_);clear hK K
          try simp only[Yp]
          refine z8 (rs:=[9]) Zk Zs ?_;refine zS.cons (o:=_) rfl (fun K hK=>?_) ?_
          ·skip
           (refine yG (by rfl) (.tmp 55) (.tmp 63) _ (by rfl) t2 3 ii (I 0) 1 8 Tryz.underlying22 d0 b5 b4 b3 rfl Zo (.slice oa on oc) on ((obs p.data R ((bl.take k).flatMap (·.ops)++b.ops.take j)).map zN) (by rfl) (g.out.2.1.alloc _) (L w5.heap.size 1 1) 1 [I z] (by rfl) (yM.one (zI rfl) rfl) (by unfold maxLen;omega) Zo g.out.2.2.2 ?_;intro va9 vc9 w9 u d a6;(try dsimp only))
           refine hK.out _ _ (HS.out _ ((g.out.1.keep ((Below.refl _ _).alloc (Je _) _)).grown (g.out.2.1.alloc _) d)) (fun hHeld=>?_);clear hK K
           try simp only[Yp]
           refine z8 (rs:=[10]) Zk Zs ?_;refine zS.last (o:=_) rfl (fun K hK=>?_);go_simp;refine hK.out _ _ ?_;clear hK K
           try simp only[Yp]
           refine xj Zk (NoPanic.normal ?_) _
           have a1:=Ja (show ObS w w9 t2 rb #[.slice (some ⟨gb,go,none⟩) p.funcs.length f2,Va,I p.entry,I p.handler,Vd,Vb] R bl/\w9.ownsRow t2 3 1 (.slice va9 (on+1) vc9) (on+1) ((obs p.data R ((bl.take k).flatMap (·.ops)++b.ops.take (j+1))).map zN)/\Below t2 Y w9 from by
            have h2:=(g.out.1.s.keep ((Below.refl _ _).alloc (Je _) (G #[I z] 3))).grown (g.out.2.1.alloc _) d;have h4:Below t2 Y (w5.alloc (G #[I z] 3)):=(l.out.2.2.2.trans (g.out.2.2.1.mono l.out.1.lt)).alloc g.out.1.s.lt _
            exact⟨h2,by rw[HA.out.1,Js];exact u,h4.grown d g.out.2.2.2 (ae8 g.out.2.1)⟩)
           clear u d a6 hHeld;go_wp2_with fail;go_roundw
           case rel=>exact⟨j+1,va9,on+1,vc9,HO.out.2.2.2.1,rfl,by go_num,Ja ⟨by rw[HA.out.1,Jk,<-HO.out.2.2.2.2];rfl,a1.out.1,a1.out.2.1,a1.out.2.2⟩⟩
           case measure=>have:=HO.out.2.2.2.1;simp[intOf];omega
          exact zS.nil
         exact zS.nil
        exact zS.nil
       ·have HS:=Ja (show ∀w',ObT w w' t2 rb #[.slice (some ⟨gb,go,none⟩) p.funcs.length f2,Va,I p.entry,I p.handler,Vd,Vb] R bl a2 #[I 21,I o.res,I yn,I o.b,M (o.n:Int),.slice aa o.args.length ac]->(T w' t2 0 (.slice (some ⟨gb,go,none⟩) p.funcs.length f2)/\T w' t2 1 Va/\T w' t2 2 (I p.entry)/\T w' t2 3 (I p.handler)/\T w' t2 4 Vd/\T w' t2 5 Vb)/\T w' a2 2 (I yn)/\T w' rb (yn*2) (M (a.lo:Int))/\T w' rb (yn*2+1) (M (a.hi:Int)) from fun W h=>⟨⟨zA h.s.p2 rfl,zA h.s.p2 rfl,zA h.s.p2 rfl,zA h.s.p2 rfl,zA h.s.p2 rfl,zA h.s.p2 rfl⟩,zA h.op rfl,by rw[<-HA.out.2.2.2.2];exact(h.s.rcell q.out.2.1 a5).1,by rw[<-HA.out.2.2.2.2];exact(h.s.rcell q.out.2.1 a5).2⟩);have a0:aht o=1:=by unfold aht;(rw[HO.out.2.1])<;>rfl
        have b1:=Ja (show ∀W,Below t2 w W->O 43 #[.agg #[.slice (some ⟨gb,go,none⟩) p.funcs.length f2,Va,I p.entry,I p.handler,Vd,Vb],.agg #[M (a.lo:Int),M (a.hi:Int)],I 1] W (pn W z) from fun W hb=>by
         rw[<-HA.out.2.2.1 1 a0];exact HC.out.2.2 a 1 W hb HA.out.2.1 Zd)
        clear a0;go_upto_region 17 with fail;clear z0;refine wp_region_noPanic ?_;refine yQ (S:=(fun w'=>(T w' t2 0 (.slice (some ⟨gb,go,none⟩) p.funcs.length f2)/\T w' t2 1 Va/\T w' t2 2 (I p.entry)/\T w' t2 3 (I p.handler)/\T w' t2 4 Vd/\T w' t2 5 Vb)/\T w' a2 2 (I yn)/\T w' rb (yn*2) (M (a.lo:Int))/\T w' rb (yn*2+1) (M (a.hi:Int)))) 10 Zk (HS.out _ ⟨l.out.1.drew,l.out.2.2.1⟩) (fun hHeld=>?_);refine Tl 0 ?_
        try simp only[Yp]
        refine Tl 1 ?_
        try simp only[Yp]
        refine Tl 2 ?_
        try simp only[Yp]
        refine Tl 3 ?_
        try simp only[Yp]
        refine Tl 4 ?_
        try simp only[Yp]
        refine Tl 5 ?_
        try simp only[Yp]
        refine Tl 6 ?_
        try simp only[Yp]
        refine z8 (rs:=[7]) Zk Zs ?_;refine zS.cons (o:=_) rfl (fun K hK=>?_) ?_
        ·skip
         (go_simp;refine(b1.out _ l.out.1.below.drew).mono ?_;rintro e w5 ⟨rfl,a4⟩;have m:Q Z w5:=(Below.refl Z.heap.size Z).drew.trans a4;clear a4;have g:=Ja (Jb (ObT.keep ⟨l.out.1,l.out.2.2.1⟩ m) (Jb (p7 l.out.2.1 m (Je _)) (Jb m (show t2<=(w5.alloc (G #[I z] 3)).heap.size by have:=l.out.1.lt;have:=m.size;simp;omega))));clear m)
         refine hK.out _ _ (HS.out _ g.out.1) (fun hHeld=>?_);clear hK K
         try simp only[Yp]
         refine z8 (rs:=[8]) Zk Zs ?_;refine zS.cons (o:=_) rfl (fun K hK=>?_) ?_
         ·skip
          go_simp;refine hK.out _ _ (HS.out _ (g.out.1.keep ((Below.refl _ _).alloc (Je _) _))) (fun hHeld=>?_);clear hK K
          try simp only[Yp]
          refine z8 (rs:=[9]) Zk Zs ?_;refine zS.cons (o:=_) rfl (fun K hK=>?_) ?_
          ·skip
           (refine yG (by rfl) (.tmp 68) (.tmp 76) _ (by rfl) t2 3 ii (I 0) 1 8 Tryz.underlying22 d0 b5 b4 b3 rfl Zo (.slice oa on oc) on ((obs p.data R ((bl.take k).flatMap (·.ops)++b.ops.take j)).map zN) (by rfl) (g.out.2.1.alloc _) (L w5.heap.size 1 1) 1 [I z] (by rfl) (yM.one (zI rfl) rfl) (by unfold maxLen;omega) Zo g.out.2.2.2 ?_;intro va9 vc9 w9 u d a6;(try dsimp only))
           refine hK.out _ _ (HS.out _ ((g.out.1.keep ((Below.refl _ _).alloc (Je _) _)).grown (g.out.2.1.alloc _) d)) (fun hHeld=>?_);clear hK K
           try simp only[Yp]
           refine z8 (rs:=[10]) Zk Zs ?_;refine zS.last (o:=_) rfl (fun K hK=>?_);go_simp;refine hK.out _ _ ?_;clear hK K
           try simp only[Yp]
           refine xj Zk (NoPanic.normal ?_) _
           have a1:=Ja (show ObS w w9 t2 rb #[.slice (some ⟨gb,go,none⟩) p.funcs.length f2,Va,I p.entry,I p.handler,Vd,Vb] R bl/\w9.ownsRow t2 3 1 (.slice va9 (on+1) vc9) (on+1) ((obs p.data R ((bl.take k).flatMap (·.ops)++b.ops.take (j+1))).map zN)/\Below t2 Y w9 from by
            have h2:=(g.out.1.s.keep ((Below.refl _ _).alloc (Je _) (G #[I z] 3))).grown (g.out.2.1.alloc _) d;have h4:Below t2 Y (w5.alloc (G #[I z] 3)):=(l.out.2.2.2.trans (g.out.2.2.1.mono l.out.1.lt)).alloc g.out.1.s.lt _
            exact⟨h2,by rw[HA.out.1,Js];exact u,h4.grown d g.out.2.2.2 (ae8 g.out.2.1)⟩)
           clear u d a6 hHeld;go_wp2_with fail;go_roundw
           case rel=>exact⟨j+1,va9,on+1,vc9,HO.out.2.2.2.1,rfl,by go_num,Ja ⟨by rw[HA.out.1,Jk,<-HO.out.2.2.2.2];rfl,a1.out.1,a1.out.2.1,a1.out.2.2⟩⟩
           case measure=>have:=HO.out.2.2.2.1;simp[intOf];omega
          exact zS.nil
         exact zS.nil
        exact zS.nil
      ·have b0:aeB o=false:=by rw[afV,HO.out.2.1];exact decide_eq_false b7
       have b8:obs p.data R ((bl.take k).flatMap (·.ops)++b.ops.take (j+1))=obs p.data R ((bl.take k).flatMap (·.ops)++b.ops.take j):=by
        rw[j5 HO.out.1,<-Nv,afK b0]
       have HA:=Ja b8;have n3:(c==18)=false:=Ze;have n2:(c==19)=false:=Ze;have n1:(c==20)=false:=Ze;have m8:(c==21)=false:=Ze;clear b8 b0 b7;go_wp2;go_roundw
       case rel=>exact⟨j+1,oa,on,oc,HO.out.2.2.2.1,rfl,by go_num,Ja ⟨by rw[HA.out];exact HO.out.2.2.2.2,l.out.1,by rw[HA.out];exact l.out.2.1,l.out.2.2.2⟩⟩
       case measure=>have:=HO.out.2.2.2.1;simp[intOf];omega
     ·obtain rfl:j=b.ops.length:=by omega
      have c8:¬(b.ops.length:Int)<(b.ops.length:Int):=Zo;clear hj a3;go_wp2;go_roundw
      case rel=>exact⟨k+1,oa,on,oc,q.out.2.2.1,rfl,by go_num,Ja ⟨by rw[afi q.out.1];have:=HJ.out.1;rw[Nl] at this;exact this,HJ.out.2.1,by rw[afi q.out.1];have:=HJ.out.2.2.1;rw[Nl] at this;exact this⟩⟩
      case measure=>have:=q.out.2.2.1;simp[intOf];omega
   ·obtain rfl:k=bl.length:=by omega
    have c8:¬(bl.length:Int)<(bl.length:Int):=Zo;have HE:=Ja (show agS p.data (ux p bl) bl=obs p.data R ((bl.take bl.length).flatMap (·.ops)) by rw[HF.out.2.1,Nl];rfl);clear hk a3;go_wp2;go_ret;refine⟨_,rfl,?_,by rw[HT.out];exact HK.out.2.1.below⟩;rw[HE.out,<-HK.out.1,HT.out];exact HK.out.2.2
theorem ac2(c:(0::ns).Nodup)(h:0::ns=o1++i::o2):(∀a∈o1,wh (0::ns) a<wh (0::ns) i)/\(∀a∈o2,wh (0::ns) i<wh (0::ns) a):=by
 have hp:=mr c;generalize wh (0::ns)=f at *;rw[h] at hp;have h1:=List.pairwise_append.1 hp;exact⟨fun a ha=>h1.2.2 a ha i (.head _),fun a ha=>(List.pairwise_cons.1 h1.2.1).1 a ha⟩
def ahx (bl:List IBlk)(b:IBlk):List Evn:=b.term.to.flatMap fun e=>((xz bl e.block).params.zip e.args).map fun x=> .arg x.1 x.2
theorem aeP{b:IBlk}{e:Evn}(h:e∈ahx bl b):∃v x,e=.arg v x:=by
 obtain⟨ed,_,h2⟩:=Qx.1 h;obtain⟨⟨v,x⟩,_,rfl⟩:=Nu.1 h2;exact⟨v,x,rfl⟩
theorem agG{b:IBlk}{l2:List Evn}{ev:Evn}(h:evB bl b=l1++ev::l2):
 (∃k o,b.ops[k]? =some o/\ev=.op o/\l1=(b.ops.take k).map .op/\l2=(b.ops.drop (k+1)).map .op++ahx bl b)∨∃m1,l1=b.ops.map .op++m1/\ahx bl b=m1++ev::l2:=by
 have h:b.ops.map Evn.op++ahx bl b=l1++ev::l2:=h;rcases List.append_eq_append_iff.1 h with⟨m,h1,h2⟩|⟨m,h1,h2⟩
 ·exact .inr ⟨m,h1,h2⟩
 ·cases m with
  |nil=>exact .inr ⟨[],by rw[h1];simp,by rw[h2];rfl⟩
  |cons x m=>
   rw[List.cons_append] at h2;obtain⟨rfl,h3⟩:=List.cons.inj h2;obtain⟨a,c,e1,e2,e3⟩:=List.map_eq_append_iff.1 h1
   cases c with
   |nil=>cases e3
   |cons o c=>
    rw[Ql] at e3;obtain⟨rfl,e4⟩:=List.cons.inj e3;refine .inl ⟨a.length,o,by rw[e1];simp,rfl,?_,?_⟩
    ·rw[e1,<-e2];simp
    ·rw[e1,h3,<-e4];simp
def Plc (bl:List IBlk)(f:Nat->Nat)(i k:Nat)(x:Int):Prop:=
 ∃(c:Nat) (b:IBlk),bl[c]? =some b/\f c<=f i/\(x∈b.params∨∃(l:Nat) (o:IOp),b.ops[l]? =some o/\o.res=x/\0<=x/\(c=i->l<k))
theorem plc_of{p:IProg}(m:FnS p bl)(g:OrdF (zy bl) ns)(hi:i<bl.length)(h:ahe bl i k x):Plc bl (wh (0::ns)) i k x:=by
 obtain⟨b,hb⟩:∃b,bl[i]? =some b:=⟨_,Jd hi⟩
 rcases h with(h|⟨j,o,h1,h2,h3,d⟩)|⟨c,h1,h2,h3,d⟩
 ·rw[y7 hb] at h;exact⟨i,b,hb,Je _,.inl (by simpa using h)⟩
 ·rw[y7 hb] at h2;exact⟨i,b,hb,Je _,.inr ⟨j,o,h2,h3,d,fun _=>h1⟩⟩
 ·obtain⟨bc,f⟩:∃b,bl[c]? =some b:=⟨_,Jd h2⟩
  rw[y7 f] at d;obtain⟨D,q⟩:=g.dom;have:=q.dom_mem ((g.mem i).2 (m.st.all i hi)) h3;refine⟨c,bc,f,this.2,?_⟩;rcases d with d|⟨o,w,u,t⟩
  ·exact .inl d
  ·obtain⟨l,hl⟩:=Ny w;exact .inr ⟨l,o,hl,u,t,fun e=>absurd e h1⟩
theorem i6(d:OrdF (zy bl) ns)(c:j∈0::ns):j<bl.length:=by have:=d.lt j c;rwa [xu] at this
theorem before{p:IProg}(hF:FnS p bl)(d:OrdF (zy bl) ns)(f:0::ns=o1++i::o2)(hx:Plc bl (wh (0::ns)) i k x)(a3:∀m o,m<k->(xz bl i).ops[m]? =some o-> .op o∈l1):
 x∈(xz bl (0:Nat)).params∨∃e∈(o1.flatMap fun j:Nat=>evB bl (xz bl (j:Int)))++l1,e.out=some x:=by
 obtain⟨c,b,hb,hc,a1⟩:=hx;have a6:=(Jh.1 hb).1;have t:c∈0::ns:=(d.mem c).2 (hF.st.all c a6);have a0:=ac2 d.nodup f;have a4:i∈0::ns:=by rw[f];exact Qf _ (.head _)
 have y:∀a∈0::ns,wh (0::ns) a<wh (0::ns) i->a∈o1:=fun a h1 h2=>by
  rw[f] at h1;rcases Jl.1 h1 with h1|h1
  ·exact h1
  ·rcases Jq.1 h1 with rfl|h1
   ·omega
   ·have:=a0.2 a h1;omega
 rcases a1 with h2|⟨l,o,h2,h3,h4,h5⟩
 ·by_cases e:c=0
  ·subst e;rw[y7 hb];exact .inl h2
  ·have a5:c∈ns:=by
    rcases Jq.1 t with h|h
    ·exact absurd h e
    ·exact h
   obtain⟨q,w,a7⟩:=d.fwd c a5;have u:=(d.mem q).2 w.1;obtain⟨ev,h6,h7⟩:=arg_in hF.st (i6 d u) w.2 hb h2;exact .inr ⟨ev,Jz _ (Qx.2 ⟨q,y q u Zo,h6⟩),h7⟩
 ·have g:(Evn.op o).out=some x:=by
   show(if 0<=o.res then some o.res else none)=some x
   rw[h3,if_pos h4]
  by_cases e:c=i
  ·subst e;exact .inr ⟨.op o,Qf _ (a3 l o (h5 rfl) (by rw[y7 hb];exact h2)),g⟩
  ·have a2:wh (0::ns) c<wh (0::ns) i:=by
    rcases Nat.lt_or_eq_of_le hc with h|h
    ·exact h
    ·exact absurd (ou d.nodup t a4 h) e
   refine .inr ⟨.op o,Jz _ (Qx.2 ⟨c,y c t a2,?_⟩),g⟩;rw[y7 hb];exact Jz _ (Nu.2 ⟨o,Ji h2,rfl⟩)
section
variable {p:IProg} {bl:List IBlk} {d:wO} {ns:List Nat} (hF:FnS p bl) (hL:Loc bl d) (hO:OrdF (zy bl) ns) (ha:AcyG (zy bl))
include hF hL hO ha
theorem afW(hx:Plc bl (wh (0::ns)) i k x)(hi:i∈0::ns)(t:j∈0::ns)(a4:wh (0::ns) i<=wh (0::ns) j){e:Evn}(he:e∈evB bl (xz bl j))(h:e.out=some x):
 j=i/\∃m o,m<k/\(xz bl i).ops[m]? =some o/\e=.op o/\o.res=x:=by
 obtain⟨c,b,hb,hc,f⟩:=hx;have g:=i6 hO t;obtain⟨bj,d⟩:∃b,bl[j]? =some b:=⟨_,Jd g⟩
 have a2:=(Jh.1 hb).1;have a5:c∈0::ns:=(hO.mem c).2 (hF.st.all c a2);rcases agP hF.st g he h with⟨o,rfl,ho,hr,h0⟩|⟨s,bs,hs,h1,a3,w⟩
 ·rw[y7 d] at ho;obtain⟨m,hm⟩:=Ny ho;have q:=hL.op j bj d m o hm (by rw[hr];exact h0);rw[hr] at q;rcases f with h2|⟨l,o',h2,h3,u,h5⟩
  ·have:=(hL.par c b hb x h2).2;rw[q.2] at this;have:=Nt this;omega
  ·have q2:=hL.op c b hb l o' h2 (by rw[h3];exact u);rw[h3,q.1,q.2] at q2;have e1:=Nt q2.1;have e2:=Nt q2.2;have a1:j=c:=Zo;subst a1;have a0:j=i:=ou hO.nodup t hi Zo;subst a0;exact⟨rfl,m,o,by have:=h5 rfl;omega,by rw[y7 d];exact hm,rfl,hr⟩
 ·exfalso;have q:=hL.par s bs a3 x w;rcases f with h2|⟨l,o',h2,h3,u,h5⟩
  ·have q2:=hL.par c b hb x h2;rw[q.1] at q2;have e1:=Nt q2.1;have y:s=c:=Zo;subst y;have:=topo hO ha t hs;omega
  ·have q2:=hL.op c b hb l o' h2 (by rw[h3];exact u);rw[h3,q.2] at q2;have e2:=Nt q2.2;omega
def ParQ (bl:List IBlk)(x:Int):Prop:=∃(i:Nat) (b:IBlk),1<=i/\bl[i]? =some b/\x∈b.params
theorem afN {k0:Int->Prop}(c9:∀x∈(xz bl (0:Nat)).params,k0 x)(c8:∀x,k0 x->x∈(xz bl (0:Nat)).params):ag9 (ParQ bl) k0 (evL bl (0::ns)):=by
 refine ahf _ _ fun pre ev post hsplit=>?_
 obtain⟨o1,i,o2,l1,l2,a6,b4,rfl,rfl⟩:=i5 _ _ _ _ _ hsplit;have a5:=ac2 hO.nodup a6;have a2:i∈0::ns:=by rw[a6];exact Qf _ (.head _)
 have a7:=i6 hO a2;obtain⟨b,hb⟩:∃b,bl[i]? =some b:=⟨_,Jd a7⟩
 have a4:=y7 hb;have ho2:∀j∈o2,j∈0::ns:=fun j u=>by rw[a6];exact Qf _ (.tail _ u)
 have c4:∀j∈o1,j∈0::ns:=fun j u=>by rw[a6];exact Jz _ u
 have d4:=hF.pos;obtain⟨b0,c2⟩:∃b,bl[0]? =some b:=⟨_,Jd d4⟩
 have c0:∀(k:Nat) (x:Int),ahe bl i k x->(∀m o,m<k->(xz bl i).ops[m]? =some o-> .op o∈l1)->(∀o,.op o∈ev::l2->∃m,k<=m/\(xz bl i).ops[m]? =some o)->
  (k0 x∨∃e∈(o1.flatMap fun j:Nat=>evB bl (xz bl (j:Int)))++l1,e.out=some x)/\∀e∈ev::(l2++o2.flatMap fun j:Nat=>evB bl (xz bl (j:Int))),e.out≠some x:=by
  intro k x d3 a1 w;have b7:=plc_of hF hO a7 d3;refine⟨?_,fun e f d=>?_⟩
  ·rcases before hF hO a6 b7 a1 with h|h
   ·exact .inl (c9 x h)
   ·exact .inr h
  ·have a3:e∈ev::l2∨∃j∈o2,e∈evB bl (xz bl (j:Int)):=by
    rcases Jq.1 f with rfl|f
    ·exact .inl (.head _)
    ·rcases Jl.1 f with f|f
     ·exact .inl (.tail _ f)
     ·exact .inr (Qx.1 f)
   rcases a3 with a3|⟨j,u,a3⟩
   ·have l:e∈evB bl (xz bl (i:Int)):=by rw[b4];exact Qf _ a3
    obtain⟨_,m,o,hm,ho,rfl,hr⟩:=afW hF hL hO ha b7 a2 a2 (Je _) l d;obtain⟨m',d6,g⟩:=w o a3
    have h0:0<=o.res:=by
     have d:(if 0<=o.res then some o.res else none)=some x:=d
     by_cases h:0<=o.res
     ·exact h
     ·rw[if_neg h] at d;cases d
    rw[a4] at ho g;have q1:=(hL.op i b hb m o ho h0).2;rw[(hL.op i b hb m' o g h0).2] at q1;have:=Nt q1;omega
   ·obtain⟨a0,_⟩:=afW hF hL hO ha b7 a2 (ho2 j u) (Qd (a5.2 j u)) a3 d;have:=a5.2 j u;rw[a0] at this;exact absurd this (Nat.lt_irrefl _)
 rcases agG b4 with⟨k,o,ho,rfl,a1,w⟩|⟨m1,a1,w⟩
 ·have b2:∀m o',m<k->(xz bl i).ops[m]? =some o'->Evn.op o'∈l1:=fun m o' hm g=>by
   rw[a1];exact Nu.2 ⟨o',Ji (by rw[List.getElem?_take_of_lt hm];exact g),rfl⟩
  have b1:∀o',Evn.op o'∈Evn.op o::l2->∃m,k<=m/\(xz bl i).ops[m]? =some o':=fun o' h=>by
   rcases Jq.1 h with h|h
   ·cases h;exact⟨k,Je _,ho⟩
   ·rw[w] at h;rcases Jl.1 h with h|h
    ·obtain⟨o2,h1,h2⟩:=Nu.1 h;cases h2;obtain⟨m,hm⟩:=Ny h1;rw[List.getElem?_drop] at hm;exact⟨k+1+m,by omega,hm⟩
    ·obtain⟨v,x,h1⟩:=aeP h;cases h1
  refine⟨fun x t=>?_,fun h0=>?_⟩
  ·have hu:x∈rR o:=by
    have t:x∈(if 0<=o.res then(if(zi o.code).a=true then [o.a] else [])++(if(zi o.code).b=true then [o.b] else []) else []):=t
    by_cases h0:0<=o.res
    ·rw[if_pos h0] at t;rcases Jl.1 t with t|t
     ·by_cases h:(zi o.code).a=true
      ·rw[if_pos h] at t;rw[Jo.1 t];exact mem_a h
      ·rw[if_neg h] at t;cases t
     ·by_cases h:(zi o.code).b=true
      ·rw[if_pos h] at t;rw[Jo.1 t];exact mem_b h
      ·rw[if_neg h] at t;cases t
    ·rw[if_neg h0] at t;cases t
   exact c0 k x (hF.st.use i k o a7 ho x hu) b2 b1
  ·rw[a4] at ho;have q:=hL.op i b hb k o ho h0
   have b8:∀(c:Nat) bc,bl[c]? =some bc->o.res ∉ bc.params:=fun c bc hc hm=>by
    have:=(hL.par c bc hc o.res hm).2;rw[q.2] at this;have:=Nt this;omega
   have b3:∀(j:Nat),j∈0::ns->∀e∈evB bl (xz bl (j:Int)),e.out=some o.res->j=i/\∃o',e=.op o'/\(xz bl i).ops[k]? =some o':=fun j u e f d=>by
    have c1:=i6 hO u;obtain⟨bj,b5⟩:∃b,bl[j]? =some b:=⟨_,Jd c1⟩
    rcases agP hF.st c1 f d with⟨o',rfl,g,hr,d5⟩|⟨s,bs,hs,h1,b9,b6⟩
    ·rw[y7 b5] at g;obtain⟨m,hm⟩:=Ny g;have q2:=hL.op j bj b5 m o' hm (by rw[hr];exact d5);rw[hr,q.1,q.2] at q2;have e1:=Nt q2.1;have e2:=Nt q2.2;have a0:j=i:=Zo;subst a0;have c7:m=k:=Zo;subst c7;rw[b5] at hb;cases hb;exact⟨rfl,o',rfl,by rw[y7 b5];exact hm⟩
    ·exact absurd b6 (b8 s bs b9)
   refine⟨⟨fun hk=>b8 0 b0 c2 (by have:=c8 _ hk;rwa [y7 c2] at this),fun e f d=>?_⟩,fun⟨c,bc,_,hc,hm⟩=>b8 c bc hc hm,fun e f d=>?_⟩
   ·rcases Jl.1 f with f|f
    ·obtain⟨j,u,f⟩:=Qx.1 f;obtain⟨a0,_⟩:=b3 j (c4 j u) e f d;have:=a5.1 j u;rw[a0] at this;exact absurd this (Nat.lt_irrefl _)
    ·have l:e∈evB bl (xz bl (i:Int)):=by rw[b4];exact Jz _ f
     obtain⟨_,o',rfl,g⟩:=b3 i a2 e l d;rw[a1] at f;obtain⟨o3,h1,h2⟩:=Nu.1 f;cases h2;obtain⟨m,hm⟩:=Ny h1;have c5:=(Jh.1 hm).1;rw[Oc] at c5;rw[List.getElem?_take_of_lt Zo,a4] at hm;rw[a4] at g;have hr:o'.res=o.res:=by rw[ho] at g;cases g;rfl
     have q3:=(hL.op i b hb m o' hm (by rw[hr];exact h0)).2;rw[hr,q.2] at q3;have:=Nt q3;omega
   ·rcases Jl.1 f with f|f
    ·have l:e∈evB bl (xz bl (i:Int)):=by rw[b4];exact Qf _ (.tail _ f)
     obtain⟨_,o',rfl,g⟩:=b3 i a2 e l d;rw[w] at f;rcases Jl.1 f with f|f
     ·obtain⟨o3,h1,h2⟩:=Nu.1 f;cases h2;obtain⟨m,hm⟩:=Ny h1;rw[List.getElem?_drop,a4] at hm;rw[a4] at g;have hr:o'.res=o.res:=by rw[ho] at g;cases g;rfl
      have q3:=(hL.op i b hb (k+1+m) o' hm (by rw[hr];exact h0)).2;rw[hr,q.2] at q3;have:=Nt q3;omega
     ·obtain⟨v,x,h1⟩:=aeP f;cases h1
    ·obtain⟨j,u,f⟩:=Qx.1 f;obtain⟨a0,_⟩:=b3 j (ho2 j u) e f d;have:=a5.2 j u;rw[a0] at this;exact absurd this (Nat.lt_irrefl _)
 ·have l:ev∈ahx bl (xz bl (i:Int)):=by rw[w];exact Qf _ (.head _)
  obtain⟨v,x,rfl⟩:=aeP l
  have b2:∀m o',m<(xz bl i).ops.length->(xz bl i).ops[m]? =some o'->Evn.op o'∈l1:=fun m o' _ g=>by
   rw[a1];exact Jz _ (Nu.2 ⟨o',Ji g,rfl⟩)
  have b1:∀o',Evn.op o'∈Evn.arg v x::l2->∃m,(xz bl i).ops.length<=m/\(xz bl i).ops[m]? =some o':=fun o' h=>by
   have hm:Evn.op o'∈ahx bl (xz bl (i:Int)):=by rw[w];exact Qf _ h
   obtain⟨v',x',h1⟩:=aeP hm;cases h1
  obtain⟨ed,d2,hz⟩:=Qx.1 l;obtain⟨⟨v',x'⟩,hz,d1⟩:=Nu.1 hz;have c3:v=v'/\x=x':=by cases d1;exact⟨rfl,rfl⟩
  obtain⟨rfl,rfl⟩:=c3;refine⟨fun y hy=>?_,?_⟩
  ·have hy:y∈ [x]:=hy;rw[Jo.1 hy];refine c0 _ x (hF.st.ends i a7 x ?_) b2 b1;unfold mE;exact Qf _ (List.mem_flatten.2 ⟨_,Nu.2 ⟨ed,d2,rfl⟩,(List.of_mem_zip hz).2⟩)
  ·have d:(Evn.arg v x).out=some v:=rfl;have d0:Evn.arg v x∈evB bl (xz bl (i:Int)):=Qf _ l;rcases agP hF.st a7 d0 d with⟨o',h1,_⟩|⟨s,bs,hs,h1,b9,b6⟩
   ·cases h1
   ·exact⟨s,bs,h1,b9,b6⟩
end
end Go.Proofs.YtoahcpkibpomcaaGreat
