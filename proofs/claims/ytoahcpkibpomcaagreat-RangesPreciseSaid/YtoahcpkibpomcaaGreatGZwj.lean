/- Part of a proof. -/
import Derived.Test.YtoahcpkibpomcaaGreatGZwi
set_option linter.all false
set_option maxHeartbeats 16000000
set_option maxRecDepth 100000
namespace Go.Proofs.YtoahcpkibpomcaaGreat
open Go.RowKit
variable {X:Nat->Prop}{W w wx:World}{K:SK}{t:Slv}{l:List IOp}{c k m ob t2:Nat}{o:IOp}{bl:List IBlk}{xs:List Nat}{oc pc:Array Value}
theorem nB{W2:World}{g:Nat}(o:Nat)(vs:List Value)(hb:O w W2)(c:X g):Stp X w X (W2.setCells g o vs):=
 ⟨(ze g vs o W2).1.trans hb.os,(ze g vs o W2).2.1.trans hb.tape,(ze g vs o W2).2.2.trans hb.output,by rw[y8];exact hb.size,fun _ h=> .inl h,fun k hk hx=>(ye g k (fun e=>hx (by rw[e];exact c)) vs o W2).trans (hb.block k hk)⟩
theorem nt{K:MKC}{M:MS}(h:wW w K X M){t:ITerm}(hk:I64 t.kind)(ha:I64 t.a){tv:Value}(hto:vT w (K.av X) tv t.to)(a8:M.cur<M.f.length):
 A 59 #[Q K.pm,.agg #[I t.kind,I t.a,tv]] w (yk K X w (M.endB t) (.tuple #[])):=by
 obtain⟨fv,vv,l,h⟩:=h;obtain⟨b,hb⟩:∃b,M.f[M.cur]? =some b:=⟨_,Jd a8⟩
 obtain⟨q,y,rfl,d⟩:=h.getB hb;obtain⟨g,c,rfl,b2,a1,b4⟩:=h.fblk y;obtain⟨ta,tc,rfl,_,_⟩:=hto.form;obtain⟨pa,pc,a0,_,_⟩:=d.par.form;obtain⟨oa,oc,m⟩:=zG d.own;obtain⟨ea,ec,a3,_,_⟩:=d.tos.form;have c4:=h.c4;have c5:=h.c5;have u:=z9 yr h.own rfl y;have e0:T w g (M.cur*5) q.pv:=u 0 _ rfl;have e1:=u 1 _ rfl;have e2:=u 2 _ rfl;have e3:=u 3 _ rfl;have e4:=u 4 _ rfl;have a4:=lt_of_block h.blk;have b0:=h.len;have b5:(M.cur:Int)<(l.length:Int):=Zo;have b6:(0:Int)<=(M.cur:Int):=Zo;have a9:=h.flen;rw[a0] at e0;rw[m] at e1;rw[a3] at e4;have H:=Ja (Jb h (Jb y (Jb d (Jb hto (Jb hb (Jb a0 (Jb m (Jb a3 (Jb hk ha)))))))));clear h y d hto hb u a0 m a3 hk ha b0 a9;go_enter Tryz.func59,Tryz.ntmps59;go_upto_region 1 with fail;have a6:∀w',O w w'->T w' K.pm 4 (Y g l.length c)/\T w' K.pm 5 (I (M.cur:Int))/\T w' g (M.cur*5) (.slice pa q.b.params.length pc)/\T w' g (M.cur*5+1) (.slice oa q.ol.length oc)/\T w' g (M.cur*5+2) (I q.b.term.kind)/\T w' g (M.cur*5+3) (I q.b.term.a)/\T w' g (M.cur*5+4) (.slice ea q.b.term.to.length ec):=fun w' hb=>⟨zV hb a4 c4,zV hb a4 c5,zV hb a1 e0,zV hb a1 e1,zV hb a1 e2,zV hb a1 e3,zV hb a1 e4⟩
 have a2:=Ja a6;clear a6 c4 c5 e0 e1 e2 e3 e4
 go_region_held3 (fun w'=>T w' K.pm 4 (Y g l.length c)/\T w' K.pm 5 (I (M.cur:Int))/\T w' g (M.cur*5) (.slice pa q.b.params.length pc)/\T w' g (M.cur*5+1) (.slice oa q.ol.length oc)/\T w' g (M.cur*5+2) (I q.b.term.kind)/\T w' g (M.cur*5+3) (I q.b.term.a)/\T w' g (M.cur*5+4) (.slice ea q.b.term.to.length ec))
  ((refine a2.out _ ?_;repeat' (first|exact Below.refl _ _|refine Below.drew ?_|refine Below.alloc ?_ (by simp<;>omega) _|refine Below.setCell ?_ (by simp<;>omega) _)))
  (fail)
 go_upto_region 3 with fail;have a5:O w (((w.alloc (G #[I t.kind,I t.a,.slice ta t.to.length tc] 82)).alloc (G #[.slice pa q.b.params.length pc,.slice oa q.ol.length oc,I t.kind,I t.a,.slice ta t.to.length tc] 84)).drew):=(((Below.refl _ _).alloc (Je _) _).alloc Zs _).drew;have x:L (((w.alloc (G #[I t.kind,I t.a,.slice ta t.to.length tc] 82)).alloc (G #[.slice pa q.b.params.length pc,.slice oa q.ol.length oc,I t.kind,I t.a,.slice ta t.to.length tc] 84)).drew) (w.heap.size+1) #[.slice pa q.b.params.length pc,.slice oa q.ol.length oc,I t.kind,I t.a,.slice ta t.to.length tc] 84:=zI Zs;generalize b3:((w.alloc (G #[I t.kind,I t.a,.slice ta t.to.length tc] 82)).alloc (G #[.slice pa q.b.params.length pc,.slice oa q.ol.length oc,I t.kind,I t.a,.slice ta t.to.length tc] 84)).drew=W2 at *;obtain⟨c4,c5,_⟩:=a2.out W2 a5;have l0:=zA (i:=0) x rfl;have l1:=zA (i:=1) x rfl;have l2:=zA (i:=2) x rfl;have l3:=zA (i:=3) x rfl;have l4:=zA (i:=4) x rfl;have HB:=Ja a5;clear a5 x b3 a2;refine zt 11 Zk Zk ?_;simp only[Qo,Uc,Qp,Ui]
 repeat (go_big_quiet_step (fail))
 refine wpQuiet_nil ?_;have a7:=H.out.1.keep HB.out.drew;refine wpList_store_mid rfl 84 (.tmp 28) (.tmp 27) rfl g (M.cur*5) #[.slice pa q.b.params.length pc,.slice oa q.ol.length oc,I t.kind,I t.a,.slice ta t.to.length tc] rfl rfl (zq Zd yr a7.own rfl H.out.2.1) Zk (by simp[Value.oneCell']) ?_;go_wp2
 first|go_end0|refine bodyPost_ret (results_none rfl _ _ _) rfl ?_
 obtain⟨h,y,d,hto,hb,a0,m,a3,hk,ha⟩:=H.out;have hs:Stp X w X (W2.drew.setCells g (M.cur*5) (xG ⟨{q.b with term:=t },q.pv,q.ov,.slice ta t.to.length tc,q.ol⟩)):=nB _ _ HB.out.drew b2;have b1: [Value.slice pa q.b.params.length pc,.slice oa q.ol.length oc,I t.kind,I t.a,.slice ta t.to.length tc]=xG ⟨{q.b with term:=t },q.pv,q.ov,.slice ta t.to.length tc,q.ol⟩:=by unfold xG;rw[a0,m]
 rw[b1];refine⟨rfl,X,⟨_,_,_,h.turn (M':=M.endB t) y rfl hs (fun _ e=>e) (fun k e=>Jy (h.xl k e) hs.size) h.xB (fun k hk' hx hne _=>(ye g k hne _ _ _).trans (HB.out.drew.block k hk')) (fun e=>zC d.own h.blk (.inr Zd) e) (uZ yr a7.own rfl y _) ?_ (fun j qj k hj h1 h2=>h.apart j _ qj q k hj y h2 h1) ?_ ⟨rfl,rfl,rfl,rfl,rfl⟩ ?_⟩,hs⟩
 ·exact⟨⟨hk,ha⟩,d.par.step zn (hs.av K),d.ops,yD d.own (fun k hk'=>(ye g k (fun e=>by
   rcases zo d.own h.own Zd with h1|h1
   ·rw[h1] at hk';cases hk'
   ·exact h1 (by rw[hk',e];rfl)) _ _ _).trans (HB.out.drew.block k (d.own.lt k hk').2)),fun o ho=>⟨(d.arg o ho).1,(d.arg o ho).2.step zn (hs.av K)⟩,hto.step yq (hs.av K),d.inX⟩
 ·exact xI hb _
 ·have:=(zv M t).sz;have:=h.bnd;omega
def objT (o:IObj)(a:Rg)(n:Int):Prop:=o.bank=-1/\o.addr<=a.lo/\(a.hi:Int)+n<=(o.addr:Int)+o.size
theorem objGo_at{l:List IObj}{o:IObj}(h:l[k]? =some o)(a:Rg)(n:Int):(objT o a n->aeJ (l.drop k) k a n=k)/\(¬objT o a n->aeJ (l.drop k) k a n=aeJ (l.drop (k+1)) (k+1:Nat) a n):=by
 have hk:=(Jh.1 h).1;have c:l.drop k=o::l.drop (k+1):=by rw[Qn hk,(Jh.1 h).2]
 rw[c,show((k+1:Nat):Int)=(k:Int)+1 by omega];rw[aeJ];constructor
 ·intro ht;exact if_pos ht
 ·intro ht;exact if_neg ht
theorem agI{B:Nat}{V:PV}{p:IProg}(hp:ProgIn w B V p)(hB:B<=w.heap.size){a:Rg}(ha:a.ok)(n:Int)(hn:0<=n/\n<=2):
 A 43 #[yH V p,.agg #[U (a.lo:Int),U (a.hi:Int)],I n] w (df w (aeJ p.data 0 a n)):=by
 obtain⟨Vf,Va,Vd,Vb⟩:=V;obtain⟨da,dc,e3,b3,b2⟩:=hp.data.form;have a4:=hp.data;have a8:Vd=.slice da p.data.length dc:=e3;subst a8;have b4:=ha.1;have b5:=ha.2;have b1:=hn.1;have b0:=hn.2;obtain⟨G,hG⟩:∃G,aeJ p.data 0 a n=G:=⟨_,rfl⟩
 rw[hG];have HG:=Ja hG;unfold yH;obtain⟨X,hX⟩:∃X,(w.alloc (.cells #[Vf,Va,I p.entry,I p.handler,.slice da p.data.length dc,Vb] 29)).alloc (.cells #[U (a.lo:Int),U (a.hi:Int)] 45)=X:=⟨_,rfl⟩
 have l:O w X:=by rw[<-hX];exact((Below.refl _ _).alloc (Je _) _).alloc Zs _
 have a1:L X w.heap.size #[Vf,Va,I p.entry,I p.handler,.slice da p.data.length dc,Vb] 29:=by rw[<-hX];exact zB (zI rfl)
 have a0:L X (w.heap.size+1) #[U (a.lo:Int),U (a.hi:Int)] 45:=by rw[<-hX];exact zI Zs
 have g:=Ja (show O w X/\L X w.heap.size #[Vf,Va,I p.entry,I p.handler,.slice da p.data.length dc,Vb] 29/\L X (w.heap.size+1) #[U (a.lo:Int),U (a.hi:Int)] 45/\kq X B (.slice da p.data.length dc) p.data/\B<=X.heap.size from⟨l,a1,a0,a4.below tZ (l.mono hB),Jn hB l.size⟩);clear a4 hp l a1 a0 hG ha hn hB;go_enter Tryz.func43,Tryz.ntmps43;go_upto_region 1 with fail;clear hX;obtain⟨t3,a3⟩:∃t,w.heap.size=t:=⟨_,rfl⟩
 obtain⟨t4,a2⟩:∃t,w.heap.size+1=t:=⟨_,rfl⟩
 have HT:=Ja g.out.1;rw[a2] at g ⊢;rw[a3] at g ⊢;clear a3 a2;have d4:T X t3 4 (.slice da p.data.length dc):=zA g.out.2.1 rfl;go_wp2;clear d4
 go_loopw [12] (fun kv wx=>∃k:Nat,k<=p.data.length/\kv=I k/\Hid (aeJ (p.data.drop k) k a n=G/\O X wx)) (fun kv _=>p.data.length-(intOf kv).toNat)
 case atStart=>exact⟨0,Jt _,rfl,Ja ⟨HG.out,Below.refl _ _⟩⟩
 case round=>
  obtain⟨k,hk,rfl,c⟩:=hrel;have j:=zH c.out.2 g.out.2.2.1 (lt_of_block g.out.2.2.1);have x0:T wr t4 0 (U (a.lo:Int)):=zA j rfl;have x1:T wr t4 1 (U (a.hi:Int)):=zA j rfl;have b6:=lt_of_block j;clear j
  by_cases y:k<p.data.length
  ·have a6:(k:Int)<(p.data.length:Int):=Zo;obtain⟨o,ho⟩:∃o,p.data[k]? =some o:=⟨_,Jd y⟩
   obtain⟨ob,oq,a7,a5,o0,o1,o2,ob64,oa64,os64⟩:=(g.out.2.2.2.1.below tZ (c.out.2.mono g.out.2.2.2.2)).get ho;subst a7;have a9:ob<wr.heap.size:=Jy a5 (Jn g.out.2.2.2.2 c.out.2.size);have d:=Ja (Jb (objGo_at ho a n) (Jb y ob64));clear ho ob64 y a5;obtain⟨ov,m⟩:∃v,o.bank=v:=⟨_,rfl⟩
   obtain⟨oA,x⟩:∃v,o.addr=v:=⟨_,rfl⟩
   obtain⟨oS,u⟩:∃v,o.size=v:=⟨_,rfl⟩
   have i:=Ja (Jb m (Jb x u));rw[m] at o0;rw[x] at o1 oa64;rw[u] at o2 os64;clear m x u;have hT:∀q:Prop,Decidable q->True:=fun _ _=>trivial
   clear hT
   by_cases h1:ov=-1
   ·by_cases h2:oA<=a.lo
    ·by_cases h3:(a.hi:Int)+n<=(oA:Int)+oS
     ·have h:=Ja ((d.out.1.1 ⟨i.out.1.trans h1,by rw[i.out.2.1];exact h2,by rw[i.out.2.1,i.out.2.2];exact h3⟩).symm.trans c.out.1);subst h1;go_wp2;go_ret;exact⟨by rw[<-h.out];rfl,(HT.out.trans (c.out.2.mono HT.out.size)).trans ((Below.alloc (Below.refl _ _) (Je _) _).mono (Jn HT.out.size c.out.2.size))⟩
     ·have h:=Ja ((d.out.1.2 (fun t=>h3 (by have:=t.2.2;rw[i.out.2.1,i.out.2.2] at this;exact this))).symm.trans c.out.1);subst h1;go_wp2;go_roundw
      case rel=>exact⟨k+1,d.out.2.1,by go_num,Ja ⟨h.out,c.out.2.trans ((Below.alloc (Below.refl _ _) (Je _) _).mono c.out.2.size)⟩⟩
      case measure=>have:=d.out.2.1;simp[intOf];omega
    ·have h:=Ja ((d.out.1.2 (fun t=>h2 (by have:=t.2.1;rw[i.out.2.1] at this;exact this))).symm.trans c.out.1);have b7:a.lo<oA:=Zo;subst h1;clear h2;go_wp2;go_roundw
     case rel=>exact⟨k+1,d.out.2.1,by go_num,Ja ⟨h.out,c.out.2.trans ((Below.alloc (Below.refl _ _) (Je _) _).mono c.out.2.size)⟩⟩
     case measure=>have:=d.out.2.1;simp[intOf];omega
   ·have h:=Ja ((d.out.1.2 (fun t=>h1 (i.out.1.symm.trans t.1))).symm.trans c.out.1);have b8:(ov==(-1:Int))=false:=by simpa using h1
    go_wp2;go_roundw
    case rel=>exact⟨k+1,d.out.2.1,by go_num,Ja ⟨h.out,c.out.2.trans ((Below.alloc (Below.refl _ _) (Je _) _).mono c.out.2.size)⟩⟩
    case measure=>have:=d.out.2.1;simp[intOf];omega
  ·obtain rfl:k=p.data.length:=by omega
   have a6:¬(p.data.length:Int)<(p.data.length:Int):=Zo;have h:=Ja (show(-1:Int)=G by have:=c.out.1;rw[List.drop_length] at this;exact this);go_wp2;go_ret;exact⟨by rw[<-h.out];rfl,HT.out.trans (c.out.2.mono HT.out.size)⟩
def RgsRet (w:World)(l:List Rg)(e:Ending)(w':World):Prop:=∃b,e=.returned (Y b l.length l.length)/\L w' b (l.flatMap wb).toArray 45/\w.heap.size<=b/\O w w'
theorem ahP{p:IProg}(hv:vC p=0){n:Nat}(c:p.funcs[n]? =some bl):∀b∈bl,aq (aaG bl).toNat b:=
 (dw c ((rz hv).2 n (Jh.1 c).1)).2
theorem ahU {c:Int}(h:ruG c≠none):(c=3∨c=4∨c=19∨c=23)∨5<=c/\c<=17:=by
 by_cases d:(c=3∨c=4∨c=19∨c=23)∨5<=c/\c<=17
 ·exact d
 ·exfalso;apply h;simp only[ruG,putR]
  iterate 17 rw[if_neg Zo]
theorem ahT{p:IProg}(h:FnS p bl)(w:∀b∈bl,aq (aaG bl).toNat b){i:Nat}(hi:i<bl.length):BlkW (aaG bl).toNat p bl (xz bl i):=by
 obtain⟨b,hb⟩:∃b,bl[i]? =some b:=⟨_,Jd hi⟩
 have u:=zf hb;have q:=w b (Ji hb);refine⟨fun o ho h0=>⟨(h.sol i hi).1 o ho,?_,?_⟩,fun e he=>?_⟩
 ·intro h2;have:=(agz (h.st.opok i hi o ho)).2.1 h2;omega
 ·intro h1 h2 hr;have d:=h.st.opok i hi o ho;have k:=((h.rng i hi).2 o ho).1;have t:=ahU hr
  have y:(zi o.code).a=true:=by
   rcases t with(e|e|e|e)|e
   ·rw[e];rfl
   ·rw[e];rfl
   ·rw[e];rfl
   ·rw[e];rfl
   ·unfold zi;rw[if_neg Zo,if_neg Zo,if_pos e]
  have h3:=k.a y;refine⟨by omega,?_⟩
  by_cases l:(zi o.code).b=true
  ·have:=k.b l;omega
  ·unfold opF at d;rw[Jm] at d;have m:=d.2;rw[if_neg Zo,if_neg h2] at m;simp only[Jm,Bool.or_eq_true,decide_eq_true_eq] at m
   have j:o.b=0:=by
    rcases m.1.1.1.2 with j|j
    ·exact absurd j l
    ·exact j
   omega
 ·have c:=h.st.trm i hi;unfold ro at c;rw[Jm,Oe] at c;have g:=c.1 e he;unfold uM at g;simp only[Jm,decide_eq_true_eq] at g;refine⟨by omega,g.2,fun x hx=>?_,fun x hx=>?_⟩
  ·rw[u] at he;have:=q.2.2 x (by unfold mE;rw[Jl];exact .inr (List.mem_flatten.2 ⟨_,Nu.2 ⟨e,he,rfl⟩,hx⟩));omega
  ·have:=(h.rng e.block.toNat Zo).1 x (by rw[show((e.block.toNat:Nat):Int)=e.block by omega];exact hx);omega
theorem ru_cells (n:Nat):madeCells (#[U 0,U 0]:Array Value) (n*2)=((List.replicate n (⟨0,0⟩:Rg)).flatMap wb).toArray:=by
 apply Array.ext
 ·simp[madeCells,wb,List.length_flatMap]
 ·intro i h1 h2;have hi:i<n*2:=by simpa[madeCells] using h1
  have h3:((List.replicate n (⟨0,0⟩:Rg)).flatMap wb)=List.replicate (n*2) (U 0):=by
   clear h1 h2 hi
   induction n with
   |zero=>rfl
   |succ n ih=>rw[Qz,Qa,ih,show(n+1)*2=n*2+1+1 by omega];rfl
  simp only[h3,List.getElem_toArray,List.getElem_replicate];simp only[madeCells,Array.getElem_map,Array.getElem_range];have c:i%2=0∨i%2=1:=Zo;rcases c with c|c
  ·show((#[U 0,U 0]:Array Value)[i%2]!)=_;rw[c];rfl
  ·show((#[U 0,U 0]:Array Value)[i%2]!)=_;rw[c];rfl
theorem aeR{b:Nat}{o:Option Obj}(h:w.heap[b]? =o):w.drew.heap[b]? =o:=h
theorem agr (n:Nat):madeCells (#[.bool false]:Array Value) n=((List.replicate n false).map Value.bool).toArray:=by rw[yA];simp
def ahN (w wx:World)(K:SK)(p:IProg)(bl:List IBlk):Prop:=SlvAt wx K p bl 0 ⟨List.replicate K.n ⟨0,0⟩,List.replicate K.n false⟩/\O w wx/\w.heap.size<=K.rb/\w.heap.size<=K.kb/\w.heap.size<=K.sb
theorem slvNew{B n sb rb kb rm:Nat}{V:PV}{fv:Value}{p:IProg}(hp:ProgIn wx B V p)(h:wX wx B fv bl)(hB:B<=w.heap.size)(i:n<=1000000)(g:O w wx)
 (hm:l6 wx rm 17 ruG) (hs:L wx sb #[V.fv,V.av,I p.entry,I p.handler,V.dv,V.bv,fv,.map (some rm),Y rb n n,Y kb n n,I 0] 99)
 (hr:L wx rb ((List.replicate n (⟨0,0⟩:Rg)).flatMap wb).toArray 45) (hk:L wx kb ((List.replicate n false).map Value.bool).toArray 4)
 (c:w.heap.size<=sb/\w.heap.size<=rb/\w.heap.size<=kb/\w.heap.size<=rm) (d:sb≠rb/\sb≠kb/\sb≠rm/\rb≠kb/\rb≠rm/\kb≠rm):ahN w wx ⟨sb,rb,kb,rm,n,B,V,fv⟩ p bl:=
 ⟨⟨hp,h,hm,hs,hr,hk,⟨by simp,by simp,fun a ha=>by rw[(List.mem_replicate.1 ha).2];exact⟨Je _,Jt _⟩⟩,i,⟨Jn hB c.1,Jn hB c.2.1,Jn hB c.2.2.1,Jn hB c.2.2.2⟩,d⟩,g,c.2.1,c.2.2.1,c.1⟩
theorem slvNew'{B n sb rb kb rm:Nat}{V:PV}{fv:Value}{p:IProg}(hs:L wx sb #[V.fv,V.av,I p.entry,I p.handler,V.dv,V.bv,fv,.map (some rm),Y rb n n,Y kb n n,I 0] 99)
 (hB:B<=w.heap.size) (i:n<=1000000) (hp:ProgIn wx B V p) (h:wX wx B fv bl) (g:O w wx) (hm:l6 wx rm 17 ruG)
 (hr:L wx rb ((List.replicate n (⟨0,0⟩:Rg)).flatMap wb).toArray 45) (hk:L wx kb ((List.replicate n false).map Value.bool).toArray 4)
 (d:w.heap.size<=sb/\w.heap.size<=rb/\w.heap.size<=kb/\w.heap.size<=rm) (c:sb≠rb/\sb≠kb/\sb≠rm/\rb≠kb/\rb≠rm/\kb≠rm):∃K:SK,Value.pointer (some ⟨sb,0,none⟩)=Q K.sb/\K.n=n/\Hid (ahN w wx K p bl):=
 ⟨_,rfl,rfl,Ja (slvNew hp h hB i g hm hs hr hk d c)⟩
theorem Tryz.info_range:(Tryz.prog.info? 45).map (fun i=>(i.zero,i.size,i.bytes))=some (some (.agg #[U 0,U 0]),2,4):=by kernel_rfl
theorem agE (n:Nat)(c:n<=1000000)(w:World):(Instr.makeSlice 34 (I n) (I n)).run Tryz.prog w=.ok (Y w.heap.size n n) (w.alloc (G ((List.replicate n (⟨0,0⟩:Rg)).flatMap wb).toArray 45)):=by
 obtain⟨i,hi,h0,h1,h2⟩:=info_parts Tryz.info_range;have:=run_make (P:=Tryz.prog) w 34 45 i (.agg #[U 0,U 0]) Tryz.underlying34 hi h0 .i64 .i64 n n Zo (Og _) (by rw[h2];omega) Zo;rw[this,h1,Ni,<-ru_cells];rfl
def afl (w:World)(ob:Nat)(xs:List Nat):Prop:=∃cur,L w ob cur 3/\∀(k x:Nat),xs[k]? =some x->cur[k]? =some (I x)
theorem ahc{n:Nat}{v:Value}(h:w.ownsRow c 3 1 v n (xs.map zj))(o:n=xs.length)(h0:0<xs.length):∃ob oc,v=Y ob n oc/\n<=oc/\oc<=9223372036854775807/\c<=ob/\afl w ob xs:=by
 rcases h.2 with⟨_,e⟩|⟨g,i,cur,rfl,hg,j,h1,h2,h3,l⟩
 ·omega
 ·refine⟨g,i,rfl,h1,by unfold maxLen at h2;omega,hg,cur,j,fun k x hk=>?_⟩;have m:=(Jh.1 hk).1;have d:(cur.toList.take (n*1))[k]? =some (zj x):=by rw[l,Jr,hk];rfl
  rw[List.getElem?_take_of_lt Zo] at d
  simpa[zj] using d
theorem afl.to{w':World}(h:afl w ob xs)(ht:SlvTo w w' K)(c:ob≠K.rb/\ob≠K.kb/\ob≠K.sb):afl w' ob xs:=by
 obtain⟨cur,h1,h2⟩:=h;exact⟨cur,ht.blk h1 (lt_of_block h1) c,h2⟩
theorem afl.lt(h:afl w ob xs):ob<w.heap.size:=by obtain⟨cur,h1,_⟩:=h;exact lt_of_block h1
theorem afl.cell {w:World}{ob:Nat}{xs:List Nat}(h:afl w ob xs){k x:Nat}(hk:xs[k]? =some x):T w ob k (I x):=by
 obtain⟨cur,h1,h2⟩:=h;exact zA h1 (h2 k x hk)
theorem SlvAt.round{p:IProg}{c:List IBlk}{s:Slv}(h:SlvAt w K p c k s)(d:w.setCell ⟨K.sb,10,none⟩ (I (((k+1:Nat)):Int))=W):SlvAt W K p c (k+1) s/\SlvTo w W K:=by
 have j:=h.ne;have hb:Below K.B w W:=by rw[<-d];exact(Below.refl K.B w).setCell h.lt.1 _
 have ho:∀i,i≠K.sb->W.heap[i]? =w.heap[i]?:=fun i h1=>by rw[<-d,Below.heap_setCell _ _ _ _ h1]
 have g:=zD (i:=10) h.cell (I (((k+1:Nat)):Int));rw[d] at g;exact⟨⟨h.prog.below hb,h.blks.below yT hb,h.map.same (ho _ Zo),g,(ho _ Zo).trans h.row,(ho _ Zo).trans h.kn,h.oks,h.n64,h.lt,h.ne⟩,⟨hb.os,hb.tape,hb.output,hb.size,fun i _ _ _ h3=>ho i h3⟩⟩
theorem SlvAt.putR{X:World}{p:IProg}{g:List IBlk}{s:Slv}(h:SlvAt X K p g k s){v:Nat}(hv:v<K.n){a:Rg}(o:a.ok)
 (l:(X.setCell ⟨K.rb,v*2,none⟩ (U (a.lo:Int))).setCell ⟨K.rb,v*2+1,none⟩ (U (a.hi:Int))=W):
 SlvAt W K p g k ⟨s.r.set v a,s.kn⟩/\SlvTo X W K:=by
 have m:=h.ne;have c:=h.lt;have d:=zD (i:=v*2+1) (zD (i:=v*2) h.row (U (a.lo:Int))) (U (a.hi:Int));rw[l] at d
 have hb:Below K.B X W:=by
  rw[<-l];exact((Below.refl K.B X).setCell c.2.1 _).setCell c.2.1 _
 have ho:∀i,i≠K.rb->W.heap[i]? =X.heap[i]?:=fun i h1=>by
  rw[<-l,Below.heap_setCell _ _ _ _ h1,Below.heap_setCell _ _ _ _ h1]
 refine⟨⟨h.prog.below hb,h.blks.below yT hb,h.map.same (ho _ Zo),(ho _ Zo).trans h.cell,?_,(ho _ Zo).trans h.kn,⟨by show(s.r.set _ _).length=_;rw[Nd,h.oks.rl],h.oks.kl,fun x j=>?_⟩,h.n64,c,m⟩,⟨hb.os,hb.tape,hb.output,hb.size,fun i _ h1 _ _=>ho i h1⟩⟩
 ·have:=afk s.r v a (by rw[h.oks.rl];exact hv);rw[<-this];exact d
 ·rcases Qe j with j|rfl
  ·exact h.oks.ok x j
  ·exact o
def ly (t:Slv)(m:Nat):Slv:=⟨(e9 t).take m++t.r.drop m,t.kn⟩
theorem dx{n:Nat}(h:OkS n t):(e9 t).length=n:=by unfold e9;rw[Nr,List.length_zip,h.rl,h.kl,Nat.min_self]
theorem ag1{n:Nat}(h:OkS n t):ly t n=⟨e9 t,t.kn⟩:=by
 unfold ly;rw[Oy (by rw[dx h];exact Je _),List.drop_of_length_le (by rw[h.rl];exact Je _),Ua]
theorem afC{n:Nat}(h:OkS n t)(hm:m<n):(e9 t)[m]? =some (if t.knw (m:Int)=true then t.get (m:Int) else y7):=by
 have h1:m<t.r.length:=by rw[h.rl];exact hm
 have h2:m<t.kn.length:=by rw[h.kl];exact hm
 unfold e9 Slv.knw Slv.get;rw[Jr,Jd (by rw[List.length_zip];omega)];simp[Jj,Jd h1,Jd h2]
theorem agR (t:Slv)(m:Nat)(v:Int):(ly t m).knw v=t.knw v:=rfl
theorem agU{n:Nat}(h:OkS n t)(hm:m<n)(hk:t.knw (m:Int)=true):ly t (m+1)=ly t m:=by
 have h1:m<t.r.length:=by rw[h.rl];exact hm
 have hg:=afC h hm;rw[if_pos hk] at hg;have h3:t.get (m:Int)=t.r[m]:=by unfold Slv.get;simp[Jj,Jd h1]
 unfold ly;rw[Nh,hg,Qn h1,h3];simp
theorem ahM{n:Nat}(h:OkS n t)(hm:m<n)(hk:t.knw (m:Int)=false):ly t (m+1)=⟨(ly t m).r.set m y7,(ly t m).kn⟩:=by
 have h1:m<t.r.length:=by rw[h.rl];exact hm
 have hg:=afC h hm;rw[hk,if_neg Zd] at hg;have hl:((e9 t).take m).length=m:=by rw[Oc,dx h];omega
 unfold ly;simp only;rw[Nh,hg,Uj _ _ Zo,hl,Qy,Qn h1,Jf];simp
theorem aeY{B:Nat}{V:PV}{p:IProg}(hp:ProgIn w B V p)(hB:B<=w.heap.size)(hs:∀f∈p.funcs,vZ f)(hv:vC p=0){f:Nat}(hf:p.funcs[f]? =some bl)(h0:bl≠ []):
 A 15 #[yH V p,I f] w (RgsRet w (tr p bl)):=by
 have hF:=ae6 hv hs hp.p64 hf h0;have hU:=ahP hv hf
 have k0:∀W,O w W->A 35 #[yH V p] W (m9 W 0):=fun W hb=>by
  have:=tu (hp.below (hb.mono hB)) (Jn hB hb.size) hs;rw[hv] at this;exact this
 obtain⟨Vf,Va,Vd,Vb⟩:=V;obtain⟨f1,f2,e1,q9,q7⟩:=hp.funcs.form;have n4:Vf=.slice f1 p.funcs.length f2:=e1;subst n4;obtain⟨gb,go,rfl,i1,bv,g0,e8⟩:=hp.funcs.get hf;obtain⟨ka,kc,rfl,q4,q3⟩:=e8.form;rw[Nk] at g0;have q6:=(Jh.1 hf).1;have k7:=hF.pos;have g5:=hs bl (Ji hf);obtain⟨X,hX⟩:∃X,w.alloc (G #[.slice (some ⟨gb,go,none⟩) p.funcs.length f2,Va,I p.entry,I p.handler,Vd,Vb] 29)=X:=⟨_,rfl⟩
 have c1:O w X:=by rw[<-hX];exact(Below.refl _ _).alloc (Je _) _
 have a0:L X w.heap.size #[.slice (some ⟨gb,go,none⟩) p.funcs.length f2,Va,I p.entry,I p.handler,Vd,Vb] 29:=by rw[<-hX];exact zI rfl
 have HX:=Ja (Jb c1 (Jb a0 (show ∀W,O w W->ProgIn W B ⟨.slice (some ⟨gb,go,none⟩) p.funcs.length f2,Va,Vd,Vb⟩ p/\wX W B (.slice ka bl.length kc) bl/\W.cell? ⟨gb,go+f,none⟩=some (.slice ka bl.length kc) from fun W hb=>⟨hp.below (hb.mono hB),e8.below yT (hb.mono hB),zV (hb.mono hB) i1 g0⟩)));have o:=Ja (Jb hF (Jb hU (Jb hs (Jb hv (Jb g5 (Jb hB (Jb h0 i1)))))));have n5:=Ja (show ∀W,O X W->A 35 #[.agg #[.slice (some ⟨gb,go,none⟩) p.funcs.length f2,Va,I p.entry,I p.handler,Vd,Vb]] W (m9 W 0) from fun W hb=>k0 W (c1.trans (hb.mono c1.size)));have p5:decide ((f:Int)<0)=false:=decide_eq_false Zo;have p4:decide ((p.funcs.length:Int)<=(f:Int))=false:=decide_eq_false Zo;have p3:decide (p.funcs.length<=f)=false:=decide_eq_false Zo;have p1:((bl.length:Int)==0)=false:=Ze;have p0:(bl.length==0)=false:=beq_eq_false_iff_ne.2 Zo;have n0:gb<w.heap.size:=Zo;have x0:=zA (i:=0) a0 rfl;have x1:=zA (i:=1) a0 rfl;have x2:=zA (i:=2) a0 rfl;have x3:=zA (i:=3) a0 rfl;have x4:=zA (i:=4) a0 rfl;have x5:=zA (i:=5) a0 rfl;have k5:=lt_of_block a0;clear hp hB hs hv hf h0 hF hU k0 g0 e8 g5 c1 a0;unfold yH;go_enter Tryz.func15,Tryz.ntmps15;go_wp2_with fail
 go_step3
 go_upto_region 3 with(go_at_call 35;go_must (refine(n5.out _ (Below.refl _ _)).mono ?_;rintro e w1 ⟨rfl,c4⟩;have x:=zH c4 HX.out.2.1 k5;have y0:=zA (i:=0) x rfl;have yg:=(HX.out.2.2 w1 (HX.out.1.trans (c4.mono HX.out.1.size))).2.2;have m4:=lt_of_block x;have m3:gb<w1.heap.size:=by omega))
 clear hX x0 x1 x2 x3 x4 x5;obtain⟨N,hN⟩:∃N:Nat,aaG bl=N:=⟨(aaG bl).toNat,by have:=o.out.1.cnt;omega⟩
 have r4:N<=65536:=by have:=o.out.1.cnt;omega
 obtain⟨Y,hY⟩:∃Y,w1.alloc (G #[.slice ka bl.length kc] 39)=Y:=⟨_,rfl⟩
 obtain⟨t5,g4⟩:∃t,w1.heap.size=t:=⟨_,rfl⟩
 have b7:O w1 Y:=by rw[<-hY];exact(Below.refl _ _).alloc (Je _) _
 have d1:L Y w1.heap.size #[.slice ka bl.length kc] 39:=by rw[<-hY];exact zI rfl
 have b5:=HX.out.1.trans (c4.mono HX.out.1.size);have HY:=Ja (show O w Y/\L Y w.heap.size #[.slice (some ⟨gb,go,none⟩) p.funcs.length f2,Va,I p.entry,I p.handler,Vd,Vb] 29/\L Y w1.heap.size #[.slice ka bl.length kc] 39/\w.heap.size<w1.heap.size/\w1.heap.size<Y.heap.size from⟨b5.trans (b7.mono b5.size),zH b7 x (lt_of_block x),d1,lt_of_block x,lt_of_block d1⟩);rw[g4] at HY;have y5:=zA (i:=0) HY.out.2.2.1 rfl;have l3:t5<Y.heap.size:=HY.out.2.2.2.2
 have o0:=Ja (show ∀W,O Y W->A 36 #[.agg #[.slice ka bl.length kc]] W (df W (N:Int)) from fun W hb=>by
  have:=ls (w:=W) (HX.out.2.2 W (HY.out.1.trans (hb.mono HY.out.1.size))).2.1 (Jn o.out.2.2.2.2.2.1 (Jn HY.out.1.size hb.size)) o.out.2.2.2.2.1;rw[hN] at this
  exact this)
 have HN:=Ja hN;clear hN b7 d1 b5 x c4 n0;go_upto_region 5 with(go_at_call 36;go_must (refine(o0.out _ (Below.refl _ _)).mono ?_;rintro e w2 ⟨rfl,c3⟩))
 clear hY g4 y5 y0 yg m4 m3;have f3:O w w2:=HY.out.1.trans (c3.mono HY.out.1.size);have x:=zH c3 HY.out.2.1 (lt_of_block HY.out.2.1);have e5:=zH c3 HY.out.2.2.1 (lt_of_block HY.out.2.2.1);have l:=Ja (show O w w2/\w2.heap[w.heap.size]? =_/\w2.heap[t5]? =_ from⟨f3,x,e5⟩);have a1:w.heap.size<w2.heap.size:=lt_of_block x;have b8:t5<w2.heap.size:=lt_of_block e5;clear c3 f3 x e5 l3;have HC:=Ja (show ∀w',O w2 w'->(w'.cell? ⟨w.heap.size,0,none⟩=some (.slice (some ⟨gb,go,none⟩) p.funcs.length f2)/\w'.cell? ⟨w.heap.size,1,none⟩=some Va/\w'.cell? ⟨w.heap.size,2,none⟩=some (I p.entry)/\w'.cell? ⟨w.heap.size,3,none⟩=some (I p.handler)/\w'.cell? ⟨w.heap.size,4,none⟩=some Vd/\w'.cell? ⟨w.heap.size,5,none⟩=some Vb)/\w'.cell? ⟨t5,0,none⟩=some (.slice ka bl.length kc) from fun W hb=>⟨⟨zA (zH hb l.out.2.1 a1) rfl,zA (zH hb l.out.2.1 a1) rfl,zA (zH hb l.out.2.1 a1) rfl,zA (zH hb l.out.2.1 a1) rfl,zA (zH hb l.out.2.1 a1) rfl,zA (zH hb l.out.2.1 a1) rfl⟩,zA (zH hb l.out.2.2 b8) rfl⟩);obtain⟨⟨x0,x1,x2,x3,x4,x5⟩,y5⟩:=HC.out w2 (Below.refl _ _);have e2:=agE N Zo;have b4:=run_make_row' (P:=Tryz.prog) 97 4 (.bool false) 1 Tryz.underlying97 Tryz.info_bool rfl .i64 .i64 N Zo Zo;rw[agr] at b4;obtain⟨ZR,f5⟩:∃Z,((List.replicate N (⟨0,0⟩:Rg)).flatMap wb).toArray=Z:=⟨_,rfl⟩
 obtain⟨ZB,f6⟩:∃Z,((List.replicate N false).map Value.bool).toArray=Z:=⟨_,rfl⟩
 rw[f5] at e2;rw[f6] at b4;have HZ:=Ja (Jb f5 f6);clear f5 f6
 go_cut [7] from 46 to 54 (fun s wx=>∃K:SK,s=Q K.sb/\K.n=N/\Hid (ahN w2 wx K p bl))
 case first=>
  go_region_held3 (fun w'=>(w'.cell? ⟨w.heap.size,0,none⟩=some (.slice (some ⟨gb,go,none⟩) p.funcs.length f2)/\w'.cell? ⟨w.heap.size,1,none⟩=some Va/\w'.cell? ⟨w.heap.size,2,none⟩=some (I p.entry)/\w'.cell? ⟨w.heap.size,3,none⟩=some (I p.handler)/\w'.cell? ⟨w.heap.size,4,none⟩=some Vd/\w'.cell? ⟨w.heap.size,5,none⟩=some Vb)/\w'.cell? ⟨t5,0,none⟩=some (.slice ka bl.length kc))
   ((refine HC.out _ ?_;repeat' (first|with_reducible exact Below.refl _ _|with_reducible assumption|with_reducible refine Below.drew ?_|with_reducible refine Below.alloc ?_ Zn _|with_reducible refine Below.setCell ?_ Zn _)))
   ((go_at_call 37;refine(aho _).mono ?_;rintro e w3 ⟨rfl,h6,f0,e4⟩;have n2:O w2 w3:=Below.trans (show O w2 _ from by repeat' (first|with_reducible exact Below.refl _ _|with_reducible assumption|with_reducible refine Below.drew ?_|with_reducible refine Below.alloc ?_ Zn _|with_reducible refine Below.setCell ?_ Zn _)) (f0.mono Zn);have l5:w2.heap.size<=w3.heap.size:=n2.size;have h7:=e4;rw[show ∀v:World,v.drew.heap=v.heap from fun _=>rfl] at h7;(try simp at h7)))
  all_goals go_wp2_with fail
  all_goals go_meet
  all_goals (
   refine slvNew' (B:=B) (V:=⟨.slice (some ⟨gb,go,none⟩) p.funcs.length f2,Va,Vd,Vb⟩) (fv:=.slice ka bl.length kc) (zI (by first|rfl|(simp;done)|(simp;omega))) (Jn o.out.2.2.2.2.2.1 l.out.1.size) Zo ?_ ?_ ?_ ?_ ?_ ?_ ?_ ?_
   ·exact(HX.out.2.2 _ (l.out.1.trans (Below.mono (show O w2 _ from by repeat' (first|with_reducible exact Below.refl _ _|with_reducible assumption|with_reducible refine Below.drew ?_|with_reducible refine Below.alloc ?_ Zn _|with_reducible refine Below.setCell ?_ Zn _)) l.out.1.size))).1
   ·exact(HX.out.2.2 _ (l.out.1.trans (Below.mono (show O w2 _ from by repeat' (first|with_reducible exact Below.refl _ _|with_reducible assumption|with_reducible refine Below.drew ?_|with_reducible refine Below.alloc ?_ Zn _|with_reducible refine Below.setCell ?_ Zn _)) l.out.1.size))).2.1
   ·repeat' (first|with_reducible exact Below.refl _ _|with_reducible assumption|with_reducible refine Below.drew ?_|with_reducible refine Below.alloc ?_ Zn _|with_reducible refine Below.setCell ?_ Zn _)
   ·exact l6.below (by first|exact h6|simpa using h6) (by repeat' (first|with_reducible exact Below.refl _ _|with_reducible assumption|with_reducible refine Below.drew ?_|with_reducible refine Below.alloc ?_ Zn _|with_reducible refine Below.setCell ?_ Zn _))
   ·rw[HZ.out.1];repeat' (first|exact zI (by first|rfl|(simp;done)|(simp;omega))|exact zH f0 (by repeat' (first|exact zI (by first|rfl|(simp;done)|(simp;omega))|refine aeR ?_|refine zB ?_)) (by first|exact e4|omega|(simp;done)|(simp;omega))|refine aeR ?_|refine zB ?_)
   ·rw[HZ.out.2];repeat' (first|exact zI (by first|rfl|(simp;done)|(simp;omega))|exact zH f0 (by repeat' (first|exact zI (by first|rfl|(simp;done)|(simp;omega))|refine aeR ?_|refine zB ?_)) (by first|exact e4|omega|(simp;done)|(simp;omega))|refine aeR ?_|refine zB ?_)
   ·refine⟨?_,?_,?_,?_⟩<;>(first|exact Je _|omega|(simp;done)|(simp;omega))
   ·refine⟨?_,?_,?_,?_,?_,?_⟩<;>(first|omega|(simp;done)|(simp;omega)))
 case rest=>
  obtain⟨K,rfl,k2,HK⟩:=hcut;have a4:=HK.out.2.1;have y5:wc.cell? ⟨t5,0,none⟩=some (.slice ka bl.length kc):=zA (zH a4 l.out.2.2 b8) rfl;have k6:=lt_of_block (zH a4 l.out.2.2 b8);obtain⟨b0,f4⟩:∃b,bl[0]? =some b:=⟨_,Jd k7⟩
  have e7:=(HX.out.2.2 wc (l.out.1.trans (a4.mono l.out.1.size))).2.1;obtain⟨qb,qo,l7,l8,_,_,_,pv,_,_,u0,_,_,b1,_,_⟩:=e7.get f4;obtain⟨pa,pc,rfl,m1,l9⟩:=b1.form;subst l7;rw[Nat.zero_mul,Uk] at u0;have p8:qb<wc.heap.size:=Jy l8 (Jn o.out.2.2.2.2.2.1 (Jn l.out.1.size a4.size));have o2:b0.params.length<=9223372036854775807:=Zo;have a3:=Ja (Jb f4 (Jb b1 a4));have h8:K.n=(aaG bl).toNat:=by rw[k2,HN.out];rfl
  have c5:=Ja h8;clear k2 h8 e7 b1 f4 m1 l9 a4 HC e2 b4 x0 x1 x2 x3 x4 x5;have a7:=HK.out.2.2;have c7:=Ja (show ∀wx,SlvTo wc wx K->Below w2.heap.size wc wx from fun wx h=>h.below ⟨a7.1,a7.2.1,a7.2.2,HK.out.2.1.size⟩);have f9:=Ja (show ∀wx,SlvTo wc wx K->wX wx B (.slice (some ⟨qb,qo,none⟩) bl.length kc) bl/\zY wx B (.slice pa b0.params.length pc) b0.params/\wx.cell? ⟨t5,0,none⟩=some (.slice (some ⟨qb,qo,none⟩) bl.length kc)/\t5<wx.heap.size/\B<=wx.heap.size from fun wx h=>⟨(HX.out.2.2 wx (l.out.1.trans ((a3.out.2.2.trans ((c7.out wx h).mono (Je _))).mono l.out.1.size))).2.1,a3.out.2.1.below zO ((c7.out wx h).mono (Jn o.out.2.2.2.2.2.1 l.out.1.size)),zA (zH (a3.out.2.2.trans (c7.out wx h)) l.out.2.2 b8) rfl,Jy k6 h.size,Jn o.out.2.2.2.2.2.1 (Jn l.out.1.size (Jn a3.out.2.2.size h.size))⟩);clear a7;go_wp2;clear y5 u0
  go_loopw [61] (fun kv wx=>∃(j:Nat) (s':Slv) (c:Bool),j<=b0.params.length/\kv=I j/\Hid ((b0.params.take j).foldl (fun q v=>m7 0 v y7 q) (⟨List.replicate K.n ⟨0,0⟩,List.replicate K.n false⟩,false)=(s',c)/\SlvAt wx K p bl 0 s'/\SlvTo wc wx K)) (fun kv _=>b0.params.length-(intOf kv).toNat)
  case atStart=>exact⟨0,_,_,Jt _,rfl,Ja ⟨rfl,HK.out.1,SlvTo.refl _ _⟩⟩
  case round=>
   obtain⟨j,s',c,hj,rfl,HJ⟩:=hrel
   by_cases d:j<b0.params.length
   ·have a2:(j:Int)<(b0.params.length:Int):=Zo;obtain⟨v,hv⟩:∃v,b0.params[j]? =some v:=⟨_,Jd d⟩
    obtain⟨pb,po,m2,h4,l2,_⟩:=(f9.out wr HJ.out.2.2).2.1.get hv;subst m2;rw[Nk] at l2;have o3:pb<wr.heap.size:=Jy h4 (f9.out wr HJ.out.2.2).2.2.2.2;have d2:=((o.out.1.rng 0 o.out.1.pos).1 v (by rw[show((0:Nat):Int)=((0:Nat):Int) from rfl,zf a3.out.1];exact Ji hv))
    rw[<-c5.out] at d2;obtain⟨vn,rfl⟩:∃vn:Nat,v=vn:=⟨v.toNat,by omega⟩
    obtain⟨s2,r,hq⟩:∃s2 r,setF 0 s' (vn:Int) y7=(s2,r):=⟨_,_,rfl⟩
    have n6:=Ja (show ∀W,SlvAt W K p bl 0 s'->A 38 #[Q K.sb,I vn,.agg #[U 0,U 65535]] W (j5 W K p bl 0 (s2,r)) from fun W hb=>by
     have:=agb hb (v:=vn) (by have:=d2.2;rw[Ni] at this;exact this) vu (aeE vu (hb.oks.get _));rw[hq] at this
     exact this)
    have HV:=Ja (Jb hv (Jb hq d));clear hv hq d2 d h4
    go_wp2_with (first
     |(go_at_call 39;go_must (refine(m0 _).mono ?_;rintro e w5 ⟨rfl,a5⟩))
     |(go_at_call 38;go_must (refine(n6.out _ (HJ.out.2.1.below a5)).mono ?_;rintro e w6 ⟨rfl,d4,g3⟩;have H6:=Ja (Jb d4 ((SlvTo.of_below a5).trans g3));clear d4 g3 a5)))
    go_roundw
    case rel=>exact⟨j+1,s2,_,HV.out.2.2,by go_num,Ja ⟨by rw[xe HV.out.1,HJ.out.1];unfold m7;rw[HV.out.2.1],H6.out.1,HJ.out.2.2.trans H6.out.2⟩⟩
    case measure=>have:=HV.out.2.2;simp[intOf];omega
   ·obtain rfl:j=b0.params.length:=by omega
    have a2:¬(b0.params.length:Int)<(b0.params.length:Int):=Zo
    have n8:=Ja (show aeH (aaG bl).toNat (xz bl (0:Nat)).params=s' by
     unfold aeH;rw[<-c5.out,zf a3.out.1];have:=HJ.out.1;rw[Nl] at this
     rw[this])
    have d0:=Ja HJ.out.2;clear hj d HJ;obtain⟨z1,z2,z3,z4,z5⟩:=f9.out wr d0.out.2;have HG:=Ja (ox z1 z5 ⟨o.out.2.2.2.2.1.1,fun b hb=>(o.out.2.2.2.2.1.2 b hb).2.2⟩)
    have g1:∀b∈bl,ro bl b.term=true:=fun b hb=>by
     obtain⟨i,hi⟩:=Ny hb;have:=o.out.1.st.trm i (Jh.1 hi).1;rw[zf hi] at this;exact this
    have n9:=Ja (show ∀W a8,OwnRows zN 3 22 W wr.heap.size a8 (zk bl)->GraphIn W (.slice (some ⟨a8,0,none⟩) (zk bl).length (zk bl).length) (zy bl) from fun W a8 h=>bU o.out.2.2.2.2.1 o.out.2.2.2.2.2.2.1 g1 (h.asRows (Je _)));obtain⟨od,d6⟩:∃od,vD (zy bl)=od:=⟨_,rfl⟩
    obtain⟨gl,i0⟩:∃n,(zk bl).length=n:=⟨_,rfl⟩
    have f8:0∈od:=by rw[<-d6];exact(o.out.1.ord 0).2 o.out.1.pos
    have k9:0<od.length:=List.length_pos_of_mem f8;have a6:=Ja (Jb d6 i0);clear z1 z2 z5 g1 d6 i0 f8
    go_wp2_with (first
     |(go_at_call 41;go_must (refine HG.out.mono ?_;rintro e w7 ⟨a8,rfl,b9,n1,c2⟩;rw[a6.out.2]))
     |(go_at_call 40;go_must (refine(iJ (by have:=n9.out w7 a8 b9;rw[a6.out.2] at this;exact this)).mono ?_;rintro e w8 ⟨ov,rfl,b2,i2⟩;rw[a6.out.1] at b2;obtain⟨ob,oc,rfl,o9,o5,d7,k1⟩:=ahc b2 rfl k9)))
    have b6:O wr w8:=c2.trans (i2.mono c2.size);have e0:=d0.out.1.fresh (b:=ob) (Jn c2.size d7)
    have d3:∀i∈od,mb K.n bl (xz bl i):=fun i hi=>by
     rw[c5.out];exact o.out.1.sol i ((o.out.1.ord i).1 (by rw[a6.out.1];exact hi))
    obtain⟨T,hT⟩:∃T,ahX p bl od 0 s'=T:=⟨_,rfl⟩
    have e6:tr p bl=e9 T:=by
     unfold tr fnT;rw[n8.out,a6.out.1,hT]
    have HQ:=Ja (show SlvAt w8 K p bl 0 s'/\SlvTo wc w8 K/\afl w8 ob od/\(ob≠K.rb/\ob≠K.kb/\ob≠K.sb)/\(∀i∈od,mb K.n bl (xz bl i))/\ahX p bl od 0 s'=T/\tr p bl=e9 T from⟨d0.out.1.below b6,d0.out.2.trans (SlvTo.of_below b6),k1,e0,d3,hT,e6⟩);have o4:od.length<=9223372036854775807:=Zo;clear b6 e0 d3 hT e6 k1 c2 i2 b2 b9 n1 d7 z3 z4;go_wp2
    go_step3
    go_wp2
    go_loopg [11] (dp 0 s') (fun g cv wx=>∃(j:Nat) (t:Slv),Hid (g=dp j t/\j+dp j t<=4+K.n/\ahX p bl od j t=T/\SlvAt wx K p bl j t/\SlvTo w8 wx K))
    case atStart=>exact⟨0,s',Ja ⟨rfl,by have:=nfL_le s'.r s'.kn;have:=HQ.out.1.oks.rl;unfold dp Slv.nf;omega,HQ.out.2.2.2.2.2.1,HQ.out.1,SlvTo.refl _ _⟩⟩
    case round=>
     obtain⟨j,t,y⟩:=hrel;have q5:j<=2000000:=by have:=y.out.2.1;have:=y.out.2.2.2.1.n64;omega
     have c10:=y.out.2.2.2.1.cells.2.2.2.2.1;have n3:=zE (i:=10) y.out.2.2.2.1.cell;have l4:=lt_of_block y.out.2.2.2.1.cell;obtain⟨W4,i9⟩:∃W,wr.setCell ⟨K.sb,10,none⟩ (I ((j:Int)+1))=W:=⟨_,rfl⟩
     obtain⟨q1,q2⟩:=y.out.2.2.2.1.round i9;have H4:=Ja (Jb q1 (y.out.2.2.2.2.trans q2));clear q1 q2;go_upto_region 14 with fail;clear i9 c10 n3 l4;go_wp2
     go_loopw [11,82] (fun cv kv wx=>∃(m:Nat) (t2:Slv) (c:Bool),m<=od.length/\cv=.bool c/\kv=I m/\Hid ((od.take m).foldl (goS p bl (j+1)) (t,false)=(t2,c)/\SlvAt wx K p bl (j+1) t2/\SlvTo w8 wx K)) (fun _ kv _=>od.length-(intOf kv).toNat)
     case atStart=>exact⟨0,t,false,Jt _,rfl,rfl,Ja ⟨rfl,H4.out.1,H4.out.2⟩⟩
     case round=>
      obtain⟨m,t2,c,hm,rfl,rfl,u⟩:=hrel
      by_cases d:m<od.length
      ·have a2:(m:Int)<(od.length:Int):=Zo;obtain⟨i,hi⟩:∃i,od[m]? =some i:=⟨_,Jd d⟩
       have b3:=HQ.out.2.2.1.to u.out.2.2 HQ.out.2.2.2.1;have ci:=b3.cell hi;have p9:=b3.lt;have h9:i<bl.length:=(o.out.1.ord i).1 (by rw[a6.out.1];exact Ji hi);obtain⟨bx,c0⟩:∃b,bl[i]? =some b:=⟨_,Jd h9⟩
       obtain⟨t3,r,hq⟩:∃t3 r,afV p bl (j+1) (t2,false) bx=(t3,r):=⟨_,_,rfl⟩
       have o1:=Ja (show A 42 #[Q K.sb,I i] wr (j5 wr K p bl (j+1) (t3,r)) from by
        have hw:=ahT o.out.1 o.out.2.1 h9;rw[<-c5.out,zf c0] at hw;have:=agV u.out.2.1 c0 hw;rw[hq] at this
        exact this)
       have HI:=Ja (Jb hi (Jb c0 (Jb hq d)));clear hi c0 hq b3 d;cases r
       all_goals go_wp2_with (go_at_call 42;go_must (refine o1.out.mono ?_;rintro e w9 ⟨rfl,g6,g2⟩;have H9:=Ja (Jb g6 g2);clear g6 g2))
       all_goals (
        go_roundw
        case rel=>exact⟨m+1,t3,_,HI.out.2.2.2,by first|rfl|(cases c<;>rfl),by go_num,Ja ⟨by rw[xe HI.out.1,u.out.1];unfold goS;rw[zf HI.out.2.1,show(afV p bl (j+1) ((t2,c).1,false) bx)=_ from HI.out.2.2.1];first|rw[Bool.or_true]|rw[Bool.or_false],H9.out.1,u.out.2.2.trans H9.out.2⟩⟩
        case measure=>have:=HI.out.2.2.2;simp[intOf];omega)
      ·obtain rfl:m=od.length:=by omega
       have a2:¬(od.length:Int)<(od.length:Int):=Zo
       have HR:=Ja (show o6 p bl od (j+1) t=(t2,c) by
        have:=u.out.1;rw[Nl] at this
        exact this)
       clear hm d;cases c
       ·have k3:=Ja (show t2=T by
         have:=y.out.2.2.1;rw[en HQ.out.2.2.2.2.1 y.out.2.2.2.1.oks,HR.out,if_neg (fun h=>by cases h)] at this
         exact this)
        have c8:=u.out.2.1.cells.2.2.1;have g8:=lt_of_block u.out.2.1.cell;have q0:=u.out.2.1.n64;go_wp2;clear c8
        go_loopw [97] (fun kv wx=>∃m:Nat,m<=K.n/\kv=I m/\Hid (SlvAt wx K p bl (j+1) (ly t2 m)/\SlvTo w8 wx K)) (fun kv _=>K.n-(intOf kv).toNat)
        case atStart=>exact⟨0,Jt _,rfl,Ja ⟨u.out.2.1,u.out.2.2⟩⟩
        case round=>
         obtain⟨m,hm,rfl,HL⟩:=hrel;have c8:=HL.out.1.cells.2.2.1;have c9:=HL.out.1.cells.2.2.2.1;have g8:=lt_of_block HL.out.1.cell;have a1:=lt_of_block HL.out.1.row;have l5:=lt_of_block HL.out.1.kn
         by_cases d:m<K.n
         ·have a2:(m:Int)<(K.n:Int):=Zo;have kx:=qf HL.out.1 d;rw[agR] at kx
          cases hk:t2.knw (m:Int) with
          |true=>
           rw[hk] at kx;have HE:=Ja (agU u.out.2.1.oks d hk);clear hk;go_wp2;go_roundw
           case rel=>exact⟨m+1,d,by go_num,Ja ⟨by rw[HE.out];exact HL.out.1,HL.out.2⟩⟩
           case measure=>simp[intOf];omega
          |false=>
           rw[hk] at kx;have HE:=Ja (ahM u.out.2.1.oks d hk);clear hk;go_upto_region 25 with fail;clear c9 kx;obtain⟨r0,r1⟩:=HL.out.1.rcell (v:=(m:Int)) Zo;rw[Ni] at r0 r1;have HC:=Ja (show ∀W:World,W.heap[K.sb]? =wr.heap[K.sb]?->W.cell? ⟨K.sb,8,none⟩=some (.slice (some ⟨K.rb,0,none⟩) K.n K.n) from fun W h=>zA (h.trans HL.out.1.cell) rfl);have e0:=HL.out.1.ne
           go_region_held3 (fun w'=>w'.cell? ⟨K.sb,8,none⟩=some (.slice (some ⟨K.rb,0,none⟩) K.n K.n))
            ((refine HC.out _ ?_;repeat' (first|exact rfl|exact m5|rw[Below.heap_setCell _ _ _ _ (show K.sb≠K.rb by omega)]|rw[show ∀v:World,v.drew.heap=v.heap from fun _=>rfl])))
            ((go_at_call 39;refine(m0 _).mono ?_;rintro e w5 ⟨rfl,a5⟩;have f7:O wr w5:=Below.trans (show O wr _ from by repeat' (first|with_reducible exact Below.refl _ _|with_reducible refine Below.drew ?_)) (a5.mono (Je _));clear a5;have m5:w5.heap[K.sb]? =wr.heap[K.sb]?:=f7.block _ g8;have a9:=Ja (HL.out.1.below f7);obtain⟨r2,r3⟩:=a9.out.rcell (v:=(m:Int)) Zo;rw[Ni] at r2 r3;have l1:=zE (i:=m*2) a9.out.row;have l0:=zE (i:=m*2+1) a9.out.row;have d4:=lt_of_block a9.out.row))
           all_goals go_wp2_with fail
           all_goals (
            obtain⟨W,hW⟩:∃W,(w5.setCell ⟨K.rb,m*2,none⟩ (U 0)).setCell ⟨K.rb,m*2+1,none⟩ (U 65535)=W:=⟨_,rfl⟩
            obtain⟨j1,j2⟩:=a9.out.putR d vu hW;rw[hW];clear r2 r3 l1 l0;have k4:=Ja (Jb j1 (((SlvTo.of_below f7).trans j2)));clear j1 j2 hW;go_roundw
            case rel=>exact⟨m+1,d,by go_num,Ja ⟨by rw[HE.out];exact k4.out.1.below (by first|exact Below.refl _ _|exact(Below.refl _ _).drew),HL.out.2.trans (k4.out.2.trans (SlvTo.of_below (by first|exact Below.refl _ _|exact(Below.refl _ _).drew)))⟩⟩
            case measure=>simp[intOf];omega)
         ·obtain rfl:m=K.n:=by omega
          have a2:¬(K.n:Int)<(K.n:Int):=Zo;have HE:=Ja (show ly t2 K.n=⟨tr p bl,t2.kn⟩ by rw[ag1 u.out.2.1.oks,HQ.out.2.2.2.2.2.2,k3.out]);have e3:(tr p bl).length=K.n:=by rw[HQ.out.2.2.2.2.2.2,<-k3.out];exact dx u.out.2.1.oks
          have n7:=Ja e3;clear hm d e3 c9;go_wp2
          try rw[Exit.noGoto_ret]
          go_ret;have d5:=HL.out.1.row;rw[HE.out] at d5;refine⟨K.rb,by rw[n7.out];rfl,d5,?_,?_⟩
          ·exact Jn l.out.1.size HK.out.2.2.1
          ·exact l.out.1.trans ((a3.out.2.2.trans (c7.out wr (HQ.out.2.1.trans HL.out.2))).mono l.out.1.size)
       ·go_wp2
        go_roundg (dp (j+1) t2)
        case measure=>
         have:=ae7 (p:=p) HQ.out.2.2.2.2.1 y.out.2.2.2.1.oks (k:=j) (by rw[HR.out]);rw[HR.out] at this;rw[y.out.1];exact this
        case rel=>
         refine⟨j+1,t2,Ja ⟨rfl,?_,?_,u.out.2.1,u.out.2.2⟩⟩
         ·have:=ae7 (p:=p) HQ.out.2.2.2.2.1 y.out.2.2.2.1.oks (k:=j) (by rw[HR.out]);rw[HR.out] at this;have h5:dp (j+1) t2<dp j t:=this;have:=y.out.2.1;omega
         ·have:=y.out.2.2.1;rw[en HQ.out.2.2.2.2.1 y.out.2.2.2.1.oks,HR.out,if_pos rfl] at this;exact this
def obs (data:List IObj)(R:List Rg)(l:List IOp):List Int:=(l.filter aeV).map (ahf data R)
theorem afN{data:List IObj}{R:List Rg}(h:aeV o=true):obs data R (l++ [o])=obs data R l++ [ahf data R o]:=by
 unfold obs;rw[List.filter_append,List.filter_cons_of_pos h,List.filter_nil,Js];rfl
theorem aga{data:List IObj}{R:List Rg}(h:aeV o=false):obs data R (l++ [o])=obs data R l:=by
 unfold obs;rw[List.filter_append,List.filter_cons_of_neg (by rw[h];decide),List.filter_nil,Ua]
theorem obs_le (data:List IObj)(R:List Rg)(l:List IOp):(obs data R l).length<=l.length:=by unfold obs;rw[Nr];exact List.length_filter_le _ _
theorem ahj:∀(l:List IBlk),(∀b∈l,b.ops.length<=2000000)->(l.flatMap (·.ops)).length<=l.length*2000000
 | [],_=>by simp
 |b::l,h=>by
  have h1:=ahj l fun x hx=>h x (.tail _ hx)
  have h2:=h b (.head _);rw[Qa,Jk,Nq];omega
theorem em{j:Nat}(h:l[j]? =some o):l.take (j+1)=l.take j++ [o]:=by rw[Nh,h];rfl
theorem afF{b:IBlk}(h:bl[k]? =some b):(bl.take (k+1)).flatMap (·.ops)=(bl.take k).flatMap (·.ops)++b.ops:=by rw[Nh,h,Nx];simp
structure ObS (w wx:World) (t2 rb:Nat) (pc:Array Value) (R:List Rg) (bl:List IBlk):Prop where
 below:Below t2 w wx
 p2:wx.heap[t2]? =some (.cells pc 29 (0,0))
 row:bl≠ []->wx.heap[rb]? =some (.cells (R.flatMap wb).toArray 45 (0,0))
theorem ObS.lt{rb:Nat}{R:List Rg}(h:ObS w wx t2 rb pc R bl):t2<=wx.heap.size:=Qd (lt_of_block h.p2)
theorem ObS.keep{rb:Nat}{R:List Rg}(h:ObS w wx t2 rb pc R bl)(hb:O wx W):ObS w W t2 rb pc R bl:=
 ⟨h.below.trans (hb.mono h.lt),zH hb h.p2 (lt_of_block h.p2),fun h0=>zH hb (h.row h0) (lt_of_block (h.row h0))⟩
theorem ObS.drew{rb:Nat}{R:List Rg}(h:ObS w wx t2 rb pc R bl):ObS w wx.drew t2 rb pc R bl:=⟨h.below.drew,h.p2,h.row⟩
theorem own_ge{n:Nat}{v:Value}{xs:List Value}(ho:wx.ownsRow t2 3 1 v n xs):∀k,v.ownBlock=some k->t2<=k:=fun k hk=>by
 rcases ho.2 with⟨rfl,_⟩|⟨g,d,cur,rfl,c,_⟩
 ·cases hk
 ·cases hk;exact c
theorem ObS.grown{rb:Nat}{R:List Rg}(h:ObS w wx t2 rb pc R bl){n:Nat}{v:Value}{xs:List Value}(ho:wx.ownsRow t2 3 1 v n xs)(hg:wx.grownBy W v.ownBlock):ObS w W t2 rb pc R bl:=
 ⟨h.below.grown hg h.lt (own_ge ho),zL hg h.p2 (zC ho h.p2 (.inr Zd)),fun h0=>zL hg (h.row h0) (zC ho (h.row h0) (.inr Zd))⟩
structure ObT (w wx:World) (t2 rb:Nat) (pc:Array Value) (R:List Rg) (bl:List IBlk) (t10:Nat) (oc:Array Value):Prop where
 s:ObS w wx t2 rb pc R bl
 op:wx.heap[t10]? =some (.cells oc 76 (0,0))
theorem ObT.keep{rb:Nat}{R:List Rg}(h:ObT w wx t2 rb pc R bl c oc)(hb:O wx W):ObT w W t2 rb pc R bl c oc:=
 ⟨h.s.keep hb,zH hb h.op (lt_of_block h.op)⟩
theorem ObT.grown{rb:Nat}{R:List Rg}(h:ObT w wx t2 rb pc R bl c oc){n:Nat}{v:Value}{xs:List Value}(ho:wx.ownsRow t2 3 1 v n xs)(hg:wx.grownBy W v.ownBlock):ObT w W t2 rb pc R bl c oc:=
 ⟨h.s.grown ho hg,zL hg h.op (zC ho h.op (.inr Zd))⟩
theorem ObS.rcell{rb:Nat}{R:List Rg}(h:ObS w wx t2 rb pc R bl)(h0:bl≠ []){x:Nat}(c:x<R.length):
 T wx rb (x*2) (U ((R.getD x ⟨0,0⟩).lo:Int))/\T wx rb (x*2+1) (U ((R.getD x ⟨0,0⟩).hi:Int)):=by
 have hg:R[x]? =some (R.getD x ⟨0,0⟩):=by rw[Jj,Jd c];rfl
 exact⟨by have:=oW (f:=wb) (n:=2) (fun _=>rfl) (h.row h0) hg (j:=0) rfl;rw[Ng,Uk] at this;exact this,by have:=oW (f:=wb) (n:=2) (fun _=>rfl) (h.row h0) hg (j:=1) rfl;rw[Ng] at this;exact this⟩
def ObjRet (w:World)(l:List Int)(e:Ending)(w':World):Prop:=∃v,e=.returned v/\w'.ownsRow w.heap.size 3 1 v l.length (l.map zN)/\O w w'
theorem lx{p:IProg}(h:FnS p bl):(∀a∈tr p bl,a.ok)/\(tr p bl).length=(aaG bl).toNat:=by
 refine⟨fun a ha=>?_,dx h.end.ok⟩;unfold tr e9 at ha;obtain⟨⟨x,b⟩,c,rfl⟩:=Nu.1 ha
 dsimp only
 split
 ·exact h.end.ok.ok x (List.of_mem_zip c).1
 ·exact vu
theorem acc_use{p:IProg}(h:FnS p bl){b:IBlk}(hb:bl[k]? =some b)(ho:o∈b.ops)(c:aeV o=true):0<=o.a/\o.a.toNat<(tr p bl).length:=by
 have hk:=(Jh.1 hb).1;have:=((h.rng k hk).2 o (by rw[zf hb];exact ho)).1.a (acc_a c);rw[(lx h).2];exact this
theorem agy:aeV o=decide (o.code=18∨o.code=19∨o.code=20∨o.code=21):=by
 unfold aeV;rw[Bool.eq_iff_iff];simp only[Jm,decide_eq_true_eq];omega
theorem agN{B:Nat}{V:PV}{p:IProg}(hp:ProgIn w B V p)(hB:B<=w.heap.size)(hs:∀f∈p.funcs,vZ f)(hv:vC p=0){f:Nat}(hf:p.funcs[f]? =some bl):
 A 16 #[yH V p,I f] w (ObjRet w (ag7 p.data (tr p bl) bl)):=by
 have u:=hs bl (Ji hf);have n0:=(Jh.1 hf).1;obtain⟨R,hR⟩:∃R,tr p bl=R:=⟨_,rfl⟩
 have hF:bl≠ []->FnS p bl:=fun h0=>ae6 hv hs hp.p64 hf h0
 have g2:∀W,O w W->A 35 #[yH V p] W (m9 W 0):=fun W hb=>by
  have:=tu (hp.below (hb.mono hB)) (Jn hB hb.size) hs;rw[hv] at this;exact this
 have g3:∀W,O w W->A 15 #[yH V p,I f] W (fun e w'=>∃(ra:Option Addr) (rn rc:Nat),e=.returned (.slice ra rn rc)/\O W w'/\((bl=[]/\ra=none/\rn=0/\rc=0)∨bl≠ []/\rn=R.length/\rc=R.length/\∃rb,ra=some ⟨rb,0,none⟩/\L w' rb (R.flatMap wb).toArray 45)):=fun W hb=>by
  by_cases h0:bl=[]
  ·subst h0;refine(aff (hp.below (hb.mono hB)) (Jn hB hb.size) hs hv f hf).mono ?_;rintro e w' ⟨rfl,i9⟩;exact⟨none,0,0,rfl,i9,.inl ⟨rfl,rfl,rfl,rfl⟩⟩
  ·refine(aeY (hp.below (hb.mono hB)) (Jn hB hb.size) hs hv hf h0).mono ?_;rintro e w' ⟨rb,rfl,h1,h2,h3⟩;rw[hR] at h1 ⊢;exact⟨_,_,_,rfl,h3,.inr ⟨h0,rfl,rfl,rb,rfl,h1⟩⟩
 have g4:∀(a:Rg) (n:Int) W,O w W->a.ok->(0<=n/\n<=2)->A 43 #[yH V p,.agg #[U (a.lo:Int),U (a.hi:Int)],I n] W (df W (aeJ p.data 0 a n)):=fun a n W hb ha hn=>agI (hp.below (hb.mono hB)) (Jn hB hb.size) ha n hn
 obtain⟨Vf,Va,Vd,Vb⟩:=V;obtain⟨f1,f2,e1,n2,n1⟩:=hp.funcs.form;have j1:Vf=.slice f1 p.funcs.length f2:=e1;subst j1;obtain⟨gb,go,rfl,d1,bv,g0,d3⟩:=hp.funcs.get hf;obtain⟨ka,kc,rfl,m4,m3⟩:=d3.form;rw[Nk] at g0;obtain⟨X,hX⟩:∃X,w.alloc (G #[.slice (some ⟨gb,go,none⟩) p.funcs.length f2,Va,I p.entry,I p.handler,Vd,Vb] 29)=X:=⟨_,rfl⟩
 have f6:O w X:=by rw[<-hX];exact(Below.refl _ _).alloc (Je _) _
 have q:L X w.heap.size #[.slice (some ⟨gb,go,none⟩) p.funcs.length f2,Va,I p.entry,I p.handler,Vd,Vb] 29:=by rw[<-hX];exact zI rfl
 have x0:=zA (i:=0) q rfl;have x1:=zA (i:=1) q rfl;have x2:=zA (i:=2) q rfl;have x3:=zA (i:=3) q rfl;have x4:=zA (i:=4) q rfl;have x5:=zA (i:=5) q rfl;have c5:=lt_of_block q;have HX:=Ja (Jb f6 q)
 have HC:=Ja (show(∀W,O w W->A 35 #[.agg #[.slice (some ⟨gb,go,none⟩) p.funcs.length f2,Va,I p.entry,I p.handler,Vd,Vb]] W (m9 W 0))/\(∀W,O w W->A 15 #[.agg #[.slice (some ⟨gb,go,none⟩) p.funcs.length f2,Va,I p.entry,I p.handler,Vd,Vb],I f] W (fun e w'=>∃(ra:Option Addr) (rn rc:Nat),e=.returned (.slice ra rn rc)/\O W w'/\((bl=[]/\ra=none/\rn=0/\rc=0)∨bl≠ []/\rn=R.length/\rc=R.length/\∃rb,ra=some ⟨rb,0,none⟩/\L w' rb (R.flatMap wb).toArray 45)))/\
  (∀(a:Rg) (n:Int) W,O w W->a.ok->(0<=n/\n<=2)->A 43 #[.agg #[.slice (some ⟨gb,go,none⟩) p.funcs.length f2,Va,I p.entry,I p.handler,Vd,Vb],.agg #[U (a.lo:Int),U (a.hi:Int)],I n] W (df W (aeJ p.data 0 a n))) from⟨g2,g3,g4⟩)
 have HG:=Ja (show ∀W,O w W->T W gb (go+f) (.slice ka bl.length kc)/\wX W B (.slice ka bl.length kc) bl/\B<=W.heap.size/\gb<W.heap.size from fun W hb=>⟨zV (hb.mono hB) d1 g0,d3.below yT (hb.mono hB),Jn hB hb.size,Jy d1 (Jn hB hb.size)⟩);have HF:=Ja (Jb hF (Jb hR u));have k7:decide ((f:Int)<0)=false:=decide_eq_false Zo;have k6:decide ((p.funcs.length:Int)<=(f:Int))=false:=decide_eq_false Zo;have k5:decide (p.funcs.length<=f)=false:=decide_eq_false Zo;have l0:bl.length<=2000000:=u.1;clear hp hB hs hv g2 g3 g4 g0 d3 d1 f6 q hF hR u hf;unfold yH;go_enter Tryz.func16,Tryz.ntmps16;go_upto_region 2 with(go_at_call 15;go_must (refine(HC.out.2.1 _ HX.out.1).mono ?_;rintro e w1 ⟨ra,rn,rc,rfl,d4,f3⟩))
 have a7:=zH d4 HX.out.2 c5;have m:=Ja (Jb (HX.out.1.trans (d4.mono HX.out.1.size)) (Jb a7 f3));clear hX x0 x1 x2 x3 x4 x5 d4 a7 f3 c5;have f0:=lt_of_block m.out.2.1
 go_cut [5,31] from 14 to 31 (fun s v wx=>s=.slice ra rn rc/\v=.bool false/\Hid (O w1 wx))
 case first=>
  have y0:=zA (i:=0) m.out.2.1 rfl;have y1:=zA (i:=1) m.out.2.1 rfl;have y2:=zA (i:=2) m.out.2.1 rfl;have y3:=zA (i:=3) m.out.2.1 rfl;have y4:=zA (i:=4) m.out.2.1 rfl;have y5:=zA (i:=5) m.out.2.1 rfl;have hq:=fun W=>Lib.run_eql_slice_nil (P:=Tryz.prog) W 34 45 ra rn rc 0 0 Tryz.underlying34
  cases ra with
  |none=>
   go_wp2_with (go_at_call 35;go_must (refine(HC.out.1 _ m.out.1).mono ?_;rintro e w2 ⟨rfl,f9⟩;have a7:=zH f9 m.out.2.1 f0;have z0:=zA (i:=0) a7 rfl;have m2:=lt_of_block a7))
   go_meet
   exact⟨rfl,rfl,Ja f9⟩
  |some ra=>
   go_wp2_with fail;go_meet;exact⟨rfl,rfl,Ja (Below.refl _ _)⟩
 case rest=>
  obtain⟨rfl,rfl,HW⟩:=hcut;obtain⟨ii,i1,g8,g6,g5⟩:=info_parts Tryz.info_int;have a4:=zH HW.out m.out.2.1 f0;have y0:=zA (i:=0) a4 rfl;obtain⟨yg,_,n4,m5⟩:=HG.out wc (m.out.1.trans (HW.out.mono m.out.1.size));have h7:=lt_of_block a4;obtain⟨t2,c8⟩:∃t,w.heap.size=t:=⟨_,rfl⟩
  obtain⟨rb,a6⟩:∃rb:Nat,bl≠ []->ra=some ⟨rb,0,none⟩/\rn=R.length/\rc=R.length/\L wc rb (R.flatMap wb).toArray 45:=by
   rcases m.out.2.2 with⟨h0,_⟩|⟨h0,h1,h2,rb,h3,h4⟩
   ·exact⟨0,fun h=>absurd h0 h⟩
   ·exact⟨rb,fun _=>⟨h3,h1,h2,zH HW.out h4 (lt_of_block h4)⟩⟩
  have HS:=Ja (show ObS w wc w.heap.size rb #[.slice (some ⟨gb,go,none⟩) p.funcs.length f2,Va,I p.entry,I p.handler,Vd,Vb] R bl from⟨m.out.1.trans (HW.out.mono m.out.1.size),a4,fun h0=>(a6 h0).2.2.2⟩);have k0:=Ja (show bl≠ []->ra=some ⟨rb,0,none⟩/\rn=R.length/\rc=R.length from fun h=>⟨(a6 h).1,(a6 h).2.1,(a6 h).2.2.1⟩);rw[c8] at HS y0 h7 HG HC ⊢;have HT:=Ja c8;clear c8;have k3:=Ja (show B<=t2 by rw[<-HT.out];exact(HG.out w (Below.refl _ _)).2.2.1);have b4:wc.ownsRow t2 3 1 (F) 0 ((obs p.data R ([]:List IOp)).map zN):=Jv _ _ _ _;have k2:=Ja b4;clear a6 b4 a4;go_wp2;clear y0 yg
  go_loopw [6,39] (fun sv kv wx=>∃(k:Nat) (oa:Option Addr) (on oc:Nat),k<=bl.length/\sv=.slice oa on oc/\kv=I k/\Hid (on=(obs p.data R ((bl.take k).flatMap (·.ops))).length/\ObS w wx t2 rb #[.slice (some ⟨gb,go,none⟩) p.funcs.length f2,Va,I p.entry,I p.handler,Vd,Vb] R bl/\wx.ownsRow t2 3 1 (.slice oa on oc) on ((obs p.data R ((bl.take k).flatMap (·.ops))).map zN))) (fun _ kv _=>bl.length-(intOf kv).toNat)
  case atStart=>exact⟨0,none,0,0,Jt _,rfl,rfl,Ja ⟨rfl,HS.out,k2.out⟩⟩
  case round=>
   obtain⟨k,oa,on,oc,hk,rfl,rfl,HK⟩:=hrel
   by_cases g:k<bl.length
   ·have b0:(k:Int)<(bl.length:Int):=Zo;obtain⟨b,hb⟩:∃b,bl[k]? =some b:=⟨_,Jd g⟩
    have h9:bl≠ []:=fun e=>by rw[e] at g;exact absurd g (Nat.not_lt_zero _)
    obtain⟨_,d2,a3,_⟩:=HG.out wr HK.out.2.1.below;obtain⟨bb,bo,i0,f7,c2,c3,h64,pv,ov,tv,c0,c1,c4,d0,a9,c7⟩:=d2.get hb;obtain⟨pa,pc,rfl,l9,l8⟩:=d0.form;obtain⟨qa,qc,rfl,l7,l5⟩:=a9.form;obtain⟨ta,tc,rfl,l4,l3⟩:=c7.form;subst i0;have l1:bb<wr.heap.size:=Jy f7 a3;have f5:=HF.out.2.2.2 b (Ji hb);have m1:b.ops.length<=2000000:=f5.2.1;obtain⟨Y,hY⟩:∃Y,wr.alloc (G #[.slice pa b.params.length pc,.slice qa b.ops.length qc,I b.term.kind,I b.term.a,.slice ta b.term.to.length tc] 84)=Y:=⟨_,rfl⟩
    have b6:O wr Y:=by rw[<-hY];exact(Below.refl _ _).alloc (Je _) _
    have e7:L Y wr.heap.size #[.slice pa b.params.length pc,.slice qa b.ops.length qc,I b.term.kind,I b.term.a,.slice ta b.term.to.length tc] 84:=by rw[<-hY];exact zI rfl
    have HY:=Ja (show ObS w Y t2 rb #[.slice (some ⟨gb,go,none⟩) p.funcs.length f2,Va,I p.entry,I p.handler,Vd,Vb] R bl/\Y.ownsRow t2 3 1 (.slice oa on oc) on ((obs p.data R ((bl.take k).flatMap (·.ops))).map zN)/\L Y wr.heap.size #[.slice pa b.params.length pc,.slice qa b.ops.length qc,I b.term.kind,I b.term.a,.slice ta b.term.to.length tc] 84/\mN Y B (.slice qa b.ops.length qc) b.ops from⟨HK.out.2.1.keep b6,p7 HK.out.2.2 b6 (Je _),e7,a9.below xA (b6.mono a3)⟩);have d:=Ja (Jb hb (Jb h9 (Jb g HK.out.1)));clear d2 hb f7 d0 a9 c7 b6 e7 f5 h64 g a3;go_upto_region 8 with fail;clear hY c0 c1 c2 c3 c4;obtain⟨t8,e8⟩:∃t,wr.heap.size=t:=⟨_,rfl⟩
    rw[e8] at HY ⊢;clear e8;have z1:T Y t8 1 (.slice qa b.ops.length qc):=zA HY.out.2.2.1 rfl;go_wp2;clear z1
    go_loopw [6,46] (fun sv jv wx=>∃(j:Nat) (oa:Option Addr) (on oc:Nat),j<=b.ops.length/\sv=.slice oa on oc/\jv=I j/\Hid (on=(obs p.data R ((bl.take k).flatMap (·.ops)++b.ops.take j)).length/\ObS w wx t2 rb #[.slice (some ⟨gb,go,none⟩) p.funcs.length f2,Va,I p.entry,I p.handler,Vd,Vb] R bl/\wx.ownsRow t2 3 1 (.slice oa on oc) on ((obs p.data R ((bl.take k).flatMap (·.ops)++b.ops.take j)).map zN)/\Below t2 Y wx)) (fun _ jv _=>b.ops.length-(intOf jv).toNat)
    case atStart=>exact⟨0,oa,on,oc,Jt _,rfl,rfl,Ja ⟨by rw[Uc,Ua];exact d.out.2.2.2,HY.out.1,by rw[Uc,Ua];exact HY.out.2.1,Below.refl _ _⟩⟩
    case round=>
     obtain⟨j,oa,on,oc,hj,rfl,rfl,HJ⟩:=hrel
     by_cases g:j<b.ops.length
     ·have b0:(j:Int)<(b.ops.length:Int):=Zo;obtain⟨o,ho⟩:∃o,b.ops[j]? =some o:=⟨_,Jd g⟩
      obtain⟨qb,qo,h8,f4,e0,e1,e2,e3,e4,h64,av,e5,g1⟩:=(HY.out.2.2.2.below xA (HJ.out.2.2.2.mono k3.out)).get ho;obtain⟨aa,ac,rfl,_,_⟩:=g1.form;subst h8;have a3:B<=wr.heap.size:=(HG.out wr HJ.out.2.1.below).2.2.1;have k4:qb<wr.heap.size:=Jy f4 a3;obtain⟨c,hc⟩:∃c,o.code=c:=⟨_,rfl⟩
      obtain⟨y,hy⟩:∃y,o.a=y:=⟨_,rfl⟩
      rw[hc] at e0;rw[hy] at e2;obtain⟨Z,hZ⟩:∃Z,wr.alloc (G #[I c,I o.res,I y,I o.b,U (o.n:Int),.slice aa o.args.length ac] 76)=Z:=⟨_,rfl⟩
      have b5:O wr Z:=by rw[<-hZ];exact(Below.refl _ _).alloc (Je _) _
      have b8:L Z wr.heap.size #[I c,I o.res,I y,I o.b,U (o.n:Int),.slice aa o.args.length ac] 76:=by rw[<-hZ];exact zI rfl
      have l:=Ja (show ObS w Z t2 rb #[.slice (some ⟨gb,go,none⟩) p.funcs.length f2,Va,I p.entry,I p.handler,Vd,Vb] R bl/\Z.ownsRow t2 3 1 (.slice oa on oc) on ((obs p.data R ((bl.take k).flatMap (·.ops)++b.ops.take j)).map zN)/\L Z wr.heap.size #[I c,I o.res,I y,I o.b,U (o.n:Int),.slice aa o.args.length ac] 76/\Below t2 Y Z from⟨HJ.out.2.1.keep b5,p7 HJ.out.2.2.1 b5 (Je _),b8,HJ.out.2.2.2.trans (b5.mono HJ.out.2.1.lt)⟩)
      have k9:on<=4000000000000:=by
       have h1:=HJ.out.1;have h2:=obs_le p.data R ((bl.take k).flatMap (·.ops)++b.ops.take j);have h3:=ahj (bl.take k) fun x hx=>(HF.out.2.2.2 x (List.mem_of_mem_take hx)).2.1
       rw[Jk,Oc] at h2;rw[Oc] at h3;have h4:=d.out.2.2.1;omega
      have HO:=Ja (Jb ho (Jb hc (Jb hy (Jb g HJ.out.1))));clear ho h64 g1 b5 b8 g f4 a3;go_upto_region 11 with fail;clear hZ e0 e1 e2 e3 e4 e5 hc hy;obtain⟨b1,c9⟩:∃t,wr.heap.size=t:=⟨_,rfl⟩
      rw[c9] at l ⊢;clear c9;have z0:T Z b1 0 (I c):=zA l.out.2.2.1 rfl
      by_cases a2:c=18∨c=19∨c=20∨c=21
      ·have a1:aeV o=true:=by rw[agy,HO.out.2.1];exact decide_eq_true a2
       have b9:=acc_use (HF.out.1 d.out.2.1) d.out.1 (Ji HO.out.1) a1;rw[HF.out.2.1,HO.out.2.2.1] at b9;obtain⟨yn,rfl⟩:∃yn:Nat,y=yn:=⟨y.toNat,by omega⟩
       have b2:yn<R.length:=by have:=b9.2;rw[Ni] at this;exact this
       obtain⟨rfl,rfl,rfl⟩:=k0.out d.out.2.1
       have n3:R.length<=65536:=by
        have h1:=(lx (HF.out.1 d.out.2.1)).2;rw[HF.out.2.1] at h1;have h2:=(HF.out.1 d.out.2.1).cnt;omega
       obtain⟨a,ha⟩:∃a,R.getD yn ⟨0,0⟩=a:=⟨_,rfl⟩
       have d5:a.ok:=by
        have h1:=(lx (HF.out.1 d.out.2.1)).1;rw[HF.out.2.1] at h1;refine h1 a ?_;rw[<-ha,Jj,Jd b2];exact Uf b2
       obtain⟨z,hz⟩:∃z,ahf p.data R o=z:=⟨_,rfl⟩
       have e6:∀n,ahZ o=n->aeJ p.data 0 a n=z:=fun n hn=>by rw[<-hz,<-ha,<-hn];unfold ahf;rw[HO.out.2.2.1,Ni]
       have a5:obs p.data R ((bl.take k).flatMap (·.ops)++b.ops.take (j+1))=obs p.data R ((bl.take k).flatMap (·.ops)++b.ops.take j)++ [z]:=by
        rw[em HO.out.1,<-Nv,afN a1,hz]
       have HA:=Ja (Jb a5 (Jb d5 (Jb e6 (Jb a1 ha))));have hrl:=lt_of_block (l.out.1.row d.out.2.1);clear b9 ha d5 hz e6 a5 a1
       have i2:((c==18)=true/\ahZ o=2)∨((c==18)=false/\(c==20)=true/\ahZ o=2)∨((c==18)=false/\(c==20)=false/\(c==19)=true/\ahZ o=1)∨((c==18)=false/\(c==20)=false/\(c==19)=false/\(c==21)=true/\ahZ o=1):=by
        unfold ahZ;rw[HO.out.2.1];rcases a2 with rfl|rfl|rfl|rfl
        ·exact .inl ⟨rfl,rfl⟩
        ·exact .inr (.inr (.inl ⟨rfl,rfl,rfl,rfl⟩))
        ·exact .inr (.inl ⟨rfl,rfl,rfl⟩)
        ·exact .inr (.inr (.inr ⟨rfl,rfl,rfl,rfl,rfl⟩))
       clear a2;rcases i2 with⟨b7,u⟩|⟨b7,d7,u⟩|⟨b7,d7,h6,u⟩|⟨b7,d7,h6,l2,u⟩
       all_goals (
        have HS:=Ja (show ∀w',ObT w w' t2 rb #[.slice (some ⟨gb,go,none⟩) p.funcs.length f2,Va,I p.entry,I p.handler,Vd,Vb] R bl b1 #[I c,I o.res,I yn,I o.b,U (o.n:Int),.slice aa o.args.length ac]->(T w' t2 0 (.slice (some ⟨gb,go,none⟩) p.funcs.length f2)/\T w' t2 1 Va/\T w' t2 2 (I p.entry)/\T w' t2 3 (I p.handler)/\T w' t2 4 Vd/\T w' t2 5 Vb)/\T w' b1 2 (I yn)/\T w' rb (yn*2) (U (a.lo:Int))/\T w' rb (yn*2+1) (U (a.hi:Int)) from fun W h=>⟨⟨zA h.s.p2 rfl,zA h.s.p2 rfl,zA h.s.p2 rfl,zA h.s.p2 rfl,zA h.s.p2 rfl,zA h.s.p2 rfl⟩,zA h.op rfl,by rw[<-HA.out.2.2.2.2];exact(h.s.rcell d.out.2.1 b2).1,by rw[<-HA.out.2.2.2.2];exact(h.s.rcell d.out.2.1 b2).2⟩)
        have k1:=Ja (show ∀n W,ahZ o=n->Below t2 w W->A 43 #[.agg #[.slice (some ⟨gb,go,none⟩) p.funcs.length f2,Va,I p.entry,I p.handler,Vd,Vb],.agg #[U (a.lo:Int),U (a.hi:Int)],I n] W (df W z) from fun n W hn hb=>by
         rw[<-HA.out.2.2.1 n hn];exact HC.out.2.2 a n W hb HA.out.2.1 (by rw[<-hn];unfold ahZ;split<;>decide))
        have j2:=Ja u;clear u
        first|go_upto_region 14 with fail|go_upto_region 17 with fail
        clear z0;refine wp_region_noPanic ?_;refine yQ (S:=(fun w'=>(T w' t2 0 (.slice (some ⟨gb,go,none⟩) p.funcs.length f2)/\T w' t2 1 Va/\T w' t2 2 (I p.entry)/\T w' t2 3 (I p.handler)/\T w' t2 4 Vd/\T w' t2 5 Vb)/\T w' b1 2 (I yn)/\T w' rb (yn*2) (U (a.lo:Int))/\T w' rb (yn*2+1) (U (a.hi:Int)))) 10 Zk (HS.out _ ⟨l.out.1.drew,l.out.2.2.1⟩) (fun hHeld=>?_);refine Tl 0 ?_
        try simp only[Yp]
        refine Tl 1 ?_
        try simp only[Yp]
        refine Tl 2 ?_
        try simp only[Yp]
        refine Tl 3 ?_
        try simp only[Yp]
        refine Tl 4 ?_
        try simp only[Yp]
        refine Tl 5 ?_
        try simp only[Yp]
        refine Tl 6 ?_
        try simp only[Yp]
        refine z8 (rs:=[7]) Zk Zs ?_;refine zS.cons (o:=_) rfl (fun K hK=>?_) ?_
        ·skip
         (go_simp;refine(k1.out _ _ j2.out l.out.1.below.drew).mono ?_;rintro e w5 ⟨rfl,f8⟩;have a8:O Z w5:=(Below.refl Z.heap.size Z).drew.trans f8;clear f8;have H5:=Ja (Jb (ObT.keep ⟨l.out.1,l.out.2.2.1⟩ a8) (Jb (p7 l.out.2.1 a8 (Je _)) (Jb a8 (show t2<=(w5.alloc (G #[I z] 3)).heap.size by have:=l.out.1.lt;have:=a8.size;simp;omega))));clear a8)
         refine hK.out _ _ (HS.out _ H5.out.1) (fun hHeld=>?_);clear hK K
         try simp only[Yp]
         refine z8 (rs:=[8]) Zk Zs ?_;refine zS.cons (o:=_) rfl (fun K hK=>?_) ?_
         ·skip
          go_simp;refine hK.out _ _ (HS.out _ (H5.out.1.keep ((Below.refl _ _).alloc (Je _) _))) (fun hHeld=>?_);clear hK K
          try simp only[Yp]
          refine z8 (rs:=[9]) Zk Zs ?_;refine zS.cons (o:=_) rfl (fun K hK=>?_) ?_
          ·skip
           (refine yG (by rfl) _ _ _ (by rfl) t2 3 ii (I 0) 1 8 Tryz.underlying22 i1 g8 g6 g5 rfl Zo (.slice oa on oc) on ((obs p.data R ((bl.take k).flatMap (·.ops)++b.ops.take j)).map zN) (by rfl) (H5.out.2.1.alloc _) (.slice (some ⟨w5.heap.size,0,none⟩) 1 1) 1 [I z] (by rfl) (yM.one (zI rfl) rfl) (by unfold maxLen;omega) Zo H5.out.2.2.2 ?_;intro va9 vc9 w9 b3 a0 h5;(try dsimp only))
           refine hK.out _ _ (HS.out _ ((H5.out.1.keep ((Below.refl _ _).alloc (Je _) _)).grown (H5.out.2.1.alloc _) a0)) (fun hHeld=>?_);clear hK K
           try simp only[Yp]
           refine z8 (rs:=[10]) Zk Zs ?_;refine zS.last (o:=_) rfl (fun K hK=>?_);go_simp;refine hK.out _ _ ?_;clear hK K
           try simp only[Yp]
           refine xj Zk (NoPanic.normal ?_) _
           have d6:=Ja (show ObS w w9 t2 rb #[.slice (some ⟨gb,go,none⟩) p.funcs.length f2,Va,I p.entry,I p.handler,Vd,Vb] R bl/\w9.ownsRow t2 3 1 (.slice va9 (on+1) vc9) (on+1) ((obs p.data R ((bl.take k).flatMap (·.ops)++b.ops.take (j+1))).map zN)/\Below t2 Y w9 from by
            have h2:=(H5.out.1.s.keep ((Below.refl _ _).alloc (Je _) (G #[I z] 3))).grown (H5.out.2.1.alloc _) a0;have h4:Below t2 Y (w5.alloc (G #[I z] 3)):=(l.out.2.2.2.trans (H5.out.2.2.1.mono l.out.1.lt)).alloc H5.out.1.s.lt _
            exact⟨h2,by rw[HA.out.1,Js];exact b3,h4.grown a0 H5.out.2.2.2 (own_ge H5.out.2.1)⟩)
           clear b3 a0 h5 hHeld;go_wp2_with fail;go_roundw
           case rel=>exact⟨j+1,va9,on+1,vc9,HO.out.2.2.2.1,rfl,by go_num,Ja ⟨by rw[HA.out.1,Jk,<-HO.out.2.2.2.2];rfl,d6.out.1,d6.out.2.1,d6.out.2.2⟩⟩
           case measure=>have:=HO.out.2.2.2.1;simp[intOf];omega
          exact zS.nil
         exact zS.nil
        exact zS.nil)
      ·have a1:aeV o=false:=by rw[agy,HO.out.2.1];exact decide_eq_false a2
       have a5:obs p.data R ((bl.take k).flatMap (·.ops)++b.ops.take (j+1))=obs p.data R ((bl.take k).flatMap (·.ops)++b.ops.take j):=by
        rw[em HO.out.1,<-Nv,aga a1]
       have HA:=Ja a5;have n8:(c==18)=false:=Ze;have n7:(c==19)=false:=Ze;have n6:(c==20)=false:=Ze;have n5:(c==21)=false:=Ze;clear a5 a1 a2;go_wp2;go_roundw
       case rel=>exact⟨j+1,oa,on,oc,HO.out.2.2.2.1,rfl,by go_num,Ja ⟨by rw[HA.out];exact HO.out.2.2.2.2,l.out.1,by rw[HA.out];exact l.out.2.1,l.out.2.2.2⟩⟩
       case measure=>have:=HO.out.2.2.2.1;simp[intOf];omega
     ·obtain rfl:j=b.ops.length:=by omega
      have b0:¬(b.ops.length:Int)<(b.ops.length:Int):=Zo;clear hj g;go_wp2;go_roundw
      case rel=>exact⟨k+1,oa,on,oc,d.out.2.2.1,rfl,by go_num,Ja ⟨by rw[afF d.out.1];have:=HJ.out.1;rw[Nl] at this;exact this,HJ.out.2.1,by rw[afF d.out.1];have:=HJ.out.2.2.1;rw[Nl] at this;exact this⟩⟩
      case measure=>have:=d.out.2.2.1;simp[intOf];omega
   ·obtain rfl:k=bl.length:=by omega
    have b0:¬(bl.length:Int)<(bl.length:Int):=Zo;have HE:=Ja (show ag7 p.data (tr p bl) bl=obs p.data R ((bl.take bl.length).flatMap (·.ops)) by rw[HF.out.2.1,Nl];rfl);clear hk g;go_wp2;go_ret;refine⟨_,rfl,?_,by rw[HT.out];exact HK.out.2.1.below⟩;rw[HE.out,<-HK.out.1,HT.out];exact HK.out.2.2
end Go.Proofs.YtoahcpkibpomcaaGreat
