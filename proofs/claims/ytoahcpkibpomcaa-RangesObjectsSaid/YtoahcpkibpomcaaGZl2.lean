/- Part of a proof. -/
import Derived.Test.YtoahcpkibpomcaaGZPd
set_option linter.all false
set_option maxHeartbeats 16000000
set_option maxRecDepth 100000
namespace Go.Proofs.Ytoahcpkibpomcaa
open Go.RowKit
variable {M c k m ob t2:Nat}{o:IOp}{l:List IOp}{W w wx:World}{bl:List IBlk}{xs:List Nat}{K:SK}{t:Slv}{oc pc:Array Value}
structure SmB (N:Nat) (b:IBlk):Prop where
 par:b.params.length<=N
 ops:b.ops.length<=N
 tos:b.term.to.length<=N
 oarg:∀o∈b.ops,o.args.length<=N
 earg:∀e∈b.term.to,e.args.length<=N
structure SmP (N:Nat) (p:IProg):Prop where
 fn:p.funcs.length<=N
 fs:∀f∈p.funcs,f.length<=N/\∀b∈f,SmB N b
 ar:p.args.length<=N
 da:p.data.length<=N
 ba:p.banks.length<=N
theorem SmB.mono{N:Nat}(c:N<=M){b:IBlk}(h:SmB N b):SmB M b:=⟨by have:=h.par;omega,by have:=h.ops;omega,by have:=h.tos;omega,fun o ho=>by have:=h.oarg o ho;omega,fun o ho=>by have:=h.earg o ho;omega⟩
theorem SmP.mono{N:Nat}(c:N<=M){p:IProg}(h:SmP N p):SmP M p:=
 ⟨by have:=h.fn;omega,fun f hf=>⟨by have:=(h.fs f hf).1;omega,fun b hb=>((h.fs f hf).2 b hb).mono c⟩,by have:=h.ar;omega,by have:=h.da;omega,by have:=h.ba;omega⟩
theorem SmP.small {N:Nat}{p:IProg}(h:SmP N p)(c:N<=2000000):SmallP p:=by
 have h:=h.mono c;exact⟨⟨h.fn,fun f hf=>⟨⟨(h.fs f hf).1,fun b hb=>⟨((h.fs f hf).2 b hb).par,((h.fs f hf).2 b hb).ops,((h.fs f hf).2 b hb).tos⟩⟩,fun b hb=>⟨((h.fs f hf).2 b hb).oarg,((h.fs f hf).2 b hb).earg⟩⟩⟩,h.ar,h.da,h.ba⟩
theorem SmP.sized {N:Nat}{p:IProg}(h:SmP N p)(c:N<=65536):mW p:=fun f hf=>
 ⟨(((h.mono (show N<=2000000 by omega)).small (Je _)).fn.2 f hf).1,fun b hb=>by have:=((h.fs f hf).2 b hb).par;omega⟩
theorem acZ {f:List IBlk}{b:IBlk}(h:b∈f):b.ops.length<=opsN f:=by
 unfold opsN
 induction f with
 |nil=>cases h
 |cons x f ih=>
  rw[Ql,List.sum_cons];rcases Jq.1 h with rfl|h
  ·omega
  ·have:=ih h;omega
theorem opF_args{p:IProg}(d:∀i,p.args.getD i 0<=8)(h:opF p o=true):o.args.length<=8:=by
 unfold opF at h;rw[Jm] at h;have c:=h.2
 split at c
 ·simp only[Jm,decide_eq_true_eq] at c;have:=d o.a.toNat;omega
 ·split at c
  ·simp only[Jm,decide_eq_true_eq] at c;omega
  ·simp only[Jm,decide_eq_true_eq] at c;omega
theorem acK (s:List Int):SmP 15000 (uR s):=by
 have l:=sm s;refine⟨by rw[qA];omega,fun f hf=>?_,by show(yS s (mdN s)).length<=_;rw[yY];omega,by show 3<=15000;decide,by show 1<=15000;decide⟩;obtain⟨k,hk⟩:=Ny hf;have c:=(Jh.1 hk).1;rw[qA] at c;rcases kz s c with⟨h,_⟩|h
 ·rw[hk] at h;cases h;exact⟨by simp,fun b hb=>by cases hb⟩
 ·rw[hk] at h;cases h;obtain⟨pl,j,_⟩:=gJ (gi s k) (zf s k).2;have g:=lz s k c;have ho:=j.ops;obtain⟨cur,vals,d⟩:=j;generalize xR (xC s k) (zf s k).2=M at *;unfold MS.sz at g;refine⟨by omega,fun b hb=>?_⟩;obtain⟨i,hi⟩:=Ny hb;have q:=d.sml i b hi;have m:=acZ hb;refine⟨by omega,by omega,by omega,fun o hoo=>?_,fun e he=>?_⟩
  ·have:=opF_args (fun i=>by have:=gP s i;show(yS s (mdN s)).getD i 0<=8;omega) (ho b hb o hoo);omega
  ·obtain⟨s',u,bs,_,_,e3,e4,_⟩:=(d.term i b hi (fun e=>e)).2.1 e he;have:=(d.sml s' bs e3).1;omega
def objT (o:IObj)(a:Rg)(n:Int):Prop:=o.bank=-1/\o.addr<=a.lo/\(a.hi:Int)+n<=(o.addr:Int)+o.size
theorem objGo_at{l:List IObj}{o:IObj}(h:l[k]? =some o)(a:Rg)(n:Int):(objT o a n->mc (l.drop k) k a n=k)/\(¬objT o a n->mc (l.drop k) k a n=mc (l.drop (k+1)) (k+1:Nat) a n):=by
 have hk:=(Jh.1 h).1;have c:l.drop k=o::l.drop (k+1):=by rw[Qn hk,(Jh.1 h).2]
 rw[c,show((k+1:Nat):Int)=(k:Int)+1 by omega];rw[mc];constructor
 ·intro ht;exact if_pos ht
 ·intro ht;exact if_neg ht
theorem af5{B:Nat}{V:PV}{p:IProg}(hp:ProgIn w B V p)(hB:B<=w.heap.size){a:Rg}(ha:a.ok)(n:Int)(hn:0<=n/\n<=2):
 T 24 #[yH V p,.agg #[.int .u16 (a.lo:Int),.int .u16 (a.hi:Int)],I n] w (j4 w (mc p.data 0 a n)):=by
 obtain⟨Vf,Va,Vd,Vb⟩:=V;obtain⟨da,dc,e3,b5,b4⟩:=hp.data.form;have a5:=hp.data;have b0:Vd=.slice da p.data.length dc:=e3;subst b0;have b6:=ha.1;have b7:=ha.2;have b3:=hn.1;have b2:=hn.2;obtain⟨G,hG⟩:∃G,mc p.data 0 a n=G:=⟨_,rfl⟩
 rw[hG];have HG:=Ja hG;unfold yH;obtain⟨X,hX⟩:∃X,(w.alloc (A #[Vf,Va,I p.entry,I p.handler,.slice da p.data.length dc,Vb] 44)).alloc (A #[.int .u16 (a.lo:Int),.int .u16 (a.hi:Int)] 48)=X:=⟨_,rfl⟩
 have l:O w X:=by rw[<-hX];exact((Below.refl _ _).alloc (Je _) _).alloc Zs _
 have a2:Q X w.heap.size #[Vf,Va,I p.entry,I p.handler,.slice da p.data.length dc,Vb] 44:=by rw[<-hX];exact zB (zI rfl)
 have a1:Q X (w.heap.size+1) #[.int .u16 (a.lo:Int),.int .u16 (a.hi:Int)] 48:=by rw[<-hX];exact zI Zs
 have g:=Ja (show O w X/\Q X w.heap.size #[Vf,Va,I p.entry,I p.handler,.slice da p.data.length dc,Vb] 44/\Q X (w.heap.size+1) #[.int .u16 (a.lo:Int),.int .u16 (a.hi:Int)] 48/\kq X B (.slice da p.data.length dc) p.data/\B<=X.heap.size from⟨l,a2,a1,a5.below tZ (l.mono hB),Jn hB l.size⟩);clear a5 hp l a2 a1 hG ha hn hB;go_enter Try.func24,Try.ntmps24;go_upto_region 1 with fail;clear hX;obtain⟨t3,a4⟩:∃t,w.heap.size=t:=⟨_,rfl⟩
 obtain⟨t4,a3⟩:∃t,w.heap.size+1=t:=⟨_,rfl⟩
 have HT:=Ja g.out.1;rw[a3] at g ⊢;rw[a4] at g ⊢;clear a4 a3;have d4:U X t3 4 (.slice da p.data.length dc):=zA g.out.2.1 rfl;go_wp2;clear d4
 go_loopw [12] (fun kv wx=>∃k:Nat,k<=p.data.length/\kv=I k/\Hid (mc (p.data.drop k) k a n=G/\O X wx)) (fun kv _=>p.data.length-(intOf kv).toNat)
 case atStart=>exact⟨0,Jt _,rfl,Ja ⟨HG.out,Below.refl _ _⟩⟩
 case round=>
  obtain⟨k,hk,rfl,c⟩:=hrel;have j:=zH c.out.2 g.out.2.2.1 (lt_of_block g.out.2.2.1);have x0:U wr t4 0 (.int .u16 (a.lo:Int)):=zA j rfl;have x1:U wr t4 1 (.int .u16 (a.hi:Int)):=zA j rfl;have b8:=lt_of_block j;clear j
  by_cases a0:k<p.data.length
  ·have a8:(k:Int)<(p.data.length:Int):=Zo;obtain⟨o,ho⟩:∃o,p.data[k]? =some o:=⟨_,Jd a0⟩
   obtain⟨ob,oq,a9,a6,o0,o1,o2,ob64,oa64,os64⟩:=(g.out.2.2.2.1.below tZ (c.out.2.mono g.out.2.2.2.2)).get ho;subst a9;have b1:ob<wr.heap.size:=Jy a6 (Jn g.out.2.2.2.2 c.out.2.size);have d:=Ja (Jb (objGo_at ho a n) (Jb a0 ob64));clear ho ob64 a0 a6;obtain⟨ov,u⟩:∃v,o.bank=v:=⟨_,rfl⟩
   obtain⟨oA,y⟩:∃v,o.addr=v:=⟨_,rfl⟩
   obtain⟨oS,x⟩:∃v,o.size=v:=⟨_,rfl⟩
   have i:=Ja (Jb u (Jb y x));rw[u] at o0;rw[y] at o1 oa64;rw[x] at o2 os64;clear u y x;have hT:∀q:Prop,Decidable q->True:=fun _ _=>trivial
   clear hT
   by_cases m:ov=-1
   ·by_cases h2:oA<=a.lo
    ·by_cases h3:(a.hi:Int)+n<=(oA:Int)+oS
     ·have h:=Ja ((d.out.1.1 ⟨i.out.1.trans m,by rw[i.out.2.1];exact h2,by rw[i.out.2.1,i.out.2.2];exact h3⟩).symm.trans c.out.1);subst m;go_wp2;go_ret;exact⟨by rw[<-h.out];rfl,(HT.out.trans (c.out.2.mono HT.out.size)).trans ((Below.alloc (Below.refl _ _) (Je _) _).mono (Jn HT.out.size c.out.2.size))⟩
     ·have h:=Ja ((d.out.1.2 (fun t=>h3 (by have:=t.2.2;rw[i.out.2.1,i.out.2.2] at this;exact this))).symm.trans c.out.1);subst m;go_wp2;go_roundw
      case rel=>exact⟨k+1,d.out.2.1,by go_num,Ja ⟨h.out,c.out.2.trans ((Below.alloc (Below.refl _ _) (Je _) _).mono c.out.2.size)⟩⟩
      case measure=>have:=d.out.2.1;simp[intOf];omega
    ·have h:=Ja ((d.out.1.2 (fun t=>h2 (by have:=t.2.1;rw[i.out.2.1] at this;exact this))).symm.trans c.out.1);have b9:a.lo<oA:=Zo;subst m;clear h2;go_wp2;go_roundw
     case rel=>exact⟨k+1,d.out.2.1,by go_num,Ja ⟨h.out,c.out.2.trans ((Below.alloc (Below.refl _ _) (Je _) _).mono c.out.2.size)⟩⟩
     case measure=>have:=d.out.2.1;simp[intOf];omega
   ·have h:=Ja ((d.out.1.2 (fun t=>m (i.out.1.symm.trans t.1))).symm.trans c.out.1);have c0:(ov==(-1:Int))=false:=by simpa using m
    go_wp2;go_roundw
    case rel=>exact⟨k+1,d.out.2.1,by go_num,Ja ⟨h.out,c.out.2.trans ((Below.alloc (Below.refl _ _) (Je _) _).mono c.out.2.size)⟩⟩
    case measure=>have:=d.out.2.1;simp[intOf];omega
  ·obtain rfl:k=p.data.length:=by omega
   have a8:¬(p.data.length:Int)<(p.data.length:Int):=Zo;have h:=Ja (show(-1:Int)=G by have:=c.out.1;rw[List.drop_length] at this;exact this);go_wp2;go_ret;exact⟨by rw[<-h.out];rfl,HT.out.trans (c.out.2.mono HT.out.size)⟩
def RgsRet (w:World)(l:List Rg)(e:Ending)(w':World):Prop:=∃b,e=.returned (N b l.length l.length)/\Q w' b (l.flatMap xe).toArray 48/\w.heap.size<=b/\O w w'
theorem use_of{p:IProg}(hv:vC p=0){n:Nat}(c:p.funcs[n]? =some bl):∀b∈bl,aq (aaG bl).toNat b:=
 (dw c ((rz hv).2 n (Jh.1 c).1)).2
theorem agq {c:Int}(h:ruG c≠none):(c=3∨c=4∨c=19∨c=23)∨5<=c/\c<=17:=by
 by_cases d:(c=3∨c=4∨c=19∨c=23)∨5<=c/\c<=17
 ·exact d
 ·exfalso;apply h;simp only[ruG,putR]
  iterate 17 rw[if_neg Zo]
theorem blkW_of{p:IProg}(h:FnS p bl)(y:∀b∈bl,aq (aaG bl).toNat b){i:Nat}(hi:i<bl.length):BlkW (aaG bl).toNat p bl (xz bl i):=by
 obtain⟨b,hb⟩:∃b,bl[i]? =some b:=⟨_,Jd hi⟩
 have w:=y7 hb;have t:=y b (Ji hb);refine⟨fun o ho h0=>⟨(h.sol i hi).1 o ho,?_,?_⟩,fun e he=>?_⟩
 ·intro q;have:=(ags (h.st.opok i hi o ho)).2.1 q;omega
 ·intro h1 q hr;have d:=h.st.opok i hi o ho;have k:=((h.rng i hi).2 o ho).1;have u:=agq hr
  have ha:(zi o.code).a=true:=by
   rcases u with(e|e|e|e)|e
   ·rw[e];rfl
   ·rw[e];rfl
   ·rw[e];rfl
   ·rw[e];rfl
   ·unfold zi;rw[if_neg Zo,if_neg Zo,if_pos e]
  have h3:=k.a ha;refine⟨by omega,?_⟩
  by_cases l:(zi o.code).b=true
  ·have:=k.b l;omega
  ·unfold opF at d;rw[Jm] at d;have m:=d.2;rw[if_neg Zo,if_neg q] at m;simp only[Jm,Bool.or_eq_true,decide_eq_true_eq] at m
   have j:o.b=0:=by
    rcases m.1.1.1.2 with j|j
    ·exact absurd j l
    ·exact j
   omega
 ·have c:=h.st.trm i hi;unfold wn at c;rw[Jm,Oe] at c;have g:=c.1 e he;unfold uM at g;simp only[Jm,decide_eq_true_eq] at g;refine⟨by omega,g.2,fun x hx=>?_,fun x hx=>?_⟩
  ·rw[w] at he;have:=t.2.2 x (by unfold mE;rw[Jl];exact .inr (List.mem_flatten.2 ⟨_,Nu.2 ⟨e,he,rfl⟩,hx⟩));omega
  ·have:=(h.rng e.block.toNat Zo).1 x (by rw[show((e.block.toNat:Nat):Int)=e.block by omega];exact hx);omega
theorem ru_cells (n:Nat):madeCells (#[G 0,G 0]:Array Value) (n*2)=((List.replicate n (⟨0,0⟩:Rg)).flatMap xe).toArray:=by
 apply Array.ext
 ·simp[madeCells,xe,List.length_flatMap]
 ·intro i d h;have hi:i<n*2:=by simpa[madeCells] using d
  have g:((List.replicate n (⟨0,0⟩:Rg)).flatMap xe)=List.replicate (n*2) (G 0):=by
   clear d h hi
   induction n with
   |zero=>rfl
   |succ n ih=>rw[Qz,Qa,ih,show(n+1)*2=n*2+1+1 by omega];rfl
  simp only[g,List.getElem_toArray,List.getElem_replicate];simp only[madeCells,Array.getElem_map,Array.getElem_range];have c:i%2=0∨i%2=1:=Zo;rcases c with c|c
  ·show((#[G 0,G 0]:Array Value)[i%2]!)=_;rw[c];rfl
  ·show((#[G 0,G 0]:Array Value)[i%2]!)=_;rw[c];rfl
theorem dx{b:Nat}{o:Option Obj}(h:w.heap[b]? =o):w.drew.heap[b]? =o:=h
theorem kn_cells (n:Nat):madeCells (#[.bool false]:Array Value) n=((List.replicate n false).map Value.bool).toArray:=by rw[yA];simp
def ago (w wx:World)(K:SK)(p:IProg)(bl:List IBlk):Prop:=SlvAt wx K p bl 0 ⟨List.replicate K.n ⟨0,0⟩,List.replicate K.n false⟩/\O w wx/\w.heap.size<=K.rb/\w.heap.size<=K.kb/\w.heap.size<=K.sb
theorem slvNew{B n sb rb kb rm:Nat}{V:PV}{fv:Value}{p:IProg}(hp:ProgIn wx B V p)(h:wX wx B fv bl)(hB:B<=w.heap.size)(i:n<=1000000)(g:O w wx)
 (hm:ma wx rm 17 ruG) (hs:Q wx sb #[V.fv,V.av,I p.entry,I p.handler,V.dv,V.bv,fv,.map (some rm),N rb n n,N kb n n,I 0] 69)
 (hr:Q wx rb ((List.replicate n (⟨0,0⟩:Rg)).flatMap xe).toArray 48) (hk:Q wx kb ((List.replicate n false).map Value.bool).toArray 4)
 (c:w.heap.size<=sb/\w.heap.size<=rb/\w.heap.size<=kb/\w.heap.size<=rm) (d:sb≠rb/\sb≠kb/\sb≠rm/\rb≠kb/\rb≠rm/\kb≠rm):ago w wx ⟨sb,rb,kb,rm,n,B,V,fv⟩ p bl:=
 ⟨⟨hp,h,hm,hs,hr,hk,⟨by simp,by simp,fun a ha=>by rw[(List.mem_replicate.1 ha).2];exact⟨Je _,Jt _⟩⟩,i,⟨Jn hB c.1,Jn hB c.2.1,Jn hB c.2.2.1,Jn hB c.2.2.2⟩,d⟩,g,c.2.1,c.2.2.1,c.1⟩
theorem slvNew'{B n sb rb kb rm:Nat}{V:PV}{fv:Value}{p:IProg}(hs:Q wx sb #[V.fv,V.av,I p.entry,I p.handler,V.dv,V.bv,fv,.map (some rm),N rb n n,N kb n n,I 0] 69)
 (hB:B<=w.heap.size) (i:n<=1000000) (hp:ProgIn wx B V p) (h:wX wx B fv bl) (g:O w wx) (hm:ma wx rm 17 ruG)
 (hr:Q wx rb ((List.replicate n (⟨0,0⟩:Rg)).flatMap xe).toArray 48) (hk:Q wx kb ((List.replicate n false).map Value.bool).toArray 4)
 (d:w.heap.size<=sb/\w.heap.size<=rb/\w.heap.size<=kb/\w.heap.size<=rm) (c:sb≠rb/\sb≠kb/\sb≠rm/\rb≠kb/\rb≠rm/\kb≠rm):∃K:SK,Value.pointer (some ⟨sb,0,none⟩)=L K.sb/\K.n=n/\Hid (ago w wx K p bl):=
 ⟨_,rfl,rfl,Ja (slvNew hp h hB i g hm hs hr hk d c)⟩
theorem Try.info_range:(Try.prog.info? 48).map (fun i=>(i.zero,i.size,i.bytes))=some (some (.agg #[G 0,G 0]),2,4):=by kernel_rfl
theorem make_rgs (n:Nat)(h:n<=1000000)(w:World):(Instr.makeSlice 45 (I n) (I n)).run Try.prog w=.ok (N w.heap.size n n) (w.alloc (A ((List.replicate n (⟨0,0⟩:Rg)).flatMap xe).toArray 48)):=by
 obtain⟨i,hi,g,d,c⟩:=info_parts Try.info_range;have:=run_make (P:=Try.prog) w 45 48 i (.agg #[G 0,G 0]) Try.underlying45 hi g .i64 .i64 n n Zo (Og _) (by rw[c];omega) Zo;rw[this,d,Ni,<-ru_cells];rfl
def aeN (w:World)(ob:Nat)(xs:List Nat):Prop:=∃cur,Q w ob cur 3/\∀(k x:Nat),xs[k]? =some x->cur[k]? =some (I x)
theorem own_ord{n:Nat}{v:Value}(h:w.ownsRow c 3 1 v n (xs.map zj))(t:n=xs.length)(y:0<xs.length):∃ob oc,v=N ob n oc/\n<=oc/\oc<=9223372036854775807/\c<=ob/\aeN w ob xs:=by
 rcases h.2 with⟨_,e⟩|⟨g,i,cur,rfl,hg,j,o,m,u,l⟩
 ·omega
 ·refine⟨g,i,rfl,o,by unfold maxLen at m;omega,hg,cur,j,fun k x hk=>?_⟩;have q:=(Jh.1 hk).1;have d:(cur.toList.take (n*1))[k]? =some (zj x):=by rw[l,Jr,hk];rfl
  rw[List.getElem?_take_of_lt Zo] at d
  simpa[zj] using d
theorem aeN.to{w':World}(h:aeN w ob xs)(ht:SlvTo w w' K)(c:ob≠K.rb/\ob≠K.kb/\ob≠K.sb):aeN w' ob xs:=by
 obtain⟨cur,d,g⟩:=h;exact⟨cur,ht.blk d (lt_of_block d) c,g⟩
theorem aeN.lt(h:aeN w ob xs):ob<w.heap.size:=by obtain⟨cur,c,_⟩:=h;exact lt_of_block c
theorem aeN.cell {w:World}{ob:Nat}{xs:List Nat}(h:aeN w ob xs){k x:Nat}(hk:xs[k]? =some x):U w ob k (I x):=by
 obtain⟨cur,d,c⟩:=h;exact zA d (c k x hk)
theorem SlvAt.round{p:IProg}{c:List IBlk}{s:Slv}(h:SlvAt w K p c k s)(d:w.setCell ⟨K.sb,10,none⟩ (I (((k+1:Nat)):Int))=W):SlvAt W K p c (k+1) s/\SlvTo w W K:=by
 have j:=h.ne;have hb:Below K.B w W:=by rw[<-d];exact(Below.refl K.B w).setCell h.lt.1 _
 have ho:∀i,i≠K.sb->W.heap[i]? =w.heap[i]?:=fun i h1=>by rw[<-d,Below.heap_setCell _ _ _ _ h1]
 have g:=zD (i:=10) h.cell (I (((k+1:Nat)):Int));rw[d] at g;exact⟨⟨h.prog.below hb,h.blks.below yT hb,h.map.same (ho _ Zo),g,(ho _ Zo).trans h.row,(ho _ Zo).trans h.kn,h.oks,h.n64,h.lt,h.ne⟩,⟨hb.os,hb.tape,hb.output,hb.size,fun i _ _ _ h3=>ho i h3⟩⟩
theorem SlvAt.putR{X:World}{p:IProg}{g:List IBlk}{s:Slv}(h:SlvAt X K p g k s){v:Nat}(hv:v<K.n){a:Rg}(o:a.ok)
 (l:(X.setCell ⟨K.rb,v*2,none⟩ (G (a.lo:Int))).setCell ⟨K.rb,v*2+1,none⟩ (G (a.hi:Int))=W):
 SlvAt W K p g k ⟨s.r.set v a,s.kn⟩/\SlvTo X W K:=by
 have m:=h.ne;have c:=h.lt;have d:=zD (i:=v*2+1) (zD (i:=v*2) h.row (G (a.lo:Int))) (G (a.hi:Int));rw[l] at d
 have hb:Below K.B X W:=by
  rw[<-l];exact((Below.refl K.B X).setCell c.2.1 _).setCell c.2.1 _
 have ho:∀i,i≠K.rb->W.heap[i]? =X.heap[i]?:=fun i h1=>by
  rw[<-l,Below.heap_setCell _ _ _ _ h1,Below.heap_setCell _ _ _ _ h1]
 refine⟨⟨h.prog.below hb,h.blks.below yT hb,h.map.same (ho _ Zo),(ho _ Zo).trans h.cell,?_,(ho _ Zo).trans h.kn,⟨by show(s.r.set _ _).length=_;rw[Nd,h.oks.rl],h.oks.kl,fun x j=>?_⟩,h.n64,c,m⟩,⟨hb.os,hb.tape,hb.output,hb.size,fun i _ h1 _ _=>ho i h1⟩⟩
 ·have:=afG s.r v a (by rw[h.oks.rl];exact hv);rw[<-this];exact d
 ·rcases Qe j with j|rfl
  ·exact h.oks.ok x j
  ·exact o
def kr (t:Slv)(m:Nat):Slv:=⟨(aa1 t).take m++t.r.drop m,t.kn⟩
theorem g9{n:Nat}(h:OkS n t):(aa1 t).length=n:=by unfold aa1;rw[Nr,List.length_zip,h.rl,h.kl,Nat.min_self]
theorem afX{n:Nat}(h:OkS n t):kr t n=⟨aa1 t,t.kn⟩:=by
 unfold kr;rw[Oy (by rw[g9 h];exact Je _),List.drop_of_length_le (by rw[h.rl];exact Je _),Ua]
theorem ae2{n:Nat}(h:OkS n t)(hm:m<n):(aa1 t)[m]? =some (if t.knw (m:Int)=true then t.get (m:Int) else xr):=by
 have d:m<t.r.length:=by rw[h.rl];exact hm
 have c:m<t.kn.length:=by rw[h.kl];exact hm
 unfold aa1 Slv.knw Slv.get;rw[Jr,Jd (by rw[List.length_zip];omega)];simp[Jj,Jd d,Jd c]
theorem afZ (t:Slv)(m:Nat)(v:Int):(kr t m).knw v=t.knw v:=rfl
theorem afP{n:Nat}(h:OkS n t)(hm:m<n)(hk:t.knw (m:Int)=true):kr t (m+1)=kr t m:=by
 have c:m<t.r.length:=by rw[h.rl];exact hm
 have hg:=ae2 h hm;rw[if_pos hk] at hg;have d:t.get (m:Int)=t.r[m]:=by unfold Slv.get;simp[Jj,Jd c]
 unfold kr;rw[Nh,hg,Qn c,d];simp
theorem af7{n:Nat}(h:OkS n t)(hm:m<n)(hk:t.knw (m:Int)=false):kr t (m+1)=⟨(kr t m).r.set m xr,(kr t m).kn⟩:=by
 have c:m<t.r.length:=by rw[h.rl];exact hm
 have hg:=ae2 h hm;rw[hk,if_neg Zd] at hg;have hl:((aa1 t).take m).length=m:=by rw[Oc,g9 h];omega
 unfold kr;simp only;rw[Nh,hg,Uj _ _ Zo,hl,Qy,Qn c,Jf];simp
theorem bf{B:Nat}{V:PV}{p:IProg}(hp:ProgIn w B V p)(hB:B<=w.heap.size)(hs:∀f∈p.funcs,vZ f)(hv:vC p=0){f:Nat}(hf:p.funcs[f]? =some bl)(h0:bl≠ []):
 Calls Try.prog 8 #[yH V p,I f] w (RgsRet w (wk p bl)):=by
 have hF:=afF hv hs hp.p64 hf h0;have hU:=use_of hv hf
 have i1:∀W,O w W->Calls Try.prog 16 #[yH V p] W (m9 W 0):=fun W hb=>by
  have:=tu (hp.below (hb.mono hB)) (Jn hB hb.size) hs;rw[hv] at this;exact this
 obtain⟨Vf,Va,Vd,Vb⟩:=V;obtain⟨f1,f2,e1,q6,q5⟩:=hp.funcs.form;have n1:Vf=.slice f1 p.funcs.length f2:=e1;subst n1;obtain⟨gb,go,rfl,h8,bv,g0,e8⟩:=hp.funcs.get hf;obtain⟨ka,kc,rfl,q0,p5⟩:=e8.form;rw[Nk] at g0;have q4:=(Jh.1 hf).1;have k4:=hF.pos;have g5:=hs bl (Ji hf);obtain⟨X,hX⟩:∃X,w.alloc (A #[.slice (some ⟨gb,go,none⟩) p.funcs.length f2,Va,I p.entry,I p.handler,Vd,Vb] 44)=X:=⟨_,rfl⟩
 have c2:O w X:=by rw[<-hX];exact(Below.refl _ _).alloc (Je _) _
 have a0:Q X w.heap.size #[.slice (some ⟨gb,go,none⟩) p.funcs.length f2,Va,I p.entry,I p.handler,Vd,Vb] 44:=by rw[<-hX];exact zI rfl
 have HX:=Ja (Jb c2 (Jb a0 (show ∀W,O w W->ProgIn W B ⟨.slice (some ⟨gb,go,none⟩) p.funcs.length f2,Va,Vd,Vb⟩ p/\wX W B (.slice ka bl.length kc) bl/\U W gb (go+f) (.slice ka bl.length kc) from fun W hb=>⟨hp.below (hb.mono hB),e8.below yT (hb.mono hB),zV (hb.mono hB) h8 g0⟩)));have o:=Ja (Jb hF (Jb hU (Jb hs (Jb hv (Jb g5 (Jb hB (Jb h0 h8)))))));have n2:=Ja (show ∀W,O X W->Calls Try.prog 16 #[.agg #[.slice (some ⟨gb,go,none⟩) p.funcs.length f2,Va,I p.entry,I p.handler,Vd,Vb]] W (m9 W 0) from fun W hb=>i1 W (c2.trans (hb.mono c2.size)));have p0:decide ((f:Int)<0)=false:=decide_eq_false Zo;have o9:decide ((p.funcs.length:Int)<=(f:Int))=false:=decide_eq_false Zo;have o6:decide (p.funcs.length<=f)=false:=decide_eq_false Zo;have o5:((bl.length:Int)==0)=false:=Ze;have o4:(bl.length==0)=false:=beq_eq_false_iff_ne.2 Zo;have m3:gb<w.heap.size:=Zo;have x0:=zA (i:=0) a0 rfl;have x1:=zA (i:=1) a0 rfl;have x2:=zA (i:=2) a0 rfl;have x3:=zA (i:=3) a0 rfl;have x4:=zA (i:=4) a0 rfl;have x5:=zA (i:=5) a0 rfl;have k2:=lt_of_block a0;clear hp hB hs hv hf h0 hF hU i1 g0 e8 g5 c2 a0;unfold yH;go_enter Try.func8,Try.ntmps8;go_wp2_with fail
 go_step3
 go_upto_region 3 with(go_at_call 16;go_must (refine(n2.out _ (Below.refl _ _)).mono ?_;rintro e w1 ⟨rfl,c5⟩;have x:=zH c5 HX.out.2.1 k2;have y0:=zA (i:=0) x rfl;have yg:=(HX.out.2.2 w1 (HX.out.1.trans (c5.mono HX.out.1.size))).2.2;have m1:=lt_of_block x;have l9:gb<w1.heap.size:=by omega))
 clear hX x0 x1 x2 x3 x4 x5;obtain⟨N,hN⟩:∃N:Nat,aaG bl=N:=⟨(aaG bl).toNat,by have:=o.out.1.cnt;omega⟩
 have q7:N<=65536:=by have:=o.out.1.cnt;omega
 obtain⟨Y,hY⟩:∃Y,w1.alloc (A #[.slice ka bl.length kc] 39)=Y:=⟨_,rfl⟩
 obtain⟨t5,g4⟩:∃t,w1.heap.size=t:=⟨_,rfl⟩
 have b8:O w1 Y:=by rw[<-hY];exact(Below.refl _ _).alloc (Je _) _
 have d2:Q Y w1.heap.size #[.slice ka bl.length kc] 39:=by rw[<-hY];exact zI rfl
 have b6:=HX.out.1.trans (c5.mono HX.out.1.size);have HY:=Ja (show O w Y/\Q Y w.heap.size #[.slice (some ⟨gb,go,none⟩) p.funcs.length f2,Va,I p.entry,I p.handler,Vd,Vb] 44/\Q Y w1.heap.size #[.slice ka bl.length kc] 39/\w.heap.size<w1.heap.size/\w1.heap.size<Y.heap.size from⟨b6.trans (b8.mono b6.size),zH b8 x (lt_of_block x),d2,lt_of_block x,lt_of_block d2⟩);rw[g4] at HY;have y5:=zA (i:=0) HY.out.2.2.1 rfl;have l0:t5<Y.heap.size:=HY.out.2.2.2.2
 have n7:=Ja (show ∀W,O Y W->Calls Try.prog 17 #[.agg #[.slice ka bl.length kc]] W (j4 W (N:Int)) from fun W hb=>by
  have:=ls (w:=W) (HX.out.2.2 W (HY.out.1.trans (hb.mono HY.out.1.size))).2.1 (Jn o.out.2.2.2.2.2.1 (Jn HY.out.1.size hb.size)) o.out.2.2.2.2.1;rw[hN] at this
  exact this)
 have HN:=Ja hN;clear hN b8 d2 b6 x c5 m3;go_upto_region 5 with(go_at_call 17;go_must (refine(n7.out _ (Below.refl _ _)).mono ?_;rintro e w2 ⟨rfl,c4⟩))
 clear hY g4 y5 y0 yg m1 l9;have f3:O w w2:=HY.out.1.trans (c4.mono HY.out.1.size);have x:=zH c4 HY.out.2.1 (lt_of_block HY.out.2.1);have e5:=zH c4 HY.out.2.2.1 (lt_of_block HY.out.2.2.1);have l:=Ja (show O w w2/\w2.heap[w.heap.size]? =_/\w2.heap[t5]? =_ from⟨f3,x,e5⟩);have a1:w.heap.size<w2.heap.size:=lt_of_block x;have b9:t5<w2.heap.size:=lt_of_block e5;clear c4 f3 x e5 l0;have HC:=Ja (show ∀w',O w2 w'->(U w' w.heap.size 0 (.slice (some ⟨gb,go,none⟩) p.funcs.length f2)/\U w' w.heap.size 1 Va/\U w' w.heap.size 2 (I p.entry)/\U w' w.heap.size 3 (I p.handler)/\U w' w.heap.size 4 Vd/\U w' w.heap.size 5 Vb)/\U w' t5 0 (.slice ka bl.length kc) from fun W hb=>⟨⟨zA (zH hb l.out.2.1 a1) rfl,zA (zH hb l.out.2.1 a1) rfl,zA (zH hb l.out.2.1 a1) rfl,zA (zH hb l.out.2.1 a1) rfl,zA (zH hb l.out.2.1 a1) rfl,zA (zH hb l.out.2.1 a1) rfl⟩,zA (zH hb l.out.2.2 b9) rfl⟩);obtain⟨⟨x0,x1,x2,x3,x4,x5⟩,y5⟩:=HC.out w2 (Below.refl _ _);have e2:=make_rgs N Zo;have b5:=run_make_row' (P:=Try.prog) 67 4 (.bool false) 1 Try.underlying67 Try.info_bool rfl .i64 .i64 N Zo Zo;rw[kn_cells] at b5;obtain⟨ZR,f5⟩:∃Z,((List.replicate N (⟨0,0⟩:Rg)).flatMap xe).toArray=Z:=⟨_,rfl⟩
 obtain⟨ZB,f6⟩:∃Z,((List.replicate N false).map Value.bool).toArray=Z:=⟨_,rfl⟩
 rw[f5] at e2;rw[f6] at b5;have HZ:=Ja (Jb f5 f6);clear f5 f6
 go_cut [7] from 46 to 54 (fun s wx=>∃K:SK,s=L K.sb/\K.n=N/\Hid (ago w2 wx K p bl))
 case first=>
  go_region_held3 (fun w'=>(U w' w.heap.size 0 (.slice (some ⟨gb,go,none⟩) p.funcs.length f2)/\U w' w.heap.size 1 Va/\U w' w.heap.size 2 (I p.entry)/\U w' w.heap.size 3 (I p.handler)/\U w' w.heap.size 4 Vd/\U w' w.heap.size 5 Vb)/\U w' t5 0 (.slice ka bl.length kc))
   ((refine HC.out _ ?_;repeat' (first|with_reducible exact Below.refl _ _|with_reducible assumption|with_reducible refine Below.drew ?_|with_reducible refine Below.alloc ?_ Zn _|with_reducible refine Below.setCell ?_ Zn _)))
   ((go_at_call 18;refine(agi _).mono ?_;rintro e w3 ⟨rfl,h2,f0,e4⟩;have m5:O w2 w3:=Below.trans (show O w2 _ from by repeat' (first|with_reducible exact Below.refl _ _|with_reducible assumption|with_reducible refine Below.drew ?_|with_reducible refine Below.alloc ?_ Zn _|with_reducible refine Below.setCell ?_ Zn _)) (f0.mono Zn);have l2:w2.heap.size<=w3.heap.size:=m5.size;have h3:=e4;rw[show ∀v:World,v.drew.heap=v.heap from fun _=>rfl] at h3;(try simp at h3)))
  all_goals go_wp2_with fail
  all_goals go_meet
  all_goals (
   refine slvNew' (B:=B) (V:=⟨.slice (some ⟨gb,go,none⟩) p.funcs.length f2,Va,Vd,Vb⟩) (fv:=.slice ka bl.length kc) (zI (by first|rfl|(simp;done)|(simp;omega))) (Jn o.out.2.2.2.2.2.1 l.out.1.size) Zo ?_ ?_ ?_ ?_ ?_ ?_ ?_ ?_
   ·exact(HX.out.2.2 _ (l.out.1.trans (Below.mono (show O w2 _ from by repeat' (first|with_reducible exact Below.refl _ _|with_reducible assumption|with_reducible refine Below.drew ?_|with_reducible refine Below.alloc ?_ Zn _|with_reducible refine Below.setCell ?_ Zn _)) l.out.1.size))).1
   ·exact(HX.out.2.2 _ (l.out.1.trans (Below.mono (show O w2 _ from by repeat' (first|with_reducible exact Below.refl _ _|with_reducible assumption|with_reducible refine Below.drew ?_|with_reducible refine Below.alloc ?_ Zn _|with_reducible refine Below.setCell ?_ Zn _)) l.out.1.size))).2.1
   ·repeat' (first|with_reducible exact Below.refl _ _|with_reducible assumption|with_reducible refine Below.drew ?_|with_reducible refine Below.alloc ?_ Zn _|with_reducible refine Below.setCell ?_ Zn _)
   ·exact ma.below (by first|exact h2|simpa using h2) (by repeat' (first|with_reducible exact Below.refl _ _|with_reducible assumption|with_reducible refine Below.drew ?_|with_reducible refine Below.alloc ?_ Zn _|with_reducible refine Below.setCell ?_ Zn _))
   ·rw[HZ.out.1];repeat' (first|exact zI (by first|rfl|(simp;done)|(simp;omega))|exact zH f0 (by repeat' (first|exact zI (by first|rfl|(simp;done)|(simp;omega))|refine dx ?_|refine zB ?_)) (by first|exact e4|omega|(simp;done)|(simp;omega))|refine dx ?_|refine zB ?_)
   ·rw[HZ.out.2];repeat' (first|exact zI (by first|rfl|(simp;done)|(simp;omega))|exact zH f0 (by repeat' (first|exact zI (by first|rfl|(simp;done)|(simp;omega))|refine dx ?_|refine zB ?_)) (by first|exact e4|omega|(simp;done)|(simp;omega))|refine dx ?_|refine zB ?_)
   ·refine⟨?_,?_,?_,?_⟩<;>(first|exact Je _|omega|(simp;done)|(simp;omega))
   ·refine⟨?_,?_,?_,?_,?_,?_⟩<;>(first|omega|(simp;done)|(simp;omega)))
 case rest=>
  obtain⟨K,rfl,i8,HK⟩:=hcut;have a4:=HK.out.2.1;have y5:U wc t5 0 (.slice ka bl.length kc):=zA (zH a4 l.out.2.2 b9) rfl;have k3:=lt_of_block (zH a4 l.out.2.2 b9);obtain⟨b0,f4⟩:∃b,bl[0]? =some b:=⟨_,Jd k4⟩
  have e7:=(HX.out.2.2 wc (l.out.1.trans (a4.mono l.out.1.size))).2.1;obtain⟨qb,qo,l3,l4,_,_,_,pv,_,_,u0,_,_,b2,_,_⟩:=e7.get f4;obtain⟨pa,pc,rfl,l7,l5⟩:=b2.form;subst l3;rw[Nat.zero_mul,Uk] at u0;have p1:qb<wc.heap.size:=Jy l4 (Jn o.out.2.2.2.2.2.1 (Jn l.out.1.size a4.size));have n9:b0.params.length<=9223372036854775807:=Zo;have a3:=Ja (Jb f4 (Jb b2 a4));have h4:K.n=(aaG bl).toNat:=by rw[i8,HN.out];rfl
  have c7:=Ja h4;clear i8 h4 e7 b2 f4 l7 l5 a4 HC e2 b5 x0 x1 x2 x3 x4 x5;have a8:=HK.out.2.2;have d0:=Ja (show ∀wx,SlvTo wc wx K->Below w2.heap.size wc wx from fun wx h=>h.below ⟨a8.1,a8.2.1,a8.2.2,HK.out.2.1.size⟩);have f9:=Ja (show ∀wx,SlvTo wc wx K->wX wx B (.slice (some ⟨qb,qo,none⟩) bl.length kc) bl/\zY wx B (.slice pa b0.params.length pc) b0.params/\U wx t5 0 (.slice (some ⟨qb,qo,none⟩) bl.length kc)/\t5<wx.heap.size/\B<=wx.heap.size from fun wx h=>⟨(HX.out.2.2 wx (l.out.1.trans ((a3.out.2.2.trans ((d0.out wx h).mono (Je _))).mono l.out.1.size))).2.1,a3.out.2.1.below zO ((d0.out wx h).mono (Jn o.out.2.2.2.2.2.1 l.out.1.size)),zA (zH (a3.out.2.2.trans (d0.out wx h)) l.out.2.2 b9) rfl,Jy k3 h.size,Jn o.out.2.2.2.2.2.1 (Jn l.out.1.size (Jn a3.out.2.2.size h.size))⟩);clear a8;go_wp2;clear y5 u0
  go_loopw [61] (fun kv wx=>∃(j:Nat) (s':Slv) (c:Bool),j<=b0.params.length/\kv=I j/\Hid ((b0.params.take j).foldl (fun q v=>l6 0 v xr q) (⟨List.replicate K.n ⟨0,0⟩,List.replicate K.n false⟩,false)=(s',c)/\SlvAt wx K p bl 0 s'/\SlvTo wc wx K)) (fun kv _=>b0.params.length-(intOf kv).toNat)
  case atStart=>exact⟨0,_,_,Jt _,rfl,Ja ⟨rfl,HK.out.1,SlvTo.refl _ _⟩⟩
  case round=>
   obtain⟨j,s',c,hj,rfl,HJ⟩:=hrel
   by_cases d:j<b0.params.length
   ·have a2:(j:Int)<(b0.params.length:Int):=Zo;obtain⟨v,hv⟩:∃v,b0.params[j]? =some v:=⟨_,Jd d⟩
    obtain⟨pb,po,l8,h1,k9,_⟩:=(f9.out wr HJ.out.2.2).2.1.get hv;subst l8;rw[Nk] at k9;have o0:pb<wr.heap.size:=Jy h1 (f9.out wr HJ.out.2.2).2.2.2.2;have d3:=((o.out.1.rng 0 o.out.1.pos).1 v (by rw[show((0:Nat):Int)=((0:Nat):Int) from rfl,y7 a3.out.1];exact Ji hv))
    rw[<-c7.out] at d3;obtain⟨vn,rfl⟩:∃vn:Nat,v=vn:=⟨v.toNat,by omega⟩
    obtain⟨s2,r,hq⟩:∃s2 r,setF 0 s' (vn:Int) xr=(s2,r):=⟨_,_,rfl⟩
    have n3:=Ja (show ∀W,SlvAt W K p bl 0 s'->Calls Try.prog 19 #[L K.sb,I vn,.agg #[G 0,G 65535]] W (i4 W K p bl 0 (s2,r)) from fun W hb=>by
     have:=aft hb (v:=vn) (by have:=d3.2;rw[Ni] at this;exact this) sl (aeL sl (hb.oks.get _));rw[hq] at this
     exact this)
    have HV:=Ja (Jb hv (Jb hq d));clear hv hq d3 d h1
    go_wp2_with (first
     |(go_at_call 20;go_must (refine(re _).mono ?_;rintro e w5 ⟨rfl,a5⟩))
     |(go_at_call 19;go_must (refine(n3.out _ (HJ.out.2.1.below a5)).mono ?_;rintro e w6 ⟨rfl,d5,g3⟩;have H6:=Ja (Jb d5 ((SlvTo.of_below a5).trans g3));clear d5 g3 a5)))
    go_roundw
    case rel=>exact⟨j+1,s2,_,HV.out.2.2,by go_num,Ja ⟨by rw[q8 HV.out.1,HJ.out.1];unfold l6;rw[HV.out.2.1],H6.out.1,HJ.out.2.2.trans H6.out.2⟩⟩
    case measure=>have:=HV.out.2.2;simp[intOf];omega
   ·obtain rfl:j=b0.params.length:=by omega
    have a2:¬(b0.params.length:Int)<(b0.params.length:Int):=Zo
    have n5:=Ja (show ae6 (aaG bl).toNat (xz bl (0:Nat)).params=s' by
     unfold ae6;rw[<-c7.out,y7 a3.out.1];have:=HJ.out.1;rw[Nl] at this
     rw[this])
    have d1:=Ja HJ.out.2;clear hj d HJ;obtain⟨z1,z2,z3,z4,z5⟩:=f9.out wr d1.out.2;have HG:=Ja (ox z1 z5 ⟨o.out.2.2.2.2.1.1,fun b hb=>(o.out.2.2.2.2.1.2 b hb).2.2⟩)
    have g1:∀b∈bl,wn bl b.term=true:=fun b hb=>by
     obtain⟨i,hi⟩:=Ny hb;have:=o.out.1.st.trm i (Jh.1 hi).1;rw[y7 hi] at this;exact this
    have n6:=Ja (show ∀W a9,OwnRows zN 3 25 W wr.heap.size a9 (zk bl)->GraphIn W (.slice (some ⟨a9,0,none⟩) (zk bl).length (zk bl).length) (zy bl) from fun W a9 h=>bU o.out.2.2.2.2.1 o.out.2.2.2.2.2.2.1 g1 (h.asRows (Je _)));obtain⟨od,d7⟩:∃od,vD (zy bl)=od:=⟨_,rfl⟩
    obtain⟨gl,h7⟩:∃n,(zk bl).length=n:=⟨_,rfl⟩
    have f8:0∈od:=by rw[<-d7];exact(o.out.1.ord 0).2 o.out.1.pos
    have k5:0<od.length:=List.length_pos_of_mem f8;have a6:=Ja (Jb d7 h7);clear z1 z2 z5 g1 d7 h7 f8
    go_wp2_with (first
     |(go_at_call 22;go_must (refine HG.out.mono ?_;rintro e w7 ⟨a9,rfl,c0,m4,c3⟩;rw[a6.out.2]))
     |(go_at_call 21;go_must (refine(iJ (by have:=n6.out w7 a9 c0;rw[a6.out.2] at this;exact this)).mono ?_;rintro e w8 ⟨ov,rfl,b3,h9⟩;rw[a6.out.1] at b3;obtain⟨ob,oc,rfl,o3,o2,d8,i2⟩:=own_ord b3 rfl k5)))
    have b7:O wr w8:=c3.trans (h9.mono c3.size);have e0:=d1.out.1.fresh (b:=ob) (Jn c3.size d8)
    have d4:∀i∈od,pn K.n bl (xz bl i):=fun i hi=>by
     rw[c7.out];exact o.out.1.sol i ((o.out.1.ord i).1 (by rw[a6.out.1];exact hi))
    obtain⟨T,hT⟩:∃T,agM p bl od 0 s'=T:=⟨_,rfl⟩
    have e6:wk p bl=aa1 T:=by
     unfold wk fnT;rw[n5.out,a6.out.1,hT]
    have HQ:=Ja (show SlvAt w8 K p bl 0 s'/\SlvTo wc w8 K/\aeN w8 ob od/\(ob≠K.rb/\ob≠K.kb/\ob≠K.sb)/\(∀i∈od,pn K.n bl (xz bl i))/\agM p bl od 0 s'=T/\wk p bl=aa1 T from⟨d1.out.1.below b7,d1.out.2.trans (SlvTo.of_below b7),i2,e0,d4,hT,e6⟩);have o1:od.length<=9223372036854775807:=Zo;clear b7 e0 d4 hT e6 i2 c3 h9 b3 c0 m4 d8 z3 z4;go_wp2
    go_step3
    go_wp2
    go_loopg [11] (ff 0 s') (fun g cv wx=>∃(j:Nat) (t:Slv),Hid (g=ff j t/\j+ff j t<=4+K.n/\agM p bl od j t=T/\SlvAt wx K p bl j t/\SlvTo w8 wx K))
    case atStart=>exact⟨0,s',Ja ⟨rfl,by have:=nfL_le s'.r s'.kn;have:=HQ.out.1.oks.rl;unfold ff Slv.nf;omega,HQ.out.2.2.2.2.2.1,HQ.out.1,SlvTo.refl _ _⟩⟩
    case round=>
     obtain⟨j,t,y⟩:=hrel;have q3:j<=2000000:=by have:=y.out.2.1;have:=y.out.2.2.2.1.n64;omega
     have c10:=y.out.2.2.2.1.cells.2.2.2.2.1;have n0:=zE (i:=10) y.out.2.2.2.1.cell;have l1:=lt_of_block y.out.2.2.2.1.cell;obtain⟨W4,i0⟩:∃W,wr.setCell ⟨K.sb,10,none⟩ (I ((j:Int)+1))=W:=⟨_,rfl⟩
     obtain⟨q1,q2⟩:=y.out.2.2.2.1.round i0;have H4:=Ja (Jb q1 (y.out.2.2.2.2.trans q2));clear q1 q2;go_upto_region 14 with fail;clear i0 c10 n0 l1;go_wp2
     go_loopw [11,82] (fun cv kv wx=>∃(m:Nat) (t2:Slv) (c:Bool),m<=od.length/\cv=.bool c/\kv=I m/\Hid ((od.take m).foldl (goS p bl (j+1)) (t,false)=(t2,c)/\SlvAt wx K p bl (j+1) t2/\SlvTo w8 wx K)) (fun _ kv _=>od.length-(intOf kv).toNat)
     case atStart=>exact⟨0,t,false,Jt _,rfl,rfl,Ja ⟨rfl,H4.out.1,H4.out.2⟩⟩
     case round=>
      obtain⟨m,t2,c,hm,rfl,rfl,u⟩:=hrel
      by_cases d:m<od.length
      ·have a2:(m:Int)<(od.length:Int):=Zo;obtain⟨i,hi⟩:∃i,od[m]? =some i:=⟨_,Jd d⟩
       have b4:=HQ.out.2.2.1.to u.out.2.2 HQ.out.2.2.2.1;have ci:=b4.cell hi;have p3:=b4.lt;have h6:i<bl.length:=(o.out.1.ord i).1 (by rw[a6.out.1];exact Ji hi);obtain⟨bx,c1⟩:∃b,bl[i]? =some b:=⟨_,Jd h6⟩
       obtain⟨t3,r,hq⟩:∃t3 r,afB p bl (j+1) (t2,false) bx=(t3,r):=⟨_,_,rfl⟩
       have n8:=Ja (show Calls Try.prog 23 #[L K.sb,I i] wr (i4 wr K p bl (j+1) (t3,r)) from by
        have hw:=blkW_of o.out.1 o.out.2.1 h6;rw[<-c7.out,y7 c1] at hw;have:=af1 u.out.2.1 c1 hw;rw[hq] at this
        exact this)
       have HI:=Ja (Jb hi (Jb c1 (Jb hq d)));clear hi c1 hq b4 d;cases r
       all_goals go_wp2_with (go_at_call 23;go_must (refine n8.out.mono ?_;rintro e w9 ⟨rfl,g6,g2⟩;have H9:=Ja (Jb g6 g2);clear g6 g2))
       all_goals (
        go_roundw
        case rel=>exact⟨m+1,t3,_,HI.out.2.2.2,by first|rfl|(cases c<;>rfl),by go_num,Ja ⟨by rw[q8 HI.out.1,u.out.1];unfold goS;rw[y7 HI.out.2.1,show(afB p bl (j+1) ((t2,c).1,false) bx)=_ from HI.out.2.2.1];first|rw[Bool.or_true]|rw[Bool.or_false],H9.out.1,u.out.2.2.trans H9.out.2⟩⟩
        case measure=>have:=HI.out.2.2.2;simp[intOf];omega)
      ·obtain rfl:m=od.length:=by omega
       have a2:¬(od.length:Int)<(od.length:Int):=Zo
       have HR:=Ja (show m6 p bl od (j+1) t=(t2,c) by
        have:=u.out.1;rw[Nl] at this
        exact this)
       clear hm d;cases c
       ·have k0:=Ja (show t2=T by
         have:=y.out.2.2.1;rw[aeT HQ.out.2.2.2.2.1 y.out.2.2.2.1.oks,HR.out,if_neg (fun h=>by cases h)] at this
         exact this)
        have c8:=u.out.2.1.cells.2.2.1;have g8:=lt_of_block u.out.2.1.cell;have p4:=u.out.2.1.n64;go_wp2;clear c8
        go_loopw [97] (fun kv wx=>∃m:Nat,m<=K.n/\kv=I m/\Hid (SlvAt wx K p bl (j+1) (kr t2 m)/\SlvTo w8 wx K)) (fun kv _=>K.n-(intOf kv).toNat)
        case atStart=>exact⟨0,Jt _,rfl,Ja ⟨u.out.2.1,u.out.2.2⟩⟩
        case round=>
         obtain⟨m,hm,rfl,HL⟩:=hrel;have c8:=HL.out.1.cells.2.2.1;have c9:=HL.out.1.cells.2.2.2.1;have g8:=lt_of_block HL.out.1.cell;have a1:=lt_of_block HL.out.1.row;have l2:=lt_of_block HL.out.1.kn
         by_cases d:m<K.n
         ·have a2:(m:Int)<(K.n:Int):=Zo;have kx:=tt HL.out.1 d;rw[afZ] at kx
          cases hk:t2.knw (m:Int) with
          |true=>
           rw[hk] at kx;have HE:=Ja (afP u.out.2.1.oks d hk);clear hk;go_wp2;go_roundw
           case rel=>exact⟨m+1,d,by go_num,Ja ⟨by rw[HE.out];exact HL.out.1,HL.out.2⟩⟩
           case measure=>simp[intOf];omega
          |false=>
           rw[hk] at kx;have HE:=Ja (af7 u.out.2.1.oks d hk);clear hk;go_upto_region 25 with fail;clear c9 kx;obtain⟨r0,r1⟩:=HL.out.1.rcell (v:=(m:Int)) Zo;rw[Ni] at r0 r1;have HC:=Ja (show ∀W:World,W.heap[K.sb]? =wr.heap[K.sb]?->U W K.sb 8 (.slice (some ⟨K.rb,0,none⟩) K.n K.n) from fun W h=>zA (h.trans HL.out.1.cell) rfl);have e0:=HL.out.1.ne
           go_region_held3 (fun w'=>U w' K.sb 8 (.slice (some ⟨K.rb,0,none⟩) K.n K.n))
            ((refine HC.out _ ?_;repeat' (first|exact rfl|exact m2|rw[Below.heap_setCell _ _ _ _ (show K.sb≠K.rb by omega)]|rw[show ∀v:World,v.drew.heap=v.heap from fun _=>rfl])))
            ((go_at_call 20;refine(re _).mono ?_;rintro e w5 ⟨rfl,a5⟩;have f7:O wr w5:=Below.trans (show O wr _ from by repeat' (first|with_reducible exact Below.refl _ _|with_reducible refine Below.drew ?_)) (a5.mono (Je _));clear a5;have m2:w5.heap[K.sb]? =wr.heap[K.sb]?:=f7.block _ g8;have b1:=Ja (HL.out.1.below f7);obtain⟨r2,r3⟩:=b1.out.rcell (v:=(m:Int)) Zo;rw[Ni] at r2 r3;have k7:=zE (i:=m*2) b1.out.row;have k6:=zE (i:=m*2+1) b1.out.row;have d5:=lt_of_block b1.out.row))
           all_goals go_wp2_with fail
           all_goals (
            obtain⟨W,hW⟩:∃W,(w5.setCell ⟨K.rb,m*2,none⟩ (G 0)).setCell ⟨K.rb,m*2+1,none⟩ (G 65535)=W:=⟨_,rfl⟩
            obtain⟨j1,j2⟩:=b1.out.putR d sl hW;rw[hW];clear r2 r3 k7 k6;have k1:=Ja (Jb j1 (((SlvTo.of_below f7).trans j2)));clear j1 j2 hW;go_roundw
            case rel=>exact⟨m+1,d,by go_num,Ja ⟨by rw[HE.out];exact k1.out.1.below (by first|exact Below.refl _ _|exact(Below.refl _ _).drew),HL.out.2.trans (k1.out.2.trans (SlvTo.of_below (by first|exact Below.refl _ _|exact(Below.refl _ _).drew)))⟩⟩
            case measure=>simp[intOf];omega)
         ·obtain rfl:m=K.n:=by omega
          have a2:¬(K.n:Int)<(K.n:Int):=Zo;have HE:=Ja (show kr t2 K.n=⟨wk p bl,t2.kn⟩ by rw[afX u.out.2.1.oks,HQ.out.2.2.2.2.2.2,k0.out]);have e3:(wk p bl).length=K.n:=by rw[HQ.out.2.2.2.2.2.2,<-k0.out];exact g9 u.out.2.1.oks
          have n4:=Ja e3;clear hm d e3 c9;go_wp2
          try rw[Exit.noGoto_ret]
          go_ret;have d6:=HL.out.1.row;rw[HE.out] at d6;refine⟨K.rb,by rw[n4.out];rfl,d6,?_,?_⟩
          ·exact Jn l.out.1.size HK.out.2.2.1
          ·exact l.out.1.trans ((a3.out.2.2.trans (d0.out wr (HQ.out.2.1.trans HL.out.2))).mono l.out.1.size)
       ·go_wp2
        go_roundg (ff (j+1) t2)
        case measure=>
         have:=a7 (p:=p) HQ.out.2.2.2.2.1 y.out.2.2.2.1.oks (k:=j) (by rw[HR.out]);rw[HR.out] at this;rw[y.out.1];exact this
        case rel=>
         refine⟨j+1,t2,Ja ⟨rfl,?_,?_,u.out.2.1,u.out.2.2⟩⟩
         ·have:=a7 (p:=p) HQ.out.2.2.2.2.1 y.out.2.2.2.1.oks (k:=j) (by rw[HR.out]);rw[HR.out] at this;have h5:ff (j+1) t2<ff j t:=this;have:=y.out.2.1;omega
         ·have:=y.out.2.2.1;rw[aeT HQ.out.2.2.2.2.1 y.out.2.2.2.1.oks,HR.out,if_pos rfl] at this;exact this
def obs (data:List IObj)(R:List Rg)(l:List IOp):List Int:=(l.filter p6).map (afy data R)
theorem ae0{data:List IObj}{R:List Rg}(h:p6 o=true):obs data R (l++ [o])=obs data R l++ [afy data R o]:=by
 unfold obs;rw[List.filter_append,List.filter_cons_of_pos h,List.filter_nil,Js];rfl
theorem afl{data:List IObj}{R:List Rg}(h:p6 o=false):obs data R (l++ [o])=obs data R l:=by
 unfold obs;rw[List.filter_append,List.filter_cons_of_neg (by rw[h];decide),List.filter_nil,Ua]
theorem obs_le (data:List IObj)(R:List Rg)(l:List IOp):(obs data R l).length<=l.length:=by unfold obs;rw[Nr];exact List.length_filter_le _ _
theorem aeQ:∀(l:List IBlk),(∀b∈l,b.ops.length<=2000000)->(l.flatMap (·.ops)).length<=l.length*2000000
 | [],_=>by simp
 |b::l,h=>by
  have h1:=aeQ l fun x hx=>h x (.tail _ hx)
  have c:=h b (.head _);rw[Qa,Jk,Nq];omega
theorem yl{j:Nat}(h:l[j]? =some o):l.take (j+1)=l.take j++ [o]:=by rw[Nh,h];rfl
theorem gw{b:IBlk}(h:bl[k]? =some b):(bl.take (k+1)).flatMap (·.ops)=(bl.take k).flatMap (·.ops)++b.ops:=by rw[Nh,h,Nx];simp
structure ObS (w wx:World) (t2 rb:Nat) (pc:Array Value) (R:List Rg) (bl:List IBlk):Prop where
 below:Below t2 w wx
 p2:wx.heap[t2]? =some (.cells pc 44 (0,0))
 row:bl≠ []->wx.heap[rb]? =some (.cells (R.flatMap xe).toArray 48 (0,0))
theorem ObS.lt{rb:Nat}{R:List Rg}(h:ObS w wx t2 rb pc R bl):t2<=wx.heap.size:=Qd (lt_of_block h.p2)
theorem ObS.keep{rb:Nat}{R:List Rg}(h:ObS w wx t2 rb pc R bl)(hb:O wx W):ObS w W t2 rb pc R bl:=
 ⟨h.below.trans (hb.mono h.lt),zH hb h.p2 (lt_of_block h.p2),fun h0=>zH hb (h.row h0) (lt_of_block (h.row h0))⟩
theorem ObS.drew{rb:Nat}{R:List Rg}(h:ObS w wx t2 rb pc R bl):ObS w wx.drew t2 rb pc R bl:=⟨h.below.drew,h.p2,h.row⟩
theorem ae3{n:Nat}{v:Value}{xs:List Value}(ho:wx.ownsRow t2 3 1 v n xs):∀k,v.ownBlock=some k->t2<=k:=fun k hk=>by
 rcases ho.2 with⟨rfl,_⟩|⟨g,d,cur,rfl,c,_⟩
 ·cases hk
 ·cases hk;exact c
theorem ObS.grown{rb:Nat}{R:List Rg}(h:ObS w wx t2 rb pc R bl){n:Nat}{v:Value}{xs:List Value}(ho:wx.ownsRow t2 3 1 v n xs)(hg:wx.grownBy W v.ownBlock):ObS w W t2 rb pc R bl:=
 ⟨h.below.grown hg h.lt (ae3 ho),zL hg h.p2 (zC ho h.p2 (.inr Zd)),fun h0=>zL hg (h.row h0) (zC ho (h.row h0) (.inr Zd))⟩
structure ObT (w wx:World) (t2 rb:Nat) (pc:Array Value) (R:List Rg) (bl:List IBlk) (t10:Nat) (oc:Array Value):Prop where
 s:ObS w wx t2 rb pc R bl
 op:wx.heap[t10]? =some (.cells oc 27 (0,0))
theorem ObT.keep{rb:Nat}{R:List Rg}(h:ObT w wx t2 rb pc R bl c oc)(hb:O wx W):ObT w W t2 rb pc R bl c oc:=
 ⟨h.s.keep hb,zH hb h.op (lt_of_block h.op)⟩
theorem ObT.grown{rb:Nat}{R:List Rg}(h:ObT w wx t2 rb pc R bl c oc){n:Nat}{v:Value}{xs:List Value}(ho:wx.ownsRow t2 3 1 v n xs)(hg:wx.grownBy W v.ownBlock):ObT w W t2 rb pc R bl c oc:=
 ⟨h.s.grown ho hg,zL hg h.op (zC ho h.op (.inr Zd))⟩
theorem ObS.rcell{rb:Nat}{R:List Rg}(h:ObS w wx t2 rb pc R bl)(c:bl≠ []){x:Nat}(d:x<R.length):
 U wx rb (x*2) (G ((R.getD x ⟨0,0⟩).lo:Int))/\U wx rb (x*2+1) (G ((R.getD x ⟨0,0⟩).hi:Int)):=by
 have hg:R[x]? =some (R.getD x ⟨0,0⟩):=by rw[Jj,Jd d];rfl
 exact⟨by have:=oW (f:=xe) (n:=2) (fun _=>rfl) (h.row c) hg (j:=0) rfl;rw[Ng,Uk] at this;exact this,by have:=oW (f:=xe) (n:=2) (fun _=>rfl) (h.row c) hg (j:=1) rfl;rw[Ng] at this;exact this⟩
def afH (w:World)(l:List Int)(e:Ending)(w':World):Prop:=∃v,e=.returned v/\w'.ownsRow w.heap.size 3 1 v l.length (l.map zN)/\O w w'
theorem mo{p:IProg}(h:FnS p bl):(∀a∈wk p bl,a.ok)/\(wk p bl).length=(aaG bl).toNat:=by
 refine⟨fun a ha=>?_,g9 h.end.ok⟩;unfold wk aa1 at ha;obtain⟨⟨x,b⟩,c,rfl⟩:=Nu.1 ha
 dsimp only
 split
 ·exact h.end.ok.ok x (List.of_mem_zip c).1
 ·exact sl
theorem agj{p:IProg}(h:FnS p bl){b:IBlk}(hb:bl[k]? =some b)(ho:o∈b.ops)(c:p6 o=true):0<=o.a/\o.a.toNat<(wk p bl).length:=by
 have hk:=(Jh.1 hb).1;have:=((h.rng k hk).2 o (by rw[y7 hb];exact ho)).1.a (acc_a c);rw[(mo h).2];exact this
theorem bd:p6 o=decide (o.code=18∨o.code=19∨o.code=20∨o.code=21):=by
 unfold p6;rw[Bool.eq_iff_iff];simp only[Jm,decide_eq_true_eq];omega
theorem aeG{B:Nat}{V:PV}{p:IProg}(hp:ProgIn w B V p)(hB:B<=w.heap.size)(hs:∀f∈p.funcs,vZ f)(hv:vC p=0){f:Nat}(hf:p.funcs[f]? =some bl):
 T 9 #[yH V p,I f] w (afH w (aeC p.data (wk p bl) bl)):=by
 have a0:=hs bl (Ji hf);have l9:=(Jh.1 hf).1;obtain⟨R,hR⟩:∃R,wk p bl=R:=⟨_,rfl⟩
 have hF:bl≠ []->FnS p bl:=fun h0=>afF hv hs hp.p64 hf h0
 have g6:∀W,O w W->T 16 #[yH V p] W (m9 W 0):=fun W hb=>by
  have:=tu (hp.below (hb.mono hB)) (Jn hB hb.size) hs;rw[hv] at this;exact this
 have g8:∀W,O w W->T 8 #[yH V p,I f] W (fun e w'=>∃(ra:Option Addr) (rn rc:Nat),e=.returned (.slice ra rn rc)/\O W w'/\((bl=[]/\ra=none/\rn=0/\rc=0)∨bl≠ []/\rn=R.length/\rc=R.length/\∃rb,ra=some ⟨rb,0,none⟩/\Q w' rb (R.flatMap xe).toArray 48)):=fun W hb=>by
  by_cases h0:bl=[]
  ·subst h0;refine(aeF (hp.below (hb.mono hB)) (Jn hB hb.size) hs hv f hf).mono ?_;rintro e w' ⟨rfl,i0⟩;exact⟨none,0,0,rfl,i0,.inl ⟨rfl,rfl,rfl,rfl⟩⟩
  ·refine(bf (hp.below (hb.mono hB)) (Jn hB hb.size) hs hv hf h0).mono ?_;rintro e w' ⟨rb,rfl,h1,h2,h3⟩;rw[hR] at h1 ⊢;exact⟨_,_,_,rfl,h3,.inr ⟨h0,rfl,rfl,rb,rfl,h1⟩⟩
 have h5:∀(a:Rg) (n:Int) W,O w W->a.ok->(0<=n/\n<=2)->T 24 #[yH V p,.agg #[G (a.lo:Int),G (a.hi:Int)],I n] W (j4 W (mc p.data 0 a n)):=fun a n W hb ha hn=>af5 (hp.below (hb.mono hB)) (Jn hB hb.size) ha n hn
 obtain⟨Vf,Va,Vd,Vb⟩:=V;obtain⟨f1,f2,e1,m2,m1⟩:=hp.funcs.form;have i1:Vf=.slice f1 p.funcs.length f2:=e1;subst i1;obtain⟨gb,go,rfl,e6,bv,g0,e8⟩:=hp.funcs.get hf;obtain⟨ka,kc,rfl,l7,l5⟩:=e8.form;rw[Nk] at g0;obtain⟨X,hX⟩:∃X,w.alloc (A #[.slice (some ⟨gb,go,none⟩) p.funcs.length f2,Va,I p.entry,I p.handler,Vd,Vb] 44)=X:=⟨_,rfl⟩
 have g2:O w X:=by rw[<-hX];exact(Below.refl _ _).alloc (Je _) _
 have a8:Q X w.heap.size #[.slice (some ⟨gb,go,none⟩) p.funcs.length f2,Va,I p.entry,I p.handler,Vd,Vb] 44:=by rw[<-hX];exact zI rfl
 have x0:=zA (i:=0) a8 rfl;have x1:=zA (i:=1) a8 rfl;have x2:=zA (i:=2) a8 rfl;have x3:=zA (i:=3) a8 rfl;have x4:=zA (i:=4) a8 rfl;have x5:=zA (i:=5) a8 rfl;have d4:=lt_of_block a8;have HX:=Ja (Jb g2 a8)
 have HC:=Ja (show(∀W,O w W->T 16 #[.agg #[.slice (some ⟨gb,go,none⟩) p.funcs.length f2,Va,I p.entry,I p.handler,Vd,Vb]] W (m9 W 0))/\(∀W,O w W->T 8 #[.agg #[.slice (some ⟨gb,go,none⟩) p.funcs.length f2,Va,I p.entry,I p.handler,Vd,Vb],I f] W (fun e w'=>∃(ra:Option Addr) (rn rc:Nat),e=.returned (.slice ra rn rc)/\O W w'/\((bl=[]/\ra=none/\rn=0/\rc=0)∨bl≠ []/\rn=R.length/\rc=R.length/\∃rb,ra=some ⟨rb,0,none⟩/\Q w' rb (R.flatMap xe).toArray 48)))/\
  (∀(a:Rg) (n:Int) W,O w W->a.ok->(0<=n/\n<=2)->T 24 #[.agg #[.slice (some ⟨gb,go,none⟩) p.funcs.length f2,Va,I p.entry,I p.handler,Vd,Vb],.agg #[G (a.lo:Int),G (a.hi:Int)],I n] W (j4 W (mc p.data 0 a n))) from⟨g6,g8,h5⟩)
 have HG:=Ja (show ∀W,O w W->U W gb (go+f) (.slice ka bl.length kc)/\wX W B (.slice ka bl.length kc) bl/\B<=W.heap.size/\gb<W.heap.size from fun W hb=>⟨zV (hb.mono hB) e6 g0,e8.below yT (hb.mono hB),Jn hB hb.size,Jy e6 (Jn hB hb.size)⟩);have HF:=Ja (Jb hF (Jb hR a0));have k2:decide ((f:Int)<0)=false:=decide_eq_false Zo;have k1:decide ((p.funcs.length:Int)<=(f:Int))=false:=decide_eq_false Zo;have k0:decide (p.funcs.length<=f)=false:=decide_eq_false Zo;have k4:bl.length<=2000000:=a0.1;clear hp hB hs hv g6 g8 h5 g0 e8 e6 g2 a8 hF hR a0 hf;unfold yH;go_enter Try.func9,Try.ntmps9;go_upto_region 2 with(go_at_call 8;go_must (refine(HC.out.2.1 _ HX.out.1).mono ?_;rintro e w1 ⟨ra,rn,rc,rfl,f0,f8⟩))
 have b9:=zH f0 HX.out.2 d4;have H1:=Ja (Jb (HX.out.1.trans (f0.mono HX.out.1.size)) (Jb b9 f8));clear hX x0 x1 x2 x3 x4 x5 f0 b9 f8 d4;have f7:=lt_of_block H1.out.2.1
 go_cut [5,31] from 14 to 31 (fun s v wx=>s=.slice ra rn rc/\v=.bool false/\Hid (O w1 wx))
 case first=>
  have y0:=zA (i:=0) H1.out.2.1 rfl;have y1:=zA (i:=1) H1.out.2.1 rfl;have y2:=zA (i:=2) H1.out.2.1 rfl;have y3:=zA (i:=3) H1.out.2.1 rfl;have y4:=zA (i:=4) H1.out.2.1 rfl;have y5:=zA (i:=5) H1.out.2.1 rfl;have hq:=fun W=>Lib.run_eql_slice_nil (P:=Try.prog) W 45 48 ra rn rc 0 0 Try.underlying45
  cases ra with
  |none=>
   go_wp2_with (go_at_call 16;go_must (refine(HC.out.1 _ H1.out.1).mono ?_;rintro e w2 ⟨rfl,g4⟩;have b9:=zH g4 H1.out.2.1 f7;have z0:=zA (i:=0) b9 rfl;have l4:=lt_of_block b9))
   go_meet
   exact⟨rfl,rfl,Ja g4⟩
  |some ra=>
   go_wp2_with fail;go_meet;exact⟨rfl,rfl,Ja (Below.refl _ _)⟩
 case rest=>
  obtain⟨rfl,rfl,HW⟩:=hcut;obtain⟨ii,c9,b4,b3,b2⟩:=info_parts Try.info_int;have b5:=zH HW.out H1.out.2.1 f7;have y0:=zA (i:=0) b5 rfl;obtain⟨yg,_,m4,l8⟩:=HG.out wc (H1.out.1.trans (HW.out.mono H1.out.1.size));have h6:=lt_of_block b5;obtain⟨t2,d6⟩:∃t,w.heap.size=t:=⟨_,rfl⟩
  obtain⟨rb,b8⟩:∃rb:Nat,bl≠ []->ra=some ⟨rb,0,none⟩/\rn=R.length/\rc=R.length/\Q wc rb (R.flatMap xe).toArray 48:=by
   rcases H1.out.2.2 with⟨h0,_⟩|⟨h0,h1,h2,rb,h3,h4⟩
   ·exact⟨0,fun h=>absurd h0 h⟩
   ·exact⟨rb,fun _=>⟨h3,h1,h2,zH HW.out h4 (lt_of_block h4)⟩⟩
  have HS:=Ja (show ObS w wc w.heap.size rb #[.slice (some ⟨gb,go,none⟩) p.funcs.length f2,Va,I p.entry,I p.handler,Vd,Vb] R bl from⟨H1.out.1.trans (HW.out.mono H1.out.1.size),b5,fun h0=>(b8 h0).2.2.2⟩);have i2:=Ja (show bl≠ []->ra=some ⟨rb,0,none⟩/\rn=R.length/\rc=R.length from fun h=>⟨(b8 h).1,(b8 h).2.1,(b8 h).2.2.1⟩);rw[d6] at HS y0 h6 HG HC ⊢;have HT:=Ja d6;clear d6;have j1:=Ja (show B<=t2 by rw[<-HT.out];exact(HG.out w (Below.refl _ _)).2.2.1);have c8:wc.ownsRow t2 3 1 (F) 0 ((obs p.data R ([]:List IOp)).map zN):=Jv _ _ _ _;have i8:=Ja c8;clear b8 c8 b5;go_wp2;clear y0 yg
  go_loopw [6,39] (fun sv kv wx=>∃(k:Nat) (oa:Option Addr) (on oc:Nat),k<=bl.length/\sv=.slice oa on oc/\kv=I k/\Hid (on=(obs p.data R ((bl.take k).flatMap (·.ops))).length/\ObS w wx t2 rb #[.slice (some ⟨gb,go,none⟩) p.funcs.length f2,Va,I p.entry,I p.handler,Vd,Vb] R bl/\wx.ownsRow t2 3 1 (.slice oa on oc) on ((obs p.data R ((bl.take k).flatMap (·.ops))).map zN))) (fun _ kv _=>bl.length-(intOf kv).toNat)
  case atStart=>exact⟨0,none,0,0,Jt _,rfl,rfl,Ja ⟨rfl,HS.out,i8.out⟩⟩
  case round=>
   obtain⟨k,oa,on,oc,hk,rfl,rfl,HK⟩:=hrel
   by_cases a3:k<bl.length
   ·have c7:(k:Int)<(bl.length:Int):=Zo;obtain⟨b,hb⟩:∃b,bl[k]? =some b:=⟨_,Jd a3⟩
    have h8:bl≠ []:=fun e=>by rw[e] at a3;exact absurd a3 (Nat.not_lt_zero _)
    obtain⟨_,e7,b1,_⟩:=HG.out wr HK.out.2.1.below;obtain⟨bb,bo,h9,g3,c2,c3,h64,pv,ov,tv,c0,c1,c4,d8,c5,d5⟩:=e7.get hb;obtain⟨pa,pc,rfl,l2,l1⟩:=d8.form;obtain⟨qa,qc,rfl,l0,k9⟩:=c5.form;obtain⟨ta,tc,rfl,k7,k6⟩:=d5.form;subst h9;have k5:bb<wr.heap.size:=Jy g3 b1;have g1:=HF.out.2.2.2 b (Ji hb);have l3:b.ops.length<=2000000:=g1.2.1;obtain⟨Y,hY⟩:∃Y,wr.alloc (A #[.slice pa b.params.length pc,.slice qa b.ops.length qc,I b.term.kind,I b.term.a,.slice ta b.term.to.length tc] 36)=Y:=⟨_,rfl⟩
    have d1:O wr Y:=by rw[<-hY];exact(Below.refl _ _).alloc (Je _) _
    have f5:Q Y wr.heap.size #[.slice pa b.params.length pc,.slice qa b.ops.length qc,I b.term.kind,I b.term.a,.slice ta b.term.to.length tc] 36:=by rw[<-hY];exact zI rfl
    have HY:=Ja (show ObS w Y t2 rb #[.slice (some ⟨gb,go,none⟩) p.funcs.length f2,Va,I p.entry,I p.handler,Vd,Vb] R bl/\Y.ownsRow t2 3 1 (.slice oa on oc) on ((obs p.data R ((bl.take k).flatMap (·.ops))).map zN)/\Q Y wr.heap.size #[.slice pa b.params.length pc,.slice qa b.ops.length qc,I b.term.kind,I b.term.a,.slice ta b.term.to.length tc] 36/\mN Y B (.slice qa b.ops.length qc) b.ops from⟨HK.out.2.1.keep d1,p7 HK.out.2.2 d1 (Je _),f5,c5.below xA (d1.mono b1)⟩);have q:=Ja (Jb hb (Jb h8 (Jb a3 HK.out.1)));clear e7 hb g3 d8 c5 d5 d1 f5 g1 h64 a3 b1;go_upto_region 8 with fail;clear hY c0 c1 c2 c3 c4;obtain⟨t8,f6⟩:∃t,wr.heap.size=t:=⟨_,rfl⟩
    rw[f6] at HY ⊢;clear f6;have z1:U Y t8 1 (.slice qa b.ops.length qc):=zA HY.out.2.2.1 rfl;go_wp2;clear z1
    go_loopw [6,46] (fun sv jv wx=>∃(j:Nat) (oa:Option Addr) (on oc:Nat),j<=b.ops.length/\sv=.slice oa on oc/\jv=I j/\Hid (on=(obs p.data R ((bl.take k).flatMap (·.ops)++b.ops.take j)).length/\ObS w wx t2 rb #[.slice (some ⟨gb,go,none⟩) p.funcs.length f2,Va,I p.entry,I p.handler,Vd,Vb] R bl/\wx.ownsRow t2 3 1 (.slice oa on oc) on ((obs p.data R ((bl.take k).flatMap (·.ops)++b.ops.take j)).map zN)/\Below t2 Y wx)) (fun _ jv _=>b.ops.length-(intOf jv).toNat)
    case atStart=>exact⟨0,oa,on,oc,Jt _,rfl,rfl,Ja ⟨by rw[Uc,Ua];exact q.out.2.2.2,HY.out.1,by rw[Uc,Ua];exact HY.out.2.1,Below.refl _ _⟩⟩
    case round=>
     obtain⟨j,oa,on,oc,hj,rfl,rfl,HJ⟩:=hrel
     by_cases a3:j<b.ops.length
     ·have c7:(j:Int)<(b.ops.length:Int):=Zo;obtain⟨o,ho⟩:∃o,b.ops[j]? =some o:=⟨_,Jd a3⟩
      obtain⟨qb,qo,h7,f9,e0,e1,e2,e3,e4,h64,av,e5,g5⟩:=(HY.out.2.2.2.below xA (HJ.out.2.2.2.mono j1.out)).get ho;obtain⟨aa,ac,rfl,_,_⟩:=g5.form;subst h7;have b1:B<=wr.heap.size:=(HG.out wr HJ.out.2.1.below).2.2.1;have j2:qb<wr.heap.size:=Jy f9 b1;obtain⟨c,hc⟩:∃c,o.code=c:=⟨_,rfl⟩
      obtain⟨y,hy⟩:∃y,o.a=y:=⟨_,rfl⟩
      rw[hc] at e0;rw[hy] at e2;obtain⟨Z,hZ⟩:∃Z,wr.alloc (A #[I c,I o.res,I y,I o.b,G (o.n:Int),.slice aa o.args.length ac] 27)=Z:=⟨_,rfl⟩
      have d0:O wr Z:=by rw[<-hZ];exact(Below.refl _ _).alloc (Je _) _
      have d2:Q Z wr.heap.size #[I c,I o.res,I y,I o.b,G (o.n:Int),.slice aa o.args.length ac] 27:=by rw[<-hZ];exact zI rfl
      have l:=Ja (show ObS w Z t2 rb #[.slice (some ⟨gb,go,none⟩) p.funcs.length f2,Va,I p.entry,I p.handler,Vd,Vb] R bl/\Z.ownsRow t2 3 1 (.slice oa on oc) on ((obs p.data R ((bl.take k).flatMap (·.ops)++b.ops.take j)).map zN)/\Q Z wr.heap.size #[I c,I o.res,I y,I o.b,G (o.n:Int),.slice aa o.args.length ac] 27/\Below t2 Y Z from⟨HJ.out.2.1.keep d0,p7 HJ.out.2.2.1 d0 (Je _),d2,HJ.out.2.2.2.trans (d0.mono HJ.out.2.1.lt)⟩)
      have k3:on<=4000000000000:=by
       have h1:=HJ.out.1;have h2:=obs_le p.data R ((bl.take k).flatMap (·.ops)++b.ops.take j);have h3:=aeQ (bl.take k) fun x hx=>(HF.out.2.2.2 x (List.mem_of_mem_take hx)).2.1
       rw[Jk,Oc] at h2;rw[Oc] at h3;have h4:=q.out.2.2.1;omega
      have HO:=Ja (Jb ho (Jb hc (Jb hy (Jb a3 HJ.out.1))));clear ho h64 g5 d0 d2 a3 f9 b1;go_upto_region 11 with fail;clear hZ e0 e1 e2 e3 e4 e5 hc hy;obtain⟨a2,d7⟩:∃t,wr.heap.size=t:=⟨_,rfl⟩
      rw[d7] at l ⊢;clear d7;have z0:U Z a2 0 (I c):=zA l.out.2.2.1 rfl
      by_cases b6:c=18∨c=19∨c=20∨c=21
      ·have a9:p6 o=true:=by rw[bd,HO.out.2.1];exact decide_eq_true b6
       have d3:=agj (HF.out.1 q.out.2.1) q.out.1 (Ji HO.out.1) a9;rw[HF.out.2.1,HO.out.2.2.1] at d3;obtain⟨yn,rfl⟩:∃yn:Nat,y=yn:=⟨y.toNat,by omega⟩
       have a5:yn<R.length:=by have:=d3.2;rw[Ni] at this;exact this
       obtain⟨rfl,rfl,rfl⟩:=i2.out q.out.2.1
       have m3:R.length<=65536:=by
        have h1:=(mo (HF.out.1 q.out.2.1)).2;rw[HF.out.2.1] at h1;have h2:=(HF.out.1 q.out.2.1).cnt;omega
       obtain⟨a,ha⟩:∃a,R.getD yn ⟨0,0⟩=a:=⟨_,rfl⟩
       have f3:a.ok:=by
        have h1:=(mo (HF.out.1 q.out.2.1)).1;rw[HF.out.2.1] at h1;refine h1 a ?_;rw[<-ha,Jj,Jd a5];exact Uf a5
       obtain⟨z,hz⟩:∃z,afy p.data R o=z:=⟨_,rfl⟩
       have f4:∀n,dp o=n->mc p.data 0 a n=z:=fun n hn=>by rw[<-hz,<-ha,<-hn];unfold afy;rw[HO.out.2.2.1,Ni]
       have b7:obs p.data R ((bl.take k).flatMap (·.ops)++b.ops.take (j+1))=obs p.data R ((bl.take k).flatMap (·.ops)++b.ops.take j)++ [z]:=by
        rw[yl HO.out.1,<-Nv,ae0 a9,hz]
       have HA:=Ja (Jb b7 (Jb f3 (Jb f4 (Jb a9 ha))));have hrl:=lt_of_block (l.out.1.row q.out.2.1);clear d3 ha f3 hz f4 b7 a9;rcases b6 with rfl|rfl|rfl|rfl
       ·have HS:=Ja (show ∀w',ObT w w' t2 rb #[.slice (some ⟨gb,go,none⟩) p.funcs.length f2,Va,I p.entry,I p.handler,Vd,Vb] R bl a2 #[I 18,I o.res,I yn,I o.b,G (o.n:Int),.slice aa o.args.length ac]->(U w' t2 0 (.slice (some ⟨gb,go,none⟩) p.funcs.length f2)/\U w' t2 1 Va/\U w' t2 2 (I p.entry)/\U w' t2 3 (I p.handler)/\U w' t2 4 Vd/\U w' t2 5 Vb)/\U w' a2 2 (I yn)/\U w' rb (yn*2) (G (a.lo:Int))/\U w' rb (yn*2+1) (G (a.hi:Int)) from fun W h=>⟨⟨zA h.s.p2 rfl,zA h.s.p2 rfl,zA h.s.p2 rfl,zA h.s.p2 rfl,zA h.s.p2 rfl,zA h.s.p2 rfl⟩,zA h.op rfl,by rw[<-HA.out.2.2.2.2];exact(h.s.rcell q.out.2.1 a5).1,by rw[<-HA.out.2.2.2.2];exact(h.s.rcell q.out.2.1 a5).2⟩);have a0:dp o=2:=by unfold dp;(rw[HO.out.2.1])<;>rfl
        have b0:=Ja (show ∀W,Below t2 w W->T 24 #[.agg #[.slice (some ⟨gb,go,none⟩) p.funcs.length f2,Va,I p.entry,I p.handler,Vd,Vb],.agg #[G (a.lo:Int),G (a.hi:Int)],I 2] W (j4 W z) from fun W hb=>by
         rw[<-HA.out.2.2.1 2 a0];exact HC.out.2.2 a 2 W hb HA.out.2.1 Zd)
        clear a0;go_upto_region 14 with fail;clear z0;refine wp_region_noPanic ?_;refine yQ (S:=(fun w'=>(U w' t2 0 (.slice (some ⟨gb,go,none⟩) p.funcs.length f2)/\U w' t2 1 Va/\U w' t2 2 (I p.entry)/\U w' t2 3 (I p.handler)/\U w' t2 4 Vd/\U w' t2 5 Vb)/\U w' a2 2 (I yn)/\U w' rb (yn*2) (G (a.lo:Int))/\U w' rb (yn*2+1) (G (a.hi:Int)))) 10 Zk (HS.out _ ⟨l.out.1.drew,l.out.2.2.1⟩) (fun hHeld=>?_);refine Tl 0 ?_
        try simp only[Yp]
        refine Tl 1 ?_
        try simp only[Yp]
        refine Tl 2 ?_
        try simp only[Yp]
        refine Tl 3 ?_
        try simp only[Yp]
        refine Tl 4 ?_
        try simp only[Yp]
        refine Tl 5 ?_
        try simp only[Yp]
        refine Tl 6 ?_
        try simp only[Yp]
        refine z8 (rs:=[7]) Zk Zs ?_;refine zS.cons (o:=_) rfl (fun K hK=>?_) ?_
        ·skip
         (go_simp;refine(b0.out _ l.out.1.below.drew).mono ?_;rintro e w5 ⟨rfl,a4⟩;have m:O Z w5:=(Below.refl Z.heap.size Z).drew.trans a4;clear a4;have g:=Ja (Jb (ObT.keep ⟨l.out.1,l.out.2.2.1⟩ m) (Jb (p7 l.out.2.1 m (Je _)) (Jb m (show t2<=(w5.alloc (A #[I z] 3)).heap.size by have:=l.out.1.lt;have:=m.size;simp;omega))));clear m)
         refine hK.out _ _ (HS.out _ g.out.1) (fun hHeld=>?_);clear hK K
         try simp only[Yp]
         refine z8 (rs:=[8]) Zk Zs ?_;refine zS.cons (o:=_) rfl (fun K hK=>?_) ?_
         ·skip
          go_simp;refine hK.out _ _ (HS.out _ (g.out.1.keep ((Below.refl _ _).alloc (Je _) _))) (fun hHeld=>?_);clear hK K
          try simp only[Yp]
          refine z8 (rs:=[9]) Zk Zs ?_;refine zS.cons (o:=_) rfl (fun K hK=>?_) ?_
          ·skip
           (refine yG (by rfl) (.tmp 55) (.tmp 63) _ (by rfl) t2 3 ii (I 0) 1 8 Try.underlying25 c9 b4 b3 b2 rfl Zo (.slice oa on oc) on ((obs p.data R ((bl.take k).flatMap (·.ops)++b.ops.take j)).map zN) (by rfl) (g.out.2.1.alloc _) (N w5.heap.size 1 1) 1 [I z] (by rfl) (yM.one (zI rfl) rfl) (by unfold maxLen;omega) Zo g.out.2.2.2 ?_;intro va9 vc9 w9 u d a6;(try dsimp only))
           refine hK.out _ _ (HS.out _ ((g.out.1.keep ((Below.refl _ _).alloc (Je _) _)).grown (g.out.2.1.alloc _) d)) (fun hHeld=>?_);clear hK K
           try simp only[Yp]
           refine z8 (rs:=[10]) Zk Zs ?_;refine zS.last (o:=_) rfl (fun K hK=>?_);go_simp;refine hK.out _ _ ?_;clear hK K
           try simp only[Yp]
           refine xj Zk (NoPanic.normal ?_) _
           have a1:=Ja (show ObS w w9 t2 rb #[.slice (some ⟨gb,go,none⟩) p.funcs.length f2,Va,I p.entry,I p.handler,Vd,Vb] R bl/\w9.ownsRow t2 3 1 (.slice va9 (on+1) vc9) (on+1) ((obs p.data R ((bl.take k).flatMap (·.ops)++b.ops.take (j+1))).map zN)/\Below t2 Y w9 from by
            have h2:=(g.out.1.s.keep ((Below.refl _ _).alloc (Je _) (A #[I z] 3))).grown (g.out.2.1.alloc _) d;have h4:Below t2 Y (w5.alloc (A #[I z] 3)):=(l.out.2.2.2.trans (g.out.2.2.1.mono l.out.1.lt)).alloc g.out.1.s.lt _
            exact⟨h2,by rw[HA.out.1,Js];exact u,h4.grown d g.out.2.2.2 (ae3 g.out.2.1)⟩)
           clear u d a6 hHeld;go_wp2_with fail;go_roundw
           case rel=>exact⟨j+1,va9,on+1,vc9,HO.out.2.2.2.1,rfl,by go_num,Ja ⟨by rw[HA.out.1,Jk,<-HO.out.2.2.2.2];rfl,a1.out.1,a1.out.2.1,a1.out.2.2⟩⟩
           case measure=>have:=HO.out.2.2.2.1;simp[intOf];omega
          exact zS.nil
         exact zS.nil
        exact zS.nil
       ·have HS:=Ja (show ∀w',ObT w w' t2 rb #[.slice (some ⟨gb,go,none⟩) p.funcs.length f2,Va,I p.entry,I p.handler,Vd,Vb] R bl a2 #[I 19,I o.res,I yn,I o.b,G (o.n:Int),.slice aa o.args.length ac]->(U w' t2 0 (.slice (some ⟨gb,go,none⟩) p.funcs.length f2)/\U w' t2 1 Va/\U w' t2 2 (I p.entry)/\U w' t2 3 (I p.handler)/\U w' t2 4 Vd/\U w' t2 5 Vb)/\U w' a2 2 (I yn)/\U w' rb (yn*2) (G (a.lo:Int))/\U w' rb (yn*2+1) (G (a.hi:Int)) from fun W h=>⟨⟨zA h.s.p2 rfl,zA h.s.p2 rfl,zA h.s.p2 rfl,zA h.s.p2 rfl,zA h.s.p2 rfl,zA h.s.p2 rfl⟩,zA h.op rfl,by rw[<-HA.out.2.2.2.2];exact(h.s.rcell q.out.2.1 a5).1,by rw[<-HA.out.2.2.2.2];exact(h.s.rcell q.out.2.1 a5).2⟩);have a0:dp o=1:=by unfold dp;(rw[HO.out.2.1])<;>rfl
        have b0:=Ja (show ∀W,Below t2 w W->T 24 #[.agg #[.slice (some ⟨gb,go,none⟩) p.funcs.length f2,Va,I p.entry,I p.handler,Vd,Vb],.agg #[G (a.lo:Int),G (a.hi:Int)],I 1] W (j4 W z) from fun W hb=>by
         rw[<-HA.out.2.2.1 1 a0];exact HC.out.2.2 a 1 W hb HA.out.2.1 Zd)
        clear a0;go_upto_region 17 with fail;clear z0;refine wp_region_noPanic ?_;refine yQ (S:=(fun w'=>(U w' t2 0 (.slice (some ⟨gb,go,none⟩) p.funcs.length f2)/\U w' t2 1 Va/\U w' t2 2 (I p.entry)/\U w' t2 3 (I p.handler)/\U w' t2 4 Vd/\U w' t2 5 Vb)/\U w' a2 2 (I yn)/\U w' rb (yn*2) (G (a.lo:Int))/\U w' rb (yn*2+1) (G (a.hi:Int)))) 10 Zk (HS.out _ ⟨l.out.1.drew,l.out.2.2.1⟩) (fun hHeld=>?_);refine Tl 0 ?_
        try simp only[Yp]
        refine Tl 1 ?_
        try simp only[Yp]
        refine Tl 2 ?_
        try simp only[Yp]
        refine Tl 3 ?_
        try simp only[Yp]
        refine Tl 4 ?_
        try simp only[Yp]
        refine Tl 5 ?_
        try simp only[Yp]
        refine Tl 6 ?_
        try simp only[Yp]
        refine z8 (rs:=[7]) Zk Zs ?_;refine zS.cons (o:=_) rfl (fun K hK=>?_) ?_
        ·skip
         (go_simp;refine(b0.out _ l.out.1.below.drew).mono ?_;rintro e w5 ⟨rfl,a4⟩;have m:O Z w5:=(Below.refl Z.heap.size Z).drew.trans a4;clear a4;have g:=Ja (Jb (ObT.keep ⟨l.out.1,l.out.2.2.1⟩ m) (Jb (p7 l.out.2.1 m (Je _)) (Jb m (show t2<=(w5.alloc (A #[I z] 3)).heap.size by have:=l.out.1.lt;have:=m.size;simp;omega))));clear m)
         refine hK.out _ _ (HS.out _ g.out.1) (fun hHeld=>?_);clear hK K
         try simp only[Yp]
         refine z8 (rs:=[8]) Zk Zs ?_;refine zS.cons (o:=_) rfl (fun K hK=>?_) ?_
         ·skip
          go_simp;refine hK.out _ _ (HS.out _ (g.out.1.keep ((Below.refl _ _).alloc (Je _) _))) (fun hHeld=>?_);clear hK K
          try simp only[Yp]
          refine z8 (rs:=[9]) Zk Zs ?_;refine zS.cons (o:=_) rfl (fun K hK=>?_) ?_
          ·skip
           (refine yG (by rfl) (.tmp 68) (.tmp 76) _ (by rfl) t2 3 ii (I 0) 1 8 Try.underlying25 c9 b4 b3 b2 rfl Zo (.slice oa on oc) on ((obs p.data R ((bl.take k).flatMap (·.ops)++b.ops.take j)).map zN) (by rfl) (g.out.2.1.alloc _) (N w5.heap.size 1 1) 1 [I z] (by rfl) (yM.one (zI rfl) rfl) (by unfold maxLen;omega) Zo g.out.2.2.2 ?_;intro va9 vc9 w9 u d a6;(try dsimp only))
           refine hK.out _ _ (HS.out _ ((g.out.1.keep ((Below.refl _ _).alloc (Je _) _)).grown (g.out.2.1.alloc _) d)) (fun hHeld=>?_);clear hK K
           try simp only[Yp]
           refine z8 (rs:=[10]) Zk Zs ?_;refine zS.last (o:=_) rfl (fun K hK=>?_);go_simp;refine hK.out _ _ ?_;clear hK K
           try simp only[Yp]
           refine xj Zk (NoPanic.normal ?_) _
           have a1:=Ja (show ObS w w9 t2 rb #[.slice (some ⟨gb,go,none⟩) p.funcs.length f2,Va,I p.entry,I p.handler,Vd,Vb] R bl/\w9.ownsRow t2 3 1 (.slice va9 (on+1) vc9) (on+1) ((obs p.data R ((bl.take k).flatMap (·.ops)++b.ops.take (j+1))).map zN)/\Below t2 Y w9 from by
            have h2:=(g.out.1.s.keep ((Below.refl _ _).alloc (Je _) (A #[I z] 3))).grown (g.out.2.1.alloc _) d;have h4:Below t2 Y (w5.alloc (A #[I z] 3)):=(l.out.2.2.2.trans (g.out.2.2.1.mono l.out.1.lt)).alloc g.out.1.s.lt _
            exact⟨h2,by rw[HA.out.1,Js];exact u,h4.grown d g.out.2.2.2 (ae3 g.out.2.1)⟩)
           clear u d a6 hHeld;go_wp2_with fail;go_roundw
           case rel=>exact⟨j+1,va9,on+1,vc9,HO.out.2.2.2.1,rfl,by go_num,Ja ⟨by rw[HA.out.1,Jk,<-HO.out.2.2.2.2];rfl,a1.out.1,a1.out.2.1,a1.out.2.2⟩⟩
           case measure=>have:=HO.out.2.2.2.1;simp[intOf];omega
          exact zS.nil
         exact zS.nil
        exact zS.nil
       ·have HS:=Ja (show ∀w',ObT w w' t2 rb #[.slice (some ⟨gb,go,none⟩) p.funcs.length f2,Va,I p.entry,I p.handler,Vd,Vb] R bl a2 #[I 20,I o.res,I yn,I o.b,G (o.n:Int),.slice aa o.args.length ac]->(U w' t2 0 (.slice (some ⟨gb,go,none⟩) p.funcs.length f2)/\U w' t2 1 Va/\U w' t2 2 (I p.entry)/\U w' t2 3 (I p.handler)/\U w' t2 4 Vd/\U w' t2 5 Vb)/\U w' a2 2 (I yn)/\U w' rb (yn*2) (G (a.lo:Int))/\U w' rb (yn*2+1) (G (a.hi:Int)) from fun W h=>⟨⟨zA h.s.p2 rfl,zA h.s.p2 rfl,zA h.s.p2 rfl,zA h.s.p2 rfl,zA h.s.p2 rfl,zA h.s.p2 rfl⟩,zA h.op rfl,by rw[<-HA.out.2.2.2.2];exact(h.s.rcell q.out.2.1 a5).1,by rw[<-HA.out.2.2.2.2];exact(h.s.rcell q.out.2.1 a5).2⟩);have a0:dp o=2:=by unfold dp;(rw[HO.out.2.1])<;>rfl
        have b0:=Ja (show ∀W,Below t2 w W->T 24 #[.agg #[.slice (some ⟨gb,go,none⟩) p.funcs.length f2,Va,I p.entry,I p.handler,Vd,Vb],.agg #[G (a.lo:Int),G (a.hi:Int)],I 2] W (j4 W z) from fun W hb=>by
         rw[<-HA.out.2.2.1 2 a0];exact HC.out.2.2 a 2 W hb HA.out.2.1 Zd)
        clear a0;go_upto_region 14 with fail;clear z0;refine wp_region_noPanic ?_;refine yQ (S:=(fun w'=>(U w' t2 0 (.slice (some ⟨gb,go,none⟩) p.funcs.length f2)/\U w' t2 1 Va/\U w' t2 2 (I p.entry)/\U w' t2 3 (I p.handler)/\U w' t2 4 Vd/\U w' t2 5 Vb)/\U w' a2 2 (I yn)/\U w' rb (yn*2) (G (a.lo:Int))/\U w' rb (yn*2+1) (G (a.hi:Int)))) 10 Zk (HS.out _ ⟨l.out.1.drew,l.out.2.2.1⟩) (fun hHeld=>?_);refine Tl 0 ?_
        try simp only[Yp]
        refine Tl 1 ?_
        try simp only[Yp]
        refine Tl 2 ?_
        try simp only[Yp]
        refine Tl 3 ?_
        try simp only[Yp]
        refine Tl 4 ?_
        try simp only[Yp]
        refine Tl 5 ?_
        try simp only[Yp]
        refine Tl 6 ?_
        try simp only[Yp]
        refine z8 (rs:=[7]) Zk Zs ?_;refine zS.cons (o:=_) rfl (fun K hK=>?_) ?_
        ·skip
         (go_simp;refine(b0.out _ l.out.1.below.drew).mono ?_;rintro e w5 ⟨rfl,a4⟩;have m:O Z w5:=(Below.refl Z.heap.size Z).drew.trans a4;clear a4;have g:=Ja (Jb (ObT.keep ⟨l.out.1,l.out.2.2.1⟩ m) (Jb (p7 l.out.2.1 m (Je _)) (Jb m (show t2<=(w5.alloc (A #[I z] 3)).heap.size by have:=l.out.1.lt;have:=m.size;simp;omega))));clear m)
         refine hK.out _ _ (HS.out _ g.out.1) (fun hHeld=>?_);clear hK K
         try simp only[Yp]
         refine z8 (rs:=[8]) Zk Zs ?_;refine zS.cons (o:=_) rfl (fun K hK=>?_) ?_
         ·skip
          go_simp;refine hK.out _ _ (HS.out _ (g.out.1.keep ((Below.refl _ _).alloc (Je _) _))) (fun hHeld=>?_);clear hK K
          try simp only[Yp]
          refine z8 (rs:=[9]) Zk Zs ?_;refine zS.cons (o:=_) rfl (fun K hK=>?_) ?_
          ·skip
           (refine yG (by rfl) (.tmp 55) (.tmp 63) _ (by rfl) t2 3 ii (I 0) 1 8 Try.underlying25 c9 b4 b3 b2 rfl Zo (.slice oa on oc) on ((obs p.data R ((bl.take k).flatMap (·.ops)++b.ops.take j)).map zN) (by rfl) (g.out.2.1.alloc _) (N w5.heap.size 1 1) 1 [I z] (by rfl) (yM.one (zI rfl) rfl) (by unfold maxLen;omega) Zo g.out.2.2.2 ?_;intro va9 vc9 w9 u d a6;(try dsimp only))
           refine hK.out _ _ (HS.out _ ((g.out.1.keep ((Below.refl _ _).alloc (Je _) _)).grown (g.out.2.1.alloc _) d)) (fun hHeld=>?_);clear hK K
           try simp only[Yp]
           refine z8 (rs:=[10]) Zk Zs ?_;refine zS.last (o:=_) rfl (fun K hK=>?_);go_simp;refine hK.out _ _ ?_;clear hK K
           try simp only[Yp]
           refine xj Zk (NoPanic.normal ?_) _
           have a1:=Ja (show ObS w w9 t2 rb #[.slice (some ⟨gb,go,none⟩) p.funcs.length f2,Va,I p.entry,I p.handler,Vd,Vb] R bl/\w9.ownsRow t2 3 1 (.slice va9 (on+1) vc9) (on+1) ((obs p.data R ((bl.take k).flatMap (·.ops)++b.ops.take (j+1))).map zN)/\Below t2 Y w9 from by
            have h2:=(g.out.1.s.keep ((Below.refl _ _).alloc (Je _) (A #[I z] 3))).grown (g.out.2.1.alloc _) d;have h4:Below t2 Y (w5.alloc (A #[I z] 3)):=(l.out.2.2.2.trans (g.out.2.2.1.mono l.out.1.lt)).alloc g.out.1.s.lt _
            exact⟨h2,by rw[HA.out.1,Js];exact u,h4.grown d g.out.2.2.2 (ae3 g.out.2.1)⟩)
           clear u d a6 hHeld;go_wp2_with fail;go_roundw
           case rel=>exact⟨j+1,va9,on+1,vc9,HO.out.2.2.2.1,rfl,by go_num,Ja ⟨by rw[HA.out.1,Jk,<-HO.out.2.2.2.2];rfl,a1.out.1,a1.out.2.1,a1.out.2.2⟩⟩
           case measure=>have:=HO.out.2.2.2.1;simp[intOf];omega
          exact zS.nil
         exact zS.nil
        exact zS.nil
       ·have HS:=Ja (show ∀w',ObT w w' t2 rb #[.slice (some ⟨gb,go,none⟩) p.funcs.length f2,Va,I p.entry,I p.handler,Vd,Vb] R bl a2 #[I 21,I o.res,I yn,I o.b,G (o.n:Int),.slice aa o.args.length ac]->(U w' t2 0 (.slice (some ⟨gb,go,none⟩) p.funcs.length f2)/\U w' t2 1 Va/\U w' t2 2 (I p.entry)/\U w' t2 3 (I p.handler)/\U w' t2 4 Vd/\U w' t2 5 Vb)/\U w' a2 2 (I yn)/\U w' rb (yn*2) (G (a.lo:Int))/\U w' rb (yn*2+1) (G (a.hi:Int)) from fun W h=>⟨⟨zA h.s.p2 rfl,zA h.s.p2 rfl,zA h.s.p2 rfl,zA h.s.p2 rfl,zA h.s.p2 rfl,zA h.s.p2 rfl⟩,zA h.op rfl,by rw[<-HA.out.2.2.2.2];exact(h.s.rcell q.out.2.1 a5).1,by rw[<-HA.out.2.2.2.2];exact(h.s.rcell q.out.2.1 a5).2⟩);have a0:dp o=1:=by unfold dp;(rw[HO.out.2.1])<;>rfl
        have b0:=Ja (show ∀W,Below t2 w W->T 24 #[.agg #[.slice (some ⟨gb,go,none⟩) p.funcs.length f2,Va,I p.entry,I p.handler,Vd,Vb],.agg #[G (a.lo:Int),G (a.hi:Int)],I 1] W (j4 W z) from fun W hb=>by
         rw[<-HA.out.2.2.1 1 a0];exact HC.out.2.2 a 1 W hb HA.out.2.1 Zd)
        clear a0;go_upto_region 17 with fail;clear z0;refine wp_region_noPanic ?_;refine yQ (S:=(fun w'=>(U w' t2 0 (.slice (some ⟨gb,go,none⟩) p.funcs.length f2)/\U w' t2 1 Va/\U w' t2 2 (I p.entry)/\U w' t2 3 (I p.handler)/\U w' t2 4 Vd/\U w' t2 5 Vb)/\U w' a2 2 (I yn)/\U w' rb (yn*2) (G (a.lo:Int))/\U w' rb (yn*2+1) (G (a.hi:Int)))) 10 Zk (HS.out _ ⟨l.out.1.drew,l.out.2.2.1⟩) (fun hHeld=>?_);refine Tl 0 ?_
        try simp only[Yp]
        refine Tl 1 ?_
        try simp only[Yp]
        refine Tl 2 ?_
        try simp only[Yp]
        refine Tl 3 ?_
        try simp only[Yp]
        refine Tl 4 ?_
        try simp only[Yp]
        refine Tl 5 ?_
        try simp only[Yp]
        refine Tl 6 ?_
        try simp only[Yp]
        refine z8 (rs:=[7]) Zk Zs ?_;refine zS.cons (o:=_) rfl (fun K hK=>?_) ?_
        ·skip
         (go_simp;refine(b0.out _ l.out.1.below.drew).mono ?_;rintro e w5 ⟨rfl,a4⟩;have m:O Z w5:=(Below.refl Z.heap.size Z).drew.trans a4;clear a4;have g:=Ja (Jb (ObT.keep ⟨l.out.1,l.out.2.2.1⟩ m) (Jb (p7 l.out.2.1 m (Je _)) (Jb m (show t2<=(w5.alloc (A #[I z] 3)).heap.size by have:=l.out.1.lt;have:=m.size;simp;omega))));clear m)
         refine hK.out _ _ (HS.out _ g.out.1) (fun hHeld=>?_);clear hK K
         try simp only[Yp]
         refine z8 (rs:=[8]) Zk Zs ?_;refine zS.cons (o:=_) rfl (fun K hK=>?_) ?_
         ·skip
          go_simp;refine hK.out _ _ (HS.out _ (g.out.1.keep ((Below.refl _ _).alloc (Je _) _))) (fun hHeld=>?_);clear hK K
          try simp only[Yp]
          refine z8 (rs:=[9]) Zk Zs ?_;refine zS.cons (o:=_) rfl (fun K hK=>?_) ?_
          ·skip
           (refine yG (by rfl) (.tmp 68) (.tmp 76) _ (by rfl) t2 3 ii (I 0) 1 8 Try.underlying25 c9 b4 b3 b2 rfl Zo (.slice oa on oc) on ((obs p.data R ((bl.take k).flatMap (·.ops)++b.ops.take j)).map zN) (by rfl) (g.out.2.1.alloc _) (N w5.heap.size 1 1) 1 [I z] (by rfl) (yM.one (zI rfl) rfl) (by unfold maxLen;omega) Zo g.out.2.2.2 ?_;intro va9 vc9 w9 u d a6;(try dsimp only))
           refine hK.out _ _ (HS.out _ ((g.out.1.keep ((Below.refl _ _).alloc (Je _) _)).grown (g.out.2.1.alloc _) d)) (fun hHeld=>?_);clear hK K
           try simp only[Yp]
           refine z8 (rs:=[10]) Zk Zs ?_;refine zS.last (o:=_) rfl (fun K hK=>?_);go_simp;refine hK.out _ _ ?_;clear hK K
           try simp only[Yp]
           refine xj Zk (NoPanic.normal ?_) _
           have a1:=Ja (show ObS w w9 t2 rb #[.slice (some ⟨gb,go,none⟩) p.funcs.length f2,Va,I p.entry,I p.handler,Vd,Vb] R bl/\w9.ownsRow t2 3 1 (.slice va9 (on+1) vc9) (on+1) ((obs p.data R ((bl.take k).flatMap (·.ops)++b.ops.take (j+1))).map zN)/\Below t2 Y w9 from by
            have h2:=(g.out.1.s.keep ((Below.refl _ _).alloc (Je _) (A #[I z] 3))).grown (g.out.2.1.alloc _) d;have h4:Below t2 Y (w5.alloc (A #[I z] 3)):=(l.out.2.2.2.trans (g.out.2.2.1.mono l.out.1.lt)).alloc g.out.1.s.lt _
            exact⟨h2,by rw[HA.out.1,Js];exact u,h4.grown d g.out.2.2.2 (ae3 g.out.2.1)⟩)
           clear u d a6 hHeld;go_wp2_with fail;go_roundw
           case rel=>exact⟨j+1,va9,on+1,vc9,HO.out.2.2.2.1,rfl,by go_num,Ja ⟨by rw[HA.out.1,Jk,<-HO.out.2.2.2.2];rfl,a1.out.1,a1.out.2.1,a1.out.2.2⟩⟩
           case measure=>have:=HO.out.2.2.2.1;simp[intOf];omega
          exact zS.nil
         exact zS.nil
        exact zS.nil
      ·have a9:p6 o=false:=by rw[bd,HO.out.2.1];exact decide_eq_false b6
       have b7:obs p.data R ((bl.take k).flatMap (·.ops)++b.ops.take (j+1))=obs p.data R ((bl.take k).flatMap (·.ops)++b.ops.take j):=by
        rw[yl HO.out.1,<-Nv,afl a9]
       have HA:=Ja b7;have n2:(c==18)=false:=Ze;have n1:(c==19)=false:=Ze;have n0:(c==20)=false:=Ze;have m5:(c==21)=false:=Ze;clear b7 a9 b6;go_wp2;go_roundw
       case rel=>exact⟨j+1,oa,on,oc,HO.out.2.2.2.1,rfl,by go_num,Ja ⟨by rw[HA.out];exact HO.out.2.2.2.2,l.out.1,by rw[HA.out];exact l.out.2.1,l.out.2.2.2⟩⟩
       case measure=>have:=HO.out.2.2.2.1;simp[intOf];omega
     ·obtain rfl:j=b.ops.length:=by omega
      have c7:¬(b.ops.length:Int)<(b.ops.length:Int):=Zo;clear hj a3;go_wp2;go_roundw
      case rel=>exact⟨k+1,oa,on,oc,q.out.2.2.1,rfl,by go_num,Ja ⟨by rw[gw q.out.1];have:=HJ.out.1;rw[Nl] at this;exact this,HJ.out.2.1,by rw[gw q.out.1];have:=HJ.out.2.2.1;rw[Nl] at this;exact this⟩⟩
      case measure=>have:=q.out.2.2.1;simp[intOf];omega
   ·obtain rfl:k=bl.length:=by omega
    have c7:¬(bl.length:Int)<(bl.length:Int):=Zo;have HE:=Ja (show aeC p.data (wk p bl) bl=obs p.data R ((bl.take bl.length).flatMap (·.ops)) by rw[HF.out.2.1,Nl];rfl);clear hk a3;go_wp2;go_ret;refine⟨_,rfl,?_,by rw[HT.out];exact HK.out.2.1.below⟩;rw[HE.out,<-HK.out.1,HT.out];exact HK.out.2.2
theorem afM{s:List Int}{sv:Value}(hs:zY w w.heap.size sv s):T 10 #[sv] w (oC w (uR (s.take 200))):=by
 obtain⟨sa,sc,rfl,a3,a2⟩:=hs.form;obtain⟨k,hk,m⟩:=gj s.length 200;have a0:∀(ts:Array TypeId) (t:TypeId) (W:World),(Builtin.min_ ts t #[I (s.length:Int),I 200]).run Try.prog W=.ok (I k) W:=fun ts t W=>by rw[hk];exact run_min_int2 ..
 have a4:(k:Int)<=(sc:Int):=Zo;have ht:=lw hs 200;rw[<-m] at ht
 have hm:∀W,O w W->T 25 #[.slice sa k sc] W (fun e w'=>oC W (uR (s.take 200)) e w'/\∃V,e=.returned (yH V (uR (s.take 200)))/\∀U,StaysL W.heap.size w' U->ProgIn U U.heap.size V (uR (s.take 200))):=fun W hb=>(jP ((ht.below zO hb).mono zO hb.size)).mono fun e w' ⟨V,he,hp,d⟩=>by
  subst he;exact⟨nE (hp _ (StaysL.refl _ _)) d,V,rfl,hp⟩
 have a1:(uR (s.take 200)).funcs.length<=4:=by rw[qA];exact(sm _).2
 generalize uR (s.take 200)=p at *;have HM:=Ja hm;clear hm hk m ht hs;have q:O w (w.alloc (A #[F,F,I 0,I 0,F,F] 44)):=(Below.refl _ _).alloc (Je _) _;have j:=zI (W:=w) (o:=A #[F,F,I 0,I 0,F,F] 44) rfl;have h:=Ja (Jb q j);clear q j;go_enter Try.func10,Try.ntmps10;go_wp2_with (go_at_call 25;go_must (refine(HM.out _ h.out.1).mono ?_;rintro e w1 ⟨⟨fa,fc,aa,ac,da,dc,ba,bc,rfl,hp,g⟩,V,y,l⟩;have c:=zH g h.out.2 (lt_of_block h.out.2);have c0:=zA (i:=0) c rfl;have c1:=zA (i:=1) c rfl;have c2:=zA (i:=2) c rfl;have c3:=zA (i:=3) c rfl;have c4:=zA (i:=4) c rfl;have c5:=zA (i:=5) c rfl;have cf:∀i,Y w1 w.heap.size i:=fun i=>zE c;have cl:=lt_of_block c;have u:=Ja (Jb hp (Jb g (Jb c (Jb y l))));clear hp g c y l))
 refine bodyPost_ret (v:=.agg (R p fa fc aa ac da dc ba bc)) ?_ rfl ?_
 ·rw[zM rfl];go_simp
 ·have d:=h.out.1.trans (u.out.2.1.mono h.out.1.size);have x:(w.alloc (A #[F,F,I 0,I 0,F,F] 44)).heap.size=w.heap.size+1:=by simp
  have hz:Below w.heap.size w1 (w1.setCells w.heap.size 0 [.slice fa p.funcs.length fc,.slice aa p.args.length ac,I p.entry,I p.handler,.slice da p.data.length dc,.slice ba p.banks.length bc]):=qu _ _ _ _;have hU:=u.out.2.2.2.2 _ (pJ (vs:=[.slice fa p.funcs.length fc,.slice aa p.args.length ac,I p.entry,I p.handler,.slice da p.data.length dc,.slice ba p.banks.length bc]) (o:=0) (w:=w1) (r:=w.heap.size) (by rw[x];omega));have hr:=nE hU (d.trans hz);rw[<-u.out.2.2.2.1] at hr;exact hr
end Go.Proofs.Ytoahcpkibpomcaa
