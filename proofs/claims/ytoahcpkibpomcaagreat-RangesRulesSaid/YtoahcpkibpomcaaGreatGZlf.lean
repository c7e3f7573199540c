/- Part of a proof. -/
import Derived.Test.YtoahcpkibpomcaaGreatGZPd
set_option linter.all false
set_option maxHeartbeats 8000000
set_option maxRecDepth 100000
namespace Go.Proofs.YtoahcpkibpomcaaGreat
open Go.RowKit
variable {W w w':World}{N a2 b2 d2 f2 l l' m m' x y:Nat}{c:Int}{a1 b1 d1 f1:Option Addr}
def ma (n:Nat):Slv:=⟨List.replicate n zx,List.replicate n false⟩
def bf (p:IProg)(bl:List IBlk)(order:List Nat):Slv:=(evL bl order).foldl (evQ p) (ma (aaG bl).toNat)
theorem ei {α:Type}(n:Nat)(a:α)(v:Nat)(z:α):(List.replicate n a).getD v z=if v<n then a else z:=by
 rw[Jj,Nm]
 split<;>rfl
theorem afq {n:Nat}:∀(ps:List Int) (q:Slv×Bool),(∀v∈ps,v.toNat<n)->OkS n q.1->∀x:Int,(ps.foldl (fun q v=>q7 0 v zx q) q).1.knw x=true->q.1.knw x=true∨∃v∈ps,v.toNat=x.toNat
 | [],q,_,_,x,h=> .inl h
 |v::ps,q,hp,hq,x,h=>by
  have hk:=hq.step (k:=0) v xr;rcases afq ps (q7 0 v zx q) (fun u hu=>hp u (.tail _ hu)) hk x h with h1|⟨u,h1,h2⟩
  ·by_cases e:v.toNat=x.toNat
   ·exact .inr ⟨v,.head _,e⟩
   ·have:=(cw (k:=0) hq Zo (hp v (.head _)) zx).2.2 x e;exact .inl (this.2.symm.trans h1)
  ·exact .inr ⟨u,.tail _ h1,h2⟩
theorem rules_eq {p:IProg}{bl:List IBlk}{d:wO}(q:FnS p bl)(hL:Loc bl d)(ha:AcyG (zy bl))(hc:∀i:Nat,i<bl.length->∀o∈(xz bl i).ops,o.code<=27)
 (hu:∀b∈bl,aq (aaG bl).toNat b):ux p bl=(bf p bl (vD (zy bl))).r:=by
 obtain⟨ns,hO⟩:=adR q.st.vg;obtain⟨N,w⟩:∃N,(aaG bl).toNat=N:=⟨_,rfl⟩
 have j:∀v∈(xz bl (0:Nat)).params,0<=v/\v.toNat<N:=by rw[<-w];exact(q.rng 0 q.pos).1
 obtain⟨s0,u⟩:∃s,fx N (xz bl (0:Nat)).params=s:=⟨_,rfl⟩
 have a2:OkS N s0:=by rw[<-u];exact af0 fun v hv=>(j v hv).2
 have l:=agl (n:=N) (ps:=(xz bl (0:Nat)).params) fun v hv=>(j v hv).2
 rw[u] at l
 have a3:∀x:Int,0<=x/\s0.knw x=true->x∈(xz bl (0:Nat)).params:=fun x c=>by
  rw[<-u] at c;rcases afq (xz bl (0:Nat)).params (⟨List.replicate N ⟨0,0⟩,List.replicate N false⟩,false) (fun v hv=>(j v hv).2) (aeU N) x c.2 with h1|⟨v,h1,h2⟩
  ·have h1:(List.replicate N false).getD x.toNat false=true:=h1;rw[ei] at h1
   split at h1<;>cases h1
  ·have h3:=(j v h1).1;have:v=x:=Zo;rw[<-this];exact h1
 have a6:=afN q hL hO ha (k0:=fun x=>0<=x/\s0.knw x=true) (fun x c=>⟨(j x c).1,(l x c).1⟩) a3;have g:∀i∈0::ns,qf N bl (xz bl i):=fun i hi=>by rw[<-w];exact q.sol i (i6 hO hi)
 have a7:∀e∈evL bl (0::ns),EvOk N e:=fun e m=>by
  obtain⟨i,hi,m⟩:=Qx.1 m;have a4:=i6 hO hi;obtain⟨b,hb⟩:∃b,bl[i]? =some b:=⟨_,Jd a4⟩
  have y:=hu b (Ji hb);rw[w] at y;rcases Jl.1 m with m|m
  ·obtain⟨o,ho,rfl⟩:=Nu.1 m;refine⟨(g i hi).1 o ho,hc i a4 o ho,fun h0 x c=>?_⟩;rw[y7 hb] at ho;refine(y.2.1 o ho).1 x ?_;have c:x∈(if 0<=o.res then(if(zi o.code).a=true then [o.a] else [])++(if(zi o.code).b=true then [o.b] else []) else []):=c;rw[if_pos h0] at c;rcases Jl.1 c with c|c
   ·by_cases h:(zi o.code).a=true
    ·rw[if_pos h] at c;rw[Jo.1 c];exact mem_a h
    ·rw[if_neg h] at c;cases c
   ·by_cases h:(zi o.code).b=true
    ·rw[if_pos h] at c;rw[Jo.1 c];exact mem_b h
    ·rw[if_neg h] at c;cases c
  ·obtain⟨ed,a5,m⟩:=Qx.1 m;obtain⟨⟨v,x⟩,hz,rfl⟩:=Nu.1 m;have a0:=q.st.trm i a4;unfold tz at a0;rw[Jm,Oe] at a0;have b2:=a0.1 ed a5;unfold uM at b2;simp only[Jm,decide_eq_true_eq] at b2;have hp:=(q.rng ed.block.toNat Zo).1 v (by rw[show((ed.block.toNat:Nat):Int)=ed.block by omega];exact(List.of_mem_zip hz).1);rw[w] at hp;rw[y7 hb] at a5;refine⟨hp,y.2.2 x ?_⟩;unfold mE;exact Qf _ (List.mem_flatten.2 ⟨_,Nu.2 ⟨ed,a5,rfl⟩,(List.of_mem_zip hz).2⟩)
 have b4:Sim N (ParQ bl) s0 (ma N):=by
  refine⟨a2,⟨by simp[ma],by simp[ma],fun a ha=>by rw[(List.mem_replicate.1 ha).2];exact xr⟩,fun v hv hk=>?_,fun v hv hvn _=>?_,fun v hv hq=>?_⟩
  ·have hm:=a3 v ⟨hv,hk⟩;rw[(l v hm).2]
   show zx=(List.replicate N zx).getD v.toNat ⟨0,0⟩
   rw[ei,if_pos (j v hm).2]
  ·show(List.replicate N zx).getD v.toNat ⟨0,0⟩=zx
   rw[ei,if_pos hvn]
  ·have h1:(ma N).knw v=false:=by
    show(List.replicate N false).getD v.toNat false=false
    rw[ei];split<;>rfl
   rw[h1]
   cases e:s0.knw v with
   |false=>rfl
   |true=>
    exfalso;have hm:=a3 v ⟨hv,e⟩;obtain⟨i,b,hi,hb,b6⟩:=hq;obtain⟨b0,b3⟩:∃b,bl[0]? =some b:=⟨_,Jd q.pos⟩
    rw[y7 b3] at hm;have q1:=(hL.par i b hb v b6).1;rw[(hL.par 0 b0 b3 v hm).1] at q1;have:=Nt q1;omega
 have f:=ek (p:=p) (k:=1) Zo (evL bl (0::ns)) s0 (ma N) false a7 a6 b4;have a1:(rk p bl (0::ns) 1 s0)=(evL bl (0::ns)).foldl (evS p 1) (s0,false):=af7 g s0;obtain⟨s1,b1⟩:∃s,((evL bl (0::ns)).foldl (evS p 1) (s0,false)).1=s:=⟨_,rfl⟩
 rw[b1] at f
 have b5:fnT p bl=s1:=by
  unfold fnT;rw[hO.eq,w,u,j0 g a2,a1,b1]
  split
  ·have h2:=aeX (p:=p) (k:=2) (evL bl (0::ns)) s1 f.fix;have h3:rk p bl (0::ns) 2 s1=(s1,false):=(af7 g s1).trans h2;rw[j0 g f.sim.oks,show(0+1+1:Nat)=2 from rfl,h3,if_neg (fun h=>by cases h)]
  ·rfl
 unfold ux bf;rw[b5,hO.eq,w];have h1:=f.sim;generalize (evL bl (0::ns)).foldl (evQ p) (ma N)=t at *;apply Oq;intro v
 by_cases hv:v<N
 ·rw[fill_get h1.oks hv]
  have ht:t.r[v]? =some (t.get (v:Int)):=by
   have hl:v<t.r.length:=by rw[h1.okt.rl];exact hv
   unfold Slv.get;rw[Ni,Jj,Jd hl];rfl
  rw[ht]
  cases e:s1.knw (v:Int) with
  |true=>rw[if_pos rfl,h1.eq _ (Int.natCast_nonneg _) e]
  |false=>rw[if_neg Zd,h1.full _ (Int.natCast_nonneg _) (by rw[Ni];exact hv) e]
 ·rw[Of (by rw[fill_len h1.oks];omega),Of (by rw[h1.okt.rl];omega)]
theorem cm{B:Nat}{v:Value}{xs:List Int}(h:pg w B v xs):xp zN w B v xs:=by
 obtain⟨a,d,rfl,h1,_,h3⟩:=h;refine⟨a,d,rfl,h1,fun k x hk=>?_⟩;obtain⟨b,o,g,f,c⟩:=h3 k x hk;rw[Nk] at c;exact⟨b,o,g,f,c⟩
theorem aB{B:Nat}{v:Value}{rows:List (List Int)}(h:RowsC w B v rows):aaB zN w B v rows:=by
 obtain⟨a,q,rfl,h1,_,h3⟩:=h
 have t:∃f:Nat->Value,∀k row,rows[k]? =some row->∃b o,a=some ⟨b,o,none⟩/\b<B/\T w b (o+k) (f k)/\xp zN w B (f k) row:=by
  refine⟨fun k=>match a with|some p=>(w.cell? ⟨p.block,p.off+k,none⟩).getD (.bool false)|none=> .bool false,fun k row hk=>?_⟩;obtain⟨b,o,l,i,u,d,y⟩:=h3 k row hk;rw[Nk] at d;subst l;refine⟨b,o,rfl,i,?_,?_⟩
  ·show w.cell? ⟨b,o+k,none⟩=some ((w.cell? ⟨b,o+k,none⟩).getD (.bool false))
   rw[d];rfl
  ·show xp zN w B ((w.cell? ⟨b,o+k,none⟩).getD (.bool false)) row
   rw[d];exact cm y
 obtain⟨f,hf⟩:=t;refine⟨(List.range rows.length).map f,⟨a,q,by simp,by simpa using h1,fun k x hk=>?_⟩,by simp,fun k rv row hk hr=>?_⟩
 ·rw[Jr,Oz] at hk;obtain⟨j,g,rfl⟩:=hk;have c:=(Jh.1 g).1;rw[Un] at c;rw[Oh c] at g;cases g;obtain⟨b,o,l,i,d,_⟩:=hf k _ (Jd c);exact⟨b,o,l,i,d⟩
 ·have m:=(Jh.1 hr).1;rw[Jr,Oh m] at hk;cases hk;exact(hf k row hr).choose_spec.choose_spec.2.2.2
theorem graph_q{B:Nat}{sv:Value}{blocks:List IBlk}(hs:vZ blocks)(c:blocks≠ [])(h:∀b∈blocks,tz blocks b.term=true)(hr:pV w B sv (zk blocks)):GraphIn w sv (zy blocks):=
 bU hs c h (aB (iW hr))
structure RuTo (rb kb:Nat) (w w':World):Prop where
 os:w'.os=w.os
 tape:w'.tape=w.tape
 output:w'.output=w.output
 size:w.heap.size<=w'.heap.size
 block:∀i,i<w.heap.size->i≠rb->i≠kb->w'.heap[i]? =w.heap[i]?
theorem RuTo.refl (rb kb:Nat)(w:World):RuTo rb kb w w:=⟨rfl,rfl,rfl,Je _,fun _ _ _ _=>rfl⟩
theorem RuTo.trans{rb kb:Nat}{w1 w2:World}(h:RuTo rb kb w w1)(c:RuTo rb kb w1 w2):RuTo rb kb w w2:=
 ⟨c.os.trans h.os,c.tape.trans h.tape,c.output.trans h.output,Jn h.size c.size,fun i hi a b=>(c.block i (Jy hi h.size) a b).trans (h.block i hi a b)⟩
theorem RuTo.of_below{rb kb:Nat}(h:Q w w'):RuTo rb kb w w':=⟨h.os,h.tape,h.output,h.size,fun i hi _ _=>h.block i hi⟩
theorem RuTo.below{rb kb:Nat}(h:RuTo rb kb w w'){B:Nat}(c:B<=rb/\B<=kb/\B<=w.heap.size):Below B w w':=
 ⟨h.os,h.tape,h.output,h.size,fun i hi=>h.block i Zo Zo Zo⟩
theorem RuTo.blk{rb kb:Nat}(h:RuTo rb kb w w'){b:Nat}{o:Option Obj}(hb:w.heap[b]? =o)(d:b<w.heap.size)(c:b≠rb/\b≠kb):w'.heap[b]? =o:=(h.block b d c.1 c.2).trans hb
structure RuAt (w:World) (rb kb N:Nat) (s:Slv):Prop where
 row:w.heap[rb]? =some (.cells (s.r.flatMap xB).toArray 45 (0,0))
 kn:w.heap[kb]? =some (.cells (s.kn.map Value.bool).toArray 4 (0,0))
 oks:OkS N s
 ne:rb≠kb
 n64:N<=1000000
theorem RuAt.same{rb kb:Nat}{s:Slv}(h:RuAt w rb kb N s)(h1:w'.heap[rb]? =w.heap[rb]?)(h2:w'.heap[kb]? =w.heap[kb]?):RuAt w' rb kb N s:=⟨h1.trans h.row,h2.trans h.kn,h.oks,h.ne,h.n64⟩
theorem RuAt.below{rb kb:Nat}{s:Slv}(h:RuAt w rb kb N s)(hb:Q w w'):RuAt w' rb kb N s:=h.same (hb.block _ (lt_of_block h.row)) (hb.block _ (lt_of_block h.kn))
theorem RuAt.rcell{rb kb:Nat}{s:Slv}(h:RuAt w rb kb N s){v:Nat}(h0:v<N):
 T w rb (v*2) (M ((s.get (v:Int)).lo:Int))/\T w rb (v*2+1) (M ((s.get (v:Int)).hi:Int)):=by
 have hl:v<s.r.length:=by rw[h.oks.rl];exact h0
 have hg:s.r[v]? =some (s.get (v:Int)):=by
  unfold Slv.get;rw[Ni,Jj,Jd hl];rfl
 exact⟨by have:=oW (f:=xB) (n:=2) (fun _=>rfl) h.row hg (j:=0) rfl;rw[Ng,Uk] at this;exact this,by have:=oW (f:=xB) (n:=2) (fun _=>rfl) h.row hg (j:=1) rfl;rw[Ng] at this;exact this⟩
theorem RuAt.kcell{rb kb:Nat}{s:Slv}(h:RuAt w rb kb N s){v:Nat}(h0:v<N):T w kb v (.bool (s.knw (v:Int))):=by
 refine zA h.kn ?_;have hl:v<s.kn.length:=by rw[h.oks.kl];exact h0
 unfold Slv.knw;rw[Ni,Jj,Jd hl];simp[hl]
theorem RuAt.free{rb kb:Nat}{s:Slv}(h:RuAt w rb kb N s)(v:Nat):Y w rb v/\Y w kb v:=⟨zE h.row,zE h.kn⟩
theorem RuAt.lt{rb kb:Nat}{s:Slv}(h:RuAt w rb kb N s):rb<w.heap.size/\kb<w.heap.size:=⟨lt_of_block h.row,lt_of_block h.kn⟩
theorem RuAt.setR{rb kb:Nat}{s:Slv}(h:RuAt w rb kb N s){v:Nat}(hv:v<N){a:Rg}(g:a.ok)
 (f:(w.setCell ⟨rb,v*2,none⟩ (M (a.lo:Int))).setCell ⟨rb,v*2+1,none⟩ (M (a.hi:Int))=W):RuAt W rb kb N ⟨s.r.set v a,s.kn⟩/\RuTo rb kb w W:=by
 have d:=h.ne;have c:=zD (i:=v*2+1) (zD (i:=v*2) h.row (M (a.lo:Int))) (M (a.hi:Int));rw[f] at c;have ho:∀i,i≠rb->W.heap[i]? =w.heap[i]?:=fun i h1=>by rw[<-f,Below.heap_setCell _ _ _ _ h1,Below.heap_setCell _ _ _ _ h1]
 have hb:Below (min rb w.heap.size) w W:=by
  rw[<-f];exact((Below.refl _ w).setCell (show min rb w.heap.size<=rb from Nat.min_le_left _ _) _).setCell (show min rb w.heap.size<=rb from Nat.min_le_left _ _) _
 refine⟨⟨?_,(ho kb (fun e=>d e.symm)).trans h.kn,h.oks.setR v g,d,h.n64⟩,⟨hb.os,hb.tape,hb.output,hb.size,fun i _ h1 _=>ho i h1⟩⟩;rw[c,aeZ s.r v a (by rw[h.oks.rl];exact hv)]
theorem RuAt.setK{rb kb:Nat}{s:Slv}(h:RuAt w rb kb N s){v:Nat}:RuAt (w.setCell ⟨kb,v,none⟩ (.bool true)) rb kb N ⟨s.r,s.kn.set v true⟩/\RuTo rb kb w (w.setCell ⟨kb,v,none⟩ (.bool true)):=by
 have c:=h.ne;have d:=zD (i:=v) h.kn (.bool true);have ho:∀i,i≠kb->(w.setCell ⟨kb,v,none⟩ (.bool true)).heap[i]? =w.heap[i]?:=fun i h1=>Below.heap_setCell _ _ _ _ h1
 have hb:Below (min kb w.heap.size) w (w.setCell ⟨kb,v,none⟩ (.bool true)):=(Below.refl _ w).setCell (show min kb w.heap.size<=kb from Nat.min_le_left _ _) _;refine⟨⟨(ho rb c).trans h.row,?_,⟨h.oks.rl,by show(s.kn.set v true).length=N;rw[Nd,h.oks.kl],h.oks.ok⟩,c,h.n64⟩,⟨hb.os,hb.tape,hb.output,hb.size,fun i _ _ h2=>ho i h2⟩⟩;rw[d];simp[Ox]
theorem aa9:vC (afu 19)=0:=by decide+kernel
theorem afz:vC (afu 18)=0:=by decide+kernel
theorem exm_r19:ux (afu 19) (ahs 19)=[⟨0,65535⟩,⟨15,15⟩,⟨0,15⟩,⟨16384,16384⟩,⟨16384,16399⟩,⟨0,255⟩]:=by kernel_rfl
theorem exm_o19:agS (afu 19).data (ux (afu 19) (ahs 19)) (ahs 19)=[0]:=by kernel_rfl
theorem exm_o18:agS (afu 18).data (ux (afu 18) (ahs 18)) (ahs 18)=[-1]:=by kernel_rfl
theorem afj (a:Int):∀f∈(afu a).funcs,vZ f:=by
 intro f hf;simp only[afu,Jq,List.not_mem_nil,or_false] at hf;rcases hf with rfl|rfl
 ·exact⟨by decide,fun b hb=>by simp only[ag4,Jo] at hb;subst hb;exact⟨by decide,by decide,by decide⟩⟩
 ·exact⟨by show(1:Nat)<=_;omega,fun b hb=>by simp only[ahs,Jo] at hb;subst hb;exact⟨by show(1:Nat)<=_;omega,by show(5:Nat)<=_;omega,by show(0:Nat)<=_;omega⟩⟩
theorem own_one1{c:Nat}{v:Value}{z:Int}(h:w.ownsRow c 3 1 v 1 [I z]):∃g cap cur,v=L g 1 cap/\1<=cap/\A w g cur 3/\cur[0]? =some (I z):=by
 rcases h.2 with⟨_,e⟩|⟨g,cap,cur,rfl,hg,f,h1,h2,h3,i⟩
 ·omega
 ·refine⟨g,cap,cur,rfl,h1,f,?_⟩;have d:(cur.toList.take (1*1))[0]? =some (I z):=by rw[i];rfl
  rw[List.getElem?_take_of_lt Zo] at d
  simpa using d
theorem agA(hp:ProgIn w w.heap.size ⟨.slice f1 2 f2,.slice a1 2 a2,.slice d1 1 d2,.slice b1 0 b2⟩ (afu 19)):
 O 15 #[.agg #[.slice f1 2 f2,.slice a1 2 a2,I 0,I (-1),.slice d1 1 d2,.slice b1 0 b2],I 1] w (fun e w'=>∃b,e=.returned (L b 6 6)/\A w' b #[M 0,M 65535,M 15,M 15,M 0,M 15,M 16384,M 16384,M 16384,M 16399,M 0,M 255] 45/\Q w w'):=by
 refine(ac1 (f:=1) (bl:=ahs 19) hp (Je _) (afj 19) aa9 rfl (fun h=>by cases h)).mono ?_;rintro e w' ⟨b,rfl,h1,h2,h3⟩;rw[exm_r19] at h1 ⊢;exact⟨b,rfl,h1,h3⟩
theorem aa2{a z:Int}(hv:vC (afu a)=0)(ho:agS (afu a).data (ux (afu a) (ahs a)) (ahs a)=[z])(hp:ProgIn w w.heap.size ⟨.slice f1 2 f2,.slice a1 2 a2,.slice d1 1 d2,.slice b1 0 b2⟩ (afu a)):
 O 16 #[.agg #[.slice f1 2 f2,.slice a1 2 a2,I 0,I (-1),.slice d1 1 d2,.slice b1 0 b2],I 1] w (fun e w'=>∃g cap,e=.returned (L g 1 cap)/\T w' g 0 (I z)/\g<w'.heap.size/\1<=cap/\Q w w'):=by
 refine(ags (f:=1) (bl:=ahs a) hp (Je _) (afj a) hv rfl).mono ?_;rintro e w' ⟨v,rfl,h1,h2⟩;rw[ho] at h1;obtain⟨g,cap,h,rfl,h3,c,d⟩:=own_one1 h1;exact⟨g,cap,rfl,zA c d,lt_of_block c,h3,h2⟩
theorem nx (w:World)(a:Int)(c:I64 a):O 30 #[I a] w (fun e w'=>∃f1 f2 a1 a2 d1 d2 b1 b2,e=.returned (.agg #[.slice f1 2 f2,.slice a1 2 a2,I 0,I (-1),.slice d1 1 d2,.slice b1 0 b2])/\ProgIn w' w'.heap.size ⟨.slice f1 2 f2,.slice a1 2 a2,.slice d1 1 d2,.slice b1 0 b2⟩ (afu a)/\Q w w'):=
 (afJ w a c).mono fun e w' h=>h.open
theorem sanity10 (w:World):O 11 #[] w fun e w'=>e=.returned (.bool true)/\Q w w':=by
 go_enter Tryz.func11,Tryz.ntmps11
 go_upto_region 2 with(first
  |(go_at_call 30;go_must (refine(nx _ 19 ⟨by decide,by decide⟩).mono ?_;rintro e w1 ⟨f1,f2,a1,a2,d1,d2,b1,b2,rfl,x,m⟩))
  |(go_at_call 15;go_must (refine(agA x).mono ?_;rintro e w2 ⟨rb,rfl,q,a3⟩)))
 have o:=Ja (Jb q (m.trans (a3.mono m.size)));clear q m a3 x
 go_upto_region 3 with(first
  |(go_at_call 30;go_must (refine(nx _ 19 ⟨by decide,by decide⟩).mono ?_;rintro e w3 ⟨f1,f2,a1,a2,d1,d2,b1,b2,rfl,u,l⟩))
  |(go_at_call 16;go_must (refine(aa2 aa9 exm_o19 u).mono ?_;rintro e w4 ⟨g4,c4,rfl,j,h,a7,a0⟩)))
 have f:=l.trans (a0.mono l.size);have g:=Ja (Jb (zH f o.out.1 (lt_of_block o.out.1)) (Jb (o.out.2.trans (f.mono o.out.2.size)) (Jb j h)));clear l a0 u f j h
 go_upto_region 4 with(first
  |(go_at_call 30;go_must (refine(nx _ 18 ⟨by decide,by decide⟩).mono ?_;rintro e w5 ⟨f1,f2,a1,a2,d1,d2,b1,b2,rfl,t,k⟩))
  |(go_at_call 16;go_must (refine(aa2 afz exm_o18 t).mono ?_;rintro e w6 ⟨g6,c6,rfl,b0,a5,a6,y⟩)))
 have d:=k.trans (y.mono k.size);have c:=zH d g.out.1 (lt_of_block g.out.1);have H6:=Ja (g.out.2.1.trans (d.mono g.out.2.1.size));have j:=(d.cell (p:=⟨g4,0,none⟩) g.out.2.2.2).trans g.out.2.2.1;have h:=Jy g.out.2.2.2 d.size;have x0:=zA (i:=2*2) c rfl;have x1:=zA (i:=2*2+1) c rfl;have x2:=zA (i:=4*2) c rfl;have x3:=zA (i:=4*2+1) c rfl;have x4:=zA (i:=4) c rfl;have x5:=zA (i:=5) c rfl;have x6:=zA (i:=8) c rfl;have x7:=zA (i:=9) c rfl;have a4:=lt_of_block c;clear d k y t c;go_wp2;go_ret;exact⟨rfl,H6.out⟩
theorem acyc_one {b:IBlk}(h:b.term.to=[]):AcyG (zy [b]):=fun u s hu hs=>by
 have hs:s∈(zy [b]).getD u []:=hs;unfold zy at hs hu;rw[Ql,List.map_nil,h] at hs hu;have:u=0:=by simpa using hu
 subst this;cases hs
theorem ahj {p:IProg}{n:Nat}{b:IBlk}(hv:vC p=0)(hs:∀f∈p.funcs,vZ f)(j:P64 p)(c:p.funcs[n]? =some [b])(ht:b.term.to=[]):ux p [b]=(bf p [b] (vD (zy [b]))).r:=by
 have g: [b]≠ []:=by simp
 have h:=afR hv hs j c g;obtain⟨_,hf⟩:=rz hv;obtain⟨d,k⟩:=loc_of c g (hf n (Jh.1 c).1);exact rules_eq h k (acyc_one ht) (fun i hi o ho=>((afl (h.st.opok i hi o ho)).1).2) (ahk hv c)
def nI (c:Int)(m l m' l':Nat):List IOp:=[⟨1,2,0,0,m,[]⟩,⟨9,3,0,2,0,[]⟩,⟨1,4,0,0,l,[]⟩,⟨5,10,3,4,0,[]⟩,⟨1,5,0,0,m',[]⟩,⟨9,6,1,5,0,[]⟩,⟨1,7,0,0,l',[]⟩,⟨5,11,6,7,0,[]⟩,⟨c,20,10,if c=3∨c=4 then 0 else 11,0,[]⟩]
def ahw (c:Int)(m l m' l':Nat):IBlk:=⟨[0,1],nI c m l m' l',⟨4,20,[]⟩⟩
def mg (c:Int)(m l m' l':Nat):IProg:=⟨[ag4,[ahw c m l m' l']],[0,2],0,-1,[],[]⟩
def afv (m l:Nat):Rg:=qs 5 (qs 9 zx (pt m)) (pt l)
theorem aff(f:3<=c/\c<=17):vC (mg c m l m' l')=0:=by
 have d:c=3∨c=4∨c=5∨c=6∨c=7∨c=8∨c=9∨c=10∨c=11∨c=12∨c=13∨c=14∨c=15∨c=16∨c=17:=Zo;rcases d with rfl|rfl|rfl|rfl|rfl|rfl|rfl|rfl|rfl|rfl|rfl|rfl|rfl|rfl|rfl<;>(show _=_;kernel_rfl)
theorem n6:∀f∈(mg c m l m' l').funcs,vZ f:=by
 intro f hf;simp only[mg,Jq,List.not_mem_nil,or_false] at hf;rcases hf with rfl|rfl
 ·exact⟨by decide,fun b hb=>by simp only[ag4,Jo] at hb;subst hb;exact⟨by decide,by decide,by decide⟩⟩
 ·exact⟨by show(1:Nat)<=_;omega,fun b hb=>by simp only[Jo] at hb;subst hb;exact⟨by show(2:Nat)<=_;omega,by show(9:Nat)<=_;omega,by show(0:Nat)<=_;omega⟩⟩
theorem aeE(f:3<=c/\c<=17):
 (bf (mg c m l m' l') [ahw c m l m' l'] (vD (zy [ahw c m l m' l']))).r=[zx,zx,pt m,qs 9 zx (pt m),pt l,pt m',qs 9 zx (pt m'),pt l',zx,zx,afv m l,afv m' l',zx,zx,zx,zx,zx,zx,zx,zx,qs c (afv m l) (if c=3∨c=4 then zx else afv m' l')]:=by
 have d:c=3∨c=4∨c=5∨c=6∨c=7∨c=8∨c=9∨c=10∨c=11∨c=12∨c=13∨c=14∨c=15∨c=16∨c=17:=Zo;rcases d with rfl|rfl|rfl|rfl|rfl|rfl|rfl|rfl|rfl|rfl|rfl|rfl|rfl|rfl|rfl<;>(show _=_;kernel_rfl)
theorem aeL {n:Nat}(h:n<65536):(pt n).ok:=⟨Je _,by show n<=65535;omega⟩
theorem msk_R(hm:m<65536)(hl:l<65536)(f:x<65536):(afv m l).ok/\(afv m l).has (((x &&& m)+l)%65536):=by
 have i:qs 9 zx (pt m)=em 9 zx (pt m):=p6 Zd xr (aeL hm);have d:=afg (c:=9) Zd xr (aeL hm);have g:afv m l=em 5 (em 9 zx (pt m)) (pt l):=by unfold afv;rw[i];exact p6 Zd d (aeL hl)
 rw[g];refine⟨afg Zd d (aeL hl),?_⟩;have h1:(em 9 zx (pt m)).has (x &&& m):=ae2 (c:=9) Zd (o4 f) (.inl (n8 m)) hm xr (aeL hm) (fun h=>by cases h.1);exact ae2 (c:=5) Zd h1 (.inl (n8 l)) hl d (aeL hl) (fun h=>by cases h.1)
theorem ag6{call:gO}:∃(V:Int->Nat) (M:Mach),0<M.fuel/\0<M.pay.fuel/\V 10=((x &&& m)+l)%65536/\V 11=((y &&& m')+l')%65536/\
 iq ⟨mg 8 m l m' l',[],[]⟩ call (nI 8 m l m' l') (r7 [0,1] [x,y] (fun _=>0)) ⟨v7 ⟨#[]⟩,100,[],0,0⟩=iq ⟨mg 8 m l m' l',[],[]⟩ call [⟨8,20,10,11,0,[]⟩] V M:=by
 refine⟨?V,?M,?_,?_,?_,?_,?_⟩;rotate_left 6
 ·refine(rr Zd rfl).trans ?_;refine(rr Zd rfl).trans ?_;refine(rr Zd rfl).trans ?_;refine(rr Zd rfl).trans ?_;refine(rr Zd rfl).trans ?_;refine(rr Zd rfl).trans ?_;refine(rr Zd rfl).trans ?_;refine(rr Zd rfl).trans ?_;rfl
 ·decide
 ·decide
 ·rfl
 ·rfl
theorem af3:(((y &&& m')+l')%65536=0->(bQ ⟨mg 8 m l m' l',[],[]⟩ 1 [x,y] ⟨#[]⟩ 100).kind=4)/\
 (((y &&& m')+l')%65536≠0->(bQ ⟨mg 8 m l m' l',[],[]⟩ 1 [x,y] ⟨#[]⟩ 100).value=(((x &&& m)+l)%65536)/(((y &&& m')+l')%65536)):=by
 obtain⟨V,M,h1,h2,h3,d,f⟩:=ag6 (m:=m) (l:=l) (m':=m') (l':=l') (x:=x) (y:=y) (call:=xW ⟨mg 8 m l m' l',[],[]⟩ 99)
 have c:bQ ⟨mg 8 m l m' l',[],[]⟩ 1 [x,y] ⟨#[]⟩ 100=adO (tJ ⟨mg 8 m l m' l',[],[]⟩ (xW ⟨mg 8 m l m' l',[],[]⟩ 99) [ahw 8 m l m' l'] 101 0 [x,y] (fun _=>0) ⟨v7 ⟨#[]⟩,100,[],0,0⟩):=by
  show adO (xW _ 100 1 [x,y] _)=_
  rw[xW];rfl
 rw[c];refine⟨fun hd=>?_,fun hd=>?_⟩
 ·have hs:iq ⟨mg 8 m l m' l',[],[]⟩ (xW ⟨mg 8 m l m' l',[],[]⟩ 99) [⟨8,20,10,11,0,[]⟩] V M=.trap 4 0 M.pay:=agJ h1 (by
   show iy M.pay 8 (V 10) (V 11)=_
   unfold iy
   rw[if_pos ⟨rfl,d.trans hd⟩])
  rw[afG (f.trans hs)];rfl
 ·have hs:iq ⟨mg 8 m l m' l',[],[]⟩ (xW ⟨mg 8 m l m' l',[],[]⟩ 99) [⟨8,20,10,11,0,[]⟩] V M=.ok (setV V 20 (yW 8 (V 10) (V 11))) M.pay:=by
   refine(rr h1 (r:=yW 8 (V 10) (V 11)) (m':=M.pay) ?_).trans rfl
   show iy M.pay 8 (V 10) (V 11)=_
   unfold iy;rw[if_neg (fun h=>hd (d.symm.trans h.2))]
  rw[agx (f.trans hs) h2 rfl]
  show V 10/V 11=_
  rw[h3,d]
theorem msk_val(i:3<=c/\c<=17)(f:¬(c=8/\((y &&& m')+l')%65536=0)):
 (bQ ⟨mg c m l m' l',[],[]⟩ 1 [x,y] ⟨#[]⟩ 100).value=pp c (((x &&& m)+l)%65536) (((y &&& m')+l')%65536):=by
 by_cases g:c=8
 ·subst g;exact af3.2 (fun h=>f ⟨rfl,h⟩)
 have d:c=3∨c=4∨c=5∨c=6∨c=7∨c=9∨c=10∨c=11∨c=12∨c=13∨c=14∨c=15∨c=16∨c=17:=Zo;rcases d with rfl|rfl|rfl|rfl|rfl|rfl|rfl|rfl|rfl|rfl|rfl|rfl|rfl|rfl<;>(show _=_;kernel_rfl)
theorem msk_trap(c:((y &&& m')+l')%65536=0):(bQ ⟨mg 8 m l m' l',[],[]⟩ 1 [x,y] ⟨#[]⟩ 100).kind=4:=af3.1 c
theorem msk_law(d:3<=c/\c<=17)(h:m<65536/\l<65536/\m'<65536/\l'<65536)(k:x<65536)(j:y<65536)
 (hk:(bQ ⟨mg c m l m' l',[],[]⟩ 1 [x,y] ⟨#[]⟩ 100).kind=6):(qs c (afv m l) (if c=3∨c=4 then zx else afv m' l')).has (bQ ⟨mg c m l m' l',[],[]⟩ 1 [x,y] ⟨#[]⟩ 100).value:=by
 have g:¬(c=8/\((y &&& m')+l')%65536=0):=fun i=>by
  obtain⟨rfl,i⟩:=i;rw[msk_trap i] at hk;cases hk
 rw[msk_val d g];obtain⟨a1,a2⟩:=msk_R h.1 h.2.1 k;obtain⟨b1,b2⟩:=msk_R h.2.2.1 h.2.2.2 j
 by_cases f:c=3∨c=4
 ·rw[if_pos f,p6 ⟨d.1,by omega⟩ a1 xr];exact ae2 d a2 (.inr f) Zo a1 xr g
 ·rw[if_neg f,p6 ⟨d.1,by omega⟩ a1 b1];exact ae2 d a2 (.inl b2) Zo a1 b1 g
theorem yM.four{b n:Nat}{xs:List Value}{e:TypeId}(h:A w b xs.toArray e)(d:xs.length=m*n)(c:∀u∈xs,u.oneCell'=true):yM w n (L b m m) m xs:=
 ⟨_,_,rfl,d,c,.inr ⟨_,rfl,Oi (cs:=xs.toArray) h⟩⟩
def MskRet (w:World)(c:Int)(a b:Rg)(e:Ending)(w':World):Prop:=∃(m m':Nat) (f1 a1:Option Addr),(m<65536/\m'<65536)/\e=.returned (.agg #[.slice f1 2 2,.slice a1 2 2,I 0,I (-1),U,U])/\ProgIn w' w'.heap.size ⟨.slice f1 2 2,.slice a1 2 2,U,U⟩ (mg c m a.lo m' b.lo)/\Q w w'
theorem aeS{S s:Nat}{ov:Value}(f:3<=c/\c<=17)(h:m<65536/\l<65536/\m'<65536/\l'<65536)(ho:W.ownsRow S 76 6 ov 9 (((nI c m l m' l').map ge).flatMap zU))
 (b0:A W s #[U,U,I 5,I 0,U] 84)
 (b2:A W (s+1+1) #[I 0,I 1] 3)
 (b3:A W (s+1+1+1) #[L (s+1+1) 2 2,ov,I 4,I 20,U] 84)
 (b5:A W (s+1+1+1+1+1) #[L s 1 1,L (s+1+1+1) 1 1] 39)
 (b6:A W (s+1+1+1+1+1+1) #[I 0,I 2] 3):
 ProgIn W W.heap.size ⟨L (s+1+1+1+1+1) 2 2,L (s+1+1+1+1+1+1) 2 2,U,U⟩ (mg c m l m' l'):=by
 have d:=lt_of_block b6
 have ho2:mN W W.heap.size ov (nI c m l m' l'):=by
  have:=ops_own (l:=(nI c m l m' l').map ge) (S:=S) (v:=ov) (w:=W) ho (fun q hqq=>by
   obtain⟨o,ho,rfl⟩:=Nu.1 hqq
   have h1:qN o/\o.args=[]:=by
    simp only[nI,Jq,List.not_mem_nil,or_false] at ho;obtain⟨k1,k2,k3,k4⟩:=h;rcases ho with rfl|rfl|rfl|rfl|rfl|rfl|rfl|rfl|rfl<;>refine⟨⟨?_,?_,?_,?_,?_⟩,rfl⟩<;>first|(show _<_;dsimp only;omega)|(show I64 _;dsimp only;constructor<;>(try split)<;>omega)
   refine⟨h1.1,?_⟩
   show zY W _ (U) o.args
   rw[h1.2]
   exact yN.nil)
  rwa [List.map_map,show((fun q:IOp×Value=>q.1) ∘ ge)=id from rfl,List.map_id] at this
 refine⟨?_,?_,yN.nil,yN.nil,pZ,agF⟩
 ·refine yN.two Zo ⟨_,zA b5 rfl,yN.one Zo ?_⟩ ⟨_,zA b5 rfl,yN.one Zo ?_⟩
  ·exact⟨zA b0 rfl,zA b0 rfl,⟨⟨by decide,by decide⟩,⟨by decide,by decide⟩⟩,_,_,_,zA b0 rfl,zA b0 rfl,zA b0 rfl,yN.nil,yN.nil,yN.nil⟩
  ·exact⟨zA b3 rfl,zA b3 rfl,⟨(show I64 (4) from⟨by decide,by decide⟩),(show I64 (20) from⟨by decide,by decide⟩)⟩,_,_,_,zA b3 rfl,zA b3 rfl,zA b3 rfl,yN.two Zo ⟨zA b2 rfl,⟨by decide,by decide⟩⟩ ⟨zA b2 rfl,⟨by decide,by decide⟩⟩,ho2,yN.nil⟩
 ·exact yN.two Zo ⟨zA b6 rfl,⟨by decide,by decide⟩⟩ ⟨zA b6 rfl,⟨by decide,by decide⟩⟩
theorem agy(w:World)(hc:3<=c/\c<=17){a b:Rg}(ha:a.ok)(hb:b.ok):
 O 28 #[I c,.agg #[M (a.lo:Int),M (a.hi:Int)],.agg #[M (b.lo:Int),M (b.hi:Int)]] w (MskRet w c a b):=by
 have g2:=ha.1;have g1:=ha.2;have g0:=hb.1;have f9:=hb.2;clear ha hb;go_enter Tryz.func28,Tryz.ntmps28;go_upto_region 4 with fail;obtain⟨t9,e2⟩:∃t,w.heap.size+1+1+1=t:=⟨_,rfl⟩
 obtain⟨t6,e3⟩:∃t,w.heap.size+1+1=t:=⟨_,rfl⟩
 generalize hW:World.alloc _ _=W0
 have HA:=Ja (show Q w W0/\A W0 t9 #[M (a.lo:Int),M (a.hi:Int),M (b.lo:Int),M (b.hi:Int)] 124/\A W0 t6 #[U,U,I 0,I 0,U,U] 29/\W0.heap.size=t9+1 from by
  rw[<-hW,<-e2,<-e3]
  exact⟨by repeat' (first|exact Below.refl _ _|refine Below.alloc ?_ (by first|exact Je _|(simp;done)|(simp;omega)) _),zI Zs,by repeat' (first|exact zI (by first|rfl|(simp;done))|refine zB ?_),by simp⟩)
 have f5:=HA.out.2.2.2;rw[e2,e3];clear hW;go_wp2
 go_loopw [7,8,10] (fun ov nv kv wx=>(ov=U/\nv=I 2/\kv=I 0/\Hid (Below (t9+1) W0 wx))∨(∃(m:Nat) (oa:Option Addr) (oc:Nat),m<65536/\ov=.slice oa 4 oc/\nv=I 5/\kv=I 1/\Hid (wx.ownsRow (t9+1) 76 6 (.slice oa 4 oc) 4 [I 1,I 2,I 0,I 0,M m,U,I 9,I 3,I 0,I 2,M 0,U,I 1,I 4,I 0,I 0,M (a.lo:Int),U,I 5,I 10,I 3,I 4,M 0,U]/\Below (t9+1) W0 wx))∨
  (∃(m m':Nat) (oa:Option Addr) (oc:Nat),m<65536/\m'<65536/\ov=.slice oa 8 oc/\nv=I 8/\kv=I 2/\Hid (wx.ownsRow (t9+1) 76 6 (.slice oa 8 oc) 8 [I 1,I 2,I 0,I 0,M m,U,I 9,I 3,I 0,I 2,M 0,U,I 1,I 4,I 0,I 0,M (a.lo:Int),U,I 5,I 10,I 3,I 4,M 0,U,I 1,I 5,I 0,I 0,M m',U,I 9,I 6,I 1,I 5,M 0,U,I 1,I 7,I 0,I 0,M (b.lo:Int),U,I 5,I 11,I 6,I 7,M 0,U]/\Below (t9+1) W0 wx))) (fun _ _ kv _=>2-(intOf kv).toNat)
 case atStart=>exact .inl ⟨rfl,rfl,rfl,Ja (Below.refl _ _)⟩
 case round=>
  rcases hrel with h|h|h
  ·obtain⟨rfl,rfl,rfl,c4⟩:=h;have a5:=c4.out;have x:=zH a5 HA.out.2.1 Zo;obtain⟨D,hD⟩:∃D,a.hi-a.lo=D:=⟨_,rfl⟩
   have wd:IntKind.i64.wrap ((a.hi:Int)-(a.lo:Int))=(D:Int):=by rw[Om _ Zo];omega
   have c0:=Ja x;have e0:=a5.size;clear x;go_upto_region 7 with fail;go_wp2
   go_loopw [11] (fun mv wx=>∃m:Nat,m<=D/\mv=I m/\Hid (Q wr wx)) (fun mv _=>D+1-(intOf mv).toNat)
   case atStart=>exact⟨0,Jt _,rfl,Ja (Below.refl _ _)⟩
   case round=>
    rename World=>wy
    obtain⟨m,f2,rfl,HM⟩:=hrel;have x:=zH HM.out c0.out (lt_of_block c0.out);have l0:T wy t9 0 (M (a.lo:Int)):=zA x rfl;have l1:T wy t9 1 (M (a.hi:Int)):=zA x rfl;have ll:=lt_of_block x;have c3:m<65536:=Zo;have w1:IntKind.i64.wrap (2*(m:Int))=2*(m:Int):=Om _ Zo;have w2:IntKind.i64.wrap (2*(m:Int)+1)=2*(m:Int)+1:=Om _ Zo;have f1:=HM.out.size;clear x
    by_cases g:2*m+1<=D
    ·have d:decide (2*(m:Int)+1<=(D:Int))=true:=decide_eq_true Zo;have d':decide (2*m+1<=D)=true:=decide_eq_true g;go_upto_region 8 with fail;go_quiet (fail);go_wp2;go_roundw
     case rel=>exact⟨2*m+1,g,by go_num,Ja (yC HM.out)⟩
     case measure=>simp[intOf];omega
    ·have d:decide (2*(m:Int)+1<=(D:Int))=false:=decide_eq_false Zo;have d':decide (2*m+1<=D)=false:=decide_eq_false g;have w3:IntKind.u16.wrap (m:Int)=(m:Int):=by rw[xY];omega
     have b4:wy.ownsRow (t9+1) 76 6 (U) 0 ([]:List Value):=p7 (Jv wr _ _ _) HM.out (Je _);obtain⟨ii,a7,a2,a1,a0⟩:=info_parts Tryz.info_irop;have b9:=Ja b4;have c1:=Ja (a5.trans (HM.out.mono Zo));clear b4;go_upto_region 8 with fail;go_quiet (fail);generalize hy:wy.drewN _=wz;have b6:=Ja (show wz.ownsRow (t9+1) 76 6 (U) 0 ([]:List Value)/\Below (t9+1) W0 wz from by rw[<-hy];exact⟨ji b9.out,yC c1.out⟩);have c5:wz.heap.size=wy.heap.size:=by rw[<-hy];rfl
     have l0:T wz t9 0 (M (a.lo:Int)):=by rw[<-hy];exact l0
     have ll:t9<wz.heap.size:=Zo;clear hy b9 c1;go_upto_region 11 with(at_builtin;go_must (refine zK _ rfl (.tmp 40) (.tmp 64) 77 rfl (t9+1) 76 ii (.agg #[I 0,I 0,I 0,I 0,M 0,U]) 6 64 Tryz.underlying77 a7 a2 a1 a0 rfl Zd (U) 0 ([]:List Value) rfl (b6.out.1.alloc _) (L wy.heap.size 4 4) 4 [I 1,I 2,I 0,I 0,M m,U,I 9,I 3,I 0,I 2,M 0,U,I 1,I 4,I 0,I 0,M (a.lo:Int),U,I 5,I 10,I 3,I 4,M 0,U] rfl (yM.four (zI c5) rfl (by simp[Value.oneCell'])) (by unfold maxLen;omega) Zo Zt ?_;intro v9 w9 j l a3;obtain⟨oa9,oc9,rfl⟩:=zG j))
     have u:=Ja (show w9.ownsRow (t9+1) 76 6 (.slice oa9 4 oc9) 4 [I 1,I 2,I 0,I 0,M m,U,I 9,I 3,I 0,I 2,M 0,U,I 1,I 4,I 0,I 0,M (a.lo:Int),U,I 5,I 10,I 3,I 4,M 0,U]/\Below (t9+1) W0 w9 from⟨j,(b6.out.2.alloc Zo _).grown l Zt (wF b6.out.1)⟩);clear j l a3 l0 l1 ll;go_wp2;go_roundw
     case rel=>exact .inr (.inl ⟨m,oa9,oc9,c3,rfl,by go_num,by go_num,Ja ⟨u.out.1,u.out.2⟩⟩)
     case measure=>simp[intOf]
  ·obtain⟨m0,oa,oc,f3,rfl,rfl,rfl,c4⟩:=h;have a5:=c4.out.2;have x:=zH a5 HA.out.2.1 Zo;obtain⟨D,hD⟩:∃D,b.hi-b.lo=D:=⟨_,rfl⟩
   have wd:IntKind.i64.wrap ((b.hi:Int)-(b.lo:Int))=(D:Int):=by rw[Om _ Zo];omega
   have c0:=Ja x;have e0:=a5.size;clear x;go_upto_region 7 with fail;go_wp2
   go_loopw [11] (fun mv wx=>∃m:Nat,m<=D/\mv=I m/\Hid (Q wr wx)) (fun mv _=>D+1-(intOf mv).toNat)
   case atStart=>exact⟨0,Jt _,rfl,Ja (Below.refl _ _)⟩
   case round=>
    rename World=>wy
    obtain⟨m,f2,rfl,HM⟩:=hrel;have x:=zH HM.out c0.out (lt_of_block c0.out);have l0:T wy t9 2 (M (b.lo:Int)):=zA x rfl;have l1:T wy t9 3 (M (b.hi:Int)):=zA x rfl;have ll:=lt_of_block x;have c3:m<65536:=Zo;have w1:IntKind.i64.wrap (2*(m:Int))=2*(m:Int):=Om _ Zo;have w2:IntKind.i64.wrap (2*(m:Int)+1)=2*(m:Int)+1:=Om _ Zo;have f1:=HM.out.size;clear x
    by_cases g:2*m+1<=D
    ·have d:decide (2*(m:Int)+1<=(D:Int))=true:=decide_eq_true Zo;have d':decide (2*m+1<=D)=true:=decide_eq_true g;go_upto_region 8 with fail;go_quiet (fail);go_wp2;go_roundw
     case rel=>exact⟨2*m+1,g,by go_num,Ja (yC HM.out)⟩
     case measure=>simp[intOf];omega
    ·have d:decide (2*(m:Int)+1<=(D:Int))=false:=decide_eq_false Zo;have d':decide (2*m+1<=D)=false:=decide_eq_false g;have w3:IntKind.u16.wrap (m:Int)=(m:Int):=by rw[xY];omega
     have b4:wy.ownsRow (t9+1) 76 6 (.slice oa 4 oc) 4 [I 1,I 2,I 0,I 0,M m0,U,I 9,I 3,I 0,I 2,M 0,U,I 1,I 4,I 0,I 0,M (a.lo:Int),U,I 5,I 10,I 3,I 4,M 0,U]:=p7 c4.out.1 HM.out (Je _);obtain⟨ii,a7,a2,a1,a0⟩:=info_parts Tryz.info_irop;have b9:=Ja b4;have c1:=Ja (a5.trans (HM.out.mono Zo));clear b4;go_upto_region 8 with fail;go_quiet (fail);generalize hy:wy.drewN _=wz;have b6:=Ja (show wz.ownsRow (t9+1) 76 6 (.slice oa 4 oc) 4 [I 1,I 2,I 0,I 0,M m0,U,I 9,I 3,I 0,I 2,M 0,U,I 1,I 4,I 0,I 0,M (a.lo:Int),U,I 5,I 10,I 3,I 4,M 0,U]/\Below (t9+1) W0 wz from by rw[<-hy];exact⟨ji b9.out,yC c1.out⟩);have c5:wz.heap.size=wy.heap.size:=by rw[<-hy];rfl
     have l0:T wz t9 2 (M (b.lo:Int)):=by rw[<-hy];exact l0
     have ll:t9<wz.heap.size:=Zo;clear hy b9 c1;go_upto_region 11 with(at_builtin;go_must (refine zK _ rfl (.tmp 40) (.tmp 64) 77 rfl (t9+1) 76 ii (.agg #[I 0,I 0,I 0,I 0,M 0,U]) 6 64 Tryz.underlying77 a7 a2 a1 a0 rfl Zd (.slice oa 4 oc) 4 [I 1,I 2,I 0,I 0,M m0,U,I 9,I 3,I 0,I 2,M 0,U,I 1,I 4,I 0,I 0,M (a.lo:Int),U,I 5,I 10,I 3,I 4,M 0,U] rfl (b6.out.1.alloc _) (L wy.heap.size 4 4) 4 [I 1,I 5,I 0,I 0,M m,U,I 9,I 6,I 1,I 5,M 0,U,I 1,I 7,I 0,I 0,M (b.lo:Int),U,I 5,I 11,I 6,I 7,M 0,U] rfl (yM.four (zI c5) rfl (by simp[Value.oneCell'])) (by unfold maxLen;omega) Zo Zt ?_;intro v9 w9 j l a3;obtain⟨oa9,oc9,rfl⟩:=zG j))
     have u:=Ja (show w9.ownsRow (t9+1) 76 6 (.slice oa9 8 oc9) 8 [I 1,I 2,I 0,I 0,M m0,U,I 9,I 3,I 0,I 2,M 0,U,I 1,I 4,I 0,I 0,M (a.lo:Int),U,I 5,I 10,I 3,I 4,M 0,U,I 1,I 5,I 0,I 0,M m,U,I 9,I 6,I 1,I 5,M 0,U,I 1,I 7,I 0,I 0,M (b.lo:Int),U,I 5,I 11,I 6,I 7,M 0,U]/\Below (t9+1) W0 w9 from⟨j,(b6.out.2.alloc Zo _).grown l Zt (wF b6.out.1)⟩);clear j l a3 l0 l1 ll;go_wp2;go_roundw
     case rel=>exact .inr (.inr ⟨m0,m,oa9,oc9,f3,c3,rfl,by go_num,by go_num,Ja ⟨u.out.1,u.out.2⟩⟩)
     case measure=>simp[intOf]
  ·obtain⟨m,m',oa,oc,hm,b7,rfl,rfl,rfl,HO⟩:=h;obtain⟨bq,e7⟩:∃bq:Int,(if c=3∨c=4 then 0 else 11)=bq:=⟨_,rfl⟩
   obtain⟨q,c2⟩:∃t,wr.heap.size=t:=⟨_,rfl⟩
   have a5:=HO.out.2;have e0:=a5.size;go_upto_region 13 with fail;obtain⟨X,hX⟩:∃X,wr.alloc (G #[I c,I 20,I 10,I 11,M 0,U] 76)=X:=⟨_,rfl⟩
   have b3:A X q #[I c,I 20,I 10,I 11,M 0,U] 76:=by rw[<-hX];exact zI c2
   have e8:Below q wr X:=by rw[<-hX,<-c2];exact(Below.refl _ _).alloc (Je _) _
   rw[hX];have HX:=Ja (Jb b3 e8);have z3:T X q 3 (I 11):=zA b3 rfl;have zf:Y X q 3:=zE b3;have zl:=lt_of_block b3;have b8:=Ja e7;clear hX b3 e8 e7
   have f4:c=3∨c=4∨((c==3)=false/\(c==4)=false/\¬(c=3∨c=4)):=by
    by_cases h3:c=3
    ·exact .inl h3
    ·by_cases h4:c=4
     ·exact .inr (.inl h4)
     ·exact .inr (.inr ⟨by rw[beq_eq_false_iff_ne];exact h3,by rw[beq_eq_false_iff_ne];exact h4,fun h=>h.elim h3 h4⟩)
   have b0:Hid (∀V:World,A V q #[I c,I 20,I 10,I bq,M 0,U] 76/\Below q wr V->V.ownsRow (t9+1) 76 6 (.slice oa 8 oc) 8 [I 1,I 2,I 0,I 0,M m,U,I 9,I 3,I 0,I 2,M 0,U,I 1,I 4,I 0,I 0,M (a.lo:Int),U,I 5,I 10,I 3,I 4,M 0,U,I 1,I 5,I 0,I 0,M m',U,I 9,I 6,I 1,I 5,M 0,U,I 1,I 7,I 0,I 0,M (b.lo:Int),U,I 5,I 11,I 6,I 7,M 0,U]/\Below (t9+1) W0 V):=Ja fun V h=>⟨p7 HO.out.1 (by rw[c2];exact h.2) (Je _),a5.trans (h.2.mono Zo)⟩
   rcases f4 with rfl|rfl|⟨f8,f6,e6⟩
   ·skip
    have hq:bq=0:=b8.out.symm;go_upto_region 15 with fail;obtain⟨V,a6⟩:∃V,X.setCell ⟨q,3,none⟩ (I 0)=V:=⟨_,rfl⟩
    have o:=Ja (show A V q #[I 3,I 20,I 10,I bq,M 0,U] 76/\Below q wr V from by
     rw[<-a6,hq]
     exact⟨zD (i:=3) HX.out.1 (I 0),HX.out.2.setCell (show q<=q from Je _) _⟩)
    rw[a6];clear a6 z3 zf zl hq;obtain⟨ii,a7,a2,a1,a0⟩:=info_parts Tryz.info_irop;obtain⟨b1,a4⟩:=b0.out V o.out;have e1:=a4.size;have v0:=zA (i:=0) o.out.1 rfl;have v1:=zA (i:=1) o.out.1 rfl;have v2:=zA (i:=2) o.out.1 rfl;have v3:=zA (i:=3) o.out.1 rfl;have v4:=zA (i:=4) o.out.1 rfl;have v5:=zA (i:=5) o.out.1 rfl;have vl:=lt_of_block o.out.1;have y:=Ja (Jb b1 a4);clear b1 a4;go_upto_region 16 with(at_builtin;go_must (refine zK _ rfl (.tmp 77) (.tmp 79) 77 rfl (t9+1) 76 ii (.agg #[I 0,I 0,I 0,I 0,M 0,U]) 6 64 Tryz.underlying77 a7 a2 a1 a0 rfl Zd (.slice oa 8 oc) 8 [I 1,I 2,I 0,I 0,M m,U,I 9,I 3,I 0,I 2,M 0,U,I 1,I 4,I 0,I 0,M (a.lo:Int),U,I 5,I 10,I 3,I 4,M 0,U,I 1,I 5,I 0,I 0,M m',U,I 9,I 6,I 1,I 5,M 0,U,I 1,I 7,I 0,I 0,M (b.lo:Int),U,I 5,I 11,I 6,I 7,M 0,U] rfl (y.out.1.alloc _) (L V.heap.size 1 1) 1 [I 3,I 20,I 10,I bq,M 0,U] rfl (yM.four (zI rfl) rfl (by simp[Value.oneCell'])) (by unfold maxLen;omega) Zo Zt ?_;intro v9 w9 j l a3;obtain⟨oa9,oc9,rfl⟩:=zG j))
    have u:=Ja (show w9.ownsRow (t9+1) 76 6 (.slice oa9 9 oc9) 9 (((nI 3 m a.lo m' b.lo).map ge).flatMap zU)/\Below (t9+1) W0 w9 from⟨by rw[show(((nI 3 m a.lo m' b.lo).map ge).flatMap zU)=[I 1,I 2,I 0,I 0,M m,.slice none 0 0,I 9,I 3,I 0,I 2,M 0,.slice none 0 0,I 1,I 4,I 0,I 0,M (a.lo:Int),.slice none 0 0,I 5,I 10,I 3,I 4,M 0,.slice none 0 0,I 1,I 5,I 0,I 0,M m',.slice none 0 0,I 9,I 6,I 1,I 5,M 0,.slice none 0 0,I 1,I 7,I 0,I 0,M (b.lo:Int),.slice none 0 0,I 5,I 11,I 6,I 7,M 0,.slice none 0 0]++ [I 3,I 20,I 10,I bq,M 0,.slice none 0 0] from by rw[<-b8.out];rfl];exact j,(y.out.2.alloc Zo _).grown l Zt (wF y.out.1)⟩);clear j l a3 v0 v1 v2 v3 v4 v5 vl y o b0;obtain⟨s,hs⟩:∃s,w9.heap.size=s:=⟨_,rfl⟩
    have f:=zH u.out.2 HA.out.2.2.1 (show t6<t9+1 by omega);have f0:=u.out.2.size;have k0:=zA (i:=0) f rfl;have k1:=zA (i:=1) f rfl;have k2:=zA (i:=2) f rfl;have k3:=zA (i:=3) f rfl;have k4:=zA (i:=4) f rfl;have k5:=zA (i:=5) f rfl;have kl:=lt_of_block f;rw[hs] at kl;have d3:t6<s+1:=Zo;have d2:t6<s+1+1:=Zo;have d1:t6<s+1+1+1:=Zo;have d0:t6<s+1+1+1+1:=Zo;have c9:t6<s+1+1+1+1+1:=Zo;have c8:t6<s+1+1+1+1+1+1:=Zo;have c7:t6<s+1+1+1+1+1+1+1:=Zo;have d9:Y w9 t6 0:=zE f;have d8:Y w9 t6 1:=zE f;have d7:Y w9 t6 2:=zE f;have d6:Y w9 t6 3:=zE f;have d5:Y w9 t6 4:=zE f;have d4:Y w9 t6 5:=zE f;go_wp2;refine bodyPost_ret (v:=.agg #[L (s+1+1+1+1+1) 2 2,L (s+1+1+1+1+1+1) 2 2,I 0,I (-1),U,U]) ?_ rfl ?_
    ·rw[zM rfl];go_simp
    ·have b5:Q w w9:=HA.out.1.trans (u.out.2.mono Zo);refine⟨m,m',_,_,⟨hm,b7⟩,rfl,aeS (S:=t9+1) (s:=s) hc ⟨hm,by omega,b7,by omega⟩ (yD u.out.1 fun k hk=>?_) ?_ ?_ ?_ ?_ ?_,?_⟩
     ·have e5:=wF u.out.1 k hk;have e4:=(u.out.1.lt k hk).2;have b2:k≠t6:=Zo
      iterate 7 refine(Below.heap_alloc _ _ _ Zt).trans ?_
      iterate 5 refine(Below.heap_setCell _ _ _ _ b2).trans ?_
      exact Below.heap_setCell _ _ _ _ b2
     ·repeat' (first|exact zI (by simp[hs];done)|refine zB ?_)
     ·repeat' (first|exact zI (by simp[hs];done)|refine zB ?_)
     ·repeat' (first|exact zI (by simp[hs];done)|refine zB ?_)
     ·repeat' (first|exact zI (by simp[hs];done)|refine zB ?_)
     ·repeat' (first|exact zI (by simp[hs];done)|refine zB ?_)
     ·iterate 7 refine Below.alloc ?_ Zt _
      iterate 6 refine Below.setCell ?_ (show w.heap.size<=t6 by omega) _
      exact b5
   ·skip
    have hq:bq=0:=b8.out.symm;go_upto_region 15 with fail;obtain⟨V,a6⟩:∃V,X.setCell ⟨q,3,none⟩ (I 0)=V:=⟨_,rfl⟩
    have o:=Ja (show A V q #[I 4,I 20,I 10,I bq,M 0,U] 76/\Below q wr V from by
     rw[<-a6,hq]
     exact⟨zD (i:=3) HX.out.1 (I 0),HX.out.2.setCell (show q<=q from Je _) _⟩)
    rw[a6];clear a6 z3 zf zl hq;obtain⟨ii,a7,a2,a1,a0⟩:=info_parts Tryz.info_irop;obtain⟨b1,a4⟩:=b0.out V o.out;have e1:=a4.size;have v0:=zA (i:=0) o.out.1 rfl;have v1:=zA (i:=1) o.out.1 rfl;have v2:=zA (i:=2) o.out.1 rfl;have v3:=zA (i:=3) o.out.1 rfl;have v4:=zA (i:=4) o.out.1 rfl;have v5:=zA (i:=5) o.out.1 rfl;have vl:=lt_of_block o.out.1;have y:=Ja (Jb b1 a4);clear b1 a4;go_upto_region 16 with(at_builtin;go_must (refine zK _ rfl (.tmp 77) (.tmp 79) 77 rfl (t9+1) 76 ii (.agg #[I 0,I 0,I 0,I 0,M 0,U]) 6 64 Tryz.underlying77 a7 a2 a1 a0 rfl Zd (.slice oa 8 oc) 8 [I 1,I 2,I 0,I 0,M m,U,I 9,I 3,I 0,I 2,M 0,U,I 1,I 4,I 0,I 0,M (a.lo:Int),U,I 5,I 10,I 3,I 4,M 0,U,I 1,I 5,I 0,I 0,M m',U,I 9,I 6,I 1,I 5,M 0,U,I 1,I 7,I 0,I 0,M (b.lo:Int),U,I 5,I 11,I 6,I 7,M 0,U] rfl (y.out.1.alloc _) (L V.heap.size 1 1) 1 [I 4,I 20,I 10,I bq,M 0,U] rfl (yM.four (zI rfl) rfl (by simp[Value.oneCell'])) (by unfold maxLen;omega) Zo Zt ?_;intro v9 w9 j l a3;obtain⟨oa9,oc9,rfl⟩:=zG j))
    have u:=Ja (show w9.ownsRow (t9+1) 76 6 (.slice oa9 9 oc9) 9 (((nI 4 m a.lo m' b.lo).map ge).flatMap zU)/\Below (t9+1) W0 w9 from⟨by rw[show(((nI 4 m a.lo m' b.lo).map ge).flatMap zU)=[I 1,I 2,I 0,I 0,M m,.slice none 0 0,I 9,I 3,I 0,I 2,M 0,.slice none 0 0,I 1,I 4,I 0,I 0,M (a.lo:Int),.slice none 0 0,I 5,I 10,I 3,I 4,M 0,.slice none 0 0,I 1,I 5,I 0,I 0,M m',.slice none 0 0,I 9,I 6,I 1,I 5,M 0,.slice none 0 0,I 1,I 7,I 0,I 0,M (b.lo:Int),.slice none 0 0,I 5,I 11,I 6,I 7,M 0,.slice none 0 0]++ [I 4,I 20,I 10,I bq,M 0,.slice none 0 0] from by rw[<-b8.out];rfl];exact j,(y.out.2.alloc Zo _).grown l Zt (wF y.out.1)⟩);clear j l a3 v0 v1 v2 v3 v4 v5 vl y o b0;obtain⟨s,hs⟩:∃s,w9.heap.size=s:=⟨_,rfl⟩
    have f:=zH u.out.2 HA.out.2.2.1 (show t6<t9+1 by omega);have f0:=u.out.2.size;have k0:=zA (i:=0) f rfl;have k1:=zA (i:=1) f rfl;have k2:=zA (i:=2) f rfl;have k3:=zA (i:=3) f rfl;have k4:=zA (i:=4) f rfl;have k5:=zA (i:=5) f rfl;have kl:=lt_of_block f;rw[hs] at kl;have d3:t6<s+1:=Zo;have d2:t6<s+1+1:=Zo;have d1:t6<s+1+1+1:=Zo;have d0:t6<s+1+1+1+1:=Zo;have c9:t6<s+1+1+1+1+1:=Zo;have c8:t6<s+1+1+1+1+1+1:=Zo;have c7:t6<s+1+1+1+1+1+1+1:=Zo;have d9:Y w9 t6 0:=zE f;have d8:Y w9 t6 1:=zE f;have d7:Y w9 t6 2:=zE f;have d6:Y w9 t6 3:=zE f;have d5:Y w9 t6 4:=zE f;have d4:Y w9 t6 5:=zE f;go_wp2;refine bodyPost_ret (v:=.agg #[L (s+1+1+1+1+1) 2 2,L (s+1+1+1+1+1+1) 2 2,I 0,I (-1),U,U]) ?_ rfl ?_
    ·rw[zM rfl];go_simp
    ·have b5:Q w w9:=HA.out.1.trans (u.out.2.mono Zo);refine⟨m,m',_,_,⟨hm,b7⟩,rfl,aeS (S:=t9+1) (s:=s) hc ⟨hm,by omega,b7,by omega⟩ (yD u.out.1 fun k hk=>?_) ?_ ?_ ?_ ?_ ?_,?_⟩
     ·have e5:=wF u.out.1 k hk;have e4:=(u.out.1.lt k hk).2;have b2:k≠t6:=Zo
      iterate 7 refine(Below.heap_alloc _ _ _ Zt).trans ?_
      iterate 5 refine(Below.heap_setCell _ _ _ _ b2).trans ?_
      exact Below.heap_setCell _ _ _ _ b2
     ·repeat' (first|exact zI (by simp[hs];done)|refine zB ?_)
     ·repeat' (first|exact zI (by simp[hs];done)|refine zB ?_)
     ·repeat' (first|exact zI (by simp[hs];done)|refine zB ?_)
     ·repeat' (first|exact zI (by simp[hs];done)|refine zB ?_)
     ·repeat' (first|exact zI (by simp[hs];done)|refine zB ?_)
     ·iterate 7 refine Below.alloc ?_ Zt _
      iterate 6 refine Below.setCell ?_ (show w.heap.size<=t6 by omega) _
      exact b5
   ·skip
    have hq:bq=11:=by rw[<-b8.out,if_neg e6]
    go_upto_region 15 with fail
    have o:=Ja (show A X q #[I c,I 20,I 10,I bq,M 0,U] 76/\Below q wr X from by
     rw[hq]
     exact HX.out)
    obtain⟨V,a6⟩:∃V,X=V:=⟨_,rfl⟩
    rw[a6] at o ⊢;clear a6 z3 zf zl e6 hq;obtain⟨ii,a7,a2,a1,a0⟩:=info_parts Tryz.info_irop;obtain⟨b1,a4⟩:=b0.out V o.out;have e1:=a4.size;have v0:=zA (i:=0) o.out.1 rfl;have v1:=zA (i:=1) o.out.1 rfl;have v2:=zA (i:=2) o.out.1 rfl;have v3:=zA (i:=3) o.out.1 rfl;have v4:=zA (i:=4) o.out.1 rfl;have v5:=zA (i:=5) o.out.1 rfl;have vl:=lt_of_block o.out.1;have y:=Ja (Jb b1 a4);clear b1 a4;go_upto_region 16 with(at_builtin;go_must (refine zK _ rfl (.tmp 77) (.tmp 79) 77 rfl (t9+1) 76 ii (.agg #[I 0,I 0,I 0,I 0,M 0,U]) 6 64 Tryz.underlying77 a7 a2 a1 a0 rfl Zd (.slice oa 8 oc) 8 [I 1,I 2,I 0,I 0,M m,U,I 9,I 3,I 0,I 2,M 0,U,I 1,I 4,I 0,I 0,M (a.lo:Int),U,I 5,I 10,I 3,I 4,M 0,U,I 1,I 5,I 0,I 0,M m',U,I 9,I 6,I 1,I 5,M 0,U,I 1,I 7,I 0,I 0,M (b.lo:Int),U,I 5,I 11,I 6,I 7,M 0,U] rfl (y.out.1.alloc _) (L V.heap.size 1 1) 1 [I c,I 20,I 10,I bq,M 0,U] rfl (yM.four (zI rfl) rfl (by simp[Value.oneCell'])) (by unfold maxLen;omega) Zo Zt ?_;intro v9 w9 j l a3;obtain⟨oa9,oc9,rfl⟩:=zG j))
    have u:=Ja (show w9.ownsRow (t9+1) 76 6 (.slice oa9 9 oc9) 9 (((nI c m a.lo m' b.lo).map ge).flatMap zU)/\Below (t9+1) W0 w9 from⟨by rw[show(((nI c m a.lo m' b.lo).map ge).flatMap zU)=[I 1,I 2,I 0,I 0,M m,.slice none 0 0,I 9,I 3,I 0,I 2,M 0,.slice none 0 0,I 1,I 4,I 0,I 0,M (a.lo:Int),.slice none 0 0,I 5,I 10,I 3,I 4,M 0,.slice none 0 0,I 1,I 5,I 0,I 0,M m',.slice none 0 0,I 9,I 6,I 1,I 5,M 0,.slice none 0 0,I 1,I 7,I 0,I 0,M (b.lo:Int),.slice none 0 0,I 5,I 11,I 6,I 7,M 0,.slice none 0 0]++ [I c,I 20,I 10,I bq,M 0,.slice none 0 0] from by rw[<-b8.out];rfl];exact j,(y.out.2.alloc Zo _).grown l Zt (wF y.out.1)⟩);clear j l a3 v0 v1 v2 v3 v4 v5 vl y o b0;obtain⟨s,hs⟩:∃s,w9.heap.size=s:=⟨_,rfl⟩
    have f:=zH u.out.2 HA.out.2.2.1 (show t6<t9+1 by omega);have f0:=u.out.2.size;have k0:=zA (i:=0) f rfl;have k1:=zA (i:=1) f rfl;have k2:=zA (i:=2) f rfl;have k3:=zA (i:=3) f rfl;have k4:=zA (i:=4) f rfl;have k5:=zA (i:=5) f rfl;have kl:=lt_of_block f;rw[hs] at kl;have d3:t6<s+1:=Zo;have d2:t6<s+1+1:=Zo;have d1:t6<s+1+1+1:=Zo;have d0:t6<s+1+1+1+1:=Zo;have c9:t6<s+1+1+1+1+1:=Zo;have c8:t6<s+1+1+1+1+1+1:=Zo;have c7:t6<s+1+1+1+1+1+1+1:=Zo;have d9:Y w9 t6 0:=zE f;have d8:Y w9 t6 1:=zE f;have d7:Y w9 t6 2:=zE f;have d6:Y w9 t6 3:=zE f;have d5:Y w9 t6 4:=zE f;have d4:Y w9 t6 5:=zE f;go_wp2;refine bodyPost_ret (v:=.agg #[L (s+1+1+1+1+1) 2 2,L (s+1+1+1+1+1+1) 2 2,I 0,I (-1),U,U]) ?_ rfl ?_
    ·rw[zM rfl];go_simp
    ·have b5:Q w w9:=HA.out.1.trans (u.out.2.mono Zo);refine⟨m,m',_,_,⟨hm,b7⟩,rfl,aeS (S:=t9+1) (s:=s) hc ⟨hm,by omega,b7,by omega⟩ (yD u.out.1 fun k hk=>?_) ?_ ?_ ?_ ?_ ?_,?_⟩
     ·have e5:=wF u.out.1 k hk;have e4:=(u.out.1.lt k hk).2;have b2:k≠t6:=Zo
      iterate 7 refine(Below.heap_alloc _ _ _ Zt).trans ?_
      iterate 5 refine(Below.heap_setCell _ _ _ _ b2).trans ?_
      exact Below.heap_setCell _ _ _ _ b2
     ·repeat' (first|exact zI (by simp[hs];done)|refine zB ?_)
     ·repeat' (first|exact zI (by simp[hs];done)|refine zB ?_)
     ·repeat' (first|exact zI (by simp[hs];done)|refine zB ?_)
     ·repeat' (first|exact zI (by simp[hs];done)|refine zB ?_)
     ·repeat' (first|exact zI (by simp[hs];done)|refine zB ?_)
     ·iterate 7 refine Below.alloc ?_ Zt _
      iterate 6 refine Below.setCell ?_ (show w.heap.size<=t6 by omega) _
      exact b5
end Go.Proofs.YtoahcpkibpomcaaGreat
set_option maxRecDepth 100000
namespace Go.Proofs.YtoahcpkibpomcaaGreat
open Go.ChangeShapes Go.WideShapes Go.ChangeAt Go.RowKit
variable {W w w':World}{N a2 b2 d2 f2 l l' m m' x y:Nat}{c:Int}{a1 b1 d1 f1:Option Addr}
section
variable {H:Type} {enc:TypeId×Value->H} {W:World} {v:Value} {d:DataW H} {p:List MemPlace} {r:Go.Reach} {base:Nat}
theorem afC (hv:Value.okWide Tryz.prog W r base 72 v)(h0:DataW.Trod enc Tryz.prog W 0 (fun _=>true) true 72 v d p):∃q0 q1:Nat,v=.agg #[.int .u16 (q0:Int),.int .u16 (q1:Int)]/\(q0<65536/\q1<65536):=by
 have c2:Tryz.prog.cellsOf 72=2:=by kernel_rfl
 have c1:Tryz.prog.cellsOf 43=1:=by kernel_rfl
 simp only[Value.okWide,Tryz.underlying72] at hv;obtain⟨cs,rfl,c,_⟩:=hv;rw[c2] at c;obtain⟨fuel,hf⟩:=h0;simp only[Value.cells] at hf;obtain⟨zs,e,hl,f⟩:=acP Tryz.underlying72 Tryz.underlying43 c1 (by simpa using c) hf
 obtain⟨a,b,rfl⟩:∃a b,zs=[a,b]:=by
  match zs,hl with
  | [a,b],_=>exact⟨a,b,rfl⟩
 obtain⟨x,rfl,h⟩:=a8 (f a Zs);obtain⟨y,rfl,g⟩:=a8 (f b Zs);refine⟨x,y,?_,h,g⟩
 have e2:cs=#[.int .u16 (x:Int),.int .u16 (y:Int)]:=by
  rw[<-Array.toArray_toList (xs:=cs),e];rfl
 rw[e2]
end
end Go.Proofs.YtoahcpkibpomcaaGreat
