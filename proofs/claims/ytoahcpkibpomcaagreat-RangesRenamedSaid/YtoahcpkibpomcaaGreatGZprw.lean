/-
  Part of a proof.
-/
import Derived.Test.YtoahcpkibpomcaaGreatGZPdw
set_option linter.all false
set_option maxHeartbeats 8000000
set_option maxRecDepth 100000
namespace Go.Proofs.YtoahcpkibpomcaaGreat
variable {T:Int}{i k n' xb:Nat}{s':Slv}{o:IOp}{q':Slv×Bool}{bl:List IBlk}{order:List Nat}{W w:World}{vs:Array Value}{ra:Option Addr}
def Bth (T:Int)(n n':Nat)(v:Int):Prop:=(0<=v/\v.toNat<n)/\0<=T-v/\(T-v).toNat<n'
structure RnS (T:Int) (n n':Nat) (s s':Slv):Prop where
 ok:OkS n s
 ok':OkS n' s'
 al:∀v,Bth T n n' v->s'.knw (T-v)=s.knw v/\s'.get (T-v)=s.get v
def RnQ (T:Int)(n n':Nat)(q q':Slv×Bool):Prop:=RnS T n n' q.1 q'.1/\q'.2=q.2
theorem RnS.put{n:Nat}{s:Slv}(h:RnS T n n' s s'){v:Int}(hv:Bth T n n' v){a:Rg}(c:a.ok):RnS T n n' (s.put v a) (s'.put (T-v) a):=by
 refine⟨h.ok.put v c,h.ok'.put _ c,fun u hu=>?_⟩
 by_cases e:u=v
 ·subst e;have h1:=afF h.ok hv.1.2 a;have h2:=afF h.ok' hv.2.2 a;rw[h1.1,h1.2,h2.1,h2.2];exact⟨rfl,rfl⟩
 ·have h1:=ago (s:=s) (v:=v) (u:=u) (by have:=hv.1;have:=hu.1;omega) a;have h2:=ago (s:=s') (v:=T-v) (u:=T-u) (by have:=hv.2;have:=hu.2;omega) a;rw[h1.1,h1.2,h2.1,h2.2];exact h.al u hu
theorem RnS.set{n:Nat}{s:Slv}(h:RnS T n n' s s'){v:Int}(hv:Bth T n n' v){a:Rg}(c:a.ok)(k:Nat):RnS T n n' (setF k s v a).1 (setF k s' (T-v) a).1/\(setF k s' (T-v) a).2=(setF k s v a).2:=by
 have h1:=h.al v hv;unfold setF;rw[h1.1,h1.2]
 split
 ·split
  ·exact⟨h,rfl⟩
  ·exact⟨h.put hv (ag1 (af2 c (h.ok.get v))),rfl⟩
 ·exact⟨h.put hv (ag1 c),rfl⟩
theorem RnQ.step {T:Int}{n n' k:Nat}{q q':Slv×Bool}(h:RnQ T n n' q q'){v:Int}(hv:Bth T n n' v){a:Rg}(c:a.ok):RnQ T n n' (i3 k v a q) (i3 k (T-v) a q'):=by
 have h1:=h.1.set hv c k;refine⟨h1.1,?_⟩
 show(q'.2||(setF k q'.1 (T-v) a).2)=(q.2||(setF k q.1 v a).2)
 rw[h.2,h1.2]
theorem RnQ.fold{α β:Type}{n:Nat}{f:Slv×Bool->α->Slv×Bool}{g:Slv×Bool->β->Slv×Bool}(φ:α->β):∀(l:List α),(∀x∈l,∀q q',RnQ T n n' q q'->RnQ T n n' (f q x) (g q' (φ x)))->∀q q',RnQ T n n' q q'->RnQ T n n' (l.foldl f q) ((l.map φ).foldl g q')
 | [],_,_,_,h=>h
 |x::l,hf,q,q',h=>RnQ.fold φ l (fun y hy=>hf y (.tail _ hy)) _ _ (hf x (.head _) q q' h)
theorem RnS.res{n:Nat}{p:IProg}{s:Slv}(h:RnS T n n' s s')(d:1<=o.code/\o.code<=27)(c:∀x∈rR o,Bth T n n' x):afO (rnF T p) s' (abE T o)=afO p s o:=by
 unfold afO
 show(if o.code=1 then agu o.n else if o.code=2 then agu ((((rnF T p).data.getD (abE T o).a.toNat ⟨0,0,0⟩).addr+o.n)%65536) else afL o.code (s'.get (abE T o).a) (s'.get (abE T o).b))=_
 by_cases h1:o.code=1
 ·rw[if_pos h1,if_pos h1]
 rw[if_neg h1,if_neg h1];have g:(abE T o).a=if(zi o.code).a then T-o.a else o.a:=rfl
 have hB:(abE T o).b=if(zi o.code).b then T-o.b else o.b:=rfl
 by_cases h2:o.code=2
 ·rw[if_pos h2,if_pos h2];have:(abE T o).a=o.a:=by rw[g,h2];rfl
  rw[this];rfl
 rw[if_neg h2,if_neg h2]
 cases ea:(zi o.code).a with
 |false=>rw[ahQ ⟨by omega,d.2⟩ ea,ahQ ⟨by omega,d.2⟩ ea]
 |true=>
  rw[g,ea,if_pos rfl,(h.al _ (c o.a (by unfold rR;rw[ea];simp))).2]
  cases eb:(zi o.code).b with
  |false=>exact app_un Zo eb _ _ _
  |true=>rw[hB,eb,if_pos rfl,(h.al _ (c o.b (by unfold rR;rw[eb];simp))).2]
structure RnK (T:Int) (n n':Nat) (bl:List IBlk) (b:IBlk):Prop where
 ops:∀o∈b.ops,(1<=o.code/\o.code<=27)/\ahy n o/\(0<=o.res->Bth T n n' o.res)/\∀x∈rR o,Bth T n n' x
 edg:∀e∈b.term.to,(1<=e.block/\e.block<(bl.length:Int))/\(∀v∈(xz bl e.block).params,Bth T n n' v)/\∀v∈e.args,Bth T n n' v
theorem RnQ.op{n:Nat}{p:IProg}{q:Slv×Bool}(h:RnQ T n n' q q')(g:1<=o.code/\o.code<=27)(hs:ahy n o)(hr:0<=o.res->Bth T n n' o.res)(d:∀x∈rR o,Bth T n n' x):RnQ T n n' (opS p k q o) (opS (rnF T p) k q' (abE T o)):=by
 unfold opS;have e:(abE T o).res=if 0<=o.res then T-o.res else o.res:=rfl
 by_cases c:0<=o.res
 ·have e2:(abE T o).res=T-o.res:=by rw[e,if_pos c]
  rw[if_pos c,e2,if_pos (hr c).2.1,h.1.res g d];exact h.step (hr c) (ahV h.1.ok hs c)
 ·rw[if_neg c,e,if_neg c,if_neg c];exact h
theorem RnQ.edge{n:Nat}{q:Slv×Bool}(h:RnQ T n n' q q'){e:IEdge}(hb:1<=e.block/\e.block<(bl.length:Int))(hp:∀v∈(xz bl e.block).params,Bth T n n' v)(d:∀v∈e.args,Bth T n n' v):
 RnQ T n n' (ag2 bl k q e) (ag2 (abC T bl) k q' (rnE T bl.length e)):=by
 unfold ag2;have h1:=ab3 (T:=T) hb.1 hb.2
 have h2:(rnE T bl.length e).block=((rnP bl.length e.block.toNat:Nat):Int):=by
  rw[<-h1.2,h1.1];omega
 rw[h2,acu Zo hb.2]
 show RnQ T n n' _ (((rnL T (xz bl e.block).params).zip (rnL T e.args)).foldl (ajL k) q')
 unfold rnL;rw[List.zip_map];refine RnQ.fold _ _ (fun x hx q q' h=>?_) q q' h;have c:=List.of_mem_zip hx
 show RnQ T n n' (i3 k x.1 (q.1.get x.2) q) (i3 k (T-x.1) (q'.1.get (T-x.2)) q')
 rw[(h.1.al _ (d x.2 c.2)).2];exact h.step (hp x.1 c.1) (h.1.ok.get _)
theorem RnQ.blk{n:Nat}{p:IProg}{q:Slv×Bool}(h:RnQ T n n' q q'){b:IBlk}(hb:RnK T n n' bl b):RnQ T n n' (agS p bl k q b) (agS (rnF T p) (abC T bl) k q' (rnB T bl.length b)):=by
 unfold agS
 show RnQ T n n' _ ((b.term.to.map (rnE T bl.length)).foldl (ag2 (abC T bl) k) ((b.ops.map (abE T)).foldl (opS (rnF T p) k) q'))
 refine RnQ.fold _ _ (fun e he q q' h=>?_) _ _ (RnQ.fold _ _ (fun o ho q q' h=>?_) _ _ h)
 ·obtain⟨h1,h2,h3⟩:=hb.edg e he;exact h.edge h1 h2 h3
 ·obtain⟨h1,h2,h3,c⟩:=hb.ops o ho;exact h.op h1 h2 h3 c
theorem RnQ.go{n:Nat}{p:IProg}{q:Slv×Bool}(h:RnQ T n n' q q')(hi:i<bl.length)(hb:RnK T n n' bl (xz bl i)):RnQ T n n' (goS p bl k q i) (goS (rnF T p) (abC T bl) k q' (rnP bl.length i)):=by
 have h1:RnQ T n n' (q.1,false) (q'.1,false):=⟨h.1,rfl⟩
 have h2:=h1.blk (k:=k) (p:=p) hb
 have e:xz (abC T bl) ((rnP bl.length i:Nat):Int)=rnB T bl.length (xz bl i):=by
  have:=acu (T:=T) (f:=bl) (at':=(i:Int)) Zo Zo
  rwa [Ni] at this
 unfold goS;rw[e];refine⟨h2.1,?_⟩
 show(q'.2||_)=(q.2||_)
 rw[h.2,h2.2]
theorem RnS.round{n:Nat}{p:IProg}{s:Slv}(h:RnS T n n' s s')(ho:∀i∈order,i<bl.length/\RnK T n n' bl (xz bl i)):RnQ T n n' (gn p bl order k s) (gn (rnF T p) (abC T bl) (order.map (rnP bl.length)) k s'):=by
 unfold gn;exact RnQ.fold (rnP bl.length) order (fun i hi q q' h=>h.go (ho i hi).1 (ho i hi).2) (s,false) (s',false) ⟨h,rfl⟩
theorem RnS.iter{n:Nat}{p:IProg}(ho:∀i∈order,i<bl.length/\RnK T n n' bl (xz bl i)):∀(j k:Nat) (s s':Slv),RnS T n n' s s'->RnS T n n' (agD p bl order j k s) (agD (rnF T p) (abC T bl) (order.map (rnP bl.length)) j k s')
 |0,_,_,_,h=>h
 |j+1,k,s,s',h=>by
  have h1:=h.round (p:=p) (k:=k+1) ho;unfold agD;rw[h1.2]
  split
  ·exact RnS.iter ho j (k+1) _ _ h1.1
  ·exact h1.1
theorem RnS.start{n:Nat}{ps:List Int}(h:∀v∈ps,Bth T n n' v):RnS T n n' (aeM n ps) (aeM n' (rnL T ps)):=by
 unfold aeM rnL;refine(RnQ.fold (T:=T) (n:=n) (n':=n') (f:=fun q v=>i3 0 v vu q) (g:=fun q v=>i3 0 v vu q) (fun v=>T-v) ps (fun v hv q q' hq=>hq.step (h v hv) mc) (⟨List.replicate n ⟨0,0⟩,List.replicate n false⟩,false) (⟨List.replicate n' ⟨0,0⟩,List.replicate n' false⟩,false) ⟨⟨afJ n,afJ n',fun v hv=>?_⟩,rfl⟩).1;unfold Slv.knw Slv.get;simp only[Jj,Nm];rw[if_pos hv.1.2,if_pos hv.2.2,if_pos hv.1.2,if_pos hv.2.2];exact⟨rfl,rfl⟩
theorem FnOk.renG{p:IProg}{f:List IBlk}(h:FnOk p f)(hv:zw (zy f))(c:∀v∈aaI f,v<=T)(d:0<=T):Ren (zy f) (zy (abC T f)) (rnP f.length) where
 vg:=hv
 len:=by rw[xu,xu,abx]
 lt:=fun x hx=>by rw[xu] at hx ⊢;exact abS Zo
 inj:=fun x y hx hy e=>by
  rw[xu] at hx hy;rw[<-aaV hx,e,aaV hy]
 surj:=fun a ha=>by
  rw[xu] at ha;exact⟨rnP f.length a,by rw[xu];exact abS Zo,aaV ha⟩
 zero:=abb _
 succ:=fun u hu=>by
  rw[xu] at hu;exact h.succ_ren c d hu
theorem aip{p:IProg}(h:FnS p bl)(h':FnS (rnF T p) (abC T bl))(hF:FnOk p bl)(hT:∀v∈aaI bl,v<=T)(h0:0<=T)(hi:i<bl.length){v:Int}(hd:agf (xz bl i) v):
 Bth T (aaG bl).toNat (aaG (abC T bl)).toNat v/\∃a,(vp p bl)[v.toNat]? =some a/\(vp (rnF T p) (abC T bl))[(T-v).toNat]? =some a:=by
 obtain⟨n,w⟩:∃n,(aaG bl).toNat=n:=⟨_,rfl⟩
 obtain⟨n',l⟩:∃n',(aaG (abC T bl)).toNat=n':=⟨_,rfl⟩
 have a0:∀j:Nat,j<bl.length->xz (abC T bl) ((rnP bl.length j:Nat):Int)=rnB T bl.length (xz bl j):=fun j hj=>by
  have:=acu (T:=T) (f:=bl) (at':=(j:Int)) Zo Zo
  rwa [Ni] at this
 have hB:∀j:Nat,j<bl.length->∀u,agf (xz bl j) u->Bth T n n' u:=fun j hj u d=>by
  have h1:=h.rng j hj;have h2:=h'.rng (rnP bl.length j) (by rw[abx];exact abS Zo);rw[a0 j hj] at h2;rw[w] at h1;rw[l] at h2;rcases d with d|⟨o,ho,hr,d⟩
  ·exact⟨h1.1 u d,h2.1 (T-u) (Nu.2 ⟨u,d,rfl⟩)⟩
  ·subst hr;have h3:=(h1.2 o ho).2 d
   have hb:xz bl (j:Int)∈bl:=by
    obtain⟨b,hb⟩:∃b,bl[j]? =some b:=⟨_,Jd hj⟩
    rw[z6 hb];exact Ji hb
   have h5:=hT _ (acO hb ho d);have h4:=(h2.2 (abE T o) (Nu.2 ⟨o,ho,rfl⟩)).2;have e:(abE T o).res=T-o.res:=by show(if 0<=o.res then T-o.res else o.res)=_;rw[if_pos d]
   rw[e] at h4;exact⟨⟨d,h3⟩,by omega,h4 Zo⟩
 have a1:∀(j k:Nat) (u:Int),j<bl.length->k<=(xz bl j).ops.length->aiT bl j k u->Bth T n n' u:=fun j k u hj hk ha=>by
  rcases ha with(h1|⟨m,o,_,h2,h3,h4⟩)|⟨c,_,hc,_,h2⟩
  ·exact hB j hj u (.inl (by simpa using h1))
  ·exact hB j hj u (.inr ⟨o,Ji h2,h3,h4⟩)
  ·exact hB c hc u h2
 have hK:∀j:Nat,j<bl.length->RnK T n n' bl (xz bl j):=fun j hj=>by
  refine⟨fun o ho=>?_,fun e he=>?_⟩
  ·obtain⟨m,hm⟩:=Ny ho;refine⟨(ahl (h.st.opok j hj o ho)).1,?_,fun hr=>hB j hj _ (.inr ⟨o,ho,rfl,hr⟩),fun x hx=>a1 j m x hj (Qd (Jh.1 hm).1) (h.st.use j m o hj hm x hx)⟩;have:=(h.sol j hj).1 o ho
   rwa [w] at this
  ·have t:=h.st.trm j hj;unfold mb at t;rw[Jm,Oe] at t;have y:=t.1 e he;unfold uM at y;simp only[Jm,decide_eq_true_eq] at y;refine⟨y.1,fun u d=>?_,fun u d=>a1 j _ u hj (Je _) (h.st.ends j hj u ?_)⟩
   ·have e2:((e.block.toNat:Nat):Int)=e.block:=Zo;refine hB e.block.toNat Zo u (.inl ?_);rw[e2];exact d
   ·unfold mE;exact Qf _ (List.mem_flatten.2 ⟨e.args,Nu.2 ⟨e,he,rfl⟩,d⟩)
 have hR:=(hF.renG h.st.vg hT h0).order;have g:=RnS.start (T:=T) (n:=n) (n':=n') (ps:=(xz bl (0:Nat)).params) fun v hv=>hB 0 h.pos v (.inl hv)
 have a4:(xz (abC T bl) (0:Nat)).params=rnL T (xz bl (0:Nat)).params:=by
  have:=a0 0 h.pos;rw[abb] at this;rw[this];rfl
 have a2:∀j∈vD (zy bl),j<bl.length/\RnK T n n' bl (xz bl j):=fun j hj=>⟨(h.ord j).1 hj,hK j ((h.ord j).1 hj)⟩
 have hE:RnS T n n' (fnT p bl) (fnT (rnF T p) (abC T bl)):=by
  unfold fnT;rw[hR,a4,w,l];have g1:=afp (p:=p) (n:=n) (blocks:=bl) (order:=vD (zy bl)) (fun j hj=>by have:=h.sol j ((h.ord j).1 hj);rwa [w] at this)
  have g2:=afp (p:=rnF T p) (n:=n') (blocks:=abC T bl) (order:=(vD (zy bl)).map (rnP bl.length)) (fun j hj=>by
   rw[<-hR] at hj;have:=h'.sol j ((h'.ord j).1 hj)
   rwa [l] at this)
  obtain⟨s,hs⟩:∃s,aeM n (xz bl (0:Nat)).params=s:=⟨_,rfl⟩
  obtain⟨s',a3⟩:∃s',aeM n' (rnL T (xz bl (0:Nat)).params)=s':=⟨_,rfl⟩
  rw[hs,a3] at g ⊢;have f1:=g1 (aeI 0 s+1) (aeI 0 s+aeI 0 s'+1) 0 s g.ok Zo Zo;have f2:=g2 (aeI 0 s'+1) (aeI 0 s+aeI 0 s'+1) 0 s' g.ok' Zo Zo;unfold ajz;rw[f1,f2];exact RnS.iter a2 _ _ _ _ g
 have hv:=hB i hi v hd;rw[w,l];refine⟨hv,?_⟩;have k1:=agL hE.ok hv.1.2;have k2:=agL hE.ok' hv.2.2;have k3:=hE.al v hv;rw[show((v.toNat:Nat):Int)=v by have:=hv.1;omega] at k1;rw[show(((T-v).toNat:Nat):Int)=T-v by have:=hv.2;omega,k3.1,k3.2] at k2;exact⟨_,k1,k2⟩
open Go.RowKit
theorem FnOk.num{p:IProg}{f:List IBlk}(h:FnOk p f){v:Int}{k:Int}(hk:KnS f v i k):0<=v/\v<=65535:=by
 obtain⟨b,a,c,_⟩:=hk;have hm:=fB.mem (T:=65535) h (fun v hv=>(h.rng v hv).2) Zd c;exact h.rng v hm.1
theorem FnOk.rwk {p:IProg}{f:List IBlk}(h:FnOk p f)(hp:p.funcs.length<=15000/\p.data.length<=15000){b:IBlk}(hb:b∈f)(hs:SmB 15000 b):RwK f.length b:=by
 obtain⟨i,hi⟩:=Ny hb;refine⟨⟨fun x c=>?_,by have:=hs.par;omega⟩,⟨fun o ho=>?_,by have:=hs.ops;omega⟩,?_,⟨fun e he=>⟨?_,fun x c=>?_,by have:=hs.earg e he;omega⟩,by have:=hs.tos;omega⟩⟩
 ·have:=h.rng x (Qx.2 ⟨b,hb,Jz _ c⟩);unfold Sm6;omega
 ·obtain⟨j,w⟩:=Ny ho;have l:∀v∈rR o,0<=v/\v<=65535:=fun v hv=>h.num (h.use i b hi j o w v hv)
  have d:=h.ops b hb o ho;have m:0<=o.res->o.res<=65535:=fun h0=>(h.rng _ (acO hb ho h0)).2
  have y:(zi o.code).a=true->0<=o.a/\o.a<=65535:=fun e=>l _ (by unfold rR;rw[if_pos e];exact Jz _ (Jz _ (.head _)))
  have u:(zi o.code).b=true->0<=o.b/\o.b<=65535:=fun e=>l _ (by unfold rR;rw[if_pos e];exact Jz _ (Qf _ (.head _)))
  have g:∀x∈o.args,Sm6 x:=fun x c=>by
   have:=l x (Qf _ c);unfold Sm6;omega
  have t:-1<=o.res/\(-1000000<=o.a/\o.a<=1000000)/\(-1000000<=o.b/\o.b<=1000000):=by
   unfold opF at d;rw[Jm] at d;have h2:=d.2
   split at h2
   ·simp only[Jm,decide_eq_true_eq] at h2;omega
   ·split at h2
    ·simp only[Jm,decide_eq_true_eq] at h2;omega
    ·simp only[Jm,Bool.or_eq_true,decide_eq_true_eq] at h2;obtain⟨⟨⟨⟨⟨⟨_,h3⟩,k⟩,h5⟩,_⟩,_⟩,_⟩:=h2;refine⟨h3,?_,?_⟩
     ·rcases k with e|e
      ·have:=y e;omega
      ·omega
     ·rcases h5 with e|e
      ·have:=u e;omega
      ·omega
  refine⟨?_,t.2.1,t.2.2,g,by have:=hs.oarg o ho;omega⟩;unfold Sm6;rcases Int.lt_or_le o.res 0 with e|e
  ·have:=t.1;omega
  ·have:=m e;omega
 ·have ht:=h.term b hb;have c:ut b.term=true->0<=b.term.a/\b.term.a<=65535:=fun e=>h.num (h.tuse i b hi _ (by unfold mE;rw[if_pos e];exact Jz _ (.head _)))
  unfold mb at ht;rw[Jm] at ht;have h2:=ht.2;unfold Sm6
  by_cases e:ut b.term=true
  ·have:=c e;omega
  ·unfold ut at e;simp only[Bool.or_eq_true,Jm,decide_eq_true_eq,not_or,not_and,Classical.not_not] at e
   by_cases h1:b.term.kind=1
   ·rw[if_pos h1] at h2;simp only[Jm,decide_eq_true_eq] at h2;omega
   ·rw[if_neg h1,if_neg e.1,if_neg e.2.1] at h2
    by_cases k:b.term.kind=4
    ·have:=e.2.2 k;omega
    ·rw[if_neg k] at h2
     split at h2
     ·simp only[Jm,decide_eq_true_eq] at h2;omega
     ·cases h2
 ·exact(FnOk.rnB (T:=65535) h (fun v hv=>(h.rng v hv).2) Zd hb).edg e he
 ·have:=h.num (h.tuse i b hi x (by
   unfold mE
   exact Qf _ (List.mem_flatten.2 ⟨e.args,Nu.2 ⟨e,he,rfl⟩,c⟩)))
  unfold Sm6;omega
theorem aep (s:List Int):∀f∈(uR s).funcs,RwF f:=fun f hf=>by
 obtain⟨k,hk⟩:=Ny hf;have hm:=acK s;rcases acF s hk with e|⟨h1,_,_⟩
 ·subst e;exact⟨by simp,fun b hb=>by cases hb⟩
 ·exact⟨by have:=(hm.fs f hf).1;omega,fun b hb=>h1.rwk ⟨hm.fn,hm.da⟩ hb ((hm.fs f hf).2 b hb)⟩
def aeu (t:PT)(fs:List FT):List Row:=wY t.fv fs::zP t.av t.args::vK t.dv t.data:: [v8 t.bv t.banks]
theorem ael{V:PV}{p:IProg}(hp:ProgIn w w.heap.size V p)(hs:SmallP p)(hT:0<=T/\T<=65535)(f5:∀f∈p.funcs,RwF f):
 G 29 #[yH V p,U T] w (ajB w (rnF T p)):=by
 obtain⟨fa,fc,d5,o,j1⟩:=hp.funcs.form;obtain⟨aa,ac,e4,k4,k3⟩:=hp.args.form;obtain⟨da,dc,d7,k0,j2⟩:=hp.data.form;obtain⟨ba,bc,e2,a0,k2⟩:=hp.banks.form;obtain⟨p1,i0⟩:∃p1,w.heap.size=p1:=⟨_,rfl⟩
 have d0:∀W,N w W->G 18 #[.agg (P p fa fc aa ac da dc ba bc)] W _:=fun W hb=>by
  have h:=uJ ((hp.below hb).mono hb.size) hs;unfold yH at h;rw[d5,e4,d7,e2] at h;exact h
 unfold yH;rw[d5,e4,d7,e2];have g0:N w ((w.alloc (I (P p fa fc aa ac da dc ba bc) 29)).alloc (I #[L,L,U 0,U 0,L,L] 29)):=((Below.refl _ _).alloc (Je _) _).alloc Zs _;have ap:=hs.fn.1;have h0:=Ja d0;have l2:=Ja g0;have l0:=Ja f5;clear d0 g0 hp hs d5 e4 d7 e2 o j1 k4 k3 k0 j2 a0 k2 f5;go_enter Tryz.func29,Tryz.ntmps29;go_upto_region 2 with(go_at_call 18;go_must (refine(h0.out _ l2.out).mono ?_;rintro e w2 ⟨t,a6,a5,aa2,ac2,b0,a8,ba2,bc2,rfl,hV,ht,hr,hb⟩;have HT:=Ja (Jb hV (Jb ht (Jb hr hb)));clear hV ht hr hb))
 have a2:t.entry=p.entry/\t.handler=p.handler:=by rw[<-HT.out.2.1];exact⟨rfl,rfl⟩
 have b5:(zW t).toArray=P p a6 a5 aa2 ac2 b0 a8 ba2 bc2:=by
  unfold zW;rw[HT.out.1.1,HT.out.1.2.1,HT.out.1.2.2.1,HT.out.1.2.2.2,a2.1,a2.2]
 obtain⟨o5,d1⟩:∃o5,w2.heap.size=o5:=⟨_,rfl⟩
 have hm:RwMid w p1 o5 (zW t) [] t.rows (w2.alloc (I (zW t).toArray 29)):=RwMid.start i0 d1 HT.out.2.2.1 HT.out.2.2.2;rw[b5] at hm;have H9:t.funcs.length=p.funcs.length:=by rw[<-HT.out.2.1];unfold PT.prog;simp
 have HM:=Ja hm;have HC:=Ja b5;generalize k5:w2.alloc (I (P p a6 a5 aa2 ac2 b0 a8 ba2 bc2) 29)=W3 at *;rw[d1];clear k5 d1 a2 b5 hm;go_wp2
 go_loopw [6] (fun kv wx=>∃(k:Nat) (ds:List FT),k<=p.funcs.length/\kv=U k/\ds.length=k/\ds.map FT.fn=(t.funcs.take k).map (fun F=>abC T F.fn)/\Hid (RwMid w p1 o5 (zW t) [] (aeu t (ds++t.funcs.drop k)++(ds++t.funcs.drop k).flatMap FT.rows) wx)) (fun kv _=>p.funcs.length-(intOf kv).toNat)
 case atStart=>exact⟨0,[],Jt _,rfl,rfl,rfl,HM⟩
 case round=>
  obtain⟨k,ds,hk,rfl,d9,b2,HK⟩:=hrel;have c:=HK.out.ho;rw[HC.out] at c;have o0:A wr o5 0 (.slice a6 p.funcs.length a5):=zA (i:=0) c rfl;have ol:=lt_of_block c
  by_cases i1:k<p.funcs.length
  ·obtain⟨F,hF⟩:∃F,t.funcs[k]? =some F:=⟨_,Jd Zo⟩
   obtain⟨dr,d8⟩:∃dr,t.funcs.drop (k+1)=dr:=⟨_,rfl⟩
   have b1:t.funcs.drop k=F::dr:=by
    obtain⟨i8,rfl⟩:=Jh.1 hF;rw[<-d8];exact Qn i8
   have d2:=HK.out;rw[b1] at d2;obtain⟨n,a4⟩:∃n,F.blks.length=n:=⟨_,rfl⟩
   obtain⟨RS0,b3⟩:∃RS0,zd F.bv F.blks::(aeu t (ds++F::dr)++(ds.flatMap FT.rows++dr.flatMap FT.rows))=RS0:=⟨_,rfl⟩
   have b4:RwF F.fn:=l0.out _ (by
    rw[<-HT.out.2.1]
    exact Nu.2 ⟨F,Ji hF,rfl⟩)
   have hn:n<=1000000:=by
    have:=b4.1;unfold FT.fn at this;rw[Nr,a4] at this;exact this
   have c8:∀b∈F.blks,RwB n b:=fun b hb=>by
    have h:=b4.2 b.blk (Nu.2 ⟨b,hb,rfl⟩);unfold FT.fn at h;rw[Nr,a4] at h;exact h.bt
   have c7:=d2.perm (RS':=F.blks.flatMap BT.rows++RS0) (by
    rw[<-b3]
    classical
    refine Jp.2 fun y=>?_
    simp only[Nx,Qa,FT.rows,Nb,Nf]
    omega)
   have e5:wY t.fv (ds++F::dr)∈RS0:=by rw[<-b3];exact .tail _ (Jz _ (.head _))
   have e6:zd F.bv F.blks∈RS0:=by rw[<-b3];exact .head _
   have e0:(ds++F::dr)[k]? =some F:=by rw[Nc Zo,d9,Qy];rfl
   obtain⟨fg,ax,g4,o,_,C1,f7⟩:=c7.getS (f:=fun x:FT=> [x.bv]) (n:=1) Zd (fun _=>rfl) (r:=wY t.fv (ds++F::dr)) (Qf _ e5) ⟨rfl,rfl,Qh⟩ e0
   have k7:a6=some ⟨fg,0,none⟩:=by
    have h:t.fv=_:=g4;rw[HT.out.1.1] at h
    injection h
   subst k7;obtain⟨bga,bgc,g5⟩:=zG (c7.rows.own _ (Qf _ e6));have b8:F.bv=.slice bga n bgc:=by rw[<-a4];exact g5
   have f0:A wr fg k (.slice bga n bgc):=by have h:=o 0 _ rfl;rw[Nk] at h;rw[<-b8];exact h
   have i2:(k:Int)<(p.funcs.length:Int):=Zo;have m:=(c7.box [L] 39).nil (r:=zd (L) []) (Jv _ _ _ _) rfl;have g6:=Ja m;have HF:=Ja (Jb hF (Jb b1 (Jb b3 (Jb e5 (Jb e6 (Jb e0 (Jb c8 (Jb f7 b8))))))));have HD:=Ja (Jb d9 (Jb b2 d8));clear d2 b4 c7 e5 e6 e0 g4 o f7 g5 b8 m hF b1 b3 c8 c d9 b2 d8 HK;go_upto_region 7 with fail;obtain⟨g8,h8⟩:∃g,wr.heap.size=g:=⟨_,rfl⟩
   rw[h8] at g6 ⊢;clear h8;generalize wr.alloc (I #[L] 39)=W1 at *;clear o0 ol f0;go_wp2
   go_loopw [9] (fun iv wz=>∃(i:Nat) (gv:Value),i<=n/\iv=U i/\Hid (RwMid w p1 o5 (zW t) [(g8,[gv],39)] (zd gv (glS T n F.blks i)::((blS T n F.blks i).flatMap BT.rows++RS0)) wz)) (fun iv _=>n-(intOf iv).toNat)
   case atStart=>exact⟨0,_,Jt _,rfl,by rw[blS_zero];exact g6⟩
   case round=>
    obtain⟨i,gv,hi,rfl,HI⟩:=hrel;have c:=HI.out.ho;rw[HC.out] at c;have o0:A wr o5 0 (.slice (some ⟨fg,0,none⟩) p.funcs.length a5):=zA (i:=0) c rfl;have ol:=lt_of_block c;obtain⟨o,d6,C2⟩:=HI.out.readS (f:=fun x:FT=> [x.bv]) (n:=1) Zd (fun _=>rfl) (r:=wY t.fv (ds++F::dr)) (.tail _ (Qf _ HF.out.2.2.2.1)) ⟨rfl,rfl,Qh⟩ HF.out.2.2.2.2.2.2.2.1 HF.out.2.2.2.2.2.1;have f0:A wr fg k (.slice bga n bgc):=by have h:=o 0 _ rfl;rw[Nk] at h;rw[<-HF.out.2.2.2.2.2.2.2.2];exact h
    have ff:D wr fg k:=by have h:=d6 0 Zd;rw[Nk] at h;exact h
    by_cases a1:i<n
    ·obtain⟨r,hr⟩:∃r,rnP n i=r:=⟨_,rfl⟩
     have ab:r<n:=by rw[<-hr];exact abS Zo
     obtain⟨b,hb⟩:∃b,F.blks[r]? =some b:=⟨_,Jd Zo⟩
     have e3:(blS T n F.blks i)[r]? =some b:=by rw[<-hr];exact blS_get a1 (by rw[hr];exact hb)
     have af:IntKind.i64.wrap ((n:Int)-(i:Int))=(n:Int)-(i:Int):=Om _ Zo;have ad:((n:Int)-(i:Int)).tmod (n:Int)=(r:Int):=by rw[<-hr];exact rnP_tmod a1
     have ao:(i:Int)<(n:Int):=Zo;have ag:0<(n:Int):=Zo;have an:¬n=0:=Zo;have C0:(r:Int)<(n:Int):=Zo;obtain⟨bg,bc3,f2,a0,_,C3,k1⟩:=HI.out.getS (f:=zz) (n:=5) Zd (fun _=>rfl) (r:=zd F.bv F.blks) (.tail _ (Qf _ HF.out.2.2.2.2.1)) ⟨rfl,rfl,rfl⟩ hb
     have k9:bga=some ⟨bg,0,none⟩:=by
      have h:F.bv=_:=f2;rw[HF.out.2.2.2.2.2.2.2.2] at h
      injection h
     subst k9
     have m:=HI.out.perm (RS':=zd gv (glS T n F.blks i)::(b.rows++(((blS T n F.blks i).eraseIdx r).flatMap BT.rows++RS0))) (by
      refine List.Perm.cons _ ?_;rw[<-Nv]
      exact(uf BT.rows e3).append_right RS0)
     obtain⟨pa,f3,f1⟩:=m.formI (v:=b.pv) (xs:=b.params) (.tail _ (.head _));obtain⟨oa,oc,g2⟩:=zG (m.rows.own (tt b.ov b.ops) (.tail _ (.tail _ (.head _))));obtain⟨ta,tc,g1⟩:=zG (m.rows.own (xg b.tv b.tos) (.tail _ (.tail _ (.tail _ (.head _)))));have b7:b.ov=.slice oa b.ops.length oc:=g2;have b6:b.tv=.slice ta b.tos.length tc:=g1;have c0:A wr bg (r*5) (.slice pa b.params.length f3):=by rw[<-f1];exact a0 0 _ rfl
     have c1:A wr bg (r*5+1) (.slice oa b.ops.length oc):=by rw[<-b7];exact a0 1 _ rfl
     have c2:A wr bg (r*5+2) (U b.kind):=a0 2 _ rfl;have c3:A wr bg (r*5+3) (U b.a):=a0 3 _ rfl;have c4:A wr bg (r*5+4) (.slice ta b.tos.length tc):=by rw[<-b6];exact a0 4 _ rfl
     have a3:zz b=[.slice pa b.params.length f3,.slice oa b.ops.length oc,U b.kind,U b.a,.slice ta b.tos.length tc]:=by unfold zz;rw[f1,b7,b6]
     have d4:=(m.box (zz b) 84).below (Below.refl _ _).drew;rw[a3] at d4;have b9:glS T n F.blks (i+1)=glS T n F.blks i++ [ad0 T n b]:=glS_succ (by rw[hr];exact hb);have c9:(blS T n F.blks i).set r (ad0 T n b)=blS T n F.blks (i+1):=by rw[<-hr];exact blS_set a1 a4 (by rw[hr];exact hb)
     have HB:=Ja (Jb d4 (Jb b9 (Jb c9 (Jb e3 (Jb a3 (HF.out.2.2.2.2.2.2.1 b (Ji hb)))))));clear o d6 a0 m d4 f1 g2 b7 g1 b6 f2 k1 hb e3 a3 b9 c9 hr a1 c;go_upto_region 10 with fail
     rename_i e7
     have h6:=Ja e7;clear e7
     go_region
     all_goals refine h6.out _ _ ?_
     all_goals refine aeq ?_
     all_goals refine rn_block (gl:=glS T n F.blks i) hT hn HB.out.2.2.2.2.2 (by rw[aew];omega) (by rw[HB.out.2.2.2.2.1];exact HB.out.1) _ _ _ _ _ _ _ _ _ _ _ _ _ _ _ _ _ _ _ _ _ _ _ _ _ _ _ _ _ _ _ _ _ _ _ _ _ _ _ _ _ _ _ _ _ _ _ _ _ _ _ _ _ _ _ _ _ _ _ _ _ _ _ _ _ _ _ _ _ _ _ _ _ _ _ _ _ _ _ _ _ _ _ _ _ _ _ _ _ _ _ _ _ _ _ _ _ _ _ _ _ _ _ _ _ _ _ _ _ _ _ _ _ _ _ _ _ _ _ _ _ _ _ _ _ _ _ _ _ _ _ _ _ _ _ _ _ _ _ _ _ _ _ _ _ _ _ _ _ _ _ _ _ _ _ _ _ _ _ _ _ _ _ _ _ _ _ _ _ _ _ _ _ _ _ _ _ _ _ _ _ _ _ _ _ _ _ _ _ _ _ _ _ _ _ _ _ _ _ _ _ _ _ _ _ _ _ _ _ _ _ _ _ _ _ _ _ _ _ _ _ _ _ _ _ ?_
     all_goals intro k6 H8 H7 H6 H5 H4 H3 H2 H1 H0 G9 G8 G7 G6 G5 G4 G3 G2 G1 G0 F9 F8 F7 F6 F5 F4 F3 F2 F1 F0 E9 E8 E7 E6 E5 E4 E3 E2 E1 E0 D9 D8 D7 D6 D5 D4 D3 D2 D1 D0 C9 C8 C7 C6 C5 C4 B9 B8 B7 B6 B5 B4 B3 B0 A9 A8 A7 A6 A5 A4 A3 A2 A1 A0 z5 z4 z3 z2 z1 z0 y6 y5 y4 y3 y2 y1 y0 x9 x8 x7 x6 x5 x4 x3 x2 x1 x0 w9 w8 w7 w6 w5 w4 w3 w1 w0 v9 v6 u9 u8 u7 u6 u5 u4 u3 u2 u1 u0 t8 t7 t6 t5 t4 t3 t2 s9 s8 s7 s6 s5 s4 s3 s2 s1 s0 r6 q9 q7 q6 q5 q4 q3 q2 q1 p8 p5 p4 p3 p0 o9 o6 o4 o3 o2 o1 n9 n8 n7 n6 n5 n4 n3 n2 n1 n0 m5 m4 m3 m2 m1 m0 l9 l8 l7 l6 l5 l4 l3 wy hh
     all_goals have HE:=Ja hh
     all_goals clear hh
     all_goals go_wp2
     all_goals have j0:i+1<=n:=Zo
     all_goals refine⟨⟨i+1,k6,j0,by go_num,Ja ?_⟩,by simp[intOf];omega⟩
     all_goals have h9:=HE.out
     all_goals rw[<-HB.out.2.1] at h9
     all_goals refine h9.perm (List.Perm.cons _ ?_)
     all_goals rw[<-Nv]
     all_goals refine List.Perm.append_right _ ?_
     all_goals rw[<-HB.out.2.2.1]
     all_goals exact(abO BT.rows (Jh.1 HB.out.2.2.2.1).1 _).symm
    ·obtain rfl:i=n:=by omega
     have ah:¬(i:Int)<(i:Int):=Zo;have e1:=(HI.out.bx _ (.head _)).1;obtain⟨d,gvc,g3⟩:=zG (HI.out.rows.own (zd gv (glS T i F.blks i)) (.head _));have g9:gv=.slice d i gvc:=by have h:=g3;unfold zd at h;simp only[aew] at h;exact h
     subst g9;have q0:A wr g8 0 (.slice d i gvc):=zA (i:=0) e1 rfl;have ql:=lt_of_block e1;have h1:=HI.out.few (B1:=[(g8,[.slice d i gvc],39)]) (B2:=[]) rfl;rw[blS_full a4] at h1
     have h2:=h1.perm (RS':=wY t.fv (ds++F::dr)::(zd (.slice d i gvc) (glS T i F.blks i)::((F.blks.map (ad0 T i)).flatMap BT.rows++(zd F.bv F.blks::(zP t.av t.args::vK t.dv t.data::v8 t.bv t.banks::(ds.flatMap FT.rows++dr.flatMap FT.rows)))))) (by
      rw[<-HF.out.2.2.1];unfold aeu
      classical
      refine Jp.2 fun y=>?_
      simp only[Nb,Nf,List.count_nil]
      omega)
     have h3:=h2.putS (f:=fun x:FT=> [x.bv]) (n:=1) (fun _=>rfl) (r:=wY t.fv (ds++F::dr)) (Uq _) ⟨rfl,rfl,Qh⟩ HF.out.2.2.2.2.2.2.2.1 HF.out.2.2.2.2.2.1 (j:=0) (a:=(⟨glS T i F.blks i,.slice d i gvc⟩:FT)) (u:=.slice d i gvc) Zd rfl
     have eset:(ds++F::dr).set k (⟨glS T i F.blks i,.slice d i gvc⟩:FT)=(ds++ [(⟨glS T i F.blks i,.slice d i gvc⟩:FT)])++dr:=by
      rw[Uj _ _ (by rw[HD.out.1];exact Je _),HD.out.1,Qy,Nv];rfl
     rw[eset,Nk,Uk] at h3
     have e9:(⟨(wY t.fv (ds++F::dr)).v,(wY t.fv (ds++F::dr)).e,1,((ds++ [(⟨glS T i F.blks i,.slice d i gvc⟩:FT)])++dr).length,((ds++ [(⟨glS T i F.blks i,.slice d i gvc⟩:FT)])++dr).flatMap fun x:FT=> [x.bv]⟩:Row)=wY t.fv ((ds++ [(⟨glS T i F.blks i,.slice d i gvc⟩:FT)])++dr):=by
      exact congrArg (Row.mk t.fv 39 1 _) Qh.symm
     rw[e9] at h3
     have h4:=h3.perm (RS':=[zd F.bv F.blks]++(aeu t ((ds++ [(⟨glS T i F.blks i,.slice d i gvc⟩:FT)])++dr)++((ds++ [(⟨glS T i F.blks i,.slice d i gvc⟩:FT)])++dr).flatMap FT.rows)) (by
      have hp:=(glS_perm (T:=T) a4).flatMap_right BT.rows;unfold aeu
      classical
      refine Jp.2 fun y=>?_
      have hc:=Jp.1 hp y;simp only[Nx,Qa,List.flatMap_nil,FT.rows,Nb,Nf,List.count_nil,hc]
      omega)
     have h5:=h4.drop rfl
     have f8:(ds++ [(⟨glS T i F.blks i,.slice d i gvc⟩:FT)]).map FT.fn=(t.funcs.take (k+1)).map (fun F=>abC T F.fn):=by
      rw[Nh,HF.out.1,Js,Js,HD.out.2.1]
      show _++ [(glS T i F.blks i).map BT.blk]=_++ [abC T (F.blks.map BT.blk)]
      rw[glS_fn a4]
     have f6:k+1<=p.funcs.length:=Zo;have HE:=Ja (Jb h5 (Jb f8 f6));clear h1 h2 h3 h4 h5 e1 g3 c o d6 a1 f8 eset e9 f6;go_wp2;refine⟨⟨k+1,ds++ [(⟨glS T i F.blks i,.slice d i gvc⟩:FT)],HE.out.2.2,by go_num,by rw[Jk,HD.out.1];rfl,HE.out.2.1,Ja ?_⟩,by have:=HE.out.2.2;simp[intOf];omega⟩;rw[HD.out.2.2];exact HE.out.1
  ·obtain rfl:k=p.funcs.length:=by omega
   have i2:¬(p.funcs.length:Int)<(p.funcs.length:Int):=Zo;have a2:t.entry=p.entry/\t.handler=p.handler:=by rw[<-HT.out.2.1];exact⟨rfl,rfl⟩
   have h7:zW t=[.slice a6 p.funcs.length a5,.slice aa2 p.args.length ac2,U p.entry,U p.handler,.slice b0 p.data.length a8,.slice ba2 p.banks.length bc2]:=congrArg Array.toList HC.out;have c1:A wr o5 1 (.slice aa2 p.args.length ac2):=zA (i:=1) c rfl;have c2:A wr o5 2 (U p.entry):=zA (i:=2) c rfl;have c3:A wr o5 3 (U p.handler):=zA (i:=3) c rfl;have c4:A wr o5 4 (.slice b0 p.data.length a8):=zA (i:=4) c rfl;have c5:A wr o5 5 (.slice ba2 p.banks.length bc2):=zA (i:=5) c rfl;have l:=HK.out.hr;have r0:A wr (p1+1) 0 (L):=zA (i:=0) l rfl;have r1:A wr (p1+1) 1 (L):=zA (i:=1) l rfl;have r2:A wr (p1+1) 2 (U 0):=zA (i:=2) l rfl;have r3:A wr (p1+1) 3 (U 0):=zA (i:=3) l rfl;have r4:A wr (p1+1) 4 (L):=zA (i:=4) l rfl;have r5:A wr (p1+1) 5 (L):=zA (i:=5) l rfl;have rf:∀i,D wr (p1+1) i:=fun i=>zE l
   have rl:=lt_of_block l;have f9:t.funcs.drop p.funcs.length=[]:=List.drop_eq_nil_of_le Zo;have f4:t.funcs.take p.funcs.length=t.funcs:=Oy Zo;have d3:=HK.out;rw[f9,Ua] at d3;rw[f4] at b2
   have l1:=Ja (d3.ret (t:= {t with funcs:=ds }) ⟨[],by rw[Ua];exact Uq _⟩ rfl (v0:=.slice a6 p.funcs.length a5) (v1:=.slice aa2 p.args.length ac2) (v2:=U p.entry) (v3:=U p.handler) (v4:=.slice b0 p.data.length a8) (v5:=.slice ba2 p.banks.length bc2) HC.out (p:=rnF T p) (by
    rw[<-HT.out.2.1];unfold PT.prog rnF;simp only[b2,List.map_map]
    rfl))
   clear d3 c l a2 h7 f9 f4 b2 HK i1;go_wp2;refine bodyPost_ret (v:=.agg (P p a6 a5 aa2 ac2 b0 a8 ba2 bc2)) ?_ rfl ?_
   ·rw[zM rfl];go_simp
   ·exact l1.out
theorem ren_smb{N:Nat}{n:Nat}{b:IBlk}(h:SmB N b):SmB N (rnB T n b):=by
 refine⟨?_,?_,?_,fun o ho=>?_,fun e he=>?_⟩
 ·show(rnL T b.params).length<=N
  unfold rnL;rw[Nr];exact h.par
 ·show(b.ops.map (abE T)).length<=N
  rw[Nr];exact h.ops
 ·show(b.term.to.map (rnE T n)).length<=N
  rw[Nr];exact h.tos
 ·obtain⟨o',c,rfl⟩:=Nu.1 (show o∈b.ops.map (abE T) from ho)
  show(rnL T o'.args).length<=N
  unfold rnL;rw[Nr];exact h.oarg o' c
 ·obtain⟨e',d,rfl⟩:=Nu.1 (show e∈b.term.to.map (rnE T n) from he)
  show(rnL T e'.args).length<=N
  unfold rnL;rw[Nr];exact h.earg e' d
theorem aet{f:List IBlk}{b:IBlk}(hb:b∈abC T f):∃c∈f,b=rnB T f.length c:=by
 obtain⟨c,d,e⟩:=Nu.1 ((adK T f).mem_iff.1 hb);exact⟨c,d,e.symm⟩
theorem ren_smp{N:Nat}{p:IProg}(h:SmP N p):SmP N (rnF T p):=by
 refine⟨?_,fun g hg=>?_,h.ar,h.da,h.ba⟩
 ·show(p.funcs.map (abC T)).length<=N
  rw[Nr];exact h.fn
 ·obtain⟨f,hf,rfl⟩:=Nu.1 (show g∈p.funcs.map (abC T) from hg);refine⟨?_,fun b hb=>?_⟩
  ·unfold abC;rw[Nr,Un];exact(h.fs f hf).1
  ·obtain⟨c,d,rfl⟩:=aet hb;exact ren_smb ((h.fs f hf).2 c d)
theorem ren_64(hT:0<=T/\T<=65535){p:IProg}(h:P64 p)(hs:∀f∈p.funcs,RwF f):P64 (rnF T p):=by
 have d:∀x,Sm6 x->I64 (T-x):=fun x hx=>by unfold Sm6 at hx;exact⟨by omega,by omega⟩
 have j:∀l:List Int,(∀x∈l,Sm6 x)->∀x∈rnL T l,I64 x:=fun l hl x hx=>by
  obtain⟨y,u,rfl⟩:=acH hx;exact d y (hl y u)
 refine⟨fun g hg b hb=>?_,h.args,h.data,h.banks,h.ent,h.hnd⟩;obtain⟨f,hf,rfl⟩:=Nu.1 (show g∈p.funcs.map (abC T) from hg);obtain⟨c,t,rfl⟩:=aet hb;have hk:=(hs f hf).2 c t;have w:=(hs f hf).1;have k:=h.funcs f hf c t;refine⟨j _ hk.ps.1,fun o ho=>?_,⟨k.term.1,?_⟩,fun e he=>?_⟩
 ·obtain⟨o',i,rfl⟩:=Nu.1 (show o∈c.ops.map (abE T) from ho);obtain⟨h1,h2⟩:=k.ops o' i;obtain⟨k1,k2,k3,k4,k5⟩:=hk.os.1 o' i;refine⟨⟨h1.1,?_,?_,?_,h1.2.2.2.2⟩,j _ k4⟩
  ·show I64 (if 0<=o'.res then T-o'.res else o'.res)
   split
   ·exact d _ k1
   ·exact h1.2.1
  ·show I64 (if(zi o'.code).a then T-o'.a else o'.a)
   split
   ·exact d _ k2
   ·exact h1.2.2.1
  ·show I64 (if(zi o'.code).b then T-o'.b else o'.b)
   split
   ·exact d _ k3
   ·exact h1.2.2.2.1
 ·show I64 (rnA T c.term)
  unfold rnA
  split
  ·exact d _ hk.ta
  ·exact k.term.2
 ·obtain⟨e',m,rfl⟩:=Nu.1 (show e∈c.term.to.map (rnE T f.length) from he);obtain⟨⟨k1,k2⟩,k3,_⟩:=hk.es.1 e' m;refine⟨?_,j _ k3⟩
  show I64 (((f.length:Int)-e'.block).tmod f.length)
  rw[Int.tmod_eq_of_lt Zo Zo];exact tD _ Zo Zo
theorem aem{V:PV}(s:List Int)(hp:ProgIn w w.heap.size V (uR s))(c:0<=T/\T<=65535):
 G 29 #[yH V (uR s),U T] w (ahY w (rnF T (uR s))):=
 (ael hp ((acK s).small Zd) c (aep s)).mono fun e w' h=>ai1 (ren_64 c hp.p64 (aep s)) h
theorem aeh(s:List Int)(c:5000<=T/\T<=65535):mW (rnF T (uR s))/\vC (rnF T (uR s))=0/\∀(I Q:List Nat) (ram:ByteArray) (F:Int),i9 ⟨rnF T (uR s),I,Q⟩ 0 [] ram F=i9 ⟨uR s,I,Q⟩ 0 [] ram F:=by
 have hv:=age s c.1 c.2;refine⟨(ren_smp (acK s)).sized Zd,hv,fun I Q ram F=>?_⟩
 have d:io (rnF T (uR s)) 0 []=io (uR s) 0 []:=by
  unfold io;rw[hv,fm s,show(rnF T (uR s)).funcs.length=(uR s).funcs.length from Nr ..];rfl
 unfold i9
 show(if io (rnF T (uR s)) 0 [] then _ else _)=if io (uR s) 0 [] then _ else _
 rw[d,run_ren I Q (made_rnB s c.1)]
theorem agV(s:List Int)(h64:P64 (uR s))(j:P64 (rnF 5000 (uR s))){n:Nat}(c:(uR s).funcs[n]? =some bl){b:IBlk}(hb:bl[k]? =some b){v:Int}(u:agf b v):
 (0<=v/\v<=5000)/\∃a,(rgsP (uR s) (n:Int))[v.toNat]? =some a/\(rgsP (rnF 5000 (uR s)) (n:Int))[(5000-v).toNat]? =some a:=by
 have hv:=fm s;have hm:=acK s;have l:∀f∈(uR s).funcs,vZ f:=fun f hf=>(hm.sized Zd f hf).1
 obtain⟨m,g,_⟩:=aeh s (T:=5000) ⟨by decide,by decide⟩;have hi:=(Jh.1 hb).1;have d:bl≠ []:=fun e=>by rw[e] at hi;exact absurd hi (Nat.not_lt_zero _)
 have h:(rnF 5000 (uR s)).funcs[n]? =some (abC 5000 bl):=by
  show((uR s).funcs.map (abC 5000))[n]? =_
  rw[Jr,c];rfl
 have i:abC 5000 bl≠ []:=fun e=>by
  have:=abx 5000 bl;rw[e] at this;exact d (Nz this.symm)
 rcases acF s c with e|⟨x,_,o⟩
 ·exact absurd e d
 have w:=agq hv l h64 c d;have t:=agq g (fun f hf=>(m f hf).1) j h i;rw[agz hv c d,agz g h i];obtain⟨h1,h2⟩:=aip (T:=5000) w t x o Zd hi (show agf (xz bl k) v by rw[z6 hb];exact u);exact⟨⟨h1.1.1,by have:=h1.2.1;omega⟩,h2⟩
structure GaM (Z:World) (B:Nat) (xb:Nat) (vs:Array Value) (wx:World) (lv:Value) (L:List Int):Prop where
 bel:Below Z.heap.size Z wx
 le:Z.heap.size<=B
 blk:wx.heap[xb]? =some (.cells vs 84 (0,0))
 own:wx.ownsRow B 3 1 lv L.length (L.map zN)
 ge:B<=wx.heap.size
theorem GaM.alloc{Z:World}{B:Nat}{wx:World}{lv:Value}{L:List Int}(h:GaM Z B xb vs wx lv L)(o:Obj):GaM Z B xb vs (wx.alloc o) lv L:=⟨h.bel.alloc h.bel.size _,h.le,zB h.blk,h.own.alloc _,Jn h.ge Zs⟩
theorem GaM.put{Z W2:World}{B:Nat}{v v2:Value}{L:List Int}(h:GaM Z B xb vs W v L){x:Int}(c:W.grownBy W2 v.ownBlock)(d:W2.ownsRow B 3 1 v2 (L.length+1) (L.map zN++ [U x])):GaM Z B xb vs W2 v2 (L++ [x]):=
 ⟨yP h.bel c h.bel.size (fun k hk=>Jn h.le (wF h.own k hk)),h.le,zL c h.blk (zC h.own h.blk (.inr Zd)),by rw[Jk,Js];exact d,Jn h.ge c.size⟩
theorem ah5{w':World}{R:List Rg}(h:R≠ []->∃b,ra=some ⟨b,0,none⟩/\O w' b (R.flatMap ro).toArray 45/\w.heap.size<=b):ajt w' ra R:=fun h0=>by
 obtain⟨b,e,h1,_⟩:=h h0;exact⟨b,e,h1⟩
theorem aeW{z:World}{R:List Rg}(h:ajt w ra R)(hb:N w z):ajt z ra R:=fun h0=>by
 obtain⟨b,e,h1⟩:=h h0;exact⟨b,e,zH hb h1 (lt_of_block h1)⟩
theorem agt (w:World):(w.alloc (I #[] 3)).ownsRow w.heap.size 3 1 (F w.heap.size 0 0) 0 []:=
 ⟨rfl,.inr ⟨w.heap.size,0,#[],rfl,Je _,zI rfl,Je _,by decide,rfl,rfl⟩⟩
theorem agU (w:World)(sv:Value)(s:List Int)(x:Nat)(hs:zY w w.heap.size sv s)(hx:x<256):
 G 10 #[sv,.int .u8 (x:Int)] w fun e w'=>e=.returned (.bool true)/\N w w':=by
 obtain⟨ii,k2,f1,f0,e9⟩:=info_parts Tryz.info_int;obtain⟨sa,sc,rfl,q6,p8⟩:=hs.form;have HS:=Ja hs;clear hs q6 p8;go_enter Tryz.func10,Tryz.ntmps10;go_upto_region 2 with(go_at_call 11;go_must (refine(ah7 _).mono ?_;rintro e w0 ⟨rfl,a0⟩))
 have H1:=Ja a0;clear a0;have HM:=Ja (aiB ((HS.out.below zO H1.out).mono zO H1.out.size));have k1:=acK (s.take 200);have g6:=fm (s.take 200);have h8:=Ja (fun(h1:P64 (uR (s.take 200))) (h2:P64 (rnF 5000 (uR (s.take 200)))) (n:Nat) (bl:List IBlk) (hn:(uR (s.take 200)).funcs[n]? =some bl) (k:Nat) (b:IBlk) (hb:bl[k]? =some b) (v:Int) (hd:agf b v)=>agV (s.take 200) h1 h2 hn hb hd);obtain⟨f9,f3,_⟩:=aeh (s.take 200) (T:=5000) ⟨by decide,by decide⟩;have h9:=Ja (fun(W:World) (V:PV) (hp:ProgIn W W.heap.size V (uR (s.take 200)))=>aem (s.take 200) hp (T:=5000) ⟨by decide,by decide⟩)
 have g1:∀(n:Nat) (bl:List IBlk),(uR (s.take 200)).funcs[n]? =some bl->(rnF 5000 (uR (s.take 200))).funcs[n]? =some (abC 5000 bl):=fun n bl h=>by
  show((uR (s.take 200)).funcs.map (abC 5000))[n]? =_
  rw[Jr,h];rfl
 obtain⟨q,hq⟩:∃q,rnF 5000 (uR (s.take 200))=q:=⟨_,rfl⟩
 rw[hq] at f9 f3 h9 h8 g1;generalize uR (s.take 200)=p at *;go_upto_region 3 with(go_at_call 12;go_must (refine HM.out.mono ?_;rintro e w1 ⟨fa,fc,aa,ac,da,dc,ba,bc,rfl,hp,a0⟩))
 have k6:=a0.alloc a0.size (I (P p fa fc aa ac da dc ba bc) 29);have g:=Ja (Jb (H1.out.trans (k6.mono H1.out.size)) (PBx.new hp));clear a0 hp k6 HM H1;generalize w1.alloc (I (P p fa fc aa ac da dc ba bc) 29)=X at *;generalize w1.heap.size=b8 at *;have s5:=ajw g6;obtain⟨n,hn,r6⟩:∃n:Nat,(x:Int)%(p.funcs.length:Int)=(n:Int)/\n<p.funcs.length:=⟨x%p.funcs.length,by omega,Qj _ s5.1⟩
 obtain⟨bl,h5⟩:∃bl,p.funcs[n]? =some bl:=⟨_,Jd r6⟩
 have k7:=g1 n bl h5;have y:=Ja (Jb h5 (Jb g6 (show ∀f∈p.funcs,vZ f from fun f hf=>(k1.sized Zd f hf).1)));have HQ:=Ja (Jb k7 (Jb f3 (show ∀f∈q.funcs,vZ f from fun f hf=>(f9 f hf).1)));have c0:=g.out.2.c0;have c1:=g.out.2.c1;have c2:=g.out.2.c2;have c3:=g.out.2.c3;have c4:=g.out.2.c4;have c5:=g.out.2.c5;have cl:=g.out.2.lt;clear k1 g6 f9 f3 g1 h5 k7 hq;have HW:=Ja (h9.out X _ g.out.2.prog);clear h9;go_upto_region 4 with fail;rw[hn];clear hn;go_upto_region 5 with(go_at_call 29;go_must (refine HW.out.mono ?_;rintro e w2 ⟨l4,a2,aa2,ac2,b1,b0,ba2,bc2,rfl,j2,h6⟩))
 have b4:=h6.alloc h6.size (I (P q l4 a2 aa2 ac2 b1 b0 ba2 bc2) 29);have d:=Ja (Jb (g.out.1.trans (b4.mono g.out.1.size)) (Jb (g.out.2.below b4) (PBx.new j2)));clear HW h6 j2 b4 g c0 c1 c2 c3 c4 c5 cl;generalize w2.alloc (I (P q l4 a2 aa2 ac2 b1 b0 ba2 bc2) 29)=Z at *;generalize w2.heap.size=b9 at *;obtain⟨R,hR⟩:∃R,rgsP p (n:Int)=R:=⟨_,rfl⟩
 obtain⟨U,hU⟩:∃U,rgsP q (n:Int)=U:=⟨_,rfl⟩
 have s7:=Ja (show ∀k b,bl[k]? =some b->∀v,agf b v->(0<=v/\v<=5000)/\∃a,R[v.toNat]? =some a/\U[(5000-v).toNat]? =some a from fun k b hb v hd=>by
  have:=h8.out d.out.2.1.prog.p64 d.out.2.2.prog.p64 n bl y.out.1 k b hb v hd
  rwa [hR,hU] at this)
 have l3:(R.length:Int)=aaG bl:=by rw[<-hR];exact agC y.out.2.1 y.out.2.2 d.out.2.1.prog.p64 y.out.1
 have l2:(U.length:Int)=aaG (abC 5000 bl):=by rw[<-hU];exact agC HQ.out.2.1 HQ.out.2.2 d.out.2.2.prog.p64 HQ.out.1
 have HL:=Ja (Jb l3 l2);obtain⟨gb,go,rfl,h4,fv,g0,d9⟩:=d.out.2.1.prog.funcs.get y.out.1;rw[Nk] at g0;obtain⟨ka,kc,rfl,s3,s2⟩:=d9.form;obtain⟨a1,a8,rfl,b3,v1,g2,b5⟩:=d.out.2.2.prog.funcs.get HQ.out.1;rw[Nk] at g2;obtain⟨j0,i8,rfl,o2,o1⟩:=b5.form
 have m4:=Ja (show ∀W,N Z W->G 15 #[.agg (P p (some ⟨gb,go,none⟩) fc aa ac da dc ba bc),.int .i64 (n:Int)] W (ahN W R) from fun W hb=>by
  have:=aft (d.out.2.1.below hb).prog (Je _) y.out.2.2 (n:Int)
  rwa [hR] at this)
 have l6:=Ja (show ∀W,N Z W->G 15 #[.agg (P q (some ⟨a1,a8,none⟩) a2 aa2 ac2 b1 b0 ba2 bc2),.int .i64 (n:Int)] W (ahN W U) from fun W hb=>by
  have:=aft (d.out.2.2.below hb).prog (Je _) HQ.out.2.2 (n:Int)
  rwa [hU] at this)
 have n5:=Ja (show ∀W,N Z W->G 17 #[.agg #[.slice ka bl.length kc]] W (aeN W (R.length:Int)) from fun W hb=>by
  rw[HL.out.1]
  exact jr ((d9.below yT hb).mono yT hb.size) (Je _) (y.out.2.2 bl (Ji y.out.1)))
 have n4:=Ja (show ∀W,N Z W->G 17 #[.agg #[.slice j0 (abC 5000 bl).length i8]] W (aeN W (U.length:Int)) from fun W hb=>by
  rw[HL.out.2]
  exact jr ((b5.below yT hb).mono yT hb.size) (Je _) (HQ.out.2.2 _ (Ji HQ.out.1)))
 have HC:=Ja (show ∀w',N Z w'->A w' b8 0 (.slice (some ⟨gb,go,none⟩) p.funcs.length fc)/\A w' b8 1 (.slice aa p.args.length ac)/\A w' b8 2 (.int .i64 p.entry)/\A w' b8 3 (.int .i64 p.handler)/\A w' b8 4 (.slice da p.data.length dc)/\A w' b8 5 (.slice ba p.banks.length bc)/\A w' b9 0 (.slice (some ⟨a1,a8,none⟩) q.funcs.length a2)/\A w' b9 1 (.slice aa2 q.args.length ac2)/\A w' b9 2 (.int .i64 q.entry)/\A w' b9 3 (.int .i64 q.handler)/\A w' b9 4 (.slice b1 q.data.length b0)/\A w' b9 5 (.slice ba2 q.banks.length bc2) from fun W hb=>by
  have h1:=d.out.2.1.below hb;have h2:=d.out.2.2.below hb
  exact⟨h1.c0,h1.c1,h1.c2,h1.c3,h1.c4,h1.c5,h2.c0,h2.c1,h2.c2,h2.c3,h2.c4,h2.c5⟩)
 have HG:=Ja (show ∀W,N Z W->A W b8 0 (.slice (some ⟨gb,go,none⟩) p.funcs.length fc)/\A W gb (go+n) (.slice ka bl.length kc)/\A W b9 0 (.slice (some ⟨a1,a8,none⟩) q.funcs.length a2)/\A W a1 (a8+n) (.slice j0 (abC 5000 bl).length i8)/\b8<W.heap.size/\gb<W.heap.size/\b9<W.heap.size/\a1<W.heap.size from fun W hb=>⟨(d.out.2.1.below hb).c0,zV hb h4 g0,(d.out.2.2.below hb).c0,zV hb b3 g2,(d.out.2.1.below hb).lt,Jy h4 hb.size,(d.out.2.2.below hb).lt,Jy b3 hb.size⟩);have n6:=Ja d9;have u7:(n:Int)<(p.funcs.length:Int):=Zo;have u6:(n:Int)<(q.funcs.length:Int):=by have:=(Jh.1 HQ.out.1).1;omega
 clear hR hU h8 l3 l2 s3 s2 o2 o1 h4 b3 g0 g2 d9 b5;obtain⟨c0,c1,c2,c3,c4,c5,d0,d1,d2,d3,d4,d5⟩:=HC.out Z (Below.refl _ _);have l8:=d.out.2.1.lt;have l9:=d.out.2.2.lt
 go_region_held3 (fun w'=>A w' b8 0 (.slice (some ⟨gb,go,none⟩) p.funcs.length fc)/\A w' b8 1 (.slice aa p.args.length ac)/\A w' b8 2 (.int .i64 p.entry)/\A w' b8 3 (.int .i64 p.handler)/\A w' b8 4 (.slice da p.data.length dc)/\A w' b8 5 (.slice ba p.banks.length bc)/\A w' b9 0 (.slice (some ⟨a1,a8,none⟩) q.funcs.length a2)/\A w' b9 1 (.slice aa2 q.args.length ac2)/\A w' b9 2 (.int .i64 q.entry)/\A w' b9 3 (.int .i64 q.handler)/\A w' b9 4 (.slice b1 q.data.length b0)/\A w' b9 5 (.slice ba2 q.banks.length bc2))
  ((refine HC.out _ ?_;repeat' (first|with_reducible exact Below.refl _ _|with_reducible assumption|with_reducible refine Below.drew ?_)))
  (first
    |(go_at_call 15
      fail_if_success (have i2:=e4)
      refine(m4.out _ (by repeat' (first|with_reducible exact Below.refl _ _|with_reducible assumption|with_reducible refine Below.drew ?_))).mono ?_;rintro e wA ⟨ra,rfl,t,hb⟩;have e4:N Z wA:=Below.trans (by repeat' (first|with_reducible exact Below.refl _ _|with_reducible assumption|with_reducible refine Below.drew ?_)) hb;have n1:=Ja (ah5 t)
      clear hb t)
    |(go_at_call 15
      refine(l6.out _ (by repeat' (first|with_reducible exact Below.refl _ _|with_reducible assumption|with_reducible refine Below.drew ?_))).mono ?_;rintro e wB ⟨ua,rfl,l,hb⟩;have l7:=Ja (ah5 l);have b6:N wA wB:=Below.trans Zf (hb.mono (by first|exact Je _|(simp;done)));have n0:=Ja (aeW n1.out b6);have k9:N Z wB:=e4.trans (b6.mono e4.size);clear b6
      clear hb l))
 all_goals clear c0 c1 c2 c3 c4 c5 d0 d1 d2 d3 d4 d5 l8 l9 m4 l6
 have HB:=Ja k9;clear e4 k9 n1;obtain⟨e0,e1,e2,e3,m0,m1,m2,m3⟩:=HG.out _ HB.out
 go_upto_if 54 with(first
  |(go_at_call 17
    fail_if_success (have i2:=a3)
    go_must (refine(n5.out _ HB.out).mono ?_;rintro e wC ⟨rfl,hb⟩;have a3:=Ja (HB.out.trans (hb.mono HB.out.size));have i0:=Ja (Jb (aeW n0.out hb) (aeW l7.out hb));clear hb e0 e1 e2 e3 m0 m1 m2 m3;obtain⟨e0,e1,e2,e3,m0,m1,m2,m3⟩:=HG.out _ a3.out))
  |(go_at_call 17
    go_must (refine(n4.out _ a3.out).mono ?_;rintro e wD ⟨rfl,hb⟩;have b2:=Ja (a3.out.trans (hb.mono a3.out.size));have m5:=Ja (Jb (aeW i0.out.1 hb) (aeW i0.out.2 hb));clear hb e0 e1 e2 e3 m0 m1 m2 m3;obtain⟨e0,e1,e2,e3,m0,m1,m2,m3⟩:=HG.out _ b2.out)))
 have u1q:=Ja ((n6.out.below yT b2.out).mono yT b2.out.size);clear n0 l7 i0 HB a3 n5 n4 n6;go_wp2;clear e0 e1 e2 e3 m0 m1 m2 m3
 go_loopw [62] (fun kv wx=>∃k:Nat,k<=bl.length/\kv=.int .i64 (k:Int)/\Hid (N wD wx)) (fun kv _=>bl.length-(intOf kv).toNat)
 case atStart=>exact⟨0,Jt _,rfl,Ja (Below.refl _ _)⟩
 case round=>
  rename World=>wr
  obtain⟨k,hk,rfl,HK⟩:=hrel
  by_cases d6:k<bl.length
  ·have n7:(k:Int)<(bl.length:Int):=Zo;have n3:=Ja d6;obtain⟨b,hb⟩:∃b,bl[k]? =some b:=⟨_,Jd d6⟩
   obtain⟨kb,ko,rfl,s4,o3⟩:=((u1q.out.below yT HK.out).mono yT HK.out.size).get hb;obtain⟨t2,t3,hI,pv,ov,tv,t0,t1,t4,g4,g5,k5⟩:=o3;obtain⟨pa,pc,rfl,r2,q7⟩:=g4.form;obtain⟨oa,oc,rfl,r5,r4⟩:=g5.form;obtain⟨ta,tc,rfl,p5,p4⟩:=k5.form;have f6:=y.out.2.2 bl (Ji y.out.1);have j1:=f6.2 b (Ji hb);have v0:bl.length<=2000000:=f6.1;have i1:=Ja j1;have l5:=Ja (fun v hd=>s7.out k b hb v hd);have s8:=Ja g4;have s9:=Ja g5;clear d6 hb g4 g5 k5 f6 j1 hI r2 q7 r5 r4 p5 p4;go_upto_region 11 with fail;obtain⟨xb,f2⟩:∃xb,wr.heap.size=xb:=⟨_,rfl⟩
   obtain⟨X0,e6⟩:∃X,wr.alloc (I #[.slice pa b.params.length pc,.slice oa b.ops.length oc,.int .i64 b.term.kind,.int .i64 b.term.a,.slice ta b.term.to.length tc] 84)=X:=⟨_,rfl⟩
   have c7:O X0 xb #[.slice pa b.params.length pc,.slice oa b.ops.length oc,.int .i64 b.term.kind,.int .i64 b.term.a,.slice ta b.term.to.length tc] 84:=by rw[<-e6];exact zI f2
   have l0:N wr X0:=by rw[<-e6];exact(Below.refl _ _).alloc (Je _) _
   rw[e6,f2];have u:=Ja (Jb c7 (Jb l0 f2));have y0:=zA (i:=0) c7 rfl;have yl:=lt_of_block c7;clear e6 c7 l0 t0 t1 t2 t3 t4 s4;have h7:=Ja (show yM (X0.alloc (I #[] 3)) 1 (.slice pa b.params.length pc) b.params.length (b.params.map zN) from zY.src ((s8.out.below zO u.out.2.1).below zO ((Below.refl _ _).alloc u.out.2.1.size (I #[] 3))));have q9:b.params.length<=2000000:=i1.out.1;have u5:b.ops.length<=2000000:=i1.out.2.1;go_upto_region 12 with(at_builtin;go_must (refine zK _ rfl (.tmp 66) (.tmp 68) 22 rfl X0.heap.size 3 ii (.int .i64 0) 1 8 Tryz.underlying22 k2 f1 f0 e9 rfl Zd (F X0.heap.size 0 0) 0 [] rfl (agt X0) _ b.params.length (b.params.map zN) rfl h7.out (by unfold maxLen;omega) Zo Zs ?_;intro v4 w4 c9 a5 o5))
   have e5:N X0 w4:=yP ((Below.refl X0.heap.size X0).alloc (Je _) _) a5 Zs (wF (agt X0));have b7:=zH e5 u.out.1 (lt_of_block u.out.1);have k4:GaM wr X0.heap.size xb #[.slice pa b.params.length pc,.slice oa b.ops.length oc,.int .i64 b.term.kind,.int .i64 b.term.a,.slice ta b.term.to.length tc] w4 v4 b.params:=⟨u.out.2.1.trans (e5.mono u.out.2.1.size),u.out.2.1.size,b7,by simpa using c9,e5.size⟩
   have t7:=Ja k4;have y1:=zA (i:=1) b7 rfl;have p0:=lt_of_block b7;clear e5 b7 k4 c9 a5 o5 h7 y0 yl q9;go_wp2;clear y1 p0
   go_loopw [73,13] (fun kv lv wx=>∃(j:Nat) (L:List Int),j<=b.ops.length/\kv=.int .i64 (j:Int)/\Hid (GaM wr X0.heap.size xb #[.slice pa b.params.length pc,.slice oa b.ops.length oc,.int .i64 b.term.kind,.int .i64 b.term.a,.slice ta b.term.to.length tc] wx lv L/\(∀v∈L,agf b v)/\L.length<=2000000+j)) (fun kv _ _=>b.ops.length-(intOf kv).toNat)
   case atStart=>exact⟨0,b.params,Jt _,rfl,Ja ⟨t7.out,fun v hv=> .inl hv,i1.out.1⟩⟩
   case round=>
    rename World=>wx
    obtain⟨j,L,hj,rfl,c⟩:=hrel;obtain⟨la,lc,rfl⟩:=zG c.out.1.own
    by_cases d7:j<b.ops.length
    ·have n8:(j:Int)<(b.ops.length:Int):=Zo;have e7:=Ja d7;obtain⟨o,ho⟩:∃o,b.ops[j]? =some o:=⟨_,Jd d7⟩
     obtain⟨ob,oo,rfl,k0,r3⟩:=((s9.out.below xA c.out.1.bel).mono xA c.out.1.bel.size).get ho;obtain⟨q0,q1,q2,q3,q4,g3,av,q5,l1⟩:=r3;obtain⟨aa5,ac5,rfl,o9,o6⟩:=l1.form;have s6:L.length<=4000000:=by have:=c.out.2.2;omega
     have HO:=Ja (Jb (Ji ho) g3);clear d7 ho l1 o9 o6 g3
     by_cases h0:0<=o.res
     ·have H0:=Ja h0;go_wp2_with (at_builtin;go_must (refine zK _ rfl (.tmp 80) (.tmp 83) 22 rfl X0.heap.size 3 ii (.int .i64 0) 1 8 Tryz.underlying22 k2 f1 f0 e9 rfl Zd _ L.length (L.map zN) rfl ((c.out.1.own.alloc _).alloc _) _ 1 [.int .i64 o.res] rfl (yM.one (zI Zs) rfl) (by unfold maxLen;omega) Zo (by have:=c.out.1.ge;simp;omega) ?_;intro v9 w9 c8 a4 o4))
      have k3:=((c.out.1.alloc _).alloc _).put a4 c8;have t6:=Ja k3;clear k3 c8 a4 o4 q0 q1 q2 q3 q4 q5 k0;go_roundw
      case rel=>exact⟨j+1,L++ [o.res],e7.out,by go_num,Ja ⟨t6.out,fun v hv=>by
       rcases Jl.1 hv with hv|hv
       ·exact c.out.2.1 v hv
       ·rw[Jo.1 hv]
        exact .inr ⟨o,HO.out.1,rfl,H0.out⟩,by rw[Jk,Ju];have:=c.out.2.2;omega⟩⟩
      case measure=>have:=e7.out;simp[intOf];omega
     ·go_wp2;clear q0 q1 q2 q3 q4 q5 k0;go_roundw
      case rel=>exact⟨j+1,L,e7.out,by go_num,Ja ⟨c.out.1.alloc _,c.out.2.1,by have:=c.out.2.2;omega⟩⟩
      case measure=>have:=e7.out;simp[intOf];omega
    ·obtain rfl:j=b.ops.length:=by omega
     have n8:¬(b.ops.length:Int)<(b.ops.length:Int):=Zo;have s6:L.length<=4000000:=by have:=c.out.2.2;omega
     have t5:=Ja (uA c.out.1.own rfl (fun v hv=>by have:=(l5.out v (c.out.2.1 v hv)).1;exact⟨by omega,by omega⟩));clear hj d7;go_wp2
     go_loopw [88] (fun kv wy=>∃i:Nat,i<=L.length/\kv=.int .i64 (i:Int)/\Hid (N wx wy)) (fun kv _=>L.length-(intOf kv).toNat)
     case atStart=>exact⟨0,Jt _,rfl,Ja (Below.refl _ _)⟩
     case round=>
      rename World=>wy
      obtain⟨i,hi,rfl,HI⟩:=hrel
      by_cases d8:i<L.length
      ·have n9:(i:Int)<(L.length:Int):=Zo;have n2:=Ja d8;obtain⟨v,hv⟩:∃v,L[i]? =some v:=⟨_,Jd d8⟩
       obtain⟨lb,lo,rfl,u9,s1,o0⟩:=((t5.out.below zO HI.out).mono zO HI.out.size).get hv;rw[Nk] at s1;obtain⟨⟨p3,p1⟩,a,t,l⟩:=l5.out v (c.out.2.1 v (Ji hv));obtain⟨m,rfl⟩:∃m:Nat,v=(m:Int):=⟨v.toNat,by omega⟩
       obtain⟨m2,s0⟩:∃m2:Nat,(5000:Int)-(m:Int)=(m2:Int):=⟨5000-m,by omega⟩
       rw[Ni] at t;rw[s0,Ni] at l;have g9:=(Jh.1 t).1;have g8:=(Jh.1 l).1;have a6:N wD wy:=HK.out.trans ((c.out.1.bel.trans (HI.out.mono c.out.1.bel.size)).mono HK.out.size);obtain⟨rb,rfl,f8⟩:=m5.out.1 (fun e=>by rw[e] at g9;exact absurd g9 (Nat.not_lt_zero _));obtain⟨ub,rfl,f5⟩:=m5.out.2 (fun e=>by rw[e] at g8;exact absurd g8 (Nat.not_lt_zero _));have f7:=zH a6 f8 (lt_of_block f8);have f4:=zH a6 f5 (lt_of_block f5);have cr:∀(W:World) (bb:Nat) (S:List Rg) (m:Nat),S[m]? =some a->O W bb (S.flatMap ro).toArray 45->A W bb (m*2) (Y (a.lo:Int))/\A W bb (m*2+1) (Y (a.hi:Int)):=fun W bb S m ha h=>⟨by have:=oW (f:=ro) (n:=2) (fun _=>rfl) h ha (j:=0) rfl;rw[Ng,Uk] at this;exact this,by have:=oW (f:=ro) (n:=2) (fun _=>rfl) h ha (j:=1) rfl;rw[Ng] at this;exact this⟩
       obtain⟨r0,r1⟩:=cr wy rb R m t f7;obtain⟨z0,z1⟩:=cr wy ub U m2 l f4;have rl:=lt_of_block f7;have ul:=lt_of_block f4;have u3:(m:Int)<(R.length:Int):=Zo;have u2:(m2:Int)<(U.length:Int):=Zo;have u4:IntKind.i64.wrap (m2:Int)=(m2:Int):=Om _ Zo;clear d8 hv o0 f8 f5 f7 f4 t l g9 g8 cr p1 p3;have t8:=Ja (show ∀w',N wy w'->A w' rb (m*2) (Y (a.lo:Int))/\A w' rb (m*2+1) (Y (a.hi:Int))/\A w' ub (m2*2) (Y (a.lo:Int))/\A w' ub (m2*2+1) (Y (a.hi:Int)) from fun W hb=>⟨zV hb rl r0,zV hb rl r1,zV hb ul z0,zV hb ul z1⟩);go_upto_region 21 with fail;refine wp_region_noPanic ?_;refine wp_region_held_drew (S:=(fun w'=>A w' rb (m*2) (Y (a.lo:Int))/\A w' rb (m*2+1) (Y (a.hi:Int))/\A w' ub (m2*2) (Y (a.lo:Int))/\A w' ub (m2*2+1) (Y (a.hi:Int)))) Zk (t8.out _ (Below.refl _ _).drew) (fun hHeld=>?_);refine Th 0 ?_
       try simp only[Yp]
       refine Th 1 ?_
       try simp only[Yp]
       refine Th 2 ?_
       try simp only[Yp]
       refine Th 3 ?_
       try simp only[Yp]
       refine Th 4 ?_
       try simp only[Yp]
       refine Th 5 ?_
       try simp only[Yp]
       refine Th 6 ?_
       try simp only[Yp]
       refine Th 7 ?_
       try simp only[Yp]
       refine Th 8 ?_
       try simp only[Yp]
       refine Th 9 ?_
       try simp only[Yp]
       refine Th 10 ?_
       try simp only[Yp]
       refine Td 11 ?_
       try simp only[Yp]
       refine Td 12 ?_
       try simp only[Yp]
       refine Td 13 ?_
       try simp only[Yp]
       refine Td 14 ?_
       try simp only[Yp]
       refine Td 15 ?_
       try simp only[Yp]
       refine wpAnyH_ready (rs:=[16]) Zk Zs ?_;refine AllReadyH.cons (o:=_) rfl (fun K hK=>?_) ?_
       ·skip
        go_simp;refine hK.out _ _ hHeld (fun hHeld=>?_);clear hK K
        try simp only[Yp]
        refine wpAnyH_ready (rs:=[17]) Zk Zs ?_;refine AllReadyH.cons (o:=_) rfl (fun K hK=>?_) ?_
        ·skip
         go_simp;refine hK.out _ _ hHeld (fun hHeld=>?_);clear hK K
         try simp only[Yp]
         refine wpAnyH_done Zk (NoPanic.normal ?_) _;go_simp;go_wp2_with fail;go_roundw
         case rel=>exact⟨i+1,n2.out,by go_num,Ja HI.out.drew⟩
         case measure=>have:=n2.out;simp[intOf];omega
        exact AllReadyH.nil
       exact AllReadyH.nil
      ·obtain rfl:i=L.length:=by omega
       have n9:¬(L.length:Int)<(L.length:Int):=Zo;have a6:N wD wy:=HK.out.trans ((c.out.1.bel.trans (HI.out.mono c.out.1.bel.size)).mono HK.out.size);have u0:=Ja a6;clear hi d8 a6;go_wp2;go_roundw
       case rel=>exact⟨k+1,n3.out,by go_num,u0⟩
       case measure=>have:=n3.out;simp[intOf];omega
  ·obtain rfl:k=bl.length:=by omega
   have n7:¬(bl.length:Int)<(bl.length:Int):=Zo;clear hk d6;go_wp2;go_ret;exact⟨rfl,d.out.1.trans ((b2.out.trans (HK.out.mono b2.out.size)).mono d.out.1.size)⟩
end Go.Proofs.YtoahcpkibpomcaaGreat
set_option maxRecDepth 100000
namespace Go.Proofs.YtoahcpkibpomcaaGreat
open Go.ChangeShapes Go.WideShapes Go.ChangeAt Go.RowKit
variable {T:Int}{i k n' xb:Nat}{s':Slv}{o:IOp}{q':Slv×Bool}{bl:List IBlk}{order:List Nat}{W w:World}{vs:Array Value}{ra:Option Addr}
theorem jd{a:Addr}{v:Value}(h:w.cell? a=some v):a.spot=none:=by
 unfold World.cell? at h
 split at h
 ·split at h
  ·simp at h
  ·rename_i h2;simpa using h2
 ·simp at h
theorem ai0 (b o k:Nat):(⟨b,o,none⟩:Addr).add k=⟨b,o+k,none⟩:=by
 unfold Addr.add;split
 ·rename_i h;subst h;rfl
 ·rfl
theorem fP{α:Type}{P:Program}{H:Type}{enc:TypeId×Value->H}{fuel:Nat}{u:Value}{x:DataW H×List MemPlace}{t e:TypeId}{q:IntKind}(ht:P.underlying t=some (.slice e))(he:P.underlying e=some (.int q))(c1:P.cellsOf e=1)
 (R:World->Nat->Nat->Nat->α->Prop) (h:Int->α) (hR:∀b o z,(Lit.int q z).wf=true->A W b o (.int q z)->R W W.heap.size b o (h z))
 (hf:DataW.trod enc P W 0 (fun _=>true) true fuel t [u]=some x):∃row:List α,yN 1 R W W.heap.size u row:=by
 rcases open_ints ht he c1 hf with⟨h1,_⟩|⟨a,len,w,zs,h1,hb,hl,hm,d,_,c,i⟩
 ·simp at h1;subst h1;exact⟨[],yN.nil⟩
 ·simp at h1;subst h1;simp only[if_true] at d;refine⟨(zs.take len).map h,some a,w,by simp[d,Ud hl],by simp[d];omega,by unfold maxLen at hm;omega,fun k y hk=>?_⟩;have l:=(Jh.1 hk).1;simp[d] at l;rw[Jr,Ug,if_pos Zo,Jd Zo] at hk;have j:=Nt hk;have g:=c k Zo;have hs:=jd (c 0 Zo)
  have m:a=⟨a.block,a.off,none⟩:=by
   cases a;simp[Addr.add] at hs;simp[hs]
  rw[m,ai0] at g;rw[Jj,Jd Zo,Ot] at g;refine⟨a.block,a.off,by rw[<-m],jU g,?_⟩;rw[<-j,Nk];exact hR _ _ _ (i _ (Uf Zo)) g
section
variable {H:Type} {enc:TypeId×Value->H} {W:World} {fuel:Nat} {u:Value} {x:DataW H×List MemPlace}
theorem iR (hf:DataW.trod enc Tryz.prog W 0 (fun _=>true) true fuel 22 [u]=some x):∃row:List Int,zY W W.heap.size u row:=
 fP Tryz.underlying22 Tryz.underlying3 Zk IntR id (fun b o z hz hc=>⟨hc,by unfold I64;simpa[Lit.wf,IntKind.min,IntKind.max,IntKind.signed,IntKind.bits] using hz⟩) hf
end
section
variable {H:Type} {enc:TypeId×Value->H} {W:World} {v:Value} {d:DataW H} {p:List MemPlace} {r:Go.Reach} {base:Nat}
theorem iX (hv:Value.okWide Tryz.prog W r base 22 v)(g:DataW.Trod enc Tryz.prog W 0 (fun _=>true) true 22 v d p):∃row:List Int,zY W W.heap.size v row:=by
 obtain⟨a0,c,h,rfl⟩:=okWide_slice Tryz.underlying22 hv;obtain⟨fuel,hf⟩:=g;exact iR hf
end
theorem afz:ownKnob Tryz.prog.godebug=none:=by kernel_rfl
theorem ce:laidOutB Tryz.prog=true:=by kernel_rfl
theorem ae9 (os:Os)(i:os.Started)(H:Type)(enc:TypeId×Value->H):
 ReturnsInHanded {} Tryz.checked os 10 .any (Rows.rangesRenamedSpec.pre6 enc Tryz.prog Tryz.f10 Rows.rangesRenamedRow.domain false) (Rows.rangesRenamedSpec.post enc Tryz.prog Tryz.f10 false true false false):=by
 refine returnsInHanded_of_change (C:=Tryz.checked) afz i Zk Tryz.func10
  (ChangeSpec.witness6 (enc:=enc) (C:=Tryz.checked) false ⟨#[],#[L,.int .u8 0],[]⟩ 8 Zk Zk Zk Zk) ?_
 intro W base args ds gs before d w a1 _;have c:∀(j:Nat) t v,Tryz.f10.params[j]? =some t->args[j]? =some v->Value.okWide Tryz.prog W .any base t v:=d;have g:=w;obtain⟨p,q,k,hV,rfl,a2,hnd⟩:=w;have y:DataW.TrodAll enc Tryz.prog W 0 (fun _=>true) true Tryz.f10.params.toList args.toList ds p:=k;rw[Tryz.params10] at y c;obtain⟨v0,vs0,d0,a4,p0,q0,a0,rfl,rfl,h0,r0⟩:=trodAll_cons y;obtain⟨v1,vs1,d1,a3,p1,q1,rfl,rfl,rfl,h1,r1⟩:=trodAll_cons r0;obtain⟨rfl,rfl,rfl⟩:=trodAll_nil r1;obtain rfl:args=#[v0,v1]:=by cases args;simp_all
 obtain⟨rfl,rfl⟩:=trodVars_none hV;obtain⟨x0,u⟩:=iX (c 0 22 v0 rfl rfl) h0;obtain⟨x1,rfl,o⟩:=ajc (c 1 5 v1 rfl rfl) h1;have m:∀x∈p0,x.block<W.heap.size:=fun x hx=>g.lt x (by simp[hx])
 have l:∀x∈p1,x.block<W.heap.size:=fun x hx=>g.lt x (by simp[hx])
 clear k d;simp only[Ua] at g;refine(agU W v0 x0 x1 u o).mono fun e W' ⟨he,hb⟩=>?_
 subst he;exact⟨_,rfl,_,_,_,[],p0++p1,[],g,trodAll_mk1 (shut_bool Tryz.underlying4 _),trodAll_mk2 (Below.trod ce Zk (of_decide_eq_true Zk) h0 hb m) (Below.trod ce Zk (of_decide_eq_true Zk) h1 hb l),rfl,hb.frame _,fun h=>by cases h⟩
theorem rangesRenamed_holds:Rows.RangesRenamedSaid:=
 OpenClaim.holds_of_wide 10 Tryz.f10 rfl rfl rfl rfl rfl rfl rfl ⟨rfl,rfl,rfl,rfl,rfl⟩ rfl rfl rfl rfl rfl Zk Tryz.func10 Zk
  (of_decide_eq_true Zk) (by unfold Func.isWrapper;first|(rw[if_pos (by decide+kernel)];kernel_rfl)|(rw[if_neg (by decide+kernel)];exact⟨rfl,rfl⟩))
  (fun os started H enc _=>ae9 os started H enc)
end Go.Proofs.YtoahcpkibpomcaaGreat
