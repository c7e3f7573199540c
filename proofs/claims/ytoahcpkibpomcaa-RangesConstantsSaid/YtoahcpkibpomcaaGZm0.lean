/- Part of a proof. -/
import Derived.Test.YtoahcpkibpomcaaGZl0
set_option linter.all false
set_option maxHeartbeats 16000000
set_option maxRecDepth 100000
namespace Go.Proofs.Ytoahcpkibpomcaa
open Go.RowKit
variable {bl:List IBlk}{R:List Rg}{l:List IOp}{o:IOp}{a2 b2 c d2 f2 k t2:Nat}{W w wx:World}{oc pc:Array Value}{xs:List Value}{a1 b1 d1 f1:Option Addr}
theorem aac (a:Nat)(h:a<65536):-32768<=s16 a/\s16 a<32768:=by unfold s16;split<;>omega
def af9 (n:Nat):Slv:=⟨List.replicate n zf,List.replicate n false⟩
def agx (p:IProg)(bl:List IBlk)(order:List Nat):Slv:=(evL bl order).foldl (evQ p) (af9 (aaG bl).toNat)
theorem age {α:Type}(n:Nat)(a:α)(v:Nat)(z:α):(List.replicate n a).getD v z=if v<n then a else z:=by
 rw[Jj,Nm]
 split<;>rfl
theorem agu {n:Nat}:∀(ps:List Int) (q:Slv×Bool),(∀v∈ps,v.toNat<n)->OkS n q.1->∀x:Int,(ps.foldl (fun q v=>tg 0 v zf q) q).1.knw x=true->q.1.knw x=true∨∃v∈ps,v.toNat=x.toNat
 | [],q,_,_,x,h=> .inl h
 |v::ps,q,hp,hq,x,h=>by
  have hk:=hq.step (k:=0) v xf;rcases agu ps (tg 0 v zf q) (fun u hu=>hp u (.tail _ hu)) hk x h with c|⟨u,c,d⟩
  ·by_cases e:v.toNat=x.toNat
   ·exact .inr ⟨v,.head _,e⟩
   ·have:=(j3 (k:=0) hq Zo (hp v (.head _)) zf).2.2 x e;exact .inl (this.2.symm.trans c)
  ·exact .inr ⟨u,.tail _ c,d⟩
theorem ag2{p:IProg}{d:wO}(u:FnS p bl)(hL:Loc bl d)(ha:AcyG (zy bl))(hc:∀i:Nat,i<bl.length->∀o∈(xz bl i).ops,o.code<=27)
 (hu:∀b∈bl,aq (aaG bl).toNat b):xB p bl=(agx p bl (vD (zy bl))).r:=by
 obtain⟨ns,hO⟩:=adR u.st.vg;obtain⟨N,y⟩:∃N,(aaG bl).toNat=N:=⟨_,rfl⟩
 have l:∀v∈(xz bl (0:Nat)).params,0<=v/\v.toNat<N:=by rw[<-y];exact(u.rng 0 u.pos).1
 obtain⟨s0,w⟩:∃s,ng N (xz bl (0:Nat)).params=s:=⟨_,rfl⟩
 have a3:OkS N s0:=by rw[<-w];exact aeB fun v hv=>(l v hv).2
 have m:=aeV (n:=N) (ps:=(xz bl (0:Nat)).params) fun v hv=>(l v hv).2
 rw[w] at m
 have a4:∀x:Int,0<=x/\s0.knw x=true->x∈(xz bl (0:Nat)).params:=fun x c=>by
  rw[<-w] at c;rcases agu (xz bl (0:Nat)).params (⟨List.replicate N ⟨0,0⟩,List.replicate N false⟩,false) (fun v hv=>(l v hv).2) (g9 N) x c.2 with f|⟨v,f,h2⟩
  ·have f:(List.replicate N false).getD x.toNat false=true:=f;rw[age] at f
   split at f<;>cases f
  ·have h3:=(l v f).1;have:v=x:=Zo;rw[<-this];exact f
 have a9:=ca u hL hO ha (k0:=fun x=>0<=x/\s0.knw x=true) (fun x c=>⟨(l x c).1,(m x c).1⟩) a4;have j:∀i∈0::ns,tn N bl (xz bl i):=fun i hi=>by rw[<-y];exact u.sol i (n5 hO hi)
 have b1:∀e∈evL bl (0::ns),EvOk N e:=fun e q=>by
  obtain⟨i,hi,q⟩:=Qx.1 q;have a5:=n5 hO hi;obtain⟨b,hb⟩:∃b,bl[i]? =some b:=⟨_,Jd a5⟩
  have a0:=hu b (Ji hb);rw[y] at a0;rcases Jl.1 q with q|q
  ·obtain⟨o,ho,rfl⟩:=Nu.1 q;refine⟨(j i hi).1 o ho,hc i a5 o ho,fun h0 x c=>?_⟩;rw[z6 hb] at ho;refine(a0.2.1 o ho).1 x ?_;have c:x∈(if 0<=o.res then(if(zi o.code).a=true then [o.a] else [])++(if(zi o.code).b=true then [o.b] else []) else []):=c;rw[if_pos h0] at c;rcases Jl.1 c with c|c
   ·by_cases h:(zi o.code).a=true
    ·rw[if_pos h] at c;rw[Jo.1 c];exact mem_a h
    ·rw[if_neg h] at c;cases c
   ·by_cases h:(zi o.code).b=true
    ·rw[if_pos h] at c;rw[Jo.1 c];exact mem_b h
    ·rw[if_neg h] at c;cases c
  ·obtain⟨ed,a6,q⟩:=Qx.1 q;obtain⟨⟨v,x⟩,hz,rfl⟩:=Nu.1 q;have a1:=u.st.trm i a5;unfold wn at a1;rw[Jm,Oe] at a1;have b3:=a1.1 ed a6;unfold uM at b3;simp only[Jm,decide_eq_true_eq] at b3;have hp:=(u.rng ed.block.toNat Zo).1 v (by rw[show((ed.block.toNat:Nat):Int)=ed.block by omega];exact(List.of_mem_zip hz).1);rw[y] at hp;rw[z6 hb] at a6;refine⟨hp,a0.2.2 x ?_⟩;unfold mE;exact Qf _ (List.mem_flatten.2 ⟨_,Nu.2 ⟨ed,a6,rfl⟩,(List.of_mem_zip hz).2⟩)
 have b5:Sim N (ParQ bl) s0 (af9 N):=by
  refine⟨a3,⟨by simp[af9],by simp[af9],fun a ha=>by rw[(List.mem_replicate.1 ha).2];exact xf⟩,fun v hv hk=>?_,fun v hv hvn _=>?_,fun v hv hq=>?_⟩
  ·have hm:=a4 v ⟨hv,hk⟩;rw[(m v hm).2]
   show zf=(List.replicate N zf).getD v.toNat ⟨0,0⟩
   rw[age,if_pos (l v hm).2]
  ·show(List.replicate N zf).getD v.toNat ⟨0,0⟩=zf
   rw[age,if_pos hvn]
  ·have f:(af9 N).knw v=false:=by
    show(List.replicate N false).getD v.toNat false=false
    rw[age];split<;>rfl
   rw[f]
   cases e:s0.knw v with
   |false=>rfl
   |true=>
    exfalso;have hm:=a4 v ⟨hv,e⟩;obtain⟨i,b,hi,hb,b7⟩:=hq;obtain⟨b0,b4⟩:∃b,bl[0]? =some b:=⟨_,Jd u.pos⟩
    rw[z6 b4] at hm;have q1:=(hL.par i b hb v b7).1;rw[(hL.par 0 b0 b4 v hm).1] at q1;have:=Nt q1;omega
 have g:=mb (p:=p) (k:=1) Zo (evL bl (0::ns)) s0 (af9 N) false b1 a9 b5;have a2:(vu p bl (0::ns) 1 s0)=(evL bl (0::ns)).foldl (evS p 1) (s0,false):=aeK j s0;obtain⟨s1,b2⟩:∃s,((evL bl (0::ns)).foldl (evS p 1) (s0,false)).1=s:=⟨_,rfl⟩
 rw[b2] at g
 have b6:fnT p bl=s1:=by
  unfold fnT;rw[hO.eq,y,w,qy j a3,a2,b2]
  split
  ·have h2:=gn (p:=p) (k:=2) (evL bl (0::ns)) s1 g.fix;have h3:vu p bl (0::ns) 2 s1=(s1,false):=(aeK j s1).trans h2;rw[qy j g.sim.oks,show(0+1+1:Nat)=2 from rfl,h3,if_neg (fun h=>by cases h)]
  ·rfl
 unfold xB agx;rw[b6,hO.eq,y];have f:=g.sim;generalize (evL bl (0::ns)).foldl (evQ p) (af9 N)=t at *;apply Oq;intro v
 by_cases hv:v<N
 ·rw[fill_get f.oks hv]
  have ht:t.r[v]? =some (t.get (v:Int)):=by
   have hl:v<t.r.length:=by rw[f.okt.rl];exact hv
   unfold Slv.get;rw[Ni,Jj,Jd hl];rfl
  rw[ht]
  cases e:s1.knw (v:Int) with
  |true=>rw[if_pos rfl,f.eq _ (Int.natCast_nonneg _) e]
  |false=>rw[if_neg Zd,f.full _ (Int.natCast_nonneg _) (by rw[Ni];exact hv) e]
 ·rw[Of (by rw[fill_len f.oks];omega),Of (by rw[f.okt.rl];omega)]
def agf (data:List IObj)(R:List Rg)(l:List IOp):List Int:=(l.filter ky).map (afE data R)
theorem agy{data:List IObj}(h:ky o=true):agf data R (l++ [o])=agf data R l++ [afE data R o]:=by
 unfold agf;rw[List.filter_append,List.filter_cons_of_pos h,List.filter_nil,Js];rfl
theorem agD{data:List IObj}(h:ky o=false):agf data R (l++ [o])=agf data R l:=by
 unfold agf;rw[List.filter_append,List.filter_cons_of_neg (by rw[h];decide),List.filter_nil,Ua]
theorem obs_leD (data:List IObj)(R:List Rg)(l:List IOp):(agf data R l).length<=l.length:=by unfold agf;rw[Nr];exact List.length_filter_le _ _
theorem agM:∀(l:List IBlk),(∀b∈l,b.ops.length<=2000000)->(l.flatMap (·.ops)).length<=l.length*2000000
 | [],_=>by simp
 |b::l,h=>by
  have h1:=agM l fun x hx=>h x (.tail _ hx)
  have c:=h b (.head _);rw[Qa,Jk,Nq];omega
theorem agb{j:Nat}(h:l[j]? =some o):l.take (j+1)=l.take j++ [o]:=by rw[Nh,h];rfl
theorem agw{b:IBlk}(h:bl[k]? =some b):(bl.take (k+1)).flatMap (·.ops)=(bl.take k).flatMap (·.ops)++b.ops:=by rw[Nh,h,Nx];simp
structure ObSD (w wx:World) (t2 rb:Nat) (pc:Array Value) (R:List Rg) (bl:List IBlk):Prop where
 below:Below t2 w wx
 p2:wx.heap[t2]? =some (.cells pc 44 (0,0))
 row:bl≠ []->wx.heap[rb]? =some (.cells (R.flatMap xe).toArray 48 (0,0))
theorem ObSD.lt{rb:Nat}(h:ObSD w wx t2 rb pc R bl):t2<=wx.heap.size:=Qd (lt_of_block h.p2)
theorem ObSD.keep{rb:Nat}(h:ObSD w wx t2 rb pc R bl)(hb:Q wx W):ObSD w W t2 rb pc R bl:=
 ⟨h.below.trans (hb.mono h.lt),zH hb h.p2 (lt_of_block h.p2),fun h0=>zH hb (h.row h0) (lt_of_block (h.row h0))⟩
theorem ObSD.drew{rb:Nat}(h:ObSD w wx t2 rb pc R bl):ObSD w wx.drew t2 rb pc R bl:=⟨h.below.drew,h.p2,h.row⟩
theorem agn{n:Nat}{v:Value}(ho:wx.ownsRow t2 3 1 v n xs):∀k,v.ownBlock=some k->t2<=k:=fun k hk=>by
 rcases ho.2 with⟨rfl,_⟩|⟨g,f,d,rfl,c,_⟩
 ·cases hk
 ·cases hk;exact c
theorem ObSD.grown{rb:Nat}(h:ObSD w wx t2 rb pc R bl){n:Nat}{v:Value}(ho:wx.ownsRow t2 3 1 v n xs)(hg:wx.grownBy W v.ownBlock):ObSD w W t2 rb pc R bl:=
 ⟨h.below.grown hg h.lt (agn ho),zL hg h.p2 (zC ho h.p2 (.inr Zd)),fun h0=>zL hg (h.row h0) (zC ho (h.row h0) (.inr Zd))⟩
structure ObTD (w wx:World) (t2 rb:Nat) (pc:Array Value) (R:List Rg) (bl:List IBlk) (t10:Nat) (oc:Array Value):Prop where
 s:ObSD w wx t2 rb pc R bl
 op:wx.heap[t10]? =some (.cells oc 27 (0,0))
theorem ObTD.keep{rb:Nat}(h:ObTD w wx t2 rb pc R bl c oc)(hb:Q wx W):ObTD w W t2 rb pc R bl c oc:=
 ⟨h.s.keep hb,zH hb h.op (lt_of_block h.op)⟩
theorem ObTD.grown{rb:Nat}(h:ObTD w wx t2 rb pc R bl c oc){n:Nat}{v:Value}(ho:wx.ownsRow t2 3 1 v n xs)(hg:wx.grownBy W v.ownBlock):ObTD w W t2 rb pc R bl c oc:=
 ⟨h.s.grown ho hg,zL hg h.op (zC ho h.op (.inr Zd))⟩
theorem ObSD.rcell{rb:Nat}(h:ObSD w wx t2 rb pc R bl)(c:bl≠ []){x:Nat}(d:x<R.length):
 O wx rb (x*2) (M ((R.getD x ⟨0,0⟩).lo:Int))/\O wx rb (x*2+1) (M ((R.getD x ⟨0,0⟩).hi:Int)):=by
 have hg:R[x]? =some (R.getD x ⟨0,0⟩):=by rw[Jj,Jd d];rfl
 exact⟨by have:=oW (f:=xe) (n:=2) (fun _=>rfl) (h.row c) hg (j:=0) rfl;rw[Ng,Uk] at this;exact this,by have:=oW (f:=xe) (n:=2) (fun _=>rfl) (h.row c) hg (j:=1) rfl;rw[Ng] at this;exact this⟩
def ObjRetD (w:World)(l:List Int)(e:Ending)(w':World):Prop:=∃v,e=.returned v/\w'.ownsRow w.heap.size 3 1 v l.length (l.map zN)/\Q w w'
theorem agd{p:IProg}(h:FnS p bl):(∀a∈xB p bl,a.ok)/\(xB p bl).length=(aaG bl).toNat:=by
 refine⟨fun a ha=>?_,pn h.end.ok⟩;unfold xB qi at ha;obtain⟨⟨x,b⟩,c,rfl⟩:=Nu.1 ha
 dsimp only
 split
 ·exact h.end.ok.ok x (List.of_mem_zip c).1
 ·exact xf
theorem acc_useD{p:IProg}(h:FnS p bl){b:IBlk}(hb:bl[k]? =some b)(ho:o∈b.ops)(c:ky o=true):0<=o.a/\o.a.toNat<(xB p bl).length:=by
 have hk:=(Jh.1 hb).1;have:=((h.rng k hk).2 o (by rw[z6 hb];exact ho)).1.a (acc_a c);rw[(agd h).2];exact this
theorem agA:ky o=decide (o.code=18∨o.code=19∨o.code=20∨o.code=21):=by
 unfold ky;rw[Bool.eq_iff_iff];simp only[Jm,decide_eq_true_eq];omega
theorem agl{B:Nat}{V:PV}{p:IProg}(hp:ProgIn w B V p)(hB:B<=w.heap.size)(hs:∀f∈p.funcs,vZ f)(hv:vC p=0){f:Nat}(hf:p.funcs[f]? =some bl):
 A 9 #[yH V p,I f] w (ObjRetD w (aeA p.data (xB p bl) bl)):=by
 have a0:=hs bl (Ji hf);have n2:=(Jh.1 hf).1;obtain⟨R,hR⟩:∃R,xB p bl=R:=⟨_,rfl⟩
 have hF:bl≠ []->FnS p bl:=fun h0=>afn hv hs hp.p64 hf h0
 have h8:∀W,Q w W->A 16 #[yH V p] W (m9 W 0):=fun W hb=>by
  have:=tu (hp.below (hb.mono hB)) (Jn hB hb.size) hs;rw[hv] at this;exact this
 have h9:∀W,Q w W->A 8 #[yH V p,I f] W (fun e w'=>∃(ra:Option Addr) (a3 rc:Nat),e=.returned (.slice ra a3 rc)/\Q W w'/\((bl=[]/\ra=none/\a3=0/\rc=0)∨bl≠ []/\a3=R.length/\rc=R.length/\∃rb,ra=some ⟨rb,0,none⟩/\T w' rb (R.flatMap xe).toArray 48)):=fun W hb=>by
  by_cases h0:bl=[]
  ·subst h0;refine(afa (hp.below (hb.mono hB)) (Jn hB hb.size) hs hv f hf).mono ?_;rintro e w' ⟨rfl,j2⟩;exact⟨none,0,0,rfl,j2,.inl ⟨rfl,rfl,rfl,rfl⟩⟩
  ·refine(df (hp.below (hb.mono hB)) (Jn hB hb.size) hs hv hf h0).mono ?_;rintro e w' ⟨rb,rfl,h1,h2,h3⟩;rw[hR] at h1 ⊢;exact⟨_,_,_,rfl,h3,.inr ⟨h0,rfl,rfl,rb,rfl,h1⟩⟩
 have i0:∀(a:Rg) (n:Int) W,Q w W->a.ok->(0<=n/\n<=2)->A 24 #[yH V p,.agg #[M (a.lo:Int),M (a.hi:Int)],I n] W (qs W (q8 p.data 0 a n)):=fun a n W hb ha hn=>ae6 (hp.below (hb.mono hB)) (Jn hB hb.size) ha n hn
 obtain⟨Vf,Va,Vd,Vb⟩:=V;obtain⟨f1,f2,e1,n4,n3⟩:=hp.funcs.form;have j9:Vf=.slice f1 p.funcs.length f2:=e1;subst j9;obtain⟨gb,go,rfl,e8,bv,g0,f3⟩:=hp.funcs.get hf;obtain⟨ka,f9,rfl,m8,m4⟩:=f3.form;rw[Nk] at g0;obtain⟨X,hX⟩:∃X,w.alloc (U #[.slice (some ⟨gb,go,none⟩) p.funcs.length f2,Va,I p.entry,I p.handler,Vd,Vb] 44)=X:=⟨_,rfl⟩
 have g8:Q w X:=by rw[<-hX];exact(Below.refl _ _).alloc (Je _) _
 have b0:T X w.heap.size #[.slice (some ⟨gb,go,none⟩) p.funcs.length f2,Va,I p.entry,I p.handler,Vd,Vb] 44:=by rw[<-hX];exact zI rfl
 have x0:=zA (i:=0) b0 rfl;have x1:=zA (i:=1) b0 rfl;have x2:=zA (i:=2) b0 rfl;have x3:=zA (i:=3) b0 rfl;have x4:=zA (i:=4) b0 rfl;have x5:=zA (i:=5) b0 rfl;have d6:=lt_of_block b0;have HX:=Ja (Jb g8 b0)
 have HC:=Ja (show(∀W,Q w W->A 16 #[.agg #[.slice (some ⟨gb,go,none⟩) p.funcs.length f2,Va,I p.entry,I p.handler,Vd,Vb]] W (m9 W 0))/\(∀W,Q w W->A 8 #[.agg #[.slice (some ⟨gb,go,none⟩) p.funcs.length f2,Va,I p.entry,I p.handler,Vd,Vb],I f] W (fun e w'=>∃(ra:Option Addr) (a3 rc:Nat),e=.returned (.slice ra a3 rc)/\Q W w'/\((bl=[]/\ra=none/\a3=0/\rc=0)∨bl≠ []/\a3=R.length/\rc=R.length/\∃rb,ra=some ⟨rb,0,none⟩/\T w' rb (R.flatMap xe).toArray 48)))/\
  (∀(a:Rg) (n:Int) W,Q w W->a.ok->(0<=n/\n<=2)->A 24 #[.agg #[.slice (some ⟨gb,go,none⟩) p.funcs.length f2,Va,I p.entry,I p.handler,Vd,Vb],.agg #[M (a.lo:Int),M (a.hi:Int)],I n] W (qs W (q8 p.data 0 a n))) from⟨h8,h9,i0⟩)
 have HG:=Ja (show ∀W,Q w W->O W gb (go+f) (.slice ka bl.length f9)/\wX W B (.slice ka bl.length f9) bl/\B<=W.heap.size/\gb<W.heap.size from fun W hb=>⟨zV (hb.mono hB) e8 g0,f3.below yT (hb.mono hB),Jn hB hb.size,Jy e8 (Jn hB hb.size)⟩);have HF:=Ja (Jb hF (Jb hR a0));have k6:decide ((f:Int)<0)=false:=decide_eq_false Zo;have k5:decide ((p.funcs.length:Int)<=(f:Int))=false:=decide_eq_false Zo;have k4:decide (p.funcs.length<=f)=false:=decide_eq_false Zo;have k9:bl.length<=2000000:=a0.1;clear hp hB hs hv h8 h9 i0 g0 f3 e8 g8 b0 hF hR a0 hf;unfold yH;go_enter Try.func9,Try.ntmps9;go_upto_region 2 with(go_at_call 8;go_must (refine(HC.out.2.1 _ HX.out.1).mono ?_;rintro e w1 ⟨ra,a3,rc,rfl,f4,g5⟩))
 have c7:=zH f4 HX.out.2 d6;have H1:=Ja (Jb (HX.out.1.trans (f4.mono HX.out.1.size)) (Jb c7 g5));clear hX x0 x1 x2 x3 x4 x5 f4 c7 g5 d6;have g4:=lt_of_block H1.out.2.1
 go_cut [5,31] from 14 to 31 (fun s v wx=>s=.slice ra a3 rc/\v=.bool false/\Hid (Q w1 wx))
 case first=>
  have y0:=zA (i:=0) H1.out.2.1 rfl;have y1:=zA (i:=1) H1.out.2.1 rfl;have y2:=zA (i:=2) H1.out.2.1 rfl;have y3:=zA (i:=3) H1.out.2.1 rfl;have y4:=zA (i:=4) H1.out.2.1 rfl;have y5:=zA (i:=5) H1.out.2.1 rfl;have hq:=fun W=>Lib.run_eql_slice_nil (P:=Try.prog) W 45 48 ra a3 rc 0 0 Try.underlying45
  cases ra with
  |none=>
   go_wp2_with (go_at_call 16;go_must (refine(HC.out.1 _ H1.out.1).mono ?_;rintro e w2 ⟨rfl,h6⟩;have c7:=zH h6 H1.out.2.1 g4;have z0:=zA (i:=0) c7 rfl;have m3:=lt_of_block c7))
   go_meet
   exact⟨rfl,rfl,Ja h6⟩
  |some ra=>
   go_wp2_with fail;go_meet;exact⟨rfl,rfl,Ja (Below.refl _ _)⟩
 case rest=>
  obtain⟨rfl,rfl,HW⟩:=hcut;obtain⟨ii,d1,b6,b5,b4⟩:=info_parts Try.info_int;have b7:=zH HW.out H1.out.2.1 g4;have y0:=zA (i:=0) b7 rfl;obtain⟨yg,_,o0,n1⟩:=HG.out wc (H1.out.1.trans (HW.out.mono H1.out.1.size));have i1:=lt_of_block b7;obtain⟨t2,d8⟩:∃t,w.heap.size=t:=⟨_,rfl⟩
  obtain⟨rb,c5⟩:∃rb:Nat,bl≠ []->ra=some ⟨rb,0,none⟩/\a3=R.length/\rc=R.length/\T wc rb (R.flatMap xe).toArray 48:=by
   rcases H1.out.2.2 with⟨h0,_⟩|⟨h0,h1,h2,rb,h3,h4⟩
   ·exact⟨0,fun h=>absurd h0 h⟩
   ·exact⟨rb,fun _=>⟨h3,h1,h2,zH HW.out h4 (lt_of_block h4)⟩⟩
  have HS:=Ja (show ObSD w wc w.heap.size rb #[.slice (some ⟨gb,go,none⟩) p.funcs.length f2,Va,I p.entry,I p.handler,Vd,Vb] R bl from⟨H1.out.1.trans (HW.out.mono H1.out.1.size),b7,fun h0=>(c5 h0).2.2.2⟩);have k0:=Ja (show bl≠ []->ra=some ⟨rb,0,none⟩/\a3=R.length/\rc=R.length from fun h=>⟨(c5 h).1,(c5 h).2.1,(c5 h).2.2.1⟩);rw[d8] at HS y0 i1 HG HC ⊢;have HT:=Ja d8;clear d8;have k2:=Ja (show B<=t2 by rw[<-HT.out];exact(HG.out w (Below.refl _ _)).2.2.1);have d0:wc.ownsRow t2 3 1 (F) 0 ((agf p.data R ([]:List IOp)).map zN):=Jv _ _ _ _;have k1:=Ja d0;clear c5 d0 b7;go_wp2;clear y0 yg
  go_loopw [6,39] (fun sv kv wx=>∃(k:Nat) (oa:Option Addr) (on oc:Nat),k<=bl.length/\sv=.slice oa on oc/\kv=I k/\Hid (on=(agf p.data R ((bl.take k).flatMap (·.ops))).length/\ObSD w wx t2 rb #[.slice (some ⟨gb,go,none⟩) p.funcs.length f2,Va,I p.entry,I p.handler,Vd,Vb] R bl/\wx.ownsRow t2 3 1 (.slice oa on oc) on ((agf p.data R ((bl.take k).flatMap (·.ops))).map zN))) (fun _ kv _=>bl.length-(intOf kv).toNat)
  case atStart=>exact⟨0,none,0,0,Jt _,rfl,rfl,Ja ⟨rfl,HS.out,k1.out⟩⟩
  case round=>
   obtain⟨k,oa,on,oc,hk,rfl,rfl,HK⟩:=hrel
   by_cases a4:k<bl.length
   ·have c9:(k:Int)<(bl.length:Int):=Zo;obtain⟨b,hb⟩:∃b,bl[k]? =some b:=⟨_,Jd a4⟩
    have i8:bl≠ []:=fun e=>by rw[e] at a4;exact absurd a4 (Nat.not_lt_zero _)
    obtain⟨_,f0,b3,_⟩:=HG.out wr HK.out.2.1.below;obtain⟨bb,bo,j1,h5,c2,c3,f6,pv,ov,tv,c0,c1,c4,e7,c8,d7⟩:=f0.get hb;obtain⟨pa,pc,rfl,m1,l9⟩:=e7.form;obtain⟨qa,qc,rfl,l7,l3⟩:=c8.form;obtain⟨ta,tc,rfl,l2,l1⟩:=d7.form;subst j1;have l0:bb<wr.heap.size:=Jy h5 b3;have g7:=HF.out.2.2.2 b (Ji hb);have m2:b.ops.length<=2000000:=g7.2.1;obtain⟨Y,hY⟩:∃Y,wr.alloc (U #[.slice pa b.params.length pc,.slice qa b.ops.length qc,I b.term.kind,I b.term.a,.slice ta b.term.to.length tc] 36)=Y:=⟨_,rfl⟩
    have d3:Q wr Y:=by rw[<-hY];exact(Below.refl _ _).alloc (Je _) _
    have g2:T Y wr.heap.size #[.slice pa b.params.length pc,.slice qa b.ops.length qc,I b.term.kind,I b.term.a,.slice ta b.term.to.length tc] 36:=by rw[<-hY];exact zI rfl
    have HY:=Ja (show ObSD w Y t2 rb #[.slice (some ⟨gb,go,none⟩) p.funcs.length f2,Va,I p.entry,I p.handler,Vd,Vb] R bl/\Y.ownsRow t2 3 1 (.slice oa on oc) on ((agf p.data R ((bl.take k).flatMap (·.ops))).map zN)/\T Y wr.heap.size #[.slice pa b.params.length pc,.slice qa b.ops.length qc,I b.term.kind,I b.term.a,.slice ta b.term.to.length tc] 36/\mN Y B (.slice qa b.ops.length qc) b.ops from⟨HK.out.2.1.keep d3,p7 HK.out.2.2 d3 (Je _),g2,c8.below xA (d3.mono b3)⟩);have q:=Ja (Jb hb (Jb i8 (Jb a4 HK.out.1)));clear f0 hb h5 e7 c8 d7 d3 g2 g7 f6 a4 b3;go_upto_region 8 with fail;clear hY c0 c1 c2 c3 c4;obtain⟨t8,g3⟩:∃t,wr.heap.size=t:=⟨_,rfl⟩
    rw[g3] at HY ⊢;clear g3;have z1:O Y t8 1 (.slice qa b.ops.length qc):=zA HY.out.2.2.1 rfl;go_wp2;clear z1
    go_loopw [6,46] (fun sv jv wx=>∃(j:Nat) (oa:Option Addr) (on oc:Nat),j<=b.ops.length/\sv=.slice oa on oc/\jv=I j/\Hid (on=(agf p.data R ((bl.take k).flatMap (·.ops)++b.ops.take j)).length/\ObSD w wx t2 rb #[.slice (some ⟨gb,go,none⟩) p.funcs.length f2,Va,I p.entry,I p.handler,Vd,Vb] R bl/\wx.ownsRow t2 3 1 (.slice oa on oc) on ((agf p.data R ((bl.take k).flatMap (·.ops)++b.ops.take j)).map zN)/\Below t2 Y wx)) (fun _ jv _=>b.ops.length-(intOf jv).toNat)
    case atStart=>exact⟨0,oa,on,oc,Jt _,rfl,rfl,Ja ⟨by rw[Uc,Ua];exact q.out.2.2.2,HY.out.1,by rw[Uc,Ua];exact HY.out.2.1,Below.refl _ _⟩⟩
    case round=>
     obtain⟨j,oa,on,oc,hj,rfl,rfl,HJ⟩:=hrel
     by_cases a4:j<b.ops.length
     ·have c9:(j:Int)<(b.ops.length:Int):=Zo;obtain⟨o,ho⟩:∃o,b.ops[j]? =some o:=⟨_,Jd a4⟩
      obtain⟨qb,qo,i2,g6,e0,e1,e2,e3,e4,f6,av,e5,h7⟩:=(HY.out.2.2.2.below xA (HJ.out.2.2.2.mono k2.out)).get ho;obtain⟨aa,ac,rfl,_,_⟩:=h7.form;subst i2;have b3:B<=wr.heap.size:=(HG.out wr HJ.out.2.1.below).2.2.1;have k3:qb<wr.heap.size:=Jy g6 b3;obtain⟨c,hc⟩:∃c,o.code=c:=⟨_,rfl⟩
      obtain⟨y,hy⟩:∃y,o.a=y:=⟨_,rfl⟩
      rw[hc] at e0;rw[hy] at e2;obtain⟨Z,hZ⟩:∃Z,wr.alloc (U #[I c,I o.res,I y,I o.b,M (o.n:Int),.slice aa o.args.length ac] 27)=Z:=⟨_,rfl⟩
      have d2:Q wr Z:=by rw[<-hZ];exact(Below.refl _ _).alloc (Je _) _
      have d4:T Z wr.heap.size #[I c,I o.res,I y,I o.b,M (o.n:Int),.slice aa o.args.length ac] 27:=by rw[<-hZ];exact zI rfl
      have l:=Ja (show ObSD w Z t2 rb #[.slice (some ⟨gb,go,none⟩) p.funcs.length f2,Va,I p.entry,I p.handler,Vd,Vb] R bl/\Z.ownsRow t2 3 1 (.slice oa on oc) on ((agf p.data R ((bl.take k).flatMap (·.ops)++b.ops.take j)).map zN)/\T Z wr.heap.size #[I c,I o.res,I y,I o.b,M (o.n:Int),.slice aa o.args.length ac] 27/\Below t2 Y Z from⟨HJ.out.2.1.keep d2,p7 HJ.out.2.2.1 d2 (Je _),d4,HJ.out.2.2.2.trans (d2.mono HJ.out.2.1.lt)⟩)
      have k7:on<=4000000000000:=by
       have h1:=HJ.out.1;have h2:=obs_leD p.data R ((bl.take k).flatMap (·.ops)++b.ops.take j);have h3:=agM (bl.take k) fun x hx=>(HF.out.2.2.2 x (List.mem_of_mem_take hx)).2.1
       rw[Jk,Oc] at h2;rw[Oc] at h3;have h4:=q.out.2.2.1;omega
      have HO:=Ja (Jb ho (Jb hc (Jb hy (Jb a4 HJ.out.1))));clear ho f6 h7 d2 d4 a4 g6 b3;go_upto_region 11 with fail;clear hZ e0 e1 e2 e3 e4 e5 hc hy;obtain⟨a2,e6⟩:∃t,wr.heap.size=t:=⟨_,rfl⟩
      rw[e6] at l ⊢;clear e6;have z0:O Z a2 0 (I c):=zA l.out.2.2.1 rfl
      by_cases b8:c=18∨c=19∨c=20∨c=21
      ·have b1:ky o=true:=by rw[agA,HO.out.2.1];exact decide_eq_true b8
       have d5:=acc_useD (HF.out.1 q.out.2.1) q.out.1 (Ji HO.out.1) b1;rw[HF.out.2.1,HO.out.2.2.1] at d5;obtain⟨yn_,rfl⟩:∃yn_:Nat,y=yn_:=⟨y.toNat,by omega⟩
       have a6:yn_<R.length:=by have:=d5.2;rw[Ni] at this;exact this
       obtain⟨rfl,rfl,rfl⟩:=k0.out q.out.2.1
       have n7:R.length<=65536:=by
        have h1:=(agd (HF.out.1 q.out.2.1)).2;rw[HF.out.2.1] at h1;have h2:=(HF.out.1 q.out.2.1).cnt;omega
       obtain⟨a,ha⟩:∃a,R.getD yn_ ⟨0,0⟩=a:=⟨_,rfl⟩
       have f5:a.ok:=by
        have h1:=(agd (HF.out.1 q.out.2.1)).1;rw[HF.out.2.1] at h1;refine h1 a ?_;rw[<-ha,Jj,Jd a6];exact Uf a6
       obtain⟨z,hz⟩:∃z,afE p.data R o=z:=⟨_,rfl⟩
       have g1:∀n,aff o=n->q8 p.data 0 a n=z:=fun n hn=>by rw[<-hz,<-ha,<-hn];unfold afE;rw[HO.out.2.2.1,Ni]
       have b9:agf p.data R ((bl.take k).flatMap (·.ops)++b.ops.take (j+1))=agf p.data R ((bl.take k).flatMap (·.ops)++b.ops.take j)++ [z]:=by
        rw[agb HO.out.1,<-Nv,agy b1,hz]
       have HA:=Ja (Jb b9 (Jb f5 (Jb g1 (Jb b1 ha))));have hrl:=lt_of_block (l.out.1.row q.out.2.1);clear d5 ha f5 hz g1 b9 b1;rcases b8 with rfl|rfl|rfl|rfl
       ·have HS:=Ja (show ∀w',ObTD w w' t2 rb #[.slice (some ⟨gb,go,none⟩) p.funcs.length f2,Va,I p.entry,I p.handler,Vd,Vb] R bl a2 #[I 18,I o.res,I yn_,I o.b,M (o.n:Int),.slice aa o.args.length ac]->(O w' t2 0 (.slice (some ⟨gb,go,none⟩) p.funcs.length f2)/\O w' t2 1 Va/\O w' t2 2 (I p.entry)/\O w' t2 3 (I p.handler)/\O w' t2 4 Vd/\O w' t2 5 Vb)/\O w' a2 2 (I yn_)/\O w' rb (yn_*2) (M (a.lo:Int))/\O w' rb (yn_*2+1) (M (a.hi:Int)) from fun W h=>⟨⟨zA h.s.p2 rfl,zA h.s.p2 rfl,zA h.s.p2 rfl,zA h.s.p2 rfl,zA h.s.p2 rfl,zA h.s.p2 rfl⟩,zA h.op rfl,by rw[<-HA.out.2.2.2.2];exact(h.s.rcell q.out.2.1 a6).1,by rw[<-HA.out.2.2.2.2];exact(h.s.rcell q.out.2.1 a6).2⟩);have a0:aff o=2:=by unfold aff;(rw[HO.out.2.1])<;>rfl
        have b2:=Ja (show ∀W,Below t2 w W->A 24 #[.agg #[.slice (some ⟨gb,go,none⟩) p.funcs.length f2,Va,I p.entry,I p.handler,Vd,Vb],.agg #[M (a.lo:Int),M (a.hi:Int)],I 2] W (qs W z) from fun W hb=>by
         rw[<-HA.out.2.2.1 2 a0];exact HC.out.2.2 a 2 W hb HA.out.2.1 Zd)
        clear a0;go_upto_region 14 with fail;clear z0;refine wp_region_noPanic ?_;refine yQ (S:=(fun w'=>(O w' t2 0 (.slice (some ⟨gb,go,none⟩) p.funcs.length f2)/\O w' t2 1 Va/\O w' t2 2 (I p.entry)/\O w' t2 3 (I p.handler)/\O w' t2 4 Vd/\O w' t2 5 Vb)/\O w' a2 2 (I yn_)/\O w' rb (yn_*2) (M (a.lo:Int))/\O w' rb (yn_*2+1) (M (a.hi:Int)))) 10 Zk (HS.out _ ⟨l.out.1.drew,l.out.2.2.1⟩) (fun hHeld=>?_);refine Tl 0 ?_
        try simp only[Yp]
        refine Tl 1 ?_
        try simp only[Yp]
        refine Tl 2 ?_
        try simp only[Yp]
        refine Tl 3 ?_
        try simp only[Yp]
        refine Tl 4 ?_
        try simp only[Yp]
        refine Tl 5 ?_
        try simp only[Yp]
        refine Tl 6 ?_
        try simp only[Yp]
        refine z8 (rs:=[7]) Zk Zs ?_;refine zS.cons (o:=_) rfl (fun K hK=>?_) ?_
        ·skip
         (go_simp;refine(b2.out _ l.out.1.below.drew).mono ?_;rintro e w5 ⟨rfl,a5⟩;have m:Q Z w5:=(Below.refl Z.heap.size Z).drew.trans a5;clear a5;have g:=Ja (Jb (ObTD.keep ⟨l.out.1,l.out.2.2.1⟩ m) (Jb (p7 l.out.2.1 m (Je _)) (Jb m (show t2<=(w5.alloc (U #[I z] 3)).heap.size by have:=l.out.1.lt;have:=m.size;simp;omega))));clear m)
         refine hK.out _ _ (HS.out _ g.out.1) (fun hHeld=>?_);clear hK K
         try simp only[Yp]
         refine z8 (rs:=[8]) Zk Zs ?_;refine zS.cons (o:=_) rfl (fun K hK=>?_) ?_
         ·skip
          go_simp;refine hK.out _ _ (HS.out _ (g.out.1.keep ((Below.refl _ _).alloc (Je _) _))) (fun hHeld=>?_);clear hK K
          try simp only[Yp]
          refine z8 (rs:=[9]) Zk Zs ?_;refine zS.cons (o:=_) rfl (fun K hK=>?_) ?_
          ·skip
           (refine yG (by rfl) (.tmp 55) (.tmp 63) _ (by rfl) t2 3 ii (I 0) 1 8 Try.underlying25 d1 b6 b5 b4 rfl Zo (.slice oa on oc) on ((agf p.data R ((bl.take k).flatMap (·.ops)++b.ops.take j)).map zN) (by rfl) (g.out.2.1.alloc _) (L w5.heap.size 1 1) 1 [I z] (by rfl) (yM.one (zI rfl) rfl) (by unfold maxLen;omega) Zo g.out.2.2.2 ?_;intro va9 vc9 w9 u d a9;(try dsimp only))
           refine hK.out _ _ (HS.out _ ((g.out.1.keep ((Below.refl _ _).alloc (Je _) _)).grown (g.out.2.1.alloc _) d)) (fun hHeld=>?_);clear hK K
           try simp only[Yp]
           refine z8 (rs:=[10]) Zk Zs ?_;refine zS.last (o:=_) rfl (fun K hK=>?_);go_simp;refine hK.out _ _ ?_;clear hK K
           try simp only[Yp]
           refine xj Zk (NoPanic.normal ?_) _
           have a1:=Ja (show ObSD w w9 t2 rb #[.slice (some ⟨gb,go,none⟩) p.funcs.length f2,Va,I p.entry,I p.handler,Vd,Vb] R bl/\w9.ownsRow t2 3 1 (.slice va9 (on+1) vc9) (on+1) ((agf p.data R ((bl.take k).flatMap (·.ops)++b.ops.take (j+1))).map zN)/\Below t2 Y w9 from by
            have h2:=(g.out.1.s.keep ((Below.refl _ _).alloc (Je _) (U #[I z] 3))).grown (g.out.2.1.alloc _) d;have h4:Below t2 Y (w5.alloc (U #[I z] 3)):=(l.out.2.2.2.trans (g.out.2.2.1.mono l.out.1.lt)).alloc g.out.1.s.lt _
            exact⟨h2,by rw[HA.out.1,Js];exact u,h4.grown d g.out.2.2.2 (agn g.out.2.1)⟩)
           clear u d a9 hHeld;go_wp2_with fail;go_roundw
           case rel=>exact⟨j+1,va9,on+1,vc9,HO.out.2.2.2.1,rfl,by go_num,Ja ⟨by rw[HA.out.1,Jk,<-HO.out.2.2.2.2];rfl,a1.out.1,a1.out.2.1,a1.out.2.2⟩⟩
           case measure=>have:=HO.out.2.2.2.1;simp[intOf];omega
          exact zS.nil
         exact zS.nil
        exact zS.nil
       ·have HS:=Ja (show ∀w',ObTD w w' t2 rb #[.slice (some ⟨gb,go,none⟩) p.funcs.length f2,Va,I p.entry,I p.handler,Vd,Vb] R bl a2 #[I 19,I o.res,I yn_,I o.b,M (o.n:Int),.slice aa o.args.length ac]->(O w' t2 0 (.slice (some ⟨gb,go,none⟩) p.funcs.length f2)/\O w' t2 1 Va/\O w' t2 2 (I p.entry)/\O w' t2 3 (I p.handler)/\O w' t2 4 Vd/\O w' t2 5 Vb)/\O w' a2 2 (I yn_)/\O w' rb (yn_*2) (M (a.lo:Int))/\O w' rb (yn_*2+1) (M (a.hi:Int)) from fun W h=>⟨⟨zA h.s.p2 rfl,zA h.s.p2 rfl,zA h.s.p2 rfl,zA h.s.p2 rfl,zA h.s.p2 rfl,zA h.s.p2 rfl⟩,zA h.op rfl,by rw[<-HA.out.2.2.2.2];exact(h.s.rcell q.out.2.1 a6).1,by rw[<-HA.out.2.2.2.2];exact(h.s.rcell q.out.2.1 a6).2⟩);have a0:aff o=1:=by unfold aff;(rw[HO.out.2.1])<;>rfl
        have b2:=Ja (show ∀W,Below t2 w W->A 24 #[.agg #[.slice (some ⟨gb,go,none⟩) p.funcs.length f2,Va,I p.entry,I p.handler,Vd,Vb],.agg #[M (a.lo:Int),M (a.hi:Int)],I 1] W (qs W z) from fun W hb=>by
         rw[<-HA.out.2.2.1 1 a0];exact HC.out.2.2 a 1 W hb HA.out.2.1 Zd)
        clear a0;go_upto_region 17 with fail;clear z0;refine wp_region_noPanic ?_;refine yQ (S:=(fun w'=>(O w' t2 0 (.slice (some ⟨gb,go,none⟩) p.funcs.length f2)/\O w' t2 1 Va/\O w' t2 2 (I p.entry)/\O w' t2 3 (I p.handler)/\O w' t2 4 Vd/\O w' t2 5 Vb)/\O w' a2 2 (I yn_)/\O w' rb (yn_*2) (M (a.lo:Int))/\O w' rb (yn_*2+1) (M (a.hi:Int)))) 10 Zk (HS.out _ ⟨l.out.1.drew,l.out.2.2.1⟩) (fun hHeld=>?_);refine Tl 0 ?_
        try simp only[Yp]
        refine Tl 1 ?_
        try simp only[Yp]
        refine Tl 2 ?_
        try simp only[Yp]
        refine Tl 3 ?_
        try simp only[Yp]
        refine Tl 4 ?_
        try simp only[Yp]
        refine Tl 5 ?_
        try simp only[Yp]
        refine Tl 6 ?_
        try simp only[Yp]
        refine z8 (rs:=[7]) Zk Zs ?_;refine zS.cons (o:=_) rfl (fun K hK=>?_) ?_
        ·skip
         (go_simp;refine(b2.out _ l.out.1.below.drew).mono ?_;rintro e w5 ⟨rfl,a5⟩;have m:Q Z w5:=(Below.refl Z.heap.size Z).drew.trans a5;clear a5;have g:=Ja (Jb (ObTD.keep ⟨l.out.1,l.out.2.2.1⟩ m) (Jb (p7 l.out.2.1 m (Je _)) (Jb m (show t2<=(w5.alloc (U #[I z] 3)).heap.size by have:=l.out.1.lt;have:=m.size;simp;omega))));clear m)
         refine hK.out _ _ (HS.out _ g.out.1) (fun hHeld=>?_);clear hK K
         try simp only[Yp]
         refine z8 (rs:=[8]) Zk Zs ?_;refine zS.cons (o:=_) rfl (fun K hK=>?_) ?_
         ·skip
          go_simp;refine hK.out _ _ (HS.out _ (g.out.1.keep ((Below.refl _ _).alloc (Je _) _))) (fun hHeld=>?_);clear hK K
          try simp only[Yp]
          refine z8 (rs:=[9]) Zk Zs ?_;refine zS.cons (o:=_) rfl (fun K hK=>?_) ?_
          ·skip
           (refine yG (by rfl) (.tmp 68) (.tmp 76) _ (by rfl) t2 3 ii (I 0) 1 8 Try.underlying25 d1 b6 b5 b4 rfl Zo (.slice oa on oc) on ((agf p.data R ((bl.take k).flatMap (·.ops)++b.ops.take j)).map zN) (by rfl) (g.out.2.1.alloc _) (L w5.heap.size 1 1) 1 [I z] (by rfl) (yM.one (zI rfl) rfl) (by unfold maxLen;omega) Zo g.out.2.2.2 ?_;intro va9 vc9 w9 u d a9;(try dsimp only))
           refine hK.out _ _ (HS.out _ ((g.out.1.keep ((Below.refl _ _).alloc (Je _) _)).grown (g.out.2.1.alloc _) d)) (fun hHeld=>?_);clear hK K
           try simp only[Yp]
           refine z8 (rs:=[10]) Zk Zs ?_;refine zS.last (o:=_) rfl (fun K hK=>?_);go_simp;refine hK.out _ _ ?_;clear hK K
           try simp only[Yp]
           refine xj Zk (NoPanic.normal ?_) _
           have a1:=Ja (show ObSD w w9 t2 rb #[.slice (some ⟨gb,go,none⟩) p.funcs.length f2,Va,I p.entry,I p.handler,Vd,Vb] R bl/\w9.ownsRow t2 3 1 (.slice va9 (on+1) vc9) (on+1) ((agf p.data R ((bl.take k).flatMap (·.ops)++b.ops.take (j+1))).map zN)/\Below t2 Y w9 from by
            have h2:=(g.out.1.s.keep ((Below.refl _ _).alloc (Je _) (U #[I z] 3))).grown (g.out.2.1.alloc _) d;have h4:Below t2 Y (w5.alloc (U #[I z] 3)):=(l.out.2.2.2.trans (g.out.2.2.1.mono l.out.1.lt)).alloc g.out.1.s.lt _
            exact⟨h2,by rw[HA.out.1,Js];exact u,h4.grown d g.out.2.2.2 (agn g.out.2.1)⟩)
           clear u d a9 hHeld;go_wp2_with fail;go_roundw
           case rel=>exact⟨j+1,va9,on+1,vc9,HO.out.2.2.2.1,rfl,by go_num,Ja ⟨by rw[HA.out.1,Jk,<-HO.out.2.2.2.2];rfl,a1.out.1,a1.out.2.1,a1.out.2.2⟩⟩
           case measure=>have:=HO.out.2.2.2.1;simp[intOf];omega
          exact zS.nil
         exact zS.nil
        exact zS.nil
       ·have HS:=Ja (show ∀w',ObTD w w' t2 rb #[.slice (some ⟨gb,go,none⟩) p.funcs.length f2,Va,I p.entry,I p.handler,Vd,Vb] R bl a2 #[I 20,I o.res,I yn_,I o.b,M (o.n:Int),.slice aa o.args.length ac]->(O w' t2 0 (.slice (some ⟨gb,go,none⟩) p.funcs.length f2)/\O w' t2 1 Va/\O w' t2 2 (I p.entry)/\O w' t2 3 (I p.handler)/\O w' t2 4 Vd/\O w' t2 5 Vb)/\O w' a2 2 (I yn_)/\O w' rb (yn_*2) (M (a.lo:Int))/\O w' rb (yn_*2+1) (M (a.hi:Int)) from fun W h=>⟨⟨zA h.s.p2 rfl,zA h.s.p2 rfl,zA h.s.p2 rfl,zA h.s.p2 rfl,zA h.s.p2 rfl,zA h.s.p2 rfl⟩,zA h.op rfl,by rw[<-HA.out.2.2.2.2];exact(h.s.rcell q.out.2.1 a6).1,by rw[<-HA.out.2.2.2.2];exact(h.s.rcell q.out.2.1 a6).2⟩);have a0:aff o=2:=by unfold aff;(rw[HO.out.2.1])<;>rfl
        have b2:=Ja (show ∀W,Below t2 w W->A 24 #[.agg #[.slice (some ⟨gb,go,none⟩) p.funcs.length f2,Va,I p.entry,I p.handler,Vd,Vb],.agg #[M (a.lo:Int),M (a.hi:Int)],I 2] W (qs W z) from fun W hb=>by
         rw[<-HA.out.2.2.1 2 a0];exact HC.out.2.2 a 2 W hb HA.out.2.1 Zd)
        clear a0;go_upto_region 14 with fail;clear z0;refine wp_region_noPanic ?_;refine yQ (S:=(fun w'=>(O w' t2 0 (.slice (some ⟨gb,go,none⟩) p.funcs.length f2)/\O w' t2 1 Va/\O w' t2 2 (I p.entry)/\O w' t2 3 (I p.handler)/\O w' t2 4 Vd/\O w' t2 5 Vb)/\O w' a2 2 (I yn_)/\O w' rb (yn_*2) (M (a.lo:Int))/\O w' rb (yn_*2+1) (M (a.hi:Int)))) 10 Zk (HS.out _ ⟨l.out.1.drew,l.out.2.2.1⟩) (fun hHeld=>?_);refine Tl 0 ?_
        try simp only[Yp]
        refine Tl 1 ?_
        try simp only[Yp]
        refine Tl 2 ?_
        try simp only[Yp]
        refine Tl 3 ?_
        try simp only[Yp]
        refine Tl 4 ?_
        try simp only[Yp]
        refine Tl 5 ?_
        try simp only[Yp]
        refine Tl 6 ?_
        try simp only[Yp]
        refine z8 (rs:=[7]) Zk Zs ?_;refine zS.cons (o:=_) rfl (fun K hK=>?_) ?_
        ·skip
         (go_simp;refine(b2.out _ l.out.1.below.drew).mono ?_;rintro e w5 ⟨rfl,a5⟩;have m:Q Z w5:=(Below.refl Z.heap.size Z).drew.trans a5;clear a5;have g:=Ja (Jb (ObTD.keep ⟨l.out.1,l.out.2.2.1⟩ m) (Jb (p7 l.out.2.1 m (Je _)) (Jb m (show t2<=(w5.alloc (U #[I z] 3)).heap.size by have:=l.out.1.lt;have:=m.size;simp;omega))));clear m)
         refine hK.out _ _ (HS.out _ g.out.1) (fun hHeld=>?_);clear hK K
         try simp only[Yp]
         refine z8 (rs:=[8]) Zk Zs ?_;refine zS.cons (o:=_) rfl (fun K hK=>?_) ?_
         ·skip
          go_simp;refine hK.out _ _ (HS.out _ (g.out.1.keep ((Below.refl _ _).alloc (Je _) _))) (fun hHeld=>?_);clear hK K
          try simp only[Yp]
          refine z8 (rs:=[9]) Zk Zs ?_;refine zS.cons (o:=_) rfl (fun K hK=>?_) ?_
          ·skip
           (refine yG (by rfl) (.tmp 55) (.tmp 63) _ (by rfl) t2 3 ii (I 0) 1 8 Try.underlying25 d1 b6 b5 b4 rfl Zo (.slice oa on oc) on ((agf p.data R ((bl.take k).flatMap (·.ops)++b.ops.take j)).map zN) (by rfl) (g.out.2.1.alloc _) (L w5.heap.size 1 1) 1 [I z] (by rfl) (yM.one (zI rfl) rfl) (by unfold maxLen;omega) Zo g.out.2.2.2 ?_;intro va9 vc9 w9 u d a9;(try dsimp only))
           refine hK.out _ _ (HS.out _ ((g.out.1.keep ((Below.refl _ _).alloc (Je _) _)).grown (g.out.2.1.alloc _) d)) (fun hHeld=>?_);clear hK K
           try simp only[Yp]
           refine z8 (rs:=[10]) Zk Zs ?_;refine zS.last (o:=_) rfl (fun K hK=>?_);go_simp;refine hK.out _ _ ?_;clear hK K
           try simp only[Yp]
           refine xj Zk (NoPanic.normal ?_) _
           have a1:=Ja (show ObSD w w9 t2 rb #[.slice (some ⟨gb,go,none⟩) p.funcs.length f2,Va,I p.entry,I p.handler,Vd,Vb] R bl/\w9.ownsRow t2 3 1 (.slice va9 (on+1) vc9) (on+1) ((agf p.data R ((bl.take k).flatMap (·.ops)++b.ops.take (j+1))).map zN)/\Below t2 Y w9 from by
            have h2:=(g.out.1.s.keep ((Below.refl _ _).alloc (Je _) (U #[I z] 3))).grown (g.out.2.1.alloc _) d;have h4:Below t2 Y (w5.alloc (U #[I z] 3)):=(l.out.2.2.2.trans (g.out.2.2.1.mono l.out.1.lt)).alloc g.out.1.s.lt _
            exact⟨h2,by rw[HA.out.1,Js];exact u,h4.grown d g.out.2.2.2 (agn g.out.2.1)⟩)
           clear u d a9 hHeld;go_wp2_with fail;go_roundw
           case rel=>exact⟨j+1,va9,on+1,vc9,HO.out.2.2.2.1,rfl,by go_num,Ja ⟨by rw[HA.out.1,Jk,<-HO.out.2.2.2.2];rfl,a1.out.1,a1.out.2.1,a1.out.2.2⟩⟩
           case measure=>have:=HO.out.2.2.2.1;simp[intOf];omega
          exact zS.nil
         exact zS.nil
        exact zS.nil
       ·have HS:=Ja (show ∀w',ObTD w w' t2 rb #[.slice (some ⟨gb,go,none⟩) p.funcs.length f2,Va,I p.entry,I p.handler,Vd,Vb] R bl a2 #[I 21,I o.res,I yn_,I o.b,M (o.n:Int),.slice aa o.args.length ac]->(O w' t2 0 (.slice (some ⟨gb,go,none⟩) p.funcs.length f2)/\O w' t2 1 Va/\O w' t2 2 (I p.entry)/\O w' t2 3 (I p.handler)/\O w' t2 4 Vd/\O w' t2 5 Vb)/\O w' a2 2 (I yn_)/\O w' rb (yn_*2) (M (a.lo:Int))/\O w' rb (yn_*2+1) (M (a.hi:Int)) from fun W h=>⟨⟨zA h.s.p2 rfl,zA h.s.p2 rfl,zA h.s.p2 rfl,zA h.s.p2 rfl,zA h.s.p2 rfl,zA h.s.p2 rfl⟩,zA h.op rfl,by rw[<-HA.out.2.2.2.2];exact(h.s.rcell q.out.2.1 a6).1,by rw[<-HA.out.2.2.2.2];exact(h.s.rcell q.out.2.1 a6).2⟩);have a0:aff o=1:=by unfold aff;(rw[HO.out.2.1])<;>rfl
        have b2:=Ja (show ∀W,Below t2 w W->A 24 #[.agg #[.slice (some ⟨gb,go,none⟩) p.funcs.length f2,Va,I p.entry,I p.handler,Vd,Vb],.agg #[M (a.lo:Int),M (a.hi:Int)],I 1] W (qs W z) from fun W hb=>by
         rw[<-HA.out.2.2.1 1 a0];exact HC.out.2.2 a 1 W hb HA.out.2.1 Zd)
        clear a0;go_upto_region 17 with fail;clear z0;refine wp_region_noPanic ?_;refine yQ (S:=(fun w'=>(O w' t2 0 (.slice (some ⟨gb,go,none⟩) p.funcs.length f2)/\O w' t2 1 Va/\O w' t2 2 (I p.entry)/\O w' t2 3 (I p.handler)/\O w' t2 4 Vd/\O w' t2 5 Vb)/\O w' a2 2 (I yn_)/\O w' rb (yn_*2) (M (a.lo:Int))/\O w' rb (yn_*2+1) (M (a.hi:Int)))) 10 Zk (HS.out _ ⟨l.out.1.drew,l.out.2.2.1⟩) (fun hHeld=>?_);refine Tl 0 ?_
        try simp only[Yp]
        refine Tl 1 ?_
        try simp only[Yp]
        refine Tl 2 ?_
        try simp only[Yp]
        refine Tl 3 ?_
        try simp only[Yp]
        refine Tl 4 ?_
        try simp only[Yp]
        refine Tl 5 ?_
        try simp only[Yp]
        refine Tl 6 ?_
        try simp only[Yp]
        refine z8 (rs:=[7]) Zk Zs ?_;refine zS.cons (o:=_) rfl (fun K hK=>?_) ?_
        ·skip
         (go_simp;refine(b2.out _ l.out.1.below.drew).mono ?_;rintro e w5 ⟨rfl,a5⟩;have m:Q Z w5:=(Below.refl Z.heap.size Z).drew.trans a5;clear a5;have g:=Ja (Jb (ObTD.keep ⟨l.out.1,l.out.2.2.1⟩ m) (Jb (p7 l.out.2.1 m (Je _)) (Jb m (show t2<=(w5.alloc (U #[I z] 3)).heap.size by have:=l.out.1.lt;have:=m.size;simp;omega))));clear m)
         refine hK.out _ _ (HS.out _ g.out.1) (fun hHeld=>?_);clear hK K
         try simp only[Yp]
         refine z8 (rs:=[8]) Zk Zs ?_;refine zS.cons (o:=_) rfl (fun K hK=>?_) ?_
         ·skip
          go_simp;refine hK.out _ _ (HS.out _ (g.out.1.keep ((Below.refl _ _).alloc (Je _) _))) (fun hHeld=>?_);clear hK K
          try simp only[Yp]
          refine z8 (rs:=[9]) Zk Zs ?_;refine zS.cons (o:=_) rfl (fun K hK=>?_) ?_
          ·skip
           (refine yG (by rfl) (.tmp 68) (.tmp 76) _ (by rfl) t2 3 ii (I 0) 1 8 Try.underlying25 d1 b6 b5 b4 rfl Zo (.slice oa on oc) on ((agf p.data R ((bl.take k).flatMap (·.ops)++b.ops.take j)).map zN) (by rfl) (g.out.2.1.alloc _) (L w5.heap.size 1 1) 1 [I z] (by rfl) (yM.one (zI rfl) rfl) (by unfold maxLen;omega) Zo g.out.2.2.2 ?_;intro va9 vc9 w9 u d a9;(try dsimp only))
           refine hK.out _ _ (HS.out _ ((g.out.1.keep ((Below.refl _ _).alloc (Je _) _)).grown (g.out.2.1.alloc _) d)) (fun hHeld=>?_);clear hK K
           try simp only[Yp]
           refine z8 (rs:=[10]) Zk Zs ?_;refine zS.last (o:=_) rfl (fun K hK=>?_);go_simp;refine hK.out _ _ ?_;clear hK K
           try simp only[Yp]
           refine xj Zk (NoPanic.normal ?_) _
           have a1:=Ja (show ObSD w w9 t2 rb #[.slice (some ⟨gb,go,none⟩) p.funcs.length f2,Va,I p.entry,I p.handler,Vd,Vb] R bl/\w9.ownsRow t2 3 1 (.slice va9 (on+1) vc9) (on+1) ((agf p.data R ((bl.take k).flatMap (·.ops)++b.ops.take (j+1))).map zN)/\Below t2 Y w9 from by
            have h2:=(g.out.1.s.keep ((Below.refl _ _).alloc (Je _) (U #[I z] 3))).grown (g.out.2.1.alloc _) d;have h4:Below t2 Y (w5.alloc (U #[I z] 3)):=(l.out.2.2.2.trans (g.out.2.2.1.mono l.out.1.lt)).alloc g.out.1.s.lt _
            exact⟨h2,by rw[HA.out.1,Js];exact u,h4.grown d g.out.2.2.2 (agn g.out.2.1)⟩)
           clear u d a9 hHeld;go_wp2_with fail;go_roundw
           case rel=>exact⟨j+1,va9,on+1,vc9,HO.out.2.2.2.1,rfl,by go_num,Ja ⟨by rw[HA.out.1,Jk,<-HO.out.2.2.2.2];rfl,a1.out.1,a1.out.2.1,a1.out.2.2⟩⟩
           case measure=>have:=HO.out.2.2.2.1;simp[intOf];omega
          exact zS.nil
         exact zS.nil
        exact zS.nil
      ·have b1:ky o=false:=by rw[agA,HO.out.2.1];exact decide_eq_false b8
       have b9:agf p.data R ((bl.take k).flatMap (·.ops)++b.ops.take (j+1))=agf p.data R ((bl.take k).flatMap (·.ops)++b.ops.take j):=by
        rw[agb HO.out.1,<-Nv,agD b1]
       have HA:=Ja b9;have o6:(c==18)=false:=Ze;have o3:(c==19)=false:=Ze;have o2:(c==20)=false:=Ze;have o1:(c==21)=false:=Ze;clear b9 b1 b8;go_wp2;go_roundw
       case rel=>exact⟨j+1,oa,on,oc,HO.out.2.2.2.1,rfl,by go_num,Ja ⟨by rw[HA.out];exact HO.out.2.2.2.2,l.out.1,by rw[HA.out];exact l.out.2.1,l.out.2.2.2⟩⟩
       case measure=>have:=HO.out.2.2.2.1;simp[intOf];omega
     ·obtain rfl:j=b.ops.length:=by omega
      have c9:¬(b.ops.length:Int)<(b.ops.length:Int):=Zo;clear hj a4;go_wp2;go_roundw
      case rel=>exact⟨k+1,oa,on,oc,q.out.2.2.1,rfl,by go_num,Ja ⟨by rw[agw q.out.1];have:=HJ.out.1;rw[Nl] at this;exact this,HJ.out.2.1,by rw[agw q.out.1];have:=HJ.out.2.2.1;rw[Nl] at this;exact this⟩⟩
      case measure=>have:=q.out.2.2.1;simp[intOf];omega
   ·obtain rfl:k=bl.length:=by omega
    have c9:¬(bl.length:Int)<(bl.length:Int):=Zo;have HE:=Ja (show aeA p.data (xB p bl) bl=agf p.data R ((bl.take bl.length).flatMap (·.ops)) by rw[HF.out.2.1,Nl];rfl);clear hk a4;go_wp2;go_ret;refine⟨_,rfl,?_,by rw[HT.out];exact HK.out.2.1.below⟩;rw[HE.out,<-HK.out.1,HT.out];exact HK.out.2.2
theorem agh:vC (dp 19)=0:=by decide+kernel
theorem agE:vC (dp 18)=0:=by decide+kernel
theorem exm_r19D:xB (dp 19) (afl 19)=[⟨0,65535⟩,⟨15,15⟩,⟨0,15⟩,⟨16384,16384⟩,⟨16384,16399⟩,⟨0,255⟩]:=by kernel_rfl
theorem exm_o19D:aeA (dp 19).data (xB (dp 19) (afl 19)) (afl 19)=[0]:=by kernel_rfl
theorem exm_o18D:aeA (dp 18).data (xB (dp 18) (afl 18)) (afl 18)=[-1]:=by kernel_rfl
theorem agt (a:Int):∀f∈(dp a).funcs,vZ f:=by
 intro f hf;simp only[dp,Jq,List.not_mem_nil,or_false] at hf;rcases hf with rfl|rfl
 ·exact⟨by decide,fun b hb=>by simp only[afZ,Jo] at hb;subst hb;exact⟨by decide,by decide,by decide⟩⟩
 ·exact⟨by show(1:Nat)<=_;omega,fun b hb=>by simp only[afl,Jo] at hb;subst hb;exact⟨by show(1:Nat)<=_;omega,by show(5:Nat)<=_;omega,by show(0:Nat)<=_;omega⟩⟩
theorem ag8{v:Value}{z:Int}(h:w.ownsRow c 3 1 v 1 [I z]):∃g cap cur,v=L g 1 cap/\1<=cap/\T w g cur 3/\cur[0]? =some (I z):=by
 rcases h.2 with⟨_,e⟩|⟨g,cap,cur,rfl,hg,f,j,l,k,i⟩
 ·omega
 ·refine⟨g,cap,cur,rfl,j,f,?_⟩;have d:(cur.toList.take (1*1))[0]? =some (I z):=by rw[i];rfl
  rw[List.getElem?_take_of_lt Zo] at d
  simpa using d
theorem agH(hp:ProgIn w w.heap.size ⟨.slice f1 2 f2,.slice a1 2 a2,.slice d1 1 d2,.slice b1 0 b2⟩ (dp 19)):
 A 8 #[.agg #[.slice f1 2 f2,.slice a1 2 a2,I 0,I (-1),.slice d1 1 d2,.slice b1 0 b2],I 1] w (fun e w'=>∃b,e=.returned (L b 6 6)/\T w' b #[M 0,M 65535,M 15,M 15,M 0,M 15,M 16384,M 16384,M 16384,M 16399,M 0,M 255] 48/\Q w w'):=by
 refine(df (f:=1) (bl:=afl 19) hp (Je _) (agt 19) agh rfl (fun h=>by cases h)).mono ?_;rintro e w' ⟨b,rfl,c,g,d⟩;rw[exm_r19D] at c ⊢;exact⟨b,rfl,c,d⟩
theorem agi{a z:Int}(hv:vC (dp a)=0)(ho:aeA (dp a).data (xB (dp a) (afl a)) (afl a)=[z])(hp:ProgIn w w.heap.size ⟨.slice f1 2 f2,.slice a1 2 a2,.slice d1 1 d2,.slice b1 0 b2⟩ (dp a)):
 A 9 #[.agg #[.slice f1 2 f2,.slice a1 2 a2,I 0,I (-1),.slice d1 1 d2,.slice b1 0 b2],I 1] w (fun e w'=>∃g cap,e=.returned (L g 1 cap)/\O w' g 0 (I z)/\g<w'.heap.size/\1<=cap/\Q w w'):=by
 refine(agl (f:=1) (bl:=afl a) hp (Je _) (agt a) hv rfl).mono ?_;rintro e w' ⟨v,rfl,d,j⟩;rw[ho] at d;obtain⟨g,cap,k,rfl,i,c,h⟩:=ag8 d;exact⟨g,cap,rfl,zA c h,lt_of_block c,i,j⟩
theorem af8 (w:World)(a:Int)(c:I64 a):A 13 #[I a] w (fun e w'=>∃f1 f2 a1 a2 d1 d2 b1 b2,e=.returned (.agg #[.slice f1 2 f2,.slice a1 2 a2,I 0,I (-1),.slice d1 1 d2,.slice b1 0 b2])/\ProgIn w' w'.heap.size ⟨.slice f1 2 f2,.slice a1 2 a2,.slice d1 1 d2,.slice b1 0 b2⟩ (dp a)/\Q w w'):=
 (aa2 w a c).mono fun e w' h=>h.open
theorem agY (w:World):A 6 #[] w fun e w'=>e=.returned (.bool true)/\Q w w':=by
 go_enter Try.func6,Try.ntmps6
 go_upto_region 2 with(first
  |(go_at_call 13;go_must (refine(af8 _ 19 ⟨by decide,by decide⟩).mono ?_;rintro e w1 ⟨f1,f2,a1,a2,d1,d2,b1,b2,rfl,x,m⟩))
  |(go_at_call 8;go_must (refine(agH x).mono ?_;rintro e w2 ⟨rb,rfl,q,a3⟩)))
 have o:=Ja (Jb q (m.trans (a3.mono m.size)));clear q m a3 x
 go_upto_region 3 with(first
  |(go_at_call 13;go_must (refine(af8 _ 19 ⟨by decide,by decide⟩).mono ?_;rintro e w3 ⟨f1,f2,a1,a2,d1,d2,b1,b2,rfl,u,l⟩))
  |(go_at_call 9;go_must (refine(agi agh exm_o19D u).mono ?_;rintro e w4 ⟨g4,c4,rfl,j,h,a9,a0⟩)))
 have f:=l.trans (a0.mono l.size);have g:=Ja (Jb (zH f o.out.1 (lt_of_block o.out.1)) (Jb (o.out.2.trans (f.mono o.out.2.size)) (Jb j h)));clear l a0 u f j h
 go_upto_region 4 with(first
  |(go_at_call 13;go_must (refine(af8 _ 18 ⟨by decide,by decide⟩).mono ?_;rintro e w5 ⟨f1,f2,a1,a2,d1,d2,b1,b2,rfl,t,k⟩))
  |(go_at_call 9;go_must (refine(agi agE exm_o18D t).mono ?_;rintro e w6 ⟨g6,c6,rfl,b0,a5,a6,y⟩)))
 have d:=k.trans (y.mono k.size);have c:=zH d g.out.1 (lt_of_block g.out.1);have H6:=Ja (g.out.2.1.trans (d.mono g.out.2.1.size));have j:=(d.cell (p:=⟨g4,0,none⟩) g.out.2.2.2).trans g.out.2.2.1;have h:=Jy g.out.2.2.2 d.size;have x0:=zA (i:=2*2) c rfl;have x1:=zA (i:=2*2+1) c rfl;have x2:=zA (i:=4*2) c rfl;have x3:=zA (i:=4*2+1) c rfl;have x4:=zA (i:=4) c rfl;have x5:=zA (i:=5) c rfl;have x6:=zA (i:=8) c rfl;have x7:=zA (i:=9) c rfl;have a4:=lt_of_block c;clear d k y t c;go_wp2;go_ret;exact⟨rfl,H6.out⟩
theorem ag4 {b:IBlk}(h:b.term.to=[]):AcyG (zy [b]):=fun u s hu hs=>by
 have hs:s∈(zy [b]).getD u []:=hs;unfold zy at hs hu;rw[Ql,List.map_nil,h] at hs hu;have:u=0:=by simpa using hu
 subst this;cases hs
theorem agU {p:IProg}{n:Nat}{b:IBlk}(hv:vC p=0)(hs:∀f∈p.funcs,vZ f)(j:P64 p)(c:p.funcs[n]? =some [b])(ht:b.term.to=[]):xB p [b]=(agx p [b] (vD (zy [b]))).r:=by
 have g: [b]≠ []:=by simp
 have h:=afn hv hs j c g;obtain⟨_,hf⟩:=rz hv;obtain⟨d,k⟩:=loc_of c g (hf n (Jh.1 c).1);exact ag2 h k (ag4 ht) (fun i hi o ho=>((aeP (h.st.opok i hi o ho)).1).2) (use_of hv c)
end Go.Proofs.Ytoahcpkibpomcaa
