/- Part of a proof. -/
import Derived.Test.YtoahcpkibpomcaaGZl2
set_option linter.all false
set_option maxHeartbeats 8000000
set_option maxRecDepth 100000
namespace Go.Proofs.Ytoahcpkibpomcaa
open Go.RowKit
variable {w:World}{l:List IOp}{a1 b1 d1 f1:Option Addr}{a2 b2 d2 f2 j k:Nat}{o:IOp}{bl:List IBlk}
theorem afn{B:Nat}{V:PV}{p:IProg}(hp:ProgIn w B V p)(hB:B<=w.heap.size)(hs:∀f∈p.funcs,vZ f)(hv:vC p≠0)(f:Int):
 T 9 #[yH V p,I f] w (m7 w):=by
 obtain⟨z,q⟩:∃z,vC p=z:=⟨_,rfl⟩
 have j:¬agP p f:=fun h=>hv h.1
 have m:∀W,O w W->T 16 #[yH V p] W (m9 W z):=fun W hb=>by
  have:=tu (hp.below (hb.mono hB)) (Jn hB hb.size) hs;rw[q] at this;exact this
 have o:∀W,O w W->T 8 #[yH V p,I f] W (m7 W):=fun W hb=>ga (hp.below (hb.mono hB)) (Jn hB hb.size) hs f j
 have a2:(z !=0)=true:=by rw[q] at hv;simpa using hv
 obtain⟨Vf,Va,Vd,Vb⟩:=V;obtain⟨f1,f2,e1,a4,a3⟩:=hp.funcs.form;have a0:Vf=.slice f1 p.funcs.length f2:=e1;subst a0;obtain⟨X,y⟩:∃X,w.alloc (A #[.slice f1 p.funcs.length f2,Va,I p.entry,I p.handler,Vd,Vb] 44)=X:=⟨_,rfl⟩
 have l:O w X:=by rw[<-y];exact(Below.refl _ _).alloc (Je _) _
 have c:Q X w.heap.size #[.slice f1 p.funcs.length f2,Va,I p.entry,I p.handler,Vd,Vb] 44:=by rw[<-y];exact zI rfl
 have HC:=Ja (show(∀W,O w W->T 16 #[.agg #[.slice f1 p.funcs.length f2,Va,I p.entry,I p.handler,Vd,Vb]] W (m9 W z))/\(∀W,O w W->T 8 #[.agg #[.slice f1 p.funcs.length f2,Va,I p.entry,I p.handler,Vd,Vb],I f] W (m7 W)) from⟨m,o⟩);have x0:=zA (i:=0) c rfl;have x1:=zA (i:=1) c rfl;have x2:=zA (i:=2) c rfl;have x3:=zA (i:=3) c rfl;have x4:=zA (i:=4) c rfl;have x5:=zA (i:=5) c rfl;have t:=lt_of_block c;have k:=Ja (Jb l c);have hq:=fun W=>Lib.run_eql_slice_nil (P:=Try.prog) W 45 48 none 0 0 0 0 Try.underlying45
 clear hp hB hs m o l c j q hv;unfold yH;go_enter Try.func9,Try.ntmps9
 go_wp2_with (first
  |(go_at_call 8;go_must (refine(HC.out.2 _ k.out.1).mono ?_;rintro e w1 ⟨rfl,g⟩;have d:=zH g k.out.2 t;clear x0 x1 x2 x3 x4 x5;have x0:=zA (i:=0) d rfl;have x1:=zA (i:=1) d rfl;have x2:=zA (i:=2) d rfl;have x3:=zA (i:=3) d rfl;have x4:=zA (i:=4) d rfl;have x5:=zA (i:=5) d rfl;have a1:=lt_of_block d;have u:=Ja (Jb (k.out.1.trans (g.mono k.out.1.size)) d);clear g d))
  |(go_at_call 16;go_must (refine(HC.out.1 _ u.out.1).mono ?_;rintro e w2 ⟨rfl,x⟩)))
 go_ret;exact⟨rfl,u.out.1.trans (x.mono u.out.1.size)⟩
theorem afr{B:Nat}{V:PV}{p:IProg}(hp:ProgIn w B V p)(hB:B<=w.heap.size)(hs:∀f∈p.funcs,vZ f)(u:vC p=0)(f:Int)(hf:f<0):
 T 9 #[yH V p,I f] w (m7 w):=by
 have j:¬agP p f:=fun h=>by have:=h.2.1.1;omega
 have m:∀W,O w W->T 16 #[yH V p] W (m9 W 0):=fun W hb=>by
  have:=tu (hp.below (hb.mono hB)) (Jn hB hb.size) hs;rw[u] at this;exact this
 have o:∀W,O w W->T 8 #[yH V p,I f] W (m7 W):=fun W hb=>ga (hp.below (hb.mono hB)) (Jn hB hb.size) hs f j
 have hd:decide (f<0)=true:=decide_eq_true hf;obtain⟨Vf,Va,Vd,Vb⟩:=V;obtain⟨f1,f2,e1,a3,a2⟩:=hp.funcs.form;have a0:Vf=.slice f1 p.funcs.length f2:=e1;subst a0;obtain⟨X,y⟩:∃X,w.alloc (A #[.slice f1 p.funcs.length f2,Va,I p.entry,I p.handler,Vd,Vb] 44)=X:=⟨_,rfl⟩
 have l:O w X:=by rw[<-y];exact(Below.refl _ _).alloc (Je _) _
 have c:Q X w.heap.size #[.slice f1 p.funcs.length f2,Va,I p.entry,I p.handler,Vd,Vb] 44:=by rw[<-y];exact zI rfl
 have HC:=Ja (show(∀W,O w W->T 16 #[.agg #[.slice f1 p.funcs.length f2,Va,I p.entry,I p.handler,Vd,Vb]] W (m9 W 0))/\(∀W,O w W->T 8 #[.agg #[.slice f1 p.funcs.length f2,Va,I p.entry,I p.handler,Vd,Vb],I f] W (m7 W)) from⟨m,o⟩);have x0:=zA (i:=0) c rfl;have x1:=zA (i:=1) c rfl;have x2:=zA (i:=2) c rfl;have x3:=zA (i:=3) c rfl;have x4:=zA (i:=4) c rfl;have x5:=zA (i:=5) c rfl;have q:=lt_of_block c;have k:=Ja (Jb l c);have hq:=fun W=>Lib.run_eql_slice_nil (P:=Try.prog) W 45 48 none 0 0 0 0 Try.underlying45
 clear hp hB hs m o l c j u hf;unfold yH;go_enter Try.func9,Try.ntmps9
 go_wp2_with (first
  |(go_at_call 8;go_must (refine(HC.out.2 _ k.out.1).mono ?_;rintro e w1 ⟨rfl,g⟩;have d:=zH g k.out.2 q;clear x0 x1 x2 x3 x4 x5;have x0:=zA (i:=0) d rfl;have x1:=zA (i:=1) d rfl;have x2:=zA (i:=2) d rfl;have x3:=zA (i:=3) d rfl;have x4:=zA (i:=4) d rfl;have x5:=zA (i:=5) d rfl;have a1:=lt_of_block d;have t:=Ja (Jb (k.out.1.trans (g.mono k.out.1.size)) d);clear g d))
  |(go_at_call 16;go_must (refine(HC.out.1 _ t.out.1).mono ?_;rintro e w2 ⟨rfl,x⟩)))
 go_ret;exact⟨rfl,t.out.1.trans (x.mono t.out.1.size)⟩
theorem afd{B:Nat}{V:PV}{p:IProg}(hp:ProgIn w B V p)(hB:B<=w.heap.size)(hs:∀f∈p.funcs,vZ f)(hz:vC p=0)(f:Int)(a0:0<=f)(hf:(p.funcs.length:Int)<=f):
 T 9 #[yH V p,I f] w (m7 w):=by
 have j:¬agP p f:=fun h=>by have:=h.2.1.2;omega
 have t:∀W,O w W->T 16 #[yH V p] W (m9 W 0):=fun W hb=>by
  have:=tu (hp.below (hb.mono hB)) (Jn hB hb.size) hs;rw[hz] at this;exact this
 have u:∀W,O w W->T 8 #[yH V p,I f] W (m7 W):=fun W hb=>ga (hp.below (hb.mono hB)) (Jn hB hb.size) hs f j
 have hd:decide (f<0)=false:=decide_eq_false Zo;have a5:decide ((p.funcs.length:Int)<=f)=true:=decide_eq_true hf;obtain⟨Vf,Va,Vd,Vb⟩:=V;obtain⟨f1,f2,e1,a4,a3⟩:=hp.funcs.form;have a1:Vf=.slice f1 p.funcs.length f2:=e1;subst a1;obtain⟨X,hX⟩:∃X,w.alloc (A #[.slice f1 p.funcs.length f2,Va,I p.entry,I p.handler,Vd,Vb] 44)=X:=⟨_,rfl⟩
 have o:O w X:=by rw[<-hX];exact(Below.refl _ _).alloc (Je _) _
 have c:Q X w.heap.size #[.slice f1 p.funcs.length f2,Va,I p.entry,I p.handler,Vd,Vb] 44:=by rw[<-hX];exact zI rfl
 have HC:=Ja (show(∀W,O w W->T 16 #[.agg #[.slice f1 p.funcs.length f2,Va,I p.entry,I p.handler,Vd,Vb]] W (m9 W 0))/\(∀W,O w W->T 8 #[.agg #[.slice f1 p.funcs.length f2,Va,I p.entry,I p.handler,Vd,Vb],I f] W (m7 W)) from⟨t,u⟩);have x0:=zA (i:=0) c rfl;have x1:=zA (i:=1) c rfl;have x2:=zA (i:=2) c rfl;have x3:=zA (i:=3) c rfl;have x4:=zA (i:=4) c rfl;have x5:=zA (i:=5) c rfl;have x:=lt_of_block c;have k:=Ja (Jb o c);have hq:=fun W=>Lib.run_eql_slice_nil (P:=Try.prog) W 45 48 none 0 0 0 0 Try.underlying45
 clear hp hB hs t u o c j hz hf a0;unfold yH;go_enter Try.func9,Try.ntmps9
 go_wp2_with (first
  |(go_at_call 8;go_must (refine(HC.out.2 _ k.out.1).mono ?_;rintro e w1 ⟨rfl,g⟩;have d:=zH g k.out.2 x;clear x0 x1 x2 x3 x4 x5;have x0:=zA (i:=0) d rfl;have x1:=zA (i:=1) d rfl;have x2:=zA (i:=2) d rfl;have x3:=zA (i:=3) d rfl;have x4:=zA (i:=4) d rfl;have x5:=zA (i:=5) d rfl;have y:=lt_of_block d;have l:=Ja (Jb (k.out.1.trans (g.mono k.out.1.size)) d);clear g d))
  |(go_at_call 16;go_must (refine(HC.out.1 _ l.out.1).mono ?_;rintro e w2 ⟨rfl,q⟩;have m:=zH q l.out.2 y;have y0:=zA (i:=0) m rfl;have a2:=lt_of_block m)))
 go_ret;exact⟨rfl,l.out.1.trans (q.mono l.out.1.size)⟩
theorem afS{B:Nat}{V:PV}{p:IProg}(hp:ProgIn w B V p)(hB:B<=w.heap.size)(hs:∀f∈p.funcs,vZ f)(f:Int)(h:¬(vC p=0/\0<=f/\f.toNat<p.funcs.length)):
 T 9 #[yH V p,I f] w (m7 w):=by
 by_cases hv:vC p=0
 ·by_cases d:f<0
  ·exact afr hp hB hs hv f d
  ·exact afd hp hB hs hv f Zo (by
    by_cases c:(p.funcs.length:Int)<=f
    ·exact c
    ·exact absurd ⟨hv,by omega,by omega⟩ h)
 ·exact afn hp hB hs hv f
def af8 (a:Int):List IOp:=[⟨1,1,0,0,15,[]⟩,⟨9,2,0,1,0,[]⟩,⟨2,3,0,0,0,[]⟩,⟨5,4,2,3,0,[]⟩,⟨a,5,4,0,0,[]⟩]
def mainL:List IBlk:=[⟨[],[],⟨5,0,[]⟩⟩]
def agh (a:Int):List IBlk:=[⟨[0],af8 a,⟨4,5,[]⟩⟩]
def afc (a:Int):IProg:=⟨[mainL,agh a],[0,1],0,-1,[⟨-1,16384,16⟩],[]⟩
theorem yN.two{α:Type}{sz:Nat}{R:World->Nat->Nat->Nat->α->Prop}{B b:Nat}{x y:α}(hb:b<B)(d:R w B b 0 x)(c:R w B b sz y):yN sz R w B (N b 2 2) [x,y]:=by
 refine⟨_,2,rfl,Je _,by omega,fun k z hk=>⟨b,0,rfl,hb,?_⟩⟩
 match k,hk with
 |0,hk=>cases hk;rw[Ng,Nat.zero_mul];exact d
 |1,hk=>cases hk;rw[Ng,Nat.one_mul];exact c
def agK (o:IOp):IOp×Value:=(o,F)
theorem ops_nil{B b n:Nat}{e:TypeId}(h:Q w b ((l.map agK).flatMap zU).toArray e)(hb:b<B)(h64:∀o∈l,qN o/\o.args=[])(c:n=l.length)(hl:l.length<=1000000):
 mN w B (N b n n) l:=by
 have:=agm (l:=l.map agK) h hb (fun q hq=>by
  obtain⟨o,ho,rfl⟩:=Nu.1 hq;obtain⟨g,d⟩:=h64 o ho;refine⟨g,?_⟩
  show zY w B (F) o.args
  rw[d]
  exact yN.nil) (by rw[Nr];exact hl)
 rw[Nr,List.map_map,show((fun q:IOp×Value=>q.1) ∘ agK)=id from rfl,List.map_id] at this;rw[c];exact this
theorem afg (w:World)(a:Int)(k:I64 a):T 13 #[I a] w (mL w (afc a)):=by
 have u:=Ja k;clear k;obtain⟨s,hs⟩:∃s,w.heap.size=s:=⟨_,rfl⟩
 go_enter Try.func13,Try.ntmps13;go_wp2;generalize c:World.alloc _ _=W;have hb:Below s w W:=by rw[<-c,<-hs];repeat' (first|exact Below.refl _ _|refine Below.alloc ?_ (by first|exact Je _|(simp;done)|(simp;omega)) _)
 have d:Q W s #[N (s+1+1+1+1+1+1+1) 2 2,N (s+1+1+1+1+1+1+1+1) 2 2,I 0,I (-1),N (s+1+1+1+1+1+1+1+1+1) 1 1,F] 44:=by rw[<-c];repeat' (first|exact zI (by first|exact hs|rfl|(simp;done)|(simp;omega))|refine zB ?_)
 have t:Q W (s+1) (((af8 a).map agK).flatMap zU).toArray 27:=by rw[<-c];repeat' (first|exact zI (by first|exact hs|rfl|(simp;done)|(simp;omega))|refine zB ?_)
 have h:Q W (s+1+1) #[F,F,I 5,I 0,F] 36:=by rw[<-c];repeat' (first|exact zI (by first|exact hs|rfl|(simp;done)|(simp;omega))|refine zB ?_)
 have q:Q W (s+1+1+1+1) #[I 0] 3:=by rw[<-c];repeat' (first|exact zI (by first|exact hs|rfl|(simp;done)|(simp;omega))|refine zB ?_)
 have g:Q W (s+1+1+1+1+1) #[N (s+1+1+1+1) 1 1,N (s+1) 5 5,I 4,I 5,F] 36:=by rw[<-c];repeat' (first|exact zI (by first|exact hs|rfl|(simp;done)|(simp;omega))|refine zB ?_)
 have m:Q W (s+1+1+1+1+1+1+1) #[N (s+1+1) 1 1,N (s+1+1+1+1+1) 1 1] 39:=by rw[<-c];repeat' (first|exact zI (by first|exact hs|rfl|(simp;done)|(simp;omega))|refine zB ?_)
 have l:Q W (s+1+1+1+1+1+1+1+1) #[I 0,I 1] 3:=by rw[<-c];repeat' (first|exact zI (by first|exact hs|rfl|(simp;done)|(simp;omega))|refine zB ?_)
 have j:Q W (s+1+1+1+1+1+1+1+1+1) #[I (-1),G 16384,G 16] 55:=by rw[<-c];repeat' (first|exact zI (by first|exact hs|rfl|(simp;done)|(simp;omega))|refine zB ?_)
 clear c;have y:=lt_of_block j;refine bodyPost_ret (v:=.agg #[N (s+1+1+1+1+1+1+1) 2 2,N (s+1+1+1+1+1+1+1+1) 2 2,I 0,I (-1),N (s+1+1+1+1+1+1+1+1+1) 1 1,F]) ?_ rfl ?_
 ·have x0:=zA (i:=0) d rfl;have x1:=zA (i:=1) d rfl;have x2:=zA (i:=2) d rfl;have x3:=zA (i:=3) d rfl;have x4:=zA (i:=4) d rfl;have x5:=zA (i:=5) d rfl;have x:=lt_of_block d;rw[zM rfl];go_simp
 ·refine⟨⟨_,_,_,_⟩,rfl,⟨?_,?_,?_,yN.nil,pZ,i64_neg⟩,by rw[hs];exact hb⟩
  ·refine yN.two Zo ⟨_,zA m rfl,yN.one Zo ?_⟩ ⟨_,zA m rfl,yN.one Zo ?_⟩
   ·exact⟨zA h rfl,zA h rfl,⟨⟨by decide,by decide⟩,⟨by decide,by decide⟩⟩,_,_,_,zA h rfl,zA h rfl,zA h rfl,yN.nil,yN.nil,yN.nil⟩
   ·refine⟨zA g rfl,zA g rfl,⟨(show I64 (4) from⟨by decide,by decide⟩),(show I64 (5) from⟨by decide,by decide⟩)⟩,_,_,_,zA g rfl,zA g rfl,zA g rfl,yN.one Zo ⟨zA q rfl,⟨by decide,by decide⟩⟩,ops_nil t Zo (fun o ho=>?_) rfl (by show(5:Nat)<=_;omega),yN.nil⟩;simp only[af8,Jq,List.not_mem_nil,or_false] at ho;rcases ho with rfl|rfl|rfl|rfl|rfl
    ·exact⟨⟨⟨by decide,by decide⟩,⟨by decide,by decide⟩,⟨by decide,by decide⟩,⟨by decide,by decide⟩,by decide⟩,rfl⟩
    ·exact⟨⟨⟨by decide,by decide⟩,⟨by decide,by decide⟩,⟨by decide,by decide⟩,⟨by decide,by decide⟩,by decide⟩,rfl⟩
    ·exact⟨⟨⟨by decide,by decide⟩,⟨by decide,by decide⟩,⟨by decide,by decide⟩,⟨by decide,by decide⟩,by decide⟩,rfl⟩
    ·exact⟨⟨⟨by decide,by decide⟩,⟨by decide,by decide⟩,⟨by decide,by decide⟩,⟨by decide,by decide⟩,by decide⟩,rfl⟩
    ·exact⟨⟨u.out,(show I64 (5) from⟨by decide,by decide⟩),(show I64 (4) from⟨by decide,by decide⟩),(show I64 (0) from⟨by decide,by decide⟩),(show(0:Nat)<65536 by decide)⟩,rfl⟩
  ·exact yN.two Zo ⟨zA l rfl,⟨by decide,by decide⟩⟩ ⟨zA l rfl,⟨by decide,by decide⟩⟩
  ·exact yN.one Zo ⟨zA j rfl,zA j rfl,zA j rfl,⟨by decide,by decide⟩,by decide,by decide⟩
theorem aeA:vC (afc 19)=0:=by decide+kernel
theorem afu:vC (afc 18)=0:=by decide+kernel
theorem exm_r19:wk (afc 19) (agh 19)=[⟨0,65535⟩,⟨15,15⟩,⟨0,15⟩,⟨16384,16384⟩,⟨16384,16399⟩,⟨0,255⟩]:=by kernel_rfl
theorem exm_o19:aeC (afc 19).data (wk (afc 19) (agh 19)) (agh 19)=[0]:=by kernel_rfl
theorem exm_o18:aeC (afc 18).data (wk (afc 18) (agh 18)) (agh 18)=[-1]:=by kernel_rfl
theorem ae1 (a:Int):∀f∈(afc a).funcs,vZ f:=by
 intro f hf;simp only[afc,Jq,List.not_mem_nil,or_false] at hf;rcases hf with rfl|rfl
 ·exact⟨by decide,fun b hb=>by simp only[mainL,Jo] at hb;subst hb;exact⟨by decide,by decide,by decide⟩⟩
 ·exact⟨by show(1:Nat)<=_;omega,fun b hb=>by simp only[agh,Jo] at hb;subst hb;exact⟨by show(1:Nat)<=_;omega,by show(5:Nat)<=_;omega,by show(0:Nat)<=_;omega⟩⟩
theorem own_one1{c:Nat}{v:Value}{z:Int}(h:w.ownsRow c 3 1 v 1 [I z]):∃g cap cur,v=N g 1 cap/\1<=cap/\Q w g cur 3/\cur[0]? =some (I z):=by
 rcases h.2 with⟨_,e⟩|⟨g,cap,cur,rfl,hg,i,k,m,l,j⟩
 ·omega
 ·refine⟨g,cap,cur,rfl,k,i,?_⟩;have d:(cur.toList.take (1*1))[0]? =some (I z):=by rw[j];rfl
  rw[List.getElem?_take_of_lt Zo] at d
  simpa using d
theorem afV(hp:ProgIn w w.heap.size ⟨.slice f1 2 f2,.slice a1 2 a2,.slice d1 1 d2,.slice b1 0 b2⟩ (afc 19)):
 T 8 #[.agg #[.slice f1 2 f2,.slice a1 2 a2,I 0,I (-1),.slice d1 1 d2,.slice b1 0 b2],I 1] w (fun e w'=>∃b,e=.returned (N b 6 6)/\Q w' b #[G 0,G 65535,G 15,G 15,G 0,G 15,G 16384,G 16384,G 16384,G 16399,G 0,G 255] 48/\O w w'):=by
 refine(bf (f:=1) (bl:=agh 19) hp (Je _) (ae1 19) aeA rfl (fun h=>by cases h)).mono ?_;rintro e w' ⟨b,rfl,c,g,d⟩;rw[exm_r19] at c ⊢;exact⟨b,rfl,c,d⟩
theorem be{a z:Int}(hv:vC (afc a)=0)(ho:aeC (afc a).data (wk (afc a) (agh a)) (agh a)=[z])(hp:ProgIn w w.heap.size ⟨.slice f1 2 f2,.slice a1 2 a2,.slice d1 1 d2,.slice b1 0 b2⟩ (afc a)):
 T 9 #[.agg #[.slice f1 2 f2,.slice a1 2 a2,I 0,I (-1),.slice d1 1 d2,.slice b1 0 b2],I 1] w (fun e w'=>∃g cap,e=.returned (N g 1 cap)/\U w' g 0 (I z)/\g<w'.heap.size/\1<=cap/\O w w'):=by
 refine(aeG (f:=1) (bl:=agh a) hp (Je _) (ae1 a) hv rfl).mono ?_;rintro e w' ⟨v,rfl,d,j⟩;rw[ho] at d;obtain⟨g,cap,cur,rfl,i,c,h⟩:=own_one1 d;exact⟨g,cap,rfl,zA c h,lt_of_block c,i,j⟩
theorem j3 (w:World)(a:Int)(c:I64 a):T 13 #[I a] w (fun e w'=>∃f1 f2 a1 a2 d1 d2 b1 b2,e=.returned (.agg #[.slice f1 2 f2,.slice a1 2 a2,I 0,I (-1),.slice d1 1 d2,.slice b1 0 b2])/\ProgIn w' w'.heap.size ⟨.slice f1 2 f2,.slice a1 2 a2,.slice d1 1 d2,.slice b1 0 b2⟩ (afc a)/\O w w'):=
 (afg w a c).mono fun e w' h=>h.open
theorem sanity10 (w:World):T 6 #[] w fun e w'=>e=.returned (.bool true)/\O w w':=by
 go_enter Try.func6,Try.ntmps6
 go_upto_region 2 with(first
  |(go_at_call 13;go_must (refine(j3 _ 19 ⟨by decide,by decide⟩).mono ?_;rintro e w1 ⟨f1,f2,a1,a2,d1,d2,b1,b2,rfl,y,o⟩))
  |(go_at_call 8;go_must (refine(afV y).mono ?_;rintro e w2 ⟨rb,rfl,t,a4⟩)))
 have q:=Ja (Jb t (o.trans (a4.mono o.size)));clear t o a4 y
 go_upto_region 3 with(first
  |(go_at_call 13;go_must (refine(j3 _ 19 ⟨by decide,by decide⟩).mono ?_;rintro e w3 ⟨f1,f2,a1,a2,d1,d2,b1,b2,rfl,x,m⟩))
  |(go_at_call 9;go_must (refine(be aeA exm_o19 x).mono ?_;rintro e w4 ⟨g4,c4,rfl,k,j,a9,a3⟩)))
 have g:=m.trans (a3.mono m.size);have h:=Ja (Jb (zH g q.out.1 (lt_of_block q.out.1)) (Jb (q.out.2.trans (g.mono q.out.2.size)) (Jb k j)));clear m a3 x g k j
 go_upto_region 4 with(first
  |(go_at_call 13;go_must (refine(j3 _ 18 ⟨by decide,by decide⟩).mono ?_;rintro e w5 ⟨f1,f2,a1,a2,d1,d2,b1,b2,rfl,u,l⟩))
  |(go_at_call 9;go_must (refine(be afu exm_o18 u).mono ?_;rintro e w6 ⟨g6,c6,rfl,b0,a6,a8,a0⟩)))
 have d:=l.trans (a0.mono l.size);have c:=zH d h.out.1 (lt_of_block h.out.1);have H6:=Ja (h.out.2.1.trans (d.mono h.out.2.1.size));have k:=(d.cell (p:=⟨g4,0,none⟩) h.out.2.2.2).trans h.out.2.2.1;have j:=Jy h.out.2.2.2 d.size;have x0:=zA (i:=2*2) c rfl;have x1:=zA (i:=2*2+1) c rfl;have x2:=zA (i:=4*2) c rfl;have x3:=zA (i:=4*2+1) c rfl;have x4:=zA (i:=4) c rfl;have x5:=zA (i:=5) c rfl;have x6:=zA (i:=8) c rfl;have x7:=zA (i:=9) c rfl;have a5:=lt_of_block c;clear d l a0 u c;go_wp2;go_ret;exact⟨rfl,H6.out⟩
def szL (l:List IOp):List Int:=(l.filter p6).map dp
theorem agC(h:p6 o=true):szL (l++ [o])=szL l++ [dp o]:=by unfold szL;rw[List.filter_append,Js];simp[h]
theorem szL_no(h:p6 o=false):szL (l++ [o])=szL l:=by unfold szL;rw[List.filter_append,Js];simp[h]
theorem szL_le (l:List IOp):(szL l).length<=l.length:=by unfold szL;rw[Nr];exact List.length_filter_le _ _
theorem szsF_eq (bl:List IBlk):agO bl=szL (bl.flatMap (·.ops)):=rfl
theorem i5{Z w9:World}{t2 on:Nat}{v v':Value}{z:Int}(hb:Below t2 w Z)(ht:t2<=Z.heap.size)(ho:Z.ownsRow t2 3 1 v on ((szL l).map zN))(hl:on=(szL l).length)(hg:(Z.alloc (A #[I z] 3)).grownBy w9 v.ownBlock)(d:p6 o=true)(c:dp o=z)
 (g:w9.ownsRow t2 3 1 v' (on+1) ((szL l).map zN++ [I z])):on+1=(szL (l++ [o])).length/\Below t2 w w9/\w9.ownsRow t2 3 1 v' (on+1) ((szL (l++ [o])).map zN):=by
 rw[agC d,c];refine⟨by rw[Jk,<-hl];rfl,?_,by rw[Js];exact g⟩;exact(hb.alloc ht _).grown hg Zt (wF (ho.alloc (A #[I z] 3)))
theorem agv{B:Nat}{d5:Value}(c7:wX w B d5 bl)(hB:B<=w.heap.size)(hs:vZ bl):
 T 11 #[.agg #[d5]] w (afH w (agO bl)):=by
 obtain⟨fa,fc,rfl,g3,g2⟩:=c7.form;have g1:=hs.1;have c9:=Ja (Jb c7 (Jb hB hs));obtain⟨t2,b9⟩:∃t,w.heap.size=t:=⟨_,rfl⟩
 have d2:Below t2 w (w.alloc (A #[.slice fa bl.length fc] 39)):=(Below.refl _ _).alloc Zo _;have b4:=zI (W:=w) (o:=A #[.slice fa bl.length fc] 39) rfl;have d4:B<=t2:=Zo;clear c7 hB hs;go_enter Try.func11,Try.ntmps11;go_upto_region 1 with fail;generalize e6:w.alloc (A #[.slice fa bl.length fc] 39)=W1 at *;rw[b9] at b4;have c0:U W1 t2 0 (.slice fa bl.length fc):=zA (i:=0) b4 rfl;have f3:=lt_of_block b4;have H1:=Ja d2;have e8:=Ja (show W1.ownsRow t2 3 1 (F) 0 ((szL ([]:List IOp)).map zN) from Jv _ _ _ _);obtain⟨ii,b5,a8,a6,a5⟩:=info_parts Try.info_int;have HT:=Ja b9;clear e6 d2 b4 b9;go_wp2;clear c0
 go_loopw [3,11] (fun sv kv wx=>∃(k:Nat) (oa:Option Addr) (on oc:Nat),k<=bl.length/\sv=.slice oa on oc/\kv=I k/\Hid (on=(szL ((bl.take k).flatMap (·.ops))).length/\Below t2 w wx/\wx.ownsRow t2 3 1 (.slice oa on oc) on ((szL ((bl.take k).flatMap (·.ops))).map zN))) (fun _ kv _=>bl.length-(intOf kv).toNat)
 case atStart=>exact⟨0,none,0,0,Jt _,rfl,rfl,Ja ⟨rfl,H1.out,e8.out⟩⟩
 case round=>
  obtain⟨k,oa,on,oc,hk,rfl,rfl,HK⟩:=hrel
  by_cases a0:k<bl.length
  ·have b3:(k:Int)<(bl.length:Int):=Zo;obtain⟨b,hb⟩:∃b,bl[k]? =some b:=⟨_,Jd a0⟩
   have b0:t2<=wr.heap.size:=by have:=HK.out.2.1.size;have:=HT.out;omega
   have a3:=HK.out.2.1.mono d4;obtain⟨bb,bo,d8,a4,c2,c3,h64,pv,ov,tv,c0,c1,c4,c5,b2,b8⟩:=c9.out.1.get hb;have c0:=zV a3 a4 c0;have c1:=zV a3 a4 c1;have c2:=zV a3 a4 c2;have c3:=zV a3 a4 c3;have c4:=zV a3 a4 c4;obtain⟨pa,pc,rfl,f9,f8⟩:=c5.form;obtain⟨qa,qc,rfl,f7,f6⟩:=b2.form;obtain⟨ta,tc,rfl,f5,f4⟩:=b8.form;subst d8;have f2:bb<wr.heap.size:=Zo;have d1:=c9.out.2.2.2 b (Ji hb);have g0:b.ops.length<=2000000:=d1.2.1;obtain⟨Y,hY⟩:∃Y,wr.alloc (A #[.slice pa b.params.length pc,.slice qa b.ops.length qc,I b.term.kind,I b.term.a,.slice ta b.term.to.length tc] 36)=Y:=⟨_,rfl⟩
   have c8:O wr Y:=by rw[<-hY];exact(Below.refl _ _).alloc (Je _) _
   have d0:Q Y wr.heap.size #[.slice pa b.params.length pc,.slice qa b.ops.length qc,I b.term.kind,I b.term.a,.slice ta b.term.to.length tc] 36:=by rw[<-hY];exact zI rfl
   have HY:=Ja (show Below t2 w Y/\Y.ownsRow t2 3 1 (.slice oa on oc) on ((szL ((bl.take k).flatMap (·.ops))).map zN)/\Q Y wr.heap.size #[.slice pa b.params.length pc,.slice qa b.ops.length qc,I b.term.kind,I b.term.a,.slice ta b.term.to.length tc] 36 from⟨HK.out.2.1.trans (c8.mono b0),p7 HK.out.2.2 c8 (Je _),d0⟩);have b1:=Ja (Jb hb (Jb a0 HK.out.1));have e7:=Ja b2;clear a3 hb a4 c5 b2 b8 c8 d0 d1 h64 a0 b0;go_upto_region 5 with fail;clear hY c0 c1 c2 c3 c4;have z1:U Y wr.heap.size 1 (.slice qa b.ops.length qc):=zA HY.out.2.2 rfl;have zl:=lt_of_block HY.out.2.2;go_wp2;clear z1 zl
   go_loopw [3,18] (fun sv jv wx=>∃(j:Nat) (oa:Option Addr) (on oc:Nat),j<=b.ops.length/\sv=.slice oa on oc/\jv=I j/\Hid (on=(szL ((bl.take k).flatMap (·.ops)++b.ops.take j)).length/\Below t2 w wx/\wx.ownsRow t2 3 1 (.slice oa on oc) on ((szL ((bl.take k).flatMap (·.ops)++b.ops.take j)).map zN))) (fun _ jv _=>b.ops.length-(intOf jv).toNat)
   case atStart=>exact⟨0,oa,on,oc,Jt _,rfl,rfl,Ja ⟨by rw[Uc,Ua];exact b1.out.2.2,HY.out.1,by rw[Uc,Ua];exact HY.out.2.1⟩⟩
   case round=>
    rename World=>wq
    obtain⟨j,oa,on,oc,hj,rfl,rfl,HJ⟩:=hrel
    by_cases a0:j<b.ops.length
    ·have b3:(j:Int)<(b.ops.length:Int):=Zo;obtain⟨o,ho⟩:∃o,b.ops[j]? =some o:=⟨_,Jd a0⟩
     have b0:t2<=wq.heap.size:=by have:=HJ.out.2.1.size;have:=HT.out;omega
     obtain⟨qb,qo,d6,d7,e0,e1,e2,e3,e4,h64,av,e5,d3⟩:=(e7.out.below xA (HJ.out.2.1.mono d4)).get ho;obtain⟨aa,ac,rfl,_,_⟩:=d3.form;subst d6;have f0:qb<wq.heap.size:=Zo;obtain⟨c,hc⟩:∃c,o.code=c:=⟨_,rfl⟩
     rw[hc] at e0;obtain⟨Z,hZ⟩:∃Z,wq.alloc (A #[I c,I o.res,I o.a,I o.b,G (o.n:Int),.slice aa o.args.length ac] 27)=Z:=⟨_,rfl⟩
     have b6:O wq Z:=by rw[<-hZ];exact(Below.refl _ _).alloc (Je _) _
     have b7:Q Z wq.heap.size #[I c,I o.res,I o.a,I o.b,G (o.n:Int),.slice aa o.args.length ac] 27:=by rw[<-hZ];exact zI rfl
     have q:=Ja (show Below t2 w Z/\Z.ownsRow t2 3 1 (.slice oa on oc) on ((szL ((bl.take k).flatMap (·.ops)++b.ops.take j)).map zN)/\Q Z wq.heap.size #[I c,I o.res,I o.a,I o.b,G (o.n:Int),.slice aa o.args.length ac] 27/\t2<=Z.heap.size from⟨HJ.out.2.1.trans (b6.mono b0),p7 HJ.out.2.2 b6 (Je _),b7,by have:=b6.size;omega⟩)
     have f1:on<=4000000000000:=by
      have h1:=HJ.out.1;have h2:=szL_le ((bl.take k).flatMap (·.ops)++b.ops.take j);have h3:=aeQ (bl.take k) fun x hx=>(c9.out.2.2.2 x (List.mem_of_mem_take hx)).2.1
      rw[Jk,Oc] at h2;rw[Oc] at h3;have h4:=b1.out.2.1;omega
     have m:=Ja (Jb ho (Jb hc (Jb a0 HJ.out.1)));clear ho h64 d3 b6 b7 a0 b0 d7;go_upto_region 8 with fail;clear hZ e0 e1 e2 e3 e4 e5 hc;have z0:U Z wq.heap.size 0 (I c):=zA q.out.2.2.1 rfl;have zl:=lt_of_block q.out.2.2.1
     by_cases a9:c=18∨c=19∨c=20∨c=21
     ·have a1:p6 o=true:=by rw[bd,m.out.2.1];exact decide_eq_true a9
      rcases a9 with rfl|rfl|rfl|rfl
      ·have u:dp o=2:=by unfold dp;(rw[m.out.2.1])<;>rfl
       go_wp2_with (at_builtin;go_must (refine zK _ rfl (.tmp 27) (.tmp 28) 25 rfl t2 3 ii (I 0) 1 8 Try.underlying25 b5 a8 a6 a5 rfl Zd (.slice oa on oc) on ((szL ((bl.take k).flatMap (·.ops)++b.ops.take j)).map zN) rfl (q.out.2.1.alloc _) (N Z.heap.size 1 1) 1 [I 2] rfl (yM.one (zI Zs) rfl) (by unfold maxLen;omega) Zo (by have:=q.out.2.2.2;simp;omega) ?_;intro v9 w9 d g y))
       obtain⟨oa9,oc9,rfl⟩:=zG d;have a2:=Ja (i5 q.out.1 q.out.2.2.2 q.out.2.1 m.out.2.2.2 g a1 u d);clear d g y u;go_roundw
       case rel=>exact⟨j+1,oa9,on+1,oc9,m.out.2.2.1,rfl,by go_num,Ja (by rw[yl m.out.1,<-Nv];exact a2.out)⟩
       case measure=>have:=m.out.2.2.1;simp[intOf];omega
      ·have u:dp o=1:=by unfold dp;(rw[m.out.2.1])<;>rfl
       go_wp2_with (at_builtin;go_must (refine zK _ rfl (.tmp 33) (.tmp 34) 25 rfl t2 3 ii (I 0) 1 8 Try.underlying25 b5 a8 a6 a5 rfl Zd (.slice oa on oc) on ((szL ((bl.take k).flatMap (·.ops)++b.ops.take j)).map zN) rfl (q.out.2.1.alloc _) (N Z.heap.size 1 1) 1 [I 1] rfl (yM.one (zI Zs) rfl) (by unfold maxLen;omega) Zo (by have:=q.out.2.2.2;simp;omega) ?_;intro v9 w9 d g y))
       obtain⟨oa9,oc9,rfl⟩:=zG d;have a2:=Ja (i5 q.out.1 q.out.2.2.2 q.out.2.1 m.out.2.2.2 g a1 u d);clear d g y u;go_roundw
       case rel=>exact⟨j+1,oa9,on+1,oc9,m.out.2.2.1,rfl,by go_num,Ja (by rw[yl m.out.1,<-Nv];exact a2.out)⟩
       case measure=>have:=m.out.2.2.1;simp[intOf];omega
      ·have u:dp o=2:=by unfold dp;(rw[m.out.2.1])<;>rfl
       go_wp2_with (at_builtin;go_must (refine zK _ rfl (.tmp 27) (.tmp 28) 25 rfl t2 3 ii (I 0) 1 8 Try.underlying25 b5 a8 a6 a5 rfl Zd (.slice oa on oc) on ((szL ((bl.take k).flatMap (·.ops)++b.ops.take j)).map zN) rfl (q.out.2.1.alloc _) (N Z.heap.size 1 1) 1 [I 2] rfl (yM.one (zI Zs) rfl) (by unfold maxLen;omega) Zo (by have:=q.out.2.2.2;simp;omega) ?_;intro v9 w9 d g y))
       obtain⟨oa9,oc9,rfl⟩:=zG d;have a2:=Ja (i5 q.out.1 q.out.2.2.2 q.out.2.1 m.out.2.2.2 g a1 u d);clear d g y u;go_roundw
       case rel=>exact⟨j+1,oa9,on+1,oc9,m.out.2.2.1,rfl,by go_num,Ja (by rw[yl m.out.1,<-Nv];exact a2.out)⟩
       case measure=>have:=m.out.2.2.1;simp[intOf];omega
      ·have u:dp o=1:=by unfold dp;(rw[m.out.2.1])<;>rfl
       go_wp2_with (at_builtin;go_must (refine zK _ rfl (.tmp 33) (.tmp 34) 25 rfl t2 3 ii (I 0) 1 8 Try.underlying25 b5 a8 a6 a5 rfl Zd (.slice oa on oc) on ((szL ((bl.take k).flatMap (·.ops)++b.ops.take j)).map zN) rfl (q.out.2.1.alloc _) (N Z.heap.size 1 1) 1 [I 1] rfl (yM.one (zI Zs) rfl) (by unfold maxLen;omega) Zo (by have:=q.out.2.2.2;simp;omega) ?_;intro v9 w9 d g y))
       obtain⟨oa9,oc9,rfl⟩:=zG d;have a2:=Ja (i5 q.out.1 q.out.2.2.2 q.out.2.1 m.out.2.2.2 g a1 u d);clear d g y u;go_roundw
       case rel=>exact⟨j+1,oa9,on+1,oc9,m.out.2.2.1,rfl,by go_num,Ja (by rw[yl m.out.1,<-Nv];exact a2.out)⟩
       case measure=>have:=m.out.2.2.1;simp[intOf];omega
     ·have a1:p6 o=false:=by rw[bd,m.out.2.1];exact decide_eq_false a9
      have HA:=Ja (szL_no (l:=(bl.take k).flatMap (·.ops)++b.ops.take j) a1);have g8:(c==18)=false:=Ze;have g6:(c==19)=false:=Ze;have g5:(c==20)=false:=Ze;have g4:(c==21)=false:=Ze;clear a1 a9;go_wp2;go_roundw
      case rel=>exact⟨j+1,oa,on,oc,m.out.2.2.1,rfl,by go_num,Ja (by rw[yl m.out.1,<-Nv,HA.out];exact⟨m.out.2.2.2,q.out.1,q.out.2.1⟩)⟩
      case measure=>have:=m.out.2.2.1;simp[intOf];omega
    ·obtain rfl:j=b.ops.length:=by omega
     have b3:¬(b.ops.length:Int)<(b.ops.length:Int):=Zo;clear a0;go_wp2;go_roundw
     case rel=>exact⟨k+1,oa,on,oc,b1.out.2.1,rfl,by go_num,Ja (by rw[gw b1.out.1];have h:=HJ.out;rw[Nl] at h;exact h)⟩
     case measure=>have:=b1.out.2.1;simp[intOf];omega
  ·obtain rfl:k=bl.length:=by omega
   have b3:¬(bl.length:Int)<(bl.length:Int):=Zo;clear a0;go_wp2;go_ret;have h:=HK.out;rw[Nl] at h;refine⟨_,rfl,?_,by rw[HT.out];exact h.2.1⟩;rw[HT.out,szsF_eq,<-h.1];exact h.2.2
def j5 (a:Rg)(n:Int)(o:IObj):Prop:=o.bank=-1/\o.addr<=a.lo/\(a.hi:Int)+n<=(o.addr:Int)+o.size
instance (a:Rg) (n:Int) (o:IObj):Decidable (j5 a n o):=by unfold j5;infer_instance
def qf:List IObj->Int->Int->Rg->Int->Int
 | [],_,z,_,_=>z
 |o::os,k,z,a,n=>qf os (k+1) (if j5 a n o then k else z) a n
theorem ae7 (o:IObj)(a:Rg)(n:Int):∀(l:List IObj) (k z:Int),qf (l++ [o]) k z a n=if j5 a n o then k+l.length else qf l k z a n
 | [],k,z=>by
   show(if j5 a n o then k else z)=if j5 a n o then k+((0:Nat):Int) else z
   rw[show k+((0:Nat):Int)=k by omega]
 |x::l,k,z=>by
  rw[List.cons_append];unfold qf;rw[ae7 o a n l,Nq,show k+1+(l.length:Int)=k+((l.length+1:Nat):Int) by omega]
theorem aeX (a:Rg)(n:Int):∀(l:List IObj) (k z:Int),(∀o∈l,¬j5 a n o)->qf l k z a n=z
 | [],k,z,_=>rfl
 |o::l,k,z,h=>by
  unfold qf;rw[if_neg (h o (.head _))];exact aeX a n l (k+1) z fun x hx=>h x (.tail _ hx)
theorem aeE (a:Rg)(n:Int):∀(l:List IObj) (k:Int),(∀(i j:Nat) (x y:IObj),l[i]? =some x->l[j]? =some y->i<j->j5 a n x->¬j5 a n y)->qf l k (-1) a n=mc l k a n
 | [],k,_=>rfl
 |o::l,k,h=>by
  unfold qf mc
  by_cases hc:j5 a n o
  ·rw[if_pos hc,if_pos (show o.bank=-1/\o.addr<=a.lo/\(a.hi:Int)+n<=(o.addr:Int)+o.size from hc)]
   exact aeX a n l (k+1) k fun x hx=>by
    obtain⟨j,hj⟩:=Ny hx;exact h 0 (j+1) o x rfl hj (Nat.succ_pos _) hc
  ·rw[if_neg hc,if_neg (show ¬(o.bank=-1/\o.addr<=a.lo/\(a.hi:Int)+n<=(o.addr:Int)+o.size) from hc)];exact aeE a n l (k+1) fun i j x y hi hj hij=>h (i+1) (j+1) x y hi hj (Nat.succ_lt_succ hij)
theorem apart_of{p:IProg}(hv:vC p=0){i:Nat}{x y:IObj}(hi:p.data[i]? =some x)(l:p.data[j]? =some y)(m:i<j):uK y x=false:=by
 obtain⟨c,_⟩:=rz hv
 have hp:wB p=true:=by
  unfold sR at c
  split at c
  ·omega
  ·split at c
   ·omega
   ·split at c
    ·omega
    ·split at c
     ·omega
     ·split at c
      ·omega
      ·rename_i h
       simpa using h
 unfold wB at hp;rw[Jm] at hp;have k:=hp.2;unfold ig at k;rw[Oe] at k;have d:=k j (Ol.2 (Jh.1 l).1);unfold lm at d;rw[l] at d;simp only[Jm] at d;have g:=d.2;unfold lF at g;rw[Oe] at g;have o:=g x (Ji (i:=i) (by rw[Ug,if_pos m];exact hi))
 simpa using o
theorem last_obj {p:IProg}(hv:vC p=0){a:Rg}(c:a.ok){n:Int}(k:1<=n):qf p.data 0 (-1) a n=mc p.data 0 a n:=
 aeE a n p.data 0 fun i j x y hi hj hij hx hy=>by
  have h:=apart_of hv hi hj hij;obtain⟨g,q,o⟩:=hx;obtain⟨d,m,l⟩:=hy;have:=c.1;unfold uK at h;rw[decide_eq_true (d.trans g.symm),decide_eq_true (show y.addr<x.addr+x.size by omega),decide_eq_true (show x.addr<y.addr+y.size by omega)] at h;exact absurd h Zd
theorem agB {p:IProg}(hv:vC p=0):0<p.funcs.length/\p.funcs.length<=2000:=by
 obtain⟨c,_⟩:=rz hv;unfold sR at c
 split at c
 ·omega
 ·rename_i d
  split at c
  ·omega
  ·split at c
   ·omega
   ·split at c
    ·omega
    ·rename_i h
     have hs:yw p p.entry=true:=by
      by_cases e:yw p p.entry=true
      ·exact e
      ·exact absurd (Na (by simpa using e)) h
     unfold yw at hs;simp only[Jm,decide_eq_true_eq] at hs;omega
open Classical in
noncomputable def rgsP (p:IProg) (f:Int):List Rg:=if agP p f then wk p (p.funcs.getD f.toNat []) else []
open Classical in
noncomputable def objP (p:IProg) (f:Int):List Int:=if vC p=0/\0<=f/\f.toNat<p.funcs.length then aeC p.data (wk p (p.funcs.getD f.toNat [])) (p.funcs.getD f.toNat []) else []
def RgsAny (w:World)(R:List Rg)(e:Ending)(w':World):Prop:=∃ra:Option Addr,e=.returned (.slice ra R.length R.length)/\(R≠ []->∃b,ra=some ⟨b,0,none⟩/\Q w' b (R.flatMap xe).toArray 48/\w.heap.size<=b)/\O w w'
theorem aeD {p:IProg}{f:Int}(h:0<=f/\f.toNat<p.funcs.length):p.funcs[f.toNat]? =some (p.funcs.getD f.toNat []):=by
 rw[Jj,Jd h.2];rfl
theorem afU{B:Nat}{V:PV}{p:IProg}(hp:ProgIn w B V p)(hB:B<=w.heap.size)(hs:∀f∈p.funcs,vZ f)(f:Int):
 T 8 #[yH V p,I f] w (RgsAny w (rgsP p f)):=by
 unfold rgsP
 by_cases h:agP p f
 ·rw[if_pos h];obtain⟨hv,hr,c⟩:=h;have:=bf hp hB hs hv (aeD hr) c;rw[Oa hr.1] at this;refine this.mono ?_;rintro e w' ⟨b,rfl,i,g,d⟩;exact⟨_,rfl,fun _=>⟨b,rfl,i,g⟩,d⟩
 ·rw[if_neg h];refine(ga hp hB hs f h).mono ?_;rintro e w' ⟨rfl,hb⟩;exact⟨none,rfl,fun h=>absurd rfl h,hb⟩
theorem afs{B:Nat}{V:PV}{p:IProg}(hp:ProgIn w B V p)(hB:B<=w.heap.size)(hs:∀f∈p.funcs,vZ f)(f:Int):
 T 9 #[yH V p,I f] w (afH w (objP p f)):=by
 unfold objP
 by_cases h:vC p=0/\0<=f/\f.toNat<p.funcs.length
 ·rw[if_pos h];have:=aeG hp hB hs h.1 (aeD h.2);rw[Oa h.2.1] at this;exact this
 ·rw[if_neg h];refine(afS hp hB hs f h).mono ?_;rintro e w' ⟨rfl,hb⟩;exact⟨_,rfl,Jv _ _ _ _,hb⟩
theorem aeV{α:Type}{l:List α}{x:α}(h:l[k]? =some x):l=l.take k++x::l.drop (k+1):=by
 obtain⟨hk,e⟩:=Jh.1 h;rw[<-e,<-Qn hk,Qi]
theorem accO_at{b:IBlk}(hb:bl[k]? =some b)(ho:b.ops[j]? =some o)(c:p6 o=true):(accL bl)[(szL ((bl.take k).flatMap (·.ops)++b.ops.take j)).length]? =some o:=by
 have e:bl.flatMap (·.ops)=((bl.take k).flatMap (·.ops)++b.ops.take j)++(o::(b.ops.drop (j+1)++(bl.drop (k+1)).flatMap (·.ops))):=by
  rw[Nv,<-List.cons_append,<-Nv (b.ops.take j),<-aeV ho,<-Qa (f:=fun b:IBlk=>b.ops),<-Nx,<-aeV hb]
 unfold accL szL;rw[e,List.filter_append,Nr,Nc (Je _),Qy,List.filter_cons_of_pos c];rfl
theorem age{b:IBlk}(data:List IObj)(R:List Rg)(hb:bl[k]? =some b)(ho:b.ops[j]? =some o)(c:p6 o=true):(aeC data R bl)[(szL ((bl.take k).flatMap (·.ops)++b.ops.take j)).length]? =some (afy data R o)/\(agO bl)[(szL ((bl.take k).flatMap (·.ops)++b.ops.take j)).length]? =some (dp o):=by
 unfold aeC agO;rw[Jr,Jr,accO_at hb ho c];exact⟨rfl,rfl⟩
theorem data_le {p:IProg}(hv:vC p=0):p.data.length<=512:=by
 obtain⟨c,_⟩:=rz hv;unfold sR at c
 split at c
 ·omega
 ·omega
theorem agn{p:IProg}{n:Nat}(hv:vC p=0)(c:p.funcs[n]? =some bl)(d:bl≠ []):rgsP p (n:Int)=wk p bl:=by
 have hg:p.funcs.getD n []=bl:=by rw[Jj,c];rfl
 unfold rgsP;rw[Ni,hg,if_pos ⟨hv,⟨by omega,by rw[Ni];exact(Jh.1 c).1⟩,by rw[Ni,hg];exact d⟩]
theorem rgsP_len{p:IProg}{n:Nat}(hv:vC p=0)(hs:∀f∈p.funcs,vZ f)(h64:P64 p)(c:p.funcs[n]? =some bl):((rgsP p (n:Int)).length:Int)=aaG bl:=by
 by_cases d:bl=[]
 ·subst d;have hg:p.funcs.getD n []=[]:=by rw[Jj,c];rfl
  unfold rgsP;rw[if_neg (fun h=>h.2.2 (by rw[Ni];exact hg))];rfl
 ·have g:=afF hv hs h64 c d;rw[agn hv c d,(mo g).2];have:=g.cnt;omega
theorem agr{p:IProg}{n:Nat}(hv:vC p=0)(c:p.funcs[n]? =some bl):objP p (n:Int)=aeC p.data (wk p bl) bl:=by
 have hg:p.funcs.getD n []=bl:=by rw[Jj,c];rfl
 unfold objP;rw[if_pos ⟨hv,by omega,by rw[Ni];exact(Jh.1 c).1⟩,Ni,hg]
theorem afo (w:World)(sv:Value)(s:List Int)(x:Nat)(hs:zY w w.heap.size sv s)(hx:x<256):
 T 4 #[sv,.int .u8 (x:Int)] w fun e w'=>e=.returned (.bool true)/\Below w.heap.size w w':=by
 obtain⟨sa,sc,rfl,n0,m5⟩:=hs.form;have HS:=Ja hs;clear hs n0 m5;go_enter Try.func4,Try.ntmps4;go_upto_region 2 with(go_at_call 6;go_must (refine(sanity10 _).mono ?_;rintro e w0 ⟨rfl,b1⟩))
 have H1:=Ja b1;clear b1;have HM:=Ja (afM ((HS.out.below zO H1.out).mono zO H1.out.size));have j2:=acK (s.take 200);have f2:=fm (s.take 200);generalize uR (s.take 200)=p at *;go_upto_region 3 with(go_at_call 10;go_must (refine HM.out.mono ?_;rintro e w1 ⟨fa,fc,aa,ac,da,dc,ba,bc,rfl,hp,b1⟩))
 have k7:=b1.alloc b1.size (A #[.slice fa p.funcs.length fc,.slice aa p.args.length ac,I p.entry,I p.handler,.slice da p.data.length dc,.slice ba p.banks.length bc] 44);have H2:=Ja (Jb (H1.out.trans (k7.mono H1.out.size)) (PBx.new hp));clear b1 hp k7 HM H1;generalize w1.alloc (A #[.slice fa p.funcs.length fc,.slice aa p.args.length ac,I p.entry,I p.handler,.slice da p.data.length dc,.slice ba p.banks.length bc] 44)=X at *;generalize w1.heap.size=b8 at *;have n6:=agB f2;obtain⟨n,hn,n2⟩:∃n:Nat,(x:Int)%(p.funcs.length:Int)=(n:Int)/\n<p.funcs.length:=⟨x%p.funcs.length,by omega,Qj _ n6.1⟩
 obtain⟨bl,k9⟩:∃bl,p.funcs[n]? =some bl:=⟨_,Jd n2⟩
 have d:=Ja (Jb k9 (Jb f2 (show ∀f∈p.funcs,vZ f from fun f hf=>(j2.sized Zd f hf).1)));have c0:=H2.out.2.c0;have c1:=H2.out.2.c1;have c2:=H2.out.2.c2;have c3:=H2.out.2.c3;have c4:=H2.out.2.c4;have c5:=H2.out.2.c5;have cl:=H2.out.2.lt;clear j2 f2 k9;go_upto_region 4 with fail;rw[hn];clear hn;obtain⟨R,hR⟩:∃R,rgsP p (n:Int)=R:=⟨_,rfl⟩
 obtain⟨O,hO⟩:∃O,objP p (n:Int)=O:=⟨_,rfl⟩
 have o0:=Ja (show ∀W,Below X.heap.size X W->T 8 #[.agg #[.slice fa p.funcs.length fc,.slice aa p.args.length ac,I p.entry,I p.handler,.slice da p.data.length dc,.slice ba p.banks.length bc],I n] W (RgsAny W R) from fun W hb=>by
  have:=afU (H2.out.2.below hb).prog (Je _) d.out.2.2 (n:Int)
  rwa [hR] at this)
 have o3:=Ja (show ∀W,Below X.heap.size X W->T 9 #[.agg #[.slice fa p.funcs.length fc,.slice aa p.args.length ac,I p.entry,I p.handler,.slice da p.data.length dc,.slice ba p.banks.length bc],I n] W (afH W O) from fun W hb=>by
  have:=afs (H2.out.2.below hb).prog (Je _) d.out.2.2 (n:Int)
  rwa [hO] at this)
 have d3:=Ja (Jb hR hO);clear hR hO;go_upto_region 5 with(go_at_call 8;go_must (refine(o0.out _ (Below.refl _ _)).mono ?_;rintro e w2 ⟨ra,rfl,i8,g2⟩))
 clear c0 c1 c2 c3 c4 c5 cl;have k2:=H2.out.2.below g2;have c0:=k2.c0;have c1:=k2.c1;have c2:=k2.c2;have c3:=k2.c3;have c4:=k2.c4;have c5:=k2.c5;have cl:=k2.lt;have H3:=Ja (Jb g2 i8);clear k2 g2 i8;go_upto_region 6 with(go_at_call 9;go_must (refine(o3.out _ H3.out.1).mono ?_;rintro e w3 ⟨ov,rfl,e8,g1⟩))
 obtain⟨oa,oc,rfl⟩:=zG e8;clear c0 c1 c2 c3 c4 c5 cl;have k3:=(H2.out.2.below H3.out.1).below g1;have c0:=k3.c0;have cl:=k3.lt;obtain⟨gb,go,rfl,f4,fv,g0,b7⟩:=k3.prog.funcs.get d.out.1;rw[Nk] at g0;obtain⟨ka,kc,rfl,n4,n3⟩:=b7.form;have r6:(n:Int)<(p.funcs.length:Int):=Zo;have l8:=Ja (agv b7 (Je _) (d.out.2.2 bl (Ji d.out.1)));have m1:=Ja (show ∀W,Below w3.heap.size w3 W->T 12 #[.agg #[.slice ka bl.length kc]] W (j4 W (aaG bl)) from fun W hb=>jr (b7.below yT hb) hb.size (d.out.2.2 bl (Ji d.out.1)));have H4:=Ja (Jb g1 (Jb e8 (Jb k3 (Jb f4 (Jb g0 b7)))));obtain⟨S,hS⟩:∃S,agO bl=S:=⟨_,rfl⟩
 rw[hS] at l8;have l9:=Ja hS;have f3:=f4;clear g1 e8 k3 f4 b7 n4 n3 hS;go_upto_region 7 with(go_at_call 11;go_must (refine l8.out.mono ?_;rintro e w4 ⟨zv,rfl,d5,b9⟩))
 obtain⟨za,zc,rfl⟩:=zG d5;have H5:=Ja (Jb b9 d5);have k4:=H4.out.2.2.1.below b9;have n9:=k4.c0;have n8:=k4.lt;have n7:=zV b9 H4.out.2.2.2.1 H4.out.2.2.2.2.1;have m3:gb<w4.heap.size:=Jy H4.out.2.2.2.1 b9.size;clear c0 cl g0 f3 k4 b9 d5
 have g5:O.length=S.length:=by
  rw[<-d3.out.2,<-l9.out,agr d.out.2.1 d.out.1];unfold aeC agO;rw[Nr,Nr]
 have l4:aaG bl=(R.length:Int):=by
  rw[<-d3.out.1];exact(rgsP_len d.out.2.1 d.out.2.2 H2.out.2.prog.p64 d.out.1).symm
 rw[l4] at m1;rw[g5];have o1:=Ja g5;have e1:((S.length:Int) !=(S.length:Int))=false:=by simp
 have e2:((R.length:Int) !=(R.length:Int))=false:=by simp
 clear l4 g5;go_upto_region 9 with(go_at_call 12;go_must (refine(m1.out _ H5.out.1).mono ?_;rintro e w5 ⟨rfl,f9⟩))
 have a3:=Ja (H5.out.1.trans (f9.mono H5.out.1.size));have k5:=H4.out.2.2.1.below a3.out;have c0:=k5.c0;have cl:=k5.lt;have g0:=zV a3.out H4.out.2.2.2.1 H4.out.2.2.2.2.1;have f3:=Jy H4.out.2.2.2.1 a3.out.size
 have HX:=Ja (show PBx w5 b8 p (some ⟨gb,go,none⟩) fc aa ac da dc ba bc/\wX w5 w5.heap.size (.slice ka bl.length kc) bl/\w5.ownsRow w2.heap.size 3 1 (.slice oa O.length oc) O.length (O.map zN)/\w5.ownsRow w3.heap.size 3 1 (.slice za S.length zc) S.length (S.map zN)/\Below w.heap.size w w5 from⟨k5,(H4.out.2.2.2.2.2.below yT a3.out).mono yT a3.out.size,p7 H4.out.2.1 a3.out (Je _),p7 H5.out.2 f9 (Je _),by
  have h1:=H2.out.1.trans (H3.out.1.mono H2.out.1.size);have h2:=h1.trans (H4.out.1.mono h1.size)
  exact h2.trans (a3.out.mono h2.size)⟩)
 clear k5 f9 n9 n8 n7 m3 e1 e2;go_wp2;clear c0 cl g0 f3
 go_loopw [11,63] (fun av kv wx=>∃(k:Nat) (at':Nat),k<=bl.length/\av=I at'/\kv=I k/\Hid (at'=(szL ((bl.take k).flatMap (·.ops))).length/\Below w5.heap.size w5 wx)) (fun _ kv _=>bl.length-(intOf kv).toNat)
 case atStart=>exact⟨0,0,Jt _,rfl,rfl,Ja ⟨rfl,Below.refl _ _⟩⟩
 case round=>
  obtain⟨k,at',hk,rfl,rfl,HK⟩:=hrel
  by_cases m:k<bl.length
  ·have a6:(k:Int)<(bl.length:Int):=Zo;obtain⟨b,hb⟩:∃b,bl[k]? =some b:=⟨_,Jd m⟩
   have b6:=HK.out.2.size;have a9:=HK.out.2;obtain⟨bb,bo,n5,b0,c2,c3,h64,pv,iv,tv,c0,c1,c4,e7,c7,d8⟩:=HX.out.2.1.get hb;have c0:=zV a9 b0 c0;have c1:=zV a9 b0 c1;have c2:=zV a9 b0 c2;have c3:=zV a9 b0 c3;have c4:=zV a9 b0 c4;obtain⟨pa,pc,rfl,r3,r2⟩:=e7.form;obtain⟨qa,qc,rfl,q9,q7⟩:=c7.form;obtain⟨ta,tc,rfl,q6,q5⟩:=d8.form;subst n5;have p1:bb<wr.heap.size:=Zo;have f8:=d.out.2.2 bl (Ji d.out.1);have f7:=f8.2 b (Ji hb);have p0:=f8.1;have r4:b.ops.length<=2000000:=f7.2.1;obtain⟨Y,hY⟩:∃Y,wr.alloc (A #[.slice pa b.params.length pc,.slice qa b.ops.length qc,I b.term.kind,I b.term.a,.slice ta b.term.to.length tc] 36)=Y:=⟨_,rfl⟩
   have l1:Below wr.heap.size wr Y:=by rw[<-hY];exact(Below.refl _ _).alloc (Je _) _
   have h6:Q Y wr.heap.size #[.slice pa b.params.length pc,.slice qa b.ops.length qc,I b.term.kind,I b.term.a,.slice ta b.term.to.length tc] 36:=by rw[<-hY];exact zI rfl
   have HY:=Ja (show Below w5.heap.size w5 Y/\Q Y wr.heap.size #[.slice pa b.params.length pc,.slice qa b.ops.length qc,I b.term.kind,I b.term.a,.slice ta b.term.to.length tc] 36 from⟨a9.trans (l1.mono b6),h6⟩);have a0:=Ja (Jb hb (Jb m HK.out.1));have o2:=Ja c7;clear a9 hb b0 e7 c7 d8 l1 h6 f8 f7 h64 m b6;go_upto_region 13 with fail;clear hY c0 c1 c2 c3 c4;have z1:U Y wr.heap.size 1 (.slice qa b.ops.length qc):=zA HY.out.2 rfl;have zl:=lt_of_block HY.out.2;go_wp2;clear z1 zl
   go_loopw [11,70] (fun av jv wx=>∃(j:Nat) (at':Nat),j<=b.ops.length/\av=I at'/\jv=I j/\Hid (at'=(szL ((bl.take k).flatMap (·.ops)++b.ops.take j)).length/\Below w5.heap.size w5 wx)) (fun _ jv _=>b.ops.length-(intOf jv).toNat)
   case atStart=>exact⟨0,at',Jt _,rfl,rfl,Ja ⟨by rw[Uc,Ua];exact a0.out.2.2,HY.out.1⟩⟩
   case round=>
    rename World=>wq
    obtain⟨j,at',hj,rfl,rfl,HJ⟩:=hrel
    by_cases m:j<b.ops.length
    ·have a6:(j:Int)<(b.ops.length:Int):=Zo;obtain⟨o,ho⟩:∃o,b.ops[j]? =some o:=⟨_,Jd m⟩
     have b6:=HJ.out.2.size;obtain⟨qb,qo,n1,a5,e0,e1,e2,e3,e4,h64,av,e5,l3⟩:=o2.out.get ho;have e0:=zV HJ.out.2 a5 e0;have e1:=zV HJ.out.2 a5 e1;have e2:=zV HJ.out.2 a5 e2;have e3:=zV HJ.out.2 a5 e3;have e4:=zV HJ.out.2 a5 e4;have e5:=zV HJ.out.2 a5 e5;obtain⟨aa',ac',rfl,_,_⟩:=l3.form;subst n1;have m2:qb<wq.heap.size:=Zo;obtain⟨c,hc⟩:∃c,o.code=c:=⟨_,rfl⟩
     rw[hc] at e0;obtain⟨Z,hZ⟩:∃Z,wq.alloc (A #[I c,I o.res,I o.a,I o.b,.int .u16 (o.n:Int),.slice aa' o.args.length ac'] 27)=Z:=⟨_,rfl⟩
     have l0:Below wq.heap.size wq Z:=by rw[<-hZ];exact(Below.refl _ _).alloc (Je _) _
     have d6:Q Z wq.heap.size #[I c,I o.res,I o.a,I o.b,.int .u16 (o.n:Int),.slice aa' o.args.length ac'] 27:=by rw[<-hZ];exact zI rfl
     have HZ:=Ja (show Below w5.heap.size w5 Z/\Q Z wq.heap.size #[I c,I o.res,I o.a,I o.b,.int .u16 (o.n:Int),.slice aa' o.args.length ac'] 27 from⟨HJ.out.2.trans (l0.mono b6),d6⟩)
     have o9:at'<=4000000000000:=by
      have h1:=HJ.out.1;have h2:=szL_le ((bl.take k).flatMap (·.ops)++b.ops.take j);have h3:=aeQ (bl.take k) fun x hx=>((d.out.2.2 bl (Ji d.out.1)).2 x (List.mem_of_mem_take hx)).2.1
      rw[Jk,Oc] at h2;rw[Oc] at h3;have h4:=a0.out.2.1;omega
     have q:=Ja (Jb ho (Jb hc (Jb m HJ.out.1)));clear ho h64 l3 l0 d6 m b6 a5;go_upto_region 16 with fail;clear hZ e0 e1 e2 e3 e4 e5 hc;obtain⟨tz,h7⟩:∃t,wq.heap.size=t:=⟨_,rfl⟩
     rw[h7] at HZ ⊢;clear h7 m2;have z0:U Z tz 0 (I c):=zA HZ.out.2 rfl;have zl:=lt_of_block HZ.out.2
     by_cases b5:18<=c/\c<=21
     ·have a8:p6 o=true:=by unfold p6;rw[q.out.2.1,decide_eq_true b5.1,decide_eq_true b5.2];rfl
      have d1:decide (c<18)=false:=decide_eq_false Zo;have d2:decide (21<c)=false:=decide_eq_false Zo;have f1:bl≠ []:=fun e=>by rw[e] at a0;exact absurd a0.out.2.1 (Nat.not_lt_zero _)
      have hF:=afF d.out.2.1 d.out.2.2 H2.out.2.prog.p64 d.out.1 f1;have c9:R=wk p bl:=by rw[<-d3.out.1];exact agn d.out.2.1 d.out.1 f1
      have h5:=agj hF a0.out.1 (Ji q.out.1) a8;obtain⟨y,hy⟩:∃y:Nat,o.a=(y:Int):=⟨o.a.toNat,by omega⟩
      have a4:y<R.length:=by rw[c9];have:=h5.2;rw[hy,Ni] at this;exact this
      obtain⟨a,ha⟩:∃a,R.getD y ⟨0,0⟩=a:=⟨_,rfl⟩
      have j1:a.ok:=by
       rw[<-ha,Jj,Jd a4];exact(mo hF).1 _ (by rw[<-c9];exact Uf a4)
      have l5:R≠ []:=fun e=>by rw[e] at a4;exact absurd a4 (Nat.not_lt_zero _)
      obtain⟨rb,rfl,h9,_⟩:=H3.out.2 l5;obtain⟨z,hz⟩:∃z,dp o=z:=⟨_,rfl⟩
      have h0:1<=z/\z<=2:=by rw[<-hz];unfold dp;split<;>omega
      have HF:=Ja (Jb a8 (Jb hy (Jb ha (Jb j1 (Jb c9 (Jb h9 (Jb hz (Jb h0 a4))))))));have s0:=data_le d.out.2.1;clear f1 hF h5 c9 l5 a8 h9 j1 ha hy hz;go_upto_region 18 with fail;have k4:=HX.out.1.below HZ.out.1;have c4:=k4.c4;have cl:=k4.lt;clear k4 d1 d2 z0 zl;go_wp2;clear c4 cl
      go_loopw [16,85] (fun zv iv wx=>∃i:Nat,i<=p.data.length/\zv=I (qf (p.data.take i) 0 (-1) a z)/\iv=I i/\Hid (Below Z.heap.size Z wx)) (fun _ iv _=>p.data.length-(intOf iv).toNat)
      case atStart=>exact⟨0,Jt _,rfl,rfl,Ja (Below.refl _ _)⟩
      case round=>
       rename World=>wv
       obtain⟨i,hi,rfl,rfl,HI⟩:=hrel
       by_cases m:i<p.data.length
       ·have a6:(i:Int)<(p.data.length:Int):=Zo;obtain⟨x',d7⟩:∃x',p.data[i]? =some x':=⟨_,Jd m⟩
        have f6:=HZ.out.1.trans (HI.out.mono HZ.out.1.size);obtain⟨db,dq,rfl,s1,d0,d1,d2,f5,k6,k0⟩:=(HX.out.1.below f6).prog.data.get d7;obtain⟨D,hD⟩:∃D,wv.alloc (A #[I x'.bank,.int .u16 (x'.addr:Int),.int .u16 (x'.size:Int)] 55)=D:=⟨_,rfl⟩
        have l2:Below wv.heap.size wv D:=by rw[<-hD];exact(Below.refl _ _).alloc (Je _) _
        have hq:=zI (W:=wv) (o:=A #[I x'.bank,.int .u16 (x'.addr:Int),.int .u16 (x'.size:Int)] 55) rfl;rw[hD] at hq;have g:=Ja (Jb d7 (Jb m (Jb l2 (Jb hq (Jb f6 (Jb f5 (Jb k6 k0)))))));clear d7 m l2 hq f6 f5 k6 k0;go_upto_region 21 with fail;have u:=(age p.data R a0.out.1 q.out.1 HF.out.1).2;rw[<-q.out.2.2.2,l9.out,HF.out.2.2.2.2.2.2.1] at u;have b4:=(Jh.1 u).1;obtain⟨zg,p5,ez,q0,g8⟩:=HX.out.2.2.2.1.form Zo;cases ez;have b3:=g.out.2.2.2.2.1.trans (g.out.2.2.1.mono g.out.2.2.2.2.1.size);have y1:U D zg at' (I z):=(b3.cell (p:=⟨zg,at',none⟩) g8).trans ((HX.out.2.2.2.1.cellAt at' Zo).trans (by rw[Jr,u];rfl))
        have zb:U D tz 2 (I y):=by
         have h1:=zH (HI.out.trans (g.out.2.2.1.mono HI.out.size)) HZ.out.2 (lt_of_block HZ.out.2);rw[<-HF.out.2.1];exact zA h1 rfl
        have c8:Q D rb (R.flatMap xe).toArray 48:=by
         have h1:=H4.out.1.trans (a3.out.mono H4.out.1.size);exact zH (h1.trans (b3.mono h1.size)) HF.out.2.2.2.2.2.1 (lt_of_block HF.out.2.2.2.2.2.1)
        have g4:R[y]? =some a:=by
         have:=HF.out.2.2.1;rw[Jj,Jd a4] at this;rw[Jd a4];exact congrArg some this
        have r0:U D rb (y*2) (.int .u16 (a.lo:Int)):=by
         have:=oW (f:=xe) (n:=2) (fun _=>rfl) c8 g4 (j:=0) rfl;rw[Ng,Uk] at this;exact this
        have r1:U D rb (y*2+1) (.int .u16 (a.hi:Int)):=by
         have:=oW (f:=xe) (n:=2) (fun _=>rfl) c8 g4 (j:=1) rfl;rw[Ng] at this;exact this
        have d0:U D wv.heap.size 0 (I x'.bank):=zA g.out.2.2.2.1 rfl;have d1:U D wv.heap.size 1 (.int .u16 (x'.addr:Int)):=zA g.out.2.2.2.1 rfl;have d2:U D wv.heap.size 2 (.int .u16 (x'.size:Int)):=zA g.out.2.2.2.1 rfl;have dl:=lt_of_block g.out.2.2.2.1;have el:=Jy (lt_of_block HZ.out.2) (Jn HI.out.size g.out.2.2.1.size);have fl:=lt_of_block c8;have gl:=Jy g8 b3.size;have g3:=HF.out.2.2.2.1;have s3:=g3.1;have s2:=g3.2;have q4:x'.addr<65536:=by have:=g.out.2.2.2.2.2.2.1;omega
        have q3:x'.size<65536:=by have:=g.out.2.2.2.2.2.2.2;omega
        have q2:(y:Int)<(R.length:Int):=Zo;have p3:at'<S.length:=b4;have p4:(at':Int)<(S.length:Int):=Zo;have w1:IntKind.i64.wrap ((a.hi:Int)+z)=(a.hi:Int)+z:=Om _ Zo;have w2':IntKind.i64.wrap ((x'.addr:Int)+(x'.size:Int))=(x'.addr:Int)+(x'.size:Int):=Om _ Zo;have w3:IntKind.i64.wrap (a.hi:Int)=(a.hi:Int):=Om _ Zo;have e6:=ae7 x' a z (p.data.take i) 0 (-1);rw[Oc,Ud (Qd g.out.2.1),Ub] at e6;have h8:p.data.take (i+1)=p.data.take i++ [x']:=by rw[Nh,g.out.1];rfl
        have a2:=Ja (show qf (p.data.take (i+1)) 0 (-1) a z=if j5 a z x' then(i:Int) else qf (p.data.take i) 0 (-1) a z by rw[h8];exact e6);have d4:=Ja (HI.out.trans (g.out.2.2.1.mono HI.out.size));clear u b4 e6 h8 g4 c8 g3 b3;generalize qf (p.data.take i) 0 (-1) a z=L0 at *
        by_cases k1:x'.bank=-1
        ·have i0:(x'.bank==-1)=true:=by rw[k1];rfl
         by_cases k2:x'.addr<=a.lo
         ·have i1:decide ((x'.addr:Int)<=(a.lo:Int))=true:=decide_eq_true Zo;have m4:decide (x'.addr<=a.lo)=true:=decide_eq_true k2
          by_cases k3:(a.hi:Int)+z<=(x'.addr:Int)+x'.size
          ·have i2:decide ((a.hi:Int)+z<=(x'.addr:Int)+(x'.size:Int))=true:=decide_eq_true k3;have a1:=Ja (show qf (p.data.take (i+1)) 0 (-1) a z=(i:Int) by rw[a2.out,if_pos ⟨k1,k2,k3⟩]);clear a2;go_quiet (fail);go_wp2;go_roundw
           case rel=>exact⟨i+1,g.out.2.1,by rw[a1.out],by go_num,Ja (yC d4.out)⟩
           case measure=>have:=g.out.2.1;simp[intOf];omega
          ·have i2:decide ((a.hi:Int)+z<=(x'.addr:Int)+(x'.size:Int))=false:=decide_eq_false k3;have a1:=Ja (show qf (p.data.take (i+1)) 0 (-1) a z=L0 by rw[a2.out,if_neg (fun h=>k3 h.2.2)]);clear a2;go_quiet (fail);go_wp2;go_roundw
           case rel=>exact⟨i+1,g.out.2.1,by rw[a1.out],by go_num,Ja (yC d4.out)⟩
           case measure=>have:=g.out.2.1;simp[intOf];omega
         ·have i1:decide ((x'.addr:Int)<=(a.lo:Int))=false:=decide_eq_false Zo;have m4:decide (x'.addr<=a.lo)=false:=decide_eq_false k2;have a1:=Ja (show qf (p.data.take (i+1)) 0 (-1) a z=L0 by rw[a2.out,if_neg (fun h=>k2 h.2.1)]);clear a2;go_quiet (fail);go_wp2;go_roundw
          case rel=>exact⟨i+1,g.out.2.1,by rw[a1.out],by go_num,Ja (yC d4.out)⟩
          case measure=>have:=g.out.2.1;simp[intOf];omega
        ·have i0:(x'.bank==-1)=false:=by rw[beq_eq_false_iff_ne];exact k1
         have a1:=Ja (show qf (p.data.take (i+1)) 0 (-1) a z=L0 by rw[a2.out,if_neg (fun h=>k1 h.1)]);clear a2;go_quiet (fail);go_wp2;go_roundw
         case rel=>exact⟨i+1,g.out.2.1,by rw[a1.out],by go_num,Ja (yC d4.out)⟩
         case measure=>have:=g.out.2.1;simp[intOf];omega
       ·obtain rfl:i=p.data.length:=by omega
        have a6:¬(p.data.length:Int)<(p.data.length:Int):=Zo;clear m;have u:=age p.data R a0.out.1 q.out.1 HF.out.1;rw[<-q.out.2.2.2] at u
        have g6:O[at']? =some (mc p.data 0 a z):=by
         rw[<-d3.out.2,agr d.out.2.1 d.out.1,<-HF.out.2.2.2.2.1,u.1];unfold afy;rw[HF.out.2.1,Ni,HF.out.2.2.1,HF.out.2.2.2.2.2.2.1]
        have b4:=(Jh.1 g6).1;obtain⟨og,oc',eo,r5,f0⟩:=HX.out.2.2.1.form Zo;cases eo;have b2:=HZ.out.1.trans (HI.out.mono HZ.out.1.size);have y0:U wv og at' (I (mc p.data 0 a z)):=(b2.cell (p:=⟨og,at',none⟩) f0).trans ((HX.out.2.2.1.cellAt at' Zo).trans (by rw[Jr,g6];rfl));have o6:at'<S.length:=by rw[<-o1.out];exact b4
        have q1:=Jy f0 b2.size;rw[Nl,last_obj d.out.2.1 HF.out.2.2.2.1 h0.1];have o5:(mc p.data 0 a z !=mc p.data 0 a z)=false:=by simp
        have o4:=Ja (show Below w5.heap.size w5 wv from b2);clear u g6 b2;generalize mc p.data 0 a z=G at *;go_wp2_with fail;go_roundw
        case rel=>exact⟨j+1,at'+1,q.out.2.2.1,by go_num,by go_num,Ja ⟨by rw[yl q.out.1,<-Nv,agC HF.out.1,Jk,<-q.out.2.2.2];rfl,o4.out⟩⟩
        case measure=>have:=q.out.2.2.1;simp[intOf];omega
     ·have a8:p6 o=false:=by
       unfold p6;rw[q.out.2.1]
       by_cases h:18<=c
       ·rw[decide_eq_false (show ¬c<=21 by omega),Uh]
       ·rw[decide_eq_false h,Bool.false_and]
      have HA:=Ja (szL_no (l:=(bl.take k).flatMap (·.ops)++b.ops.take j) a8)
      by_cases l7:c<18
      ·have d1:decide (c<18)=true:=decide_eq_true l7;clear a8 b5;go_wp2;go_roundw
       case rel=>exact⟨j+1,at',q.out.2.2.1,rfl,by go_num,Ja (by rw[yl q.out.1,<-Nv,HA.out];exact⟨q.out.2.2.2,HZ.out.1⟩)⟩
       case measure=>have:=q.out.2.2.1;simp[intOf];omega
      ·have d1:decide (c<18)=false:=decide_eq_false l7;have d2:decide (21<c)=true:=decide_eq_true Zo;clear a8 b5;go_wp2;go_roundw
       case rel=>exact⟨j+1,at',q.out.2.2.1,rfl,by go_num,Ja (by rw[yl q.out.1,<-Nv,HA.out];exact⟨q.out.2.2.2,HZ.out.1⟩)⟩
       case measure=>have:=q.out.2.2.1;simp[intOf];omega
    ·obtain rfl:j=b.ops.length:=by omega
     have a6:¬(b.ops.length:Int)<(b.ops.length:Int):=Zo;clear m;go_wp2;go_roundw
     case rel=>exact⟨k+1,at',a0.out.2.1,rfl,by go_num,Ja (by rw[gw a0.out.1];have h:=HJ.out;rw[Nl] at h;exact h)⟩
     case measure=>have:=a0.out.2.1;simp[intOf];omega
  ·obtain rfl:k=bl.length:=by omega
   have a6:¬(bl.length:Int)<(bl.length:Int):=Zo;clear m;go_wp2;go_ret;exact⟨rfl,HX.out.2.2.2.2.trans (HK.out.2.mono HX.out.2.2.2.2.size)⟩
end Go.Proofs.Ytoahcpkibpomcaa
