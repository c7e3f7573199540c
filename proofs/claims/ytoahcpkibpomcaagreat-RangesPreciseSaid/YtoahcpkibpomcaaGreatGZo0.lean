/- Part of a proof. -/
import Derived.Test.YtoahcpkibpomcaaGreatGMkS
import Derived.Deep.MidRow
set_option linter.all false
set_option maxHeartbeats 800000
namespace Go.Proofs.YtoahcpkibpomcaaGreat
open Go.RowKit
variable {c g i j k:Nat}{bl blocks f':List IBlk}{d d':wO}{w w':World}{l:List Int}{o:IOp}{t:ITerm}{M M1:MS}{k':Int}{b':IBlk}{P':Nat->Prop}
def okS (n:Nat)(s:Int):Bool:=decide (0<=s) && decide (s<(n:Int))
theorem tm {α:Type}(p:α->Bool)(l:List α)(k:Nat)(x:α)(h:l[k]? =some x)(hp:(l.take k).all p=true)(c:p x=true):(l.take (k+1)).all p=true:=by
 rw[Nh,h];simp[hp,c]
theorem vU {α:Type}(p:α->Bool)(l:List α)(k:Nat)(x:α)(h:l[k]? =some x)(c:p x=false):l.all p=false:=by
 rw[Um];exact⟨x,Ji h,by simp[c]⟩
theorem lR (w:World)(sv:Value)(g:List (List Int))(B:Nat)(hB:B<=w.heap.size)(h:aaB zN w B sv g)(hn:g.length<=2000000)(hr:∀row∈g,row.length<=2000000):
 A 93 #[.agg #[sv]] w fun e w'=>e=.returned (.bool (decide (0<g.length) && pB g))/\O w w':=by
 obtain⟨a,a0,rfl,b0⟩:=h.form;have HR:=Ja hr;clear hr;have c:O w (w.alloc (G #[.slice a g.length a0] 105)):=(Below.refl _ _).alloc (Je _) _;go_enter Tryz.func93,Tryz.ntmps93;go_wp2
 go_loop [10] (fun i=>∃k:Nat,k<=g.length/\i=I k/\(g.take k).all (fun l=>l.all (okS g.length))=true) (fun i=>g.length-(intOf i).toNat)
 case atStart=>exact⟨0,Jt _,rfl,by simp⟩
 case round=>
  obtain⟨k,hk,rfl,y⟩:=hrel;have HA:=Ja y;clear y
  by_cases a6:k<g.length
  ·obtain⟨row,d⟩:∃row,g[k]? =some row:=⟨_,Jd a6⟩
   obtain⟨b,o,a2,a5,rfl,hb,hc,a7,hx⟩:=h.row d;have hrl:=HR.out row (Ji d);have b5:T (w.alloc (G #[.slice (some ⟨b,o,none⟩) g.length a0] 105)) b (o+k) (.slice a2 row.length a5):=(c.cell (p:=⟨b,o+k,none⟩) (show b<w.heap.size by omega)).trans hc;have m:=Ja d;clear d;have HX:=Ja hx;clear hx h hc;have a9:(k:Int)<g.length:=Zo;go_wp2
   go_loop [16] (fun i=>∃j:Nat,j<=row.length/\i=I j/\(row.take j).all (okS g.length)=true) (fun i=>row.length-(intOf i).toNat)
   case atStart=>exact⟨0,Jt _,rfl,by simp⟩
   case round=>
    obtain⟨j,hj,rfl,q⟩:=hrel;have a3:=Ja q;clear q
    by_cases a4:j<row.length
    ·obtain⟨x,t⟩:∃x,row[j]? =some x:=⟨_,Jd a4⟩
     obtain⟨b2,o2,rfl,b6,u⟩:=HX.out j x t;simp only[zN] at u;have b4:T (w.alloc (G #[.slice (some ⟨b,o,none⟩) g.length a0] 105)) b2 (o2+j) (I x):=(c.cell (p:=⟨b2,o2+j,none⟩) (show b2<w.heap.size by omega)).trans u;have a1:=Ja t;clear t u;have a8:(j:Int)<row.length:=Zo
     by_cases b3:x<0
     ·have hf:pB g=false:=vU _ g k row m.out (vU _ row j x a1.out (by simp[okS];omega));have HF:=Ja hf;clear hf;go_wp2;go_ret;exact⟨by rw[HF.out];simp,c⟩
     ·by_cases b1:x<g.length
      ·go_wp2
       go_round
       case rel=>exact⟨j+1,by omega,by go_num,tm _ row j x a1.out a3.out (by simp[okS];omega)⟩
       case measure=>simp[intOf];omega
      ·have hf:pB g=false:=vU _ g k row m.out (vU _ row j x a1.out (by simp[okS];omega));have HF:=Ja hf;clear hf;go_wp2;go_ret;exact⟨by rw[HF.out];simp,c⟩
    ·go_wp2
     go_round
     case rel=>exact⟨k+1,by omega,by go_num,tm _ g k row m.out HA.out (by have:=a3.out;rwa [Oy Zo] at this)⟩
     case measure=>simp[intOf];omega
  ·have hf:pB g=true:=by have:=HA.out;rwa [Oy Zo] at this
   have HF:=Ja hf;clear hf;go_wp2;go_ret;exact⟨by rw[HF.out];simp,c⟩
def rR (o:IOp):List Int:=(if(zi o.code).a then [o.a] else [])++(if(zi o.code).b then [o.b] else [])++o.args
def ut (t:ITerm):Bool:=decide (t.kind=2)||(decide (t.kind=3)||decide (t.kind=4) && decide (t.a≠-1))
def mE (t:ITerm):List Int:=(if ut t then [t.a] else [])++(t.to.map (·.args)).flatten
def zy (blocks:List IBlk):List (List Nat):=blocks.map fun b=>b.term.to.map fun e=>e.block.toNat
def yy (d:wO)(g:List (List Nat))(i k:Int)(v:Int):Bool:=
 match d.1 v,d.2 v with
 |some b,some a=>!(decide (b=i) && decide (k<=a)) && wE g b.toNat i.toNat
 |_,_=>false
def xF (d:wO)(g:List (List Nat))(i:Int):List IOp->Int->Bool
 | [],_=>true
 |o::os,k=>(rR o).all (yy d g i k) && xF d g i os (k+1)
def aaC (d:wO)(g:List (List Nat))(b:IBlk)(i:Int):Bool:=xF d g i b.ops 0 && (mE b.term).all (yy d g i b.ops.length)
def tO (d:wO)(g:List (List Nat)):List IBlk->Int->Bool
 | [],_=>true
 |b::bs,i=>aaC d g b i && tO d g bs (i+1)
def iM (blocks:List IBlk)(d:wO):Bool:=decide ((vD (zy blocks)).length=blocks.length) && tO d (zy blocks) blocks 0
def yi (p:IProg)(n:Nat):Bool:=
 match p.funcs.getD n [] with
 | []=>true
 |b::bs=>decide ((b.params.length:Int)=p.args.getD n 0) && ((wg p (b::bs)).map (iM (b::bs))).getD false
def vC (p:IProg):Int:=if sR p≠0 then sR p else if(List.range p.funcs.length).all (yi p) then 0 else 51
theorem uX {i:Int}:∀(l m:List Int) (d:wO),vJ i (l++m) d=(vJ i l d).bind (vJ i m)
 | [],m,d=>rfl
 |v::l,m,d=>by
  show(rB d v i (-1)).bind (vJ i (l++m))=((rB d v i (-1)).bind (vJ i l)).bind (vJ i m)
  cases rB d v i (-1) with
  |none=>rfl
  |some d'=>exact uX l m d'
theorem nF{p:IProg}{i:Int}{b:IBlk}(h:pS p blocks i b d=some d'):ro blocks b.term=true/\∃d1,vJ i b.params d=some d1/\sS p i b.ops 0 d1=some d':=by
 unfold pS at h
 cases h1:vJ i b.params d with
 |none=>rw[h1] at h;cases h
 |some d1=>
  rw[h1,Nw] at h
  cases h2:sS p i b.ops 0 d1 with
  |none=>rw[h2] at h;cases h
  |some d2=>
   rw[h2,Nw] at h
   split at h
   ·cases h;exact⟨‹_›,d1,rfl,h2⟩
   ·cases h
theorem nk {p:IProg}{i:Int}:∀(os:List IOp) (k:Int) (d d':wO),sS p i os k d=some d'->∀o∈os,opF p o=true
 | [],_,_,_,_,o,ho=>by cases ho
 |x::os,k,d,d',h,o,ho=>by
  unfold sS at h
  split at h
  ·rename_i hx
   rcases Jq.1 ho with rfl|ho
   ·exact hx
   ·split at h
    ·cases h1:rB d x.res i k with
     |none=>rw[h1] at h;cases h
     |some d1=>rw[h1,Nw] at h;exact nk os _ _ _ h o ho
    ·exact nk os _ _ _ h o ho
  ·cases h
theorem rV{p:IProg}:∀(bs:List IBlk) (i:Int) (d d':wO),uH p blocks bs i d=some d'->∀b∈bs,(∀o∈b.ops,opF p o=true)/\ro blocks b.term=true
 | [],_,_,_,_,b,hb=>by cases hb
 |x::bs,i,d,d',h,b,hb=>by
  unfold uH at h
  cases h1:pS p blocks i x d with
  |none=>rw[h1] at h;cases h
  |some d1=>
   rw[h1,Nw] at h;rcases Jq.1 hb with rfl|hb
   ·obtain⟨h2,d2,_,h3⟩:=nF h1;exact⟨nk _ _ _ _ h3,h2⟩
   ·exact rV bs _ _ _ h b hb
theorem tF {p:IProg}{n:Nat}{b:IBlk}{bs:List IBlk}(hf:p.funcs[n]? =some (b::bs))(h:yi p n=true):
 (b.params.length:Int)=p.args.getD n 0/\∃d,wg p (b::bs)=some d/\iM (b::bs) d=true:=by
 unfold yi at h;rw[Jj,hf,Ot] at h;simp only[Jm,decide_eq_true_eq] at h;obtain⟨h1,h2⟩:=h;refine⟨h1,?_⟩
 cases h3:wg p (b::bs) with
 |none=>rw[h3] at h2;cases h2
 |some d=>rw[h3] at h2;exact⟨d,rfl,h2⟩
theorem se {p:IProg}(h:sR p=0):(p.funcs.length<=2000/\p.data.length<=512/\p.banks.length<=64)/\p.args.length=p.funcs.length/\p.args.all tX=true/\yw p p.entry=true/\(p.handler≠-1->yw p p.handler=true)/\wB p=true:=by
 unfold sR at h
 split at h
 ·omega
 split at h
 ·omega
 split at h
 ·omega
 split at h
 ·omega
 split at h
 ·omega
 rename_i h1 h2 h3 c g
 refine⟨by omega,by simpa using h2,by simpa using h3,?_,?_,by simpa using g⟩
 ·simpa using fun e=>c (.inl e)
 ·intro d
  simpa using fun e=>c (.inr ⟨d,e⟩)
theorem rz {p:IProg}(h:vC p=0):sR p=0/\∀n,n<p.funcs.length->yi p n=true:=by
 unfold vC at h
 split at h
 ·rename_i h1;exact absurd h h1
 ·rename_i h1
  refine⟨by omega,?_⟩
  split at h
  ·rename_i h2
   intro n c;exact Oe.1 h2 n (Ol.2 c)
  ·omega
end Go.Proofs.YtoahcpkibpomcaaGreat
set_option maxRecDepth 8000
namespace Go.Proofs.YtoahcpkibpomcaaGreat
variable {c g i j k:Nat}{bl blocks f':List IBlk}{d d':wO}{w w':World}{l:List Int}{o:IOp}{t:ITerm}{M M1:MS}{k':Int}{b':IBlk}{P':Nat->Prop}
theorem bB (out:Int)(st:List Bool×List Nat)(s:Nat):(ua out st s).1.length=st.1.length/\(ua out st s).2.length+ey (ua out st s).1=st.2.length+ey st.1:=by
 unfold ua
 by_cases h:(s:Int)≠out/\st.1[s]? =some false
 ·rw[if_pos h];have:=dN h.2;refine⟨by simp,?_⟩;simp only[Jk,Ju];omega
 ·rw[if_neg h];exact⟨rfl,rfl⟩
theorem dS (out:Int):∀(l:List Nat) (st:List Bool×List Nat),(l.foldl (ua out) st).1.length=st.1.length/\(l.foldl (ua out) st).2.length+ey (l.foldl (ua out) st).1=st.2.length+ey st.1
 | [],_=>⟨rfl,rfl⟩
 |s::l,st=>by
  have h1:=bB out st s;have h2:=dS out l (ua out st s);rw[Qk];omega
open Go.RowKit Go.Shelf
theorem bH{d n:Nat}{e:TypeId}{xs:List Value}{x:Value}(h:w.ownsRow d e 1 (Y g (n+1) c) (n+1) (xs++ [x])):w.ownsRow d e 1 (Y g n c) n xs:=by
 have hl:=h.1;simp only[Jk,Ju,Nk] at hl;refine⟨by omega,.inr ?_⟩;rcases h.2 with⟨hv,_⟩|⟨g',k,cur,hv,hg,j,h1,h2,h3,i⟩
 ·cases hv
 ·cases hv;refine⟨g,c,cur,rfl,hg,j,by omega,h2,h3,?_⟩;have:(cur.toList.take (n+1)).take n=(xs++ [x]).take n:=by rw[Nk] at i;rw[i]
  rw[List.take_take,Ud Zo,List.take_append_of_le_length Zo,Oy (l:=xs) Zo] at this;rw[Nk];exact this
end Go.Proofs.YtoahcpkibpomcaaGreat
set_option maxRecDepth 8000
namespace Go.Proofs.YtoahcpkibpomcaaGreat
open Go.RowKit
variable {c g i j k:Nat}{bl blocks f':List IBlk}{d d':wO}{w w':World}{l:List Int}{o:IOp}{t:ITerm}{M M1:MS}{k':Int}{b':IBlk}{P':Nat->Prop}
theorem dZ {g:List (List Nat)}(hv:zw g){fr:Nat}(c:fr<g.length)(out:Int){x:Nat}(d:x<g.length):(ie g fr out)[x]? =some (nc g fr out x):=by
 have hl:x<(ie g fr out).length:=by rw[de hv c];exact d
 unfold nc;rw[Jj,Jd hl];rfl
theorem uI {p:IProg}{i:Int}:∀(l m:List IOp) (k:Int) (d:wO),sS p i (l++m) k d=(sS p i l k d).bind (sS p i m (k+l.length))
 | [],m,k,d=>by simp[sS]
 |o::l,m,k,d=>by
  have e:k+1+(l.length:Int)=k+((o::l).length:Int):=by simp;omega
  show(if opF p o then(if 0<=o.res then(rB d o.res i k).bind (sS p i (l++m) (k+1)) else sS p i (l++m) (k+1) d) else none)=(if opF p o then(if 0<=o.res then(rB d o.res i k).bind (sS p i l (k+1)) else sS p i l (k+1) d) else none).bind _
  by_cases h:opF p o=true
  ·rw[if_pos h,if_pos h]
   by_cases h2:0<=o.res
   ·rw[if_pos h2,if_pos h2]
    cases rB d o.res i k with
    |none=>rfl
    |some d'=>rw[Nw,Nw,uI l m,e]
   ·rw[if_neg h2,if_neg h2,uI l m,e]
  ·rw[if_neg h,if_neg h];rfl
theorem ui{p:IProg}:∀(l m:List IBlk) (i:Int) (d:wO),uH p bl (l++m) i d=(uH p bl l i d).bind (uH p bl m (i+l.length))
 | [],m,i,d=>by simp[uH]
 |b::l,m,i,d=>by
  have e:i+1+(l.length:Int)=i+((b::l).length:Int):=by simp;omega
  show(pS p bl i b d).bind (uH p bl (l++m) (i+1))=((pS p bl i b d).bind (uH p bl l (i+1))).bind _
  cases pS p bl i b d with
  |none=>rfl
  |some d'=>rw[Nw,Nw,ui l m,e]
theorem sD{α:Type}{l:List α}{x:α}(h:l[k]? =some x):l=l.take k++x::l.drop (k+1):=by
 rw[Jh] at h;obtain⟨hk,rfl⟩:=h
 conv=>lhs;rw[<-Qi k l,Qn hk]
theorem vS{α:Type}{l:List α}{x:α}(h:l[k]? =some x):((l.take k).length:Int)=k:=by
 have:=(Jh.1 h).1;rw[Oc,Ud Zo]
theorem aC{i:Int}{v:Int}(h:l[k]? =some v)(c:vJ i (l.take k) d=some d'):vJ i (l.take (k+1)) d=rB d' v i (-1):=by
 rw[Nh,h,Option.toList,uX,c,Nw]
 show(rB d' v i (-1)).bind (vJ i [])=_
 cases rB d' v i (-1)<;>rfl
theorem qr{i:Int}{v:Int}(h:l[k]? =some v)(g:vJ i (l.take k) d=some d')(c:rB d' v i (-1)=none):vJ i l d=none:=by
 rw[sD h,uX,g,Nw]
 show(rB d' v i (-1)).bind _=none
 rw[c];rfl
def ug (p:IProg)(i k:Int)(o:IOp)(d:wO):Option wO:=if opF p o then(if 0<=o.res then rB d o.res i k else some d) else none
theorem dG (p:IProg)(i k:Int)(o:IOp)(os:List IOp)(d:wO):sS p i (o::os) k d=(ug p i k o d).bind (sS p i os (k+1)):=by
 unfold sS ug
 by_cases h:opF p o=true
 ·rw[if_pos h,if_pos h]
  by_cases h2:0<=o.res
  ·rw[if_pos h2,if_pos h2]
  ·rw[if_neg h2,if_neg h2];rfl
 ·rw[if_neg h,if_neg h];rfl
theorem cK{p:IProg}{i:Int}{l:List IOp}(h:l[k]? =some o)(c:sS p i (l.take k) 0 d=some d'):sS p i (l.take (k+1)) 0 d=ug p i k o d':=by
 rw[Nh,h,Option.toList,uI,c,Nw,dG,vS h,Ub];cases ug p i k o d'<;>rfl
theorem oR{p:IProg}{i:Int}{l:List IOp}(h:l[k]? =some o)(g:sS p i (l.take k) 0 d=some d')(c:ug p i k o d'=none):sS p i l 0 d=none:=by
 rw[sD h,uI,g,Nw,dG,vS h,Ub,c];rfl
theorem lQ{p:IProg}{l:List IBlk}{b:IBlk}(h:l[k]? =some b)(c:uH p bl (l.take k) 0 d=some d'):uH p bl (l.take (k+1)) 0 d=pS p bl k b d':=by
 rw[Nh,h,Option.toList,ui,c,Nw,vS h,Ub]
 show(pS p bl k b d').bind (uH p bl [] _)=_
 cases pS p bl k b d'<;>rfl
theorem abe{p:IProg}{l:List IBlk}{b:IBlk}(h:l[k]? =some b)(g:uH p bl (l.take k) 0 d=some d')(c:pS p bl k b d'=none):uH p bl l 0 d=none:=by
 rw[sD h,ui,g,Nw,vS h,Ub]
 show(pS p bl k b d').bind _=none
 rw[c];rfl
def aeG:wO:=(fun _=>none,fun _=>none)
theorem wS (p:IProg)(bl:List IBlk):wg p bl=uH p bl bl 0 aeG:=rfl
def ShpPost (w:World)(C m1 m2:Nat)(pv:List Value)(blv idv:Value)(r:Option wO)(e:Ending)(w':World):Prop:=
 e=.returned (.bool r.isSome)/\Kept m1 m2 w w'/\∀d,r=some d->∃n,n<9000000000000000000/\ChkAt w' C m1 m2 pv blv idv n d
def vZ (blocks:List IBlk):Prop:=blocks.length<=2000000/\∀b∈blocks,b.params.length<=2000000/\b.ops.length<=2000000/\b.term.to.length<=2000000
def mW (p:IProg):Prop:=∀f∈p.funcs,vZ f/\∀b∈f,b.params.length<=65536
theorem uB {α:Type}(f:α->List Value)(n:Nat)(hf:∀a,(f a).length=n):∀(l:List α) (k:Nat) (a:α),l[k]? =some a->∀j,j<n->(l.flatMap f)[k*n+j]? =(f a)[j]?
 | [],k,a,hk,_,_=>by simp at hk
 |x::l,0,a,hk,j,hj=>by
  cases hk
  rw[Qa,Nat.zero_mul,Ng,Np (by rw[hf];exact hj)]
 |x::l,k+1,a,hk,j,hj=>by
  rw[Qa,Nc (by rw[hf,Nat.add_mul];omega),hf];have e:(k+1)*n+j-n=k*n+j:=by rw[Nat.add_mul];omega
  rw[e];exact uB f n hf l k a (by simpa using hk) j hj
theorem oW{α:Type}{f:α->List Value}{n:Nat}(hf:∀a,(f a).length=n){b:Nat}{l:List α}{e:TypeId}(h:L w b (l.flatMap f).toArray e){a:α}(hk:l[k]? =some a){v:Value}(d:(f a)[j]? =some v):
 T w b (0+k*n+j) v:=by
 refine zA h ?_;have c:j<n:=by rw[<-hf a];exact(Jh.1 d).1
 rw[Ng,List.getElem?_toArray,uB f n hf l k a hk j c];exact d
def zU (q:IOp×Value):List Value:=[I q.1.code,I q.1.res,I q.1.a,I q.1.b,U (q.1.n:Int),q.2]
theorem ahQ{B b:Nat}{l:List (IOp×Value)}{e:TypeId}(h:L w b (l.flatMap zU).toArray e)(hb:b<B)(h64:∀q∈l,qN q.1/\zY w B q.2 q.1.args)(hl:l.length<=1000000):
 mN w B (Y b l.length l.length) (l.map (·.1)):=by
 refine⟨_,l.length,by rw[Nr],by rw[Nr];exact Je _,by omega,fun k o hk=>?_⟩;rw[Jr,Oz] at hk;obtain⟨q,d,rfl⟩:=hk;have c:=fun j v (hj:(zU q)[j]? =some v)=>oW (f:=zU) (n:=6) (fun _=>rfl) h d hj
 obtain⟨h1,h2⟩:=h64 q (Ji d);exact⟨b,0,rfl,hb,c 0 _ rfl,c 1 _ rfl,c 2 _ rfl,c 3 _ rfl,c 4 _ rfl,h1,q.2,c 5 _ rfl,h2⟩
def za (q:IEdge×Value):List Value:=[I q.1.block,q.2]
def RetProgO (w:World)(p:IProg)(e:Ending)(w':World):Prop:=
 ∃f1 f2 a1 a2 d1 d2 b1 b2,e=.returned (.agg (R p f1 f2 a1 a2 d1 d2 b1 b2))/\
  ProgIn w' w'.heap.size ⟨.slice f1 p.funcs.length f2,.slice a1 p.args.length a2,.slice d1 p.data.length d2,.slice b1 p.banks.length b2⟩ p/\O w w'
theorem mL.open{p:IProg}{e:Ending}(h:mL w p e w'):RetProgO w p e w':=by
 obtain⟨⟨Vf,Va,Vd,Vb⟩,rfl,hp,hb⟩:=h;obtain⟨f1,f2,e1,_,_⟩:=hp.funcs.form;obtain⟨a1,a2,e2,_,_⟩:=hp.args.form;obtain⟨d1,d2,e3,_,_⟩:=hp.data.form;obtain⟨b1,b2,e4,_,_⟩:=hp.banks.form;simp only at e1 e2 e3 e4;subst e1 e2 e3 e4;exact⟨f1,f2,a1,a2,d1,d2,b1,b2,rfl,hp,hb⟩
def eM (w:World)(R:IRun)(e:Ending)(w':World):Prop:=
 ∃oa oc,e=.returned (.agg #[U (R.value:Int),.slice oa R.out.length oc,I (R.kind:Int),U (R.info:Int),.string (y9 R.ram),I (R.inputs:Int),I (R.polls:Int)])/\vM w' w'.heap.size (.slice oa R.out.length oc) R.out/\O w w'
theorem abr.open{R:IRun}{e:Ending}(h:abr w R e w'):eM w R e w':=by
 obtain⟨ov,rfl,ho,hb⟩:=h;obtain⟨oa,oc,rfl,_,_⟩:=ho.form;exact⟨oa,oc,rfl,ho,hb⟩
theorem uL{ops:List IOp}(h1:ops.length<=2000000)(h2:t.to.length<=2000000):mW (rd t ops):=by
 intro f hf;simp only[rd,Jo] at hf;subst hf;refine⟨⟨by simp,fun b hb=>?_⟩,fun b hb=>?_⟩
 ·rw[Jo] at hb;subst hb;exact⟨by simp,h1,h2⟩
 ·rw[Jo] at hb;subst hb;simp
structure Row where
 v:Value
 e:TypeId
 sz:Nat
 n:Nat
 cs:List Value
def Row.blk (r:Row):Option Nat:=r.v.ownBlock
variable {rs:List Row}
structure Rows (w:World) (B:Nat) (rs:List Row):Prop where
 own:∀r∈rs,w.ownsRow B r.e r.sz r.v r.n r.cs
 nd:(rs.filterMap Row.blk).Nodup
theorem Rows.perm{B:Nat}{rs':List Row}(h:Rows w B rs)(hp:rs.Perm rs'):Rows w B rs':=
 ⟨fun r hr=>h.own r (hp.mem_iff.2 hr),(hp.filterMap Row.blk).nodup_iff.1 h.nd⟩
theorem Rows.lt{B:Nat}(h:Rows w B rs)(hk:k∈rs.filterMap Row.blk):B<=k/\k<w.heap.size:=by
 obtain⟨r,hr,e⟩:=Nj.1 hk;exact(h.own r hr).lt k e
theorem Rows.keep{B:Nat}(h:Rows w B rs)(hk:∀k∈rs.filterMap Row.blk,w'.heap[k]? =w.heap[k]?):Rows w' B rs:=
 ⟨fun r hr=>yD (h.own r hr) (fun k e=>hk k (Nj.2 ⟨r,hr,e⟩)),h.nd⟩
theorem Rows.tail{B:Nat}{r:Row}(h:Rows w B (r::rs)):Rows w B rs:=by
 refine⟨fun x hx=>h.own x (List.mem_cons_of_mem _ hx),?_⟩;have:=h.nd;rw[List.filterMap_cons] at this
 split at this
 ·exact this
 ·exact(Qt.1 this).2
theorem Rows.apart{B:Nat}{r:Row}(h:Rows w B (r::rs))(hg:r.blk=some g):g ∉ rs.filterMap Row.blk:=by
 have:=h.nd;rw[List.filterMap_cons,hg] at this;exact(Qt.1 this).1
theorem Rows.cons{B:Nat}{r:Row}(h:Rows w B rs)(hr:w.ownsRow B r.e r.sz r.v r.n r.cs)(d:∀g,r.blk=some g->g ∉ rs.filterMap Row.blk):Rows w B (r::rs):=by
 refine⟨fun x c=>?_,?_⟩
 ·rcases Jq.1 c with rfl|c
  ·exact hr
  ·exact h.own x c
 ·rw[List.filterMap_cons]
  split
  ·exact h.nd
  ·rename_i g hg
   exact Qt.2 ⟨d g hg,h.nd⟩
theorem Rows.nil{B:Nat}:Rows w B []:=⟨fun r hr=>by simp at hr,by simp⟩
theorem Rows.grow{w1:World}{B:Nat}{r r':Row}(h:Rows w B (r::rs))(hb:O w w1)(hg:w1.grownBy w' r.blk)(c:w'.ownsRow B r'.e r'.sz r'.v r'.n r'.cs)(d:∀k,r'.blk=some k->r.blk=some k∨w.heap.size<=k):Rows w' B (r'::rs):=by
 have ht:Rows w' B rs:=h.tail.keep fun k hk=>(hg.block k (Jy (h.tail.lt hk).2 hb.size) (fun e=>h.apart e.symm hk)).trans (hb.block k (h.tail.lt hk).2)
 refine ht.cons c fun g e hg2=>?_
 rcases d g e with e2|e2
 ·exact h.apart e2 hg2
 ·have:=(h.tail.lt hg2).2;omega
def zP (v:Value)(xs:List Int):Row:=⟨v,3,1,xs.length,xs.map zN⟩
structure B64 (b:IBlk):Prop where
 par:∀x∈b.params,I64 x
 ops:∀o∈b.ops,qN o/\∀x∈o.args,I64 x
 term:I64 b.term.kind/\I64 b.term.a
 tos:∀e∈b.term.to,I64 e.block/\∀x∈e.args,I64 x
structure P64 (p:IProg):Prop where
 funcs:∀f∈p.funcs,∀b∈f,B64 b
 args:∀x∈p.args,I64 x
 data:∀o∈p.data,I64 o.bank/\o.addr<65536/\o.size<65536
 banks:∀s∈p.banks,s.size<=9223372036854775807
 ent:I64 p.entry
 hnd:I64 p.handler
theorem wC{α β:Type}{sz:Nat}{f:β->List Value}{g:β->α}{R:World->Nat->Nat->Nat->α->Prop}(x:0<sz)(hf:∀a,(f a).length=sz){S:Nat}{e:TypeId}{v:Value}{l:List β}(h:w.ownsRow S e sz v l.length (l.flatMap f))
 (t:∀q∈l,∀b o,(∀j u,(f q)[j]? =some u->T w b (o+j) u)->R w w.heap.size b o (g q)):yN sz R w w.heap.size v (l.map g):=by
 obtain⟨a,c,rfl⟩:=zG h;have hl:=zm h;refine⟨a,c,by rw[Nr],by rw[Nr];exact hl.1,by omega,fun k o hk=>?_⟩;rw[Jr,Oz] at hk;obtain⟨q,d,rfl⟩:=hk;have i:=(Jh.1 d).1;obtain⟨gg,y,e,hg,hb⟩:=h.form Zo;cases e;refine⟨gg,0,rfl,hb,t q (Ji d) _ _ fun j u hj=>?_⟩;have m:j<sz:=by rw[<-hf q];exact(Jh.1 hj).1
 rw[Ng]
 exact(h.cellAt (k*sz+j) (by
  have:(k+1)*sz<=l.length*sz:=Qw sz i;rw[Nat.add_mul] at this
  omega)).trans ((uB f sz hf l k q d j m).trans hj)
def aeV (o:IOp):Bool:=decide (18<=o.code) && decide (o.code<=21)
structure GrowP (c:Nat) (M M':MS):Prop where
 pos:M.pos<=M'.pos
 sz:M'.sz<=M.sz+c
 len:M.f.length<=M'.f.length
 nxt:M.next<=M'.next
 pre:M.vals<+:M'.vals
 cur:M.cur<M.f.length->M'.cur<M'.f.length
 left:M'.left<=M.left
 lft:6<=M.left+M.pos->6<=M'.left+M'.pos
 par:xU M.f M'.f
theorem GrowP.refl (M:MS):GrowP 0 M M:=⟨Je _,Je _,Je _,Je _,Od,fun h=>h,Og _,fun h=>h,xU.refl _⟩
theorem GrowP.trans{d:Nat}{M2:MS}(h:GrowP c M M1)(k:GrowP d M1 M2):GrowP (c+d) M M2:=
 ⟨Jn h.pos k.pos,by have:=h.sz;have:=k.sz;omega,Jn h.len k.len,Jn h.nxt k.nxt,h.pre.trans k.pre,fun e=>k.cur (h.cur e),Int.le_trans k.left h.left,fun e=>k.lft (h.lft e),h.par.trans k.par⟩
theorem GrowP.mono{d:Nat}(h:GrowP c M M1)(g:c<=d):GrowP d M M1:= {h with sz:=by have:=h.sz;omega }
theorem Grow.p{M':MS}(h:Grow c M M'):GrowP c M M':=⟨h.pos,h.sz,Ul h.len.symm,h.nxt,h.pre,fun e=>by rw[h.cur,h.len];exact e,Int.le_of_eq h.left,fun e=>by have:=h.left;have:=h.pos;omega,h.par⟩
theorem xM (M:MS)(p:Nat):GrowP (1+p) M (M.block p):=
 ⟨Je _,by rw[sz_block];omega,by unfold MS.block;simp,by unfold MS.block;simp,Od,fun e=>by unfold MS.block;simp;omega,Og _,fun e=>e,qX _ _⟩
theorem vW:∀(n:Nat) (M:MS),GrowP n M (xE n M)
 |0,M=>GrowP.refl M
 |n+1,M=>(vW n M).trans ((xM _ 0).mono Zo)
theorem tB:∀(n:Nat) (M:MS),(xE n M).f.length=M.f.length+n
 |0,M=>rfl
 |n+1,M=>by show((xE n M).f++ [_]).length=_;rw[Jk,tB n M];rfl
theorem yz (M:MS)(p:Nat):(M.block p).f.length=M.f.length+1:=by unfold MS.block;simp
theorem vk (M:MS)(c:Nat)(h:c<M.f.length):GrowP 0 M {M with cur:=c }:=⟨Je _,Je _,Je _,Je _,Od,fun _=>h,Og _,fun e=>e,xU.refl _⟩
theorem dO {α:Type}{l m:List α}(h:l<+:m):l.length<=m.length:=by obtain⟨t,rfl⟩:=h;simp
theorem uF {α:Type}{l m:List α}(h:l<+:m):m.take l.length=l:=by obtain⟨t,rfl⟩:=h;simp
theorem sY(h:GrowP c M M1):GrowP c M {M1 with vals:=M1.vals.take M.vals.length }:=by
 refine⟨h.pos,?_,h.len,h.nxt,by rw[uF h.pre];exact Od,h.cur,h.left,h.lft,h.par⟩;have h1:=h.sz;have h2:=dO h.pre;unfold MS.sz at h1 ⊢;simp only[uF h.pre];omega
def wM (E:ME)(join k:Nat)(M1:MS):MS:=
 if tkV E M1 12=11/\0<k then(zJ E M1.tick).2.endB ⟨4,(zJ E M1.tick).1,[]⟩ else(zJ E M1.tick).2.endB ⟨1,0,[⟨(join:Nat),[(zJ E M1.tick).1]⟩]⟩
theorem su (E:ME)(c k:Nat)(M1:MS):GrowP 5 M1 (wM E c k M1):=by
 have h:=((zT M1).trans (yU E _)).p;unfold wM
 split
 ·exact h.trans (zv _ _).p
 ·exact h.trans (zv _ _).p
theorem rg (E:ME)(c:MS->MS)(tg d keep n k:Nat)(M:MS):uV E c tg d keep (n+1) k M=uV E c tg d keep n (k+1) {wM E d k (c {M with cur:=tg+k }) with vals:=(wM E d k (c {M with cur:=tg+k })).vals.take keep }:=rfl
theorem pF (E:ME)(c:MS->MS)(P:Nat)(i:∀M,GrowP P M (c M))(tg d:Nat):∀(n k:Nat) (M:MS),tg+k+n<=M.f.length->GrowP (n*(P+5)) M (uV E c tg d M.vals.length n k M)/\(uV E c tg d M.vals.length n k M).vals=M.vals
 |0,k,M,h=>⟨(GrowP.refl M).mono Zo,rfl⟩
 |n+1,k,M,h=>by
  rw[rg];have h1:=((vk M (tg+k) Zo).trans ((i _).trans (su E d k (c {M with cur:=tg+k })))).mono (show 0+(P+5)<=P+5 by omega);have h2:=sY h1;have h3:({wM E d k (c {M with cur:=tg+k }) with vals:=(wM E d k (c {M with cur:=tg+k })).vals.take M.vals.length }:MS).vals=M.vals:=uF h1.pre;have g:=pF E c P i tg d n (k+1) {wM E d k (c {M with cur:=tg+k }) with vals:=(wM E d k (c {M with cur:=tg+k })).vals.take M.vals.length } (by have:=h2.len;simp only at this ⊢;omega);rw[h3] at g;refine⟨(h2.trans g.1).mono ?_,g.2⟩;rw[Nat.succ_mul];omega
theorem uU (E:ME)(d:MS->MS)(P:Nat)(j:∀M,GrowP P M (d M))(n:Nat)(i:n<=4)(M:MS):GrowP (31+4*P) M (xi E d n M):=by
 unfold xi;simp only;have h1:=(yU E M).p;generalize zJ E M=c at *;have h2:=(h1.trans (vW n c.2)).trans (xM _ 1);have l2:((xE n c.2).block 1).f.length=c.2.f.length+n+1:=by rw[yz,tB]
 have h3:=h2.trans (zv ((xE n c.2).block 1) ⟨if 2<n then 3 else 2,c.1,xk c.2.f.length n⟩).p;have l3:(((xE n c.2).block 1).endB ⟨if 2<n then 3 else 2,c.1,xk c.2.f.length n⟩).f.length=c.2.f.length+n+1:=(zv _ _).len.trans l2;generalize ((xE n c.2).block 1).endB ⟨if 2<n then 3 else 2,c.1,xk c.2.f.length n⟩=M3 at *;obtain⟨h,k⟩:=pF E d P j c.2.f.length (c.2.f.length+n) n 0 M3 Zo;generalize uV E d c.2.f.length (c.2.f.length+n) M3.vals.length n 0 M3=M4 at *;have g:=h3.trans h;have hm:n*(P+5)<=4*(P+5):=Qw _ i;refine⟨g.pos,?_,g.len,g.nxt,g.pre.trans (Qb _ _),fun e=>?_,g.left,g.lft,g.par⟩
 ·have:=g.sz;unfold MS.sz at this ⊢;simp only[Jk,Ju];omega
 ·have:=h.len
  show c.2.f.length+n<M4.f.length
  omega
theorem qg (E:ME)(c:MS->MS)(P:Nat)(h:∀M,GrowP P M (c M))(M:MS):GrowP (24+P) M (tH E c M):=by
 unfold tH;simp only;have h1:=(((zT M).trans (wT M.tick (tkV E M 5))).trans (yU E _)).p;generalize zJ E (M.tick.num (tkV E M 5))=x at *;have l2:(((x.2.block 2).block 0).block 0).f.length=x.2.f.length+3:=by rw[yz,yz,yz]
 have h2:=((h1.trans (xM _ 2)).trans (xM _ 0)).trans (xM _ 0);have h3:=h2.trans (zv (((x.2.block 2).block 0).block 0) ⟨1,0,[⟨(x.2.f.length:Nat),[(M.next:Int),x.1]⟩]⟩).p;have l3:=(zv (((x.2.block 2).block 0).block 0) ⟨1,0,[⟨(x.2.f.length:Nat),[(M.next:Int),x.1]⟩]⟩).len.trans l2;generalize (((x.2.block 2).block 0).block 0).endB ⟨1,0,[⟨(x.2.f.length:Nat),[(M.next:Int),x.1]⟩]⟩=M2 at *
 have m:GrowP 1 M2 {M2 with cur:=x.2.f.length,vals:=M2.vals++ [((x.2.next+1:Nat):Int)]}:=by
  refine⟨Je _,?_,Je _,Je _,Qb _ _,fun _=>by show x.2.f.length<M2.f.length;omega,Og _,fun e=>e,xU.refl _⟩;unfold MS.sz;simp only[Jk,Ju];omega
 have l:=(h3.trans m).trans (zv {M2 with cur:=x.2.f.length,vals:=M2.vals++ [((x.2.next+1:Nat):Int)]} ⟨2,(x.2.next:Nat),[⟨((x.2.f.length+1:Nat):Int),[]⟩,⟨((x.2.f.length+2:Nat):Int),[]⟩]⟩).p;have l5:=(zv {M2 with cur:=x.2.f.length,vals:=M2.vals++ [((x.2.next+1:Nat):Int)]} ⟨2,(x.2.next:Nat),[⟨((x.2.f.length+1:Nat):Int),[]⟩,⟨((x.2.f.length+2:Nat):Int),[]⟩]⟩).len;have o:(MS.endB {M2 with cur:=x.2.f.length,vals:=M2.vals++ [((x.2.next+1:Nat):Int)]} ⟨2,(x.2.next:Nat),[⟨((x.2.f.length+1:Nat):Int),[]⟩,⟨((x.2.f.length+2:Nat):Int),[]⟩]⟩).f.length=x.2.f.length+3:=l5.trans l3;generalize MS.endB {M2 with cur:=x.2.f.length,vals:=M2.vals++ [((x.2.next+1:Nat):Int)]} ⟨2,(x.2.next:Nat),[⟨((x.2.f.length+1:Nat):Int),[]⟩,⟨((x.2.f.length+2:Nat):Int),[]⟩]⟩=M3 at *;have k:=(vk M3 (x.2.f.length+1) Zo).trans (h _);have j:=k.trans (wT (c {M3 with cur:=x.2.f.length+1 }) 1).p;generalize c {M3 with cur:=x.2.f.length+1 }=M4 at *;have i:=(j.trans (yB (M4.num 1) ⟨6,0,(x.2.next:Nat),(M4.next:Nat),0,[]⟩).p).trans (yU E _).p;generalize zJ E ((M4.num 1).emit ⟨6,0,(x.2.next:Nat),(M4.next:Nat),0,[]⟩)=y at *;have g:=sY (i.trans (zv y.2 ⟨1,0,[⟨(x.2.f.length:Nat),[((M4.next+1:Nat):Int),y.1]⟩]⟩).p);generalize q:y.2.endB ⟨1,0,[⟨(x.2.f.length:Nat),[((M4.next+1:Nat):Int),y.1]⟩]⟩=M6 at *;have d:=g.len;simp only at d;exact((l.trans g).trans (vk {M6 with vals:=M6.vals.take M3.vals.length } (x.2.f.length+2) (by show x.2.f.length+2<M6.f.length;omega))).mono Zo
theorem oL (E:ME)(c:∀x∈E.args,0<=x/\x<4)(M:MS):GrowP 101 M (tR E M):=by
 unfold tR;simp only;have hk:=aaE E M (n:=5) Zo;have h1:=(zT M).trans (pw E c (tkV E M 5+1) M.tick);have h2:=(pw E c (tkV E M 5+1) M.tick)
 have h3:=h1.p;refine⟨h3.pos,?_,h3.len,h3.nxt,h3.pre,h3.cur,by have:=h3.left;show _-1<=M.left;omega,fun e=>?_,h3.par⟩
 ·have:=h3.sz;unfold MS.sz at this ⊢;simp only;omega
 ·have e1:=h1.left;have e2:=h2.pos;have e3:M.tick.pos=M.pos+1:=rfl
  show 6<=(qY E (tkV E M 5+1) M.tick).left-1+(((qY E (tkV E M 5+1) M.tick).pos:Nat):Int)
  omega
def pC:Nat->Nat
 |0=>101
 |d+1=>134+4*pC d
theorem xw (E:ME)(g:∀x∈E.args,0<=x/\x<4):∀(d:Nat) (M:MS),GrowP (pC d) M (zp E d M)
 |0,M=>oL E g M
 |d+1,M=>by
  unfold zp;simp only;have h1:=oL E g M;generalize tR E M=M2 at *;have c:=xw E g d;have h0:pC (d+1)=134+4*pC d:=rfl;have ht:=(zT M2).p;have h:=(zT M2.tick).p
  split
  ·exact h1.mono Zo
  split
  ·exact((h1.trans ht).trans (uU E _ _ c 2 Zo _)).mono Zo
  split
  ·exact((h1.trans ht).trans (qg E _ _ c _)).mono Zo
  split
  ·have:=aaE E M2.tick (n:=3) Zo;exact(((h1.trans ht).trans h).trans (uU E _ _ c (2+tkV E M2.tick 3) Zo _)).mono Zo
  ·exact(h1.trans ht).mono Zo
def fB (f:List IBlk)(v:Int)(i:Nat)(k:Int):Prop:=
 ∃b,f[i]? =some b/\((k=-1/\v∈b.params)∨∃(j:Nat) (o:IOp),k=(j:Int)/\b.ops[j]? =some o/\o.res=v/\0<=v)
def m6 (f f':List IBlk):Prop:=
 ∀(i:Nat) (b:IBlk),f[i]? =some b->∃b',f'[i]? =some b'/\b'.params=b.params/\b.ops<+:b'.ops/\(b.term.to=[]∨b'.term=b.term)
theorem m6.refl (f:List IBlk):m6 f f:=fun i b h=>⟨b,h,rfl,Od,.inr rfl⟩
theorem aaS{α:Type}{l m:List α}(h:l<+:m){x:α}(c:l[j]? =some x):m[j]? =some x:=by
 obtain⟨t,rfl⟩:=h;rw[Np (Jh.1 c).1];exact c
theorem fB.ext{f:List IBlk}(d:m6 f f'){v:Int}{k:Int}(h:fB f v i k):fB f' v i k:=by
 obtain⟨b,hb,l⟩:=h;obtain⟨b',c,hp,ho,_⟩:=d i b hb;refine⟨b',c,?_⟩;rcases l with⟨rfl,hv⟩|⟨j,o,rfl,g,hr,h0⟩
 ·exact .inl ⟨rfl,by rw[hp];exact hv⟩
 ·exact .inr ⟨j,o,rfl,aaS ho g,hr,h0⟩
inductive Abv (pl:List Nat):Nat->Nat->Prop
 |refl (i:Nat):Abv pl i i
 |up {b i u:Nat}:pl[i]? =some u->0<i->Abv pl b u->Abv pl b i
theorem Abv.ext{pl c:List Nat}(hp:pl<+:c){b:Nat}(h:Abv pl b i):Abv c b i:=by
 induction h with
 |refl=>exact .refl _
 |up h0 h1 _ ih=>exact .up (aaS hp h0) h1 ih
theorem Abv.trans{pl:List Nat}{a b:Nat}(h:Abv pl a b)(k:Abv pl b c):Abv pl a c:=by
 induction k with
 |refl=>exact h
 |up h0 h1 _ ih=>exact .up h0 h1 ih
theorem Abv.le{pl:List Nat}(hp:∀i u,pl[i]? =some u->0<i->u<i){b:Nat}(h:Abv pl b i):b<=i:=by
 induction h with
 |refl=>exact Je _
 |up h0 h1 _ ih=>have:=hp _ _ h0 h1;omega
def Kn (f:List IBlk)(pl:List Nat)(v:Int)(i:Nat)(k:Int):Prop:=∃(b:Nat) (a:Int),fB f v b a/\Abv pl b i/\(b=i->a<k)
theorem Kn.ext{f:List IBlk}{pl c:List Nat}(d:m6 f f')(hp:pl<+:c){v:Int}{k:Int}(hk:k<=k')(h:Kn f pl v i k):Kn f' c v i k':=by
 obtain⟨b,a,h1,h2,h3⟩:=h;exact⟨b,a,h1.ext d,h2.ext hp,fun e=>by have:=h3 e;omega⟩
def gB (f:List IBlk)(pl:List Nat)(i:Nat)(e:IEdge):Prop:=
 ∃(s u:Nat) (bs:IBlk),e.block=(s:Int)/\0<s/\f[s]? =some bs/\e.args.length=bs.params.length/\pl[s]? =some u/\Abv pl u i
theorem gB.ext{f:List IBlk}{pl c:List Nat}(j:m6 f f')(hp:pl<+:c){e:IEdge}(h:gB f pl i e):gB f' c i e:=by
 obtain⟨s,u,bs,h1,h2,h3,m,l,k⟩:=h;obtain⟨b',g,d,_⟩:=j s bs h3;exact⟨s,u,b',h1,h2,g,by rw[d];exact m,aaS hp l,k.ext hp⟩
def gR (t:ITerm):Bool:=
 if t.kind=1 then decide (t.to.length=1) && decide (t.a=0)
 else if t.kind=2 then decide (t.to.length=2)
 else if t.kind=3 then decide (1<=t.to.length)
 else if t.kind=4 then decide (t.to.length=0)
 else if t.kind=5 then decide (t.to.length=0) && decide (t.a=0)
 else false
def fQ (f:List IBlk)(pl:List Nat)(i:Nat)(b:IBlk):Prop:=
 gR b.term=true/\(∀e∈b.term.to,gB f pl i e)/\∀v∈mE b.term,Kn f pl v i b.ops.length
theorem fQ.ext{f:List IBlk}{pl c:List Nat}(d:m6 f f')(hp:pl<+:c){b:IBlk}(h:fQ f pl i b):fQ f' c i b:=
 ⟨h.1,fun e he=>(h.2.1 e he).ext d hp,fun v hv=>(h.2.2 v hv).ext d hp (Og _)⟩
inductive Rch (f:List IBlk):Nat->Prop
 |zero:Rch f 0
 |step {u s:Nat} {b:IBlk} {e:IEdge}:Rch f u->f[u]? =some b->e∈b.term.to->e.block=(s:Int)->Rch f s
theorem Rch.ext{f:List IBlk}(d:m6 f f')(h:Rch f i):Rch f' i:=by
 induction h with
 |zero=>exact .zero
 |step _ h2 h3 h4 ih=>
  obtain⟨b',c,_,_,ht⟩:=d _ _ h2;rcases ht with ht|ht
  ·rw[ht] at h3;cases h3
  ·exact .step ih c (by rw[ht];exact h3) h4
def abo (l:List IOp):List Int:=(l.filter fun o=>decide (0<=o.res)).map (·.res)
def abu (b:IBlk):List Int:=b.params++abo b.ops
def aaI (f:List IBlk):List Int:=f.flatMap abu
theorem eY{f:List IBlk}{b:IBlk}(hb:f[c]? =some b)(b':IBlk):f=f.take c++b::f.drop (c+1)/\f.set c b'=f.take c++b'::f.drop (c+1):=by
 obtain⟨d,g⟩:=Jh.1 hb;refine⟨by rw[<-g,Ue,Qi],?_⟩;rw[List.set_eq_take_append_cons_drop,if_pos d]
theorem fF{f:List IBlk}{b:IBlk}(hb:f[c]? =some b){x:List Int}(d:abu b'=abu b++x):(aaI (f.set c b')).Perm (x++aaI f):=by
 obtain⟨h1,h2⟩:=eY hb b';unfold aaI;rw[h2]
 conv=>rhs;rw[h1]
 rw[Nx,Qa,Nx,Qa,d]
 classical
 refine Jp.2 fun y=>?_
 simp only[Nb];omega
theorem fK (l m:List IOp):abo (l++m)=abo l++abo m:=by unfold abo;rw[List.filter_append,Js]
structure MInv (p:IProg) (f:List IBlk) (cur next:Nat) (vals:List Int) (O P:Nat->Prop) (pl:List Nat):Prop where
 len:pl.length=f.length
 curl:cur<f.length
 par:∀i u,pl[i]? =some u->0<i->u<i
 ops:∀(i:Nat) (b:IBlk),f[i]? =some b->∀(j:Nat) (o:IOp),b.ops[j]? =some o->opF p o=true/\∀v∈rR o,Kn f pl v i j
 term:∀(i:Nat) (b:IBlk),f[i]? =some b->¬O i->fQ f pl i b
 opn:∀(i:Nat) (b:IBlk),f[i]? =some b->O i->b.term.to=[]
 lt:∀i,O i->i<f.length
 known:∀v∈vals,∀b,f[cur]? =some b->Kn f pl v cur b.ops.length
 nd:(aaI f).Nodup
 rng:∀v∈aaI f,0<=v/\v<(next:Int)
 rch:∀i,i<f.length->¬P i->Rch f i
 sml:∀(i:Nat) (b:IBlk),f[i]? =some b->b.params.length<=3/\b.term.to.length<=4
abbrev aaz (p:IProg)(M:MS)(O P:Nat->Prop)(pl:List Nat):Prop:=MInv p M.f M.cur M.next M.vals O P pl
theorem g7{f:List IBlk}{b:IBlk}(hb:f[c]? =some b)(hp:b'.params=b.params)(ho:b.ops<+:b'.ops)(ht:b.term.to=[]∨b'.term=b.term):m6 f (f.set c b'):=fun i x hx=>by
 by_cases e:c=i
 ·subst e;rw[hb] at hx;cases hx;exact⟨b',Nn (Jh.1 hb).1,hp,ho,ht⟩
 ·exact⟨x,by rw[Ns e];exact hx,rfl,Od,.inr rfl⟩
theorem abj (f g:List IBlk):m6 f (f++g):=fun i b hb=>⟨b,by rw[Np (Jh.1 hb).1];exact hb,rfl,Od,.inr rfl⟩
theorem abp{f:List IBlk}{b x:IBlk}(hb:f[c]? =some b)(h:(f.set c b')[i]? =some x):(i=c/\x=b')∨(i≠c/\f[i]? =some x):=by
 by_cases e:c=i
 ·subst e;rw[Nn (Jh.1 hb).1] at h;cases h;exact .inl ⟨rfl,rfl⟩
 ·rw[Ns e] at h;exact .inr ⟨fun h=>e h.symm,h⟩
section
variable {p:IProg} {f:List IBlk} {cur next:Nat} {vals:List Int} {O P:Nat->Prop} {pl:List Nat} (h:MInv p f cur next vals O P pl)
include h
theorem MInv.get:∃b,f[cur]? =some b:=⟨_,Jd h.curl⟩
theorem MInv.push{b:IBlk}(hb:f[cur]? =some b)(a0:O cur)(ho:opF p o=true)(hu:∀v∈rR o,Kn f pl v cur b.ops.length){d:List Int}(m:(o.res=(next:Int)/\g=next+1/\d=vals++ [o.res])∨(o.res<0/\g=next/\d=vals)):
 MInv p (f.set cur {b with ops:=b.ops++ [o]}) cur g d O P pl:=by
 have u:m6 f (f.set cur {b with ops:=b.ops++ [o]}):=g7 hb rfl (Qb _ _) (.inr rfl);have k:pl<+:pl:=Od
 have a2:abu {b with ops:=b.ops++ [o]}=abu b++abo [o]:=by
  unfold abu;simp only;rw[fK,Nv]
 have t:=fF hb a2;have q:(f.set cur {b with ops:=b.ops++ [o]})[cur]? =some {b with ops:=b.ops++ [o]}:=Nn h.curl;refine⟨by rw[Nd];exact h.len,by rw[Nd];exact h.curl,h.par,?_,?_,?_,fun i hi=>by rw[Nd];exact h.lt i hi,?_,?_,?_,?_,?_⟩
 ·intro i x c j y l;rcases abp hb c with⟨rfl,rfl⟩|⟨_,c⟩
  ·simp only at l
   by_cases hj:j<b.ops.length
   ·rw[Np hj] at l;obtain⟨h1,h2⟩:=h.ops _ b hb j y l;exact⟨h1,fun v hv=>(h2 v hv).ext u k (Og _)⟩
   ·have a3:j=b.ops.length:=by
     have:=(Jh.1 l).1;simp at this;omega
    subst a3;rw[Nc (Je _),Qy] at l;cases l;exact⟨ho,fun v hv=>(hu v hv).ext u k (Og _)⟩
  ·obtain⟨h1,h2⟩:=h.ops i x c j y l;exact⟨h1,fun v hv=>(h2 v hv).ext u k (Og _)⟩
 ·intro i x c w;rcases abp hb c with⟨rfl,rfl⟩|⟨_,c⟩
  ·exact absurd a0 w
  ·exact(h.term i x c w).ext u k
 ·intro i x c w;rcases abp hb c with⟨rfl,rfl⟩|⟨_,c⟩
  ·exact h.opn _ b hb w
  ·exact h.opn i x c w
 ·intro v hv x a1;rw[q] at a1;cases a1;have old:v∈vals->Kn (f.set cur {b with ops:=b.ops++ [o]}) pl v cur ((b.ops++ [o]).length:Nat):=fun hv=>(h.known v hv b hb).ext u k Zt
  rcases m with⟨h1,h2,rfl⟩|⟨h1,h2,rfl⟩
  ·rcases Jl.1 hv with hv|hv
   ·exact old hv
   ·rw[Jo] at hv;subst hv;refine⟨cur,(b.ops.length:Int),⟨_,q,.inr ⟨b.ops.length,o,rfl,?_,rfl,by omega⟩⟩,.refl _,fun _=>by simp;omega⟩;simp
  ·exact old hv
 ·refine t.nodup_iff.2 ?_;rcases m with⟨h1,h2,_⟩|⟨h1,h2,_⟩
  ·have e:abo [o]=[o.res]:=by unfold abo;rw[List.filter_cons_of_pos Zt];rfl
   rw[e];refine Qt.2 ⟨fun hm=>?_,h.nd⟩;have:=(h.rng _ hm).2;omega
  ·have e:abo [o]=[]:=by unfold abo;rw[List.filter_cons_of_neg Zt];rfl
   rw[e];exact h.nd
 ·intro v hv;rw[t.mem_iff] at hv;rcases m with⟨h1,h2,_⟩|⟨h1,h2,_⟩
  ·have e:abo [o]=[o.res]:=by unfold abo;rw[List.filter_cons_of_pos Zt];rfl
   rw[e] at hv;rcases Jl.1 hv with hv|hv
   ·rw[Jo] at hv;omega
   ·have:=h.rng v hv;omega
  ·have e:abo [o]=[]:=by unfold abo;rw[List.filter_cons_of_neg Zt];rfl
   rw[e] at hv;have:=h.rng v hv;omega
 ·intro i hi hP;rw[Nd] at hi;exact(h.rch i hi hP).ext u
 ·intro i x c;rcases abp hb c with⟨rfl,rfl⟩|⟨_,c⟩
  ·exact h.sml _ b hb
  ·exact h.sml i x c
theorem MInv.close{b:IBlk}(hb:f[cur]? =some b)(m:O cur)(hk:gR t=true)(h4:t.to.length<=4)(he:∀e∈t.to,gB f pl cur e)(hv:∀v∈mE t,Kn f pl v cur b.ops.length)(hc:¬P cur)(hP:∀i,P i->P' i∨∃e∈t.to,e.block=(i:Int)):
 MInv p (f.set cur {b with term:=t }) cur next vals (fun i=>O i/\i≠cur) P' pl:=by
 have g:m6 f (f.set cur {b with term:=t }):=g7 hb rfl Od (.inl (h.opn _ b hb m));have d:pl<+:pl:=Od;have l:=fF (b':= {b with term:=t }) hb (x:=[]) (by unfold abu;simp);have k:(f.set cur {b with term:=t })[cur]? =some {b with term:=t }:=Nn h.curl;refine⟨by rw[Nd];exact h.len,by rw[Nd];exact h.curl,h.par,?_,?_,?_,fun i hi=>by rw[Nd];exact h.lt i hi.1,?_,l.nodup_iff.2 h.nd,fun v hv=>h.rng v (l.mem_iff.1 hv),?_,?_⟩
 ·intro i x c j y w;rcases abp hb c with⟨rfl,rfl⟩|⟨_,c⟩
  ·obtain⟨h1,h2⟩:=h.ops _ b hb j y w;exact⟨h1,fun v hv=>(h2 v hv).ext g d (Og _)⟩
  ·obtain⟨h1,h2⟩:=h.ops i x c j y w;exact⟨h1,fun v hv=>(h2 v hv).ext g d (Og _)⟩
 ·intro i x c o;rcases abp hb c with⟨rfl,rfl⟩|⟨a0,c⟩
  ·exact⟨hk,fun e h1=>(he e h1).ext g d,fun v h1=>(hv v h1).ext g d (Og _)⟩
  ·exact(h.term i x c (fun e=>o ⟨e,a0⟩)).ext g d
 ·intro i x c o;rcases abp hb c with⟨rfl,rfl⟩|⟨_,c⟩
  ·exact absurd rfl o.2
  ·exact h.opn i x c o.1
 ·intro v hv x q;rw[k] at q;cases q;exact(h.known v hv b hb).ext g d (Og _)
 ·intro i hi a1;rw[Nd] at hi
  by_cases u:P i
  ·rcases hP i u with h1|⟨e,h1,h2⟩
   ·exact absurd h1 a1
   ·exact .step ((h.rch cur h.curl hc).ext g) k h1 h2
  ·exact(h.rch i hi u).ext g
 ·intro i x c;rcases abp hb c with⟨rfl,rfl⟩|⟨_,c⟩
  ·exact⟨(h.sml _ b hb).1,h4⟩
  ·exact h.sml i x c
theorem MInv.block {n u:Nat}(hu:u<f.length)(hn:n<=3):MInv p (f++ [wJ next n]) cur (next+n) vals (fun i=>O i∨i=f.length) (fun i=>P i∨i=f.length) (pl++ [u]):=by
 have q:m6 f (f++ [wJ next n]):=abj _ _;have m:pl<+:pl++ [u]:=Qb _ _
 have d:∀(i:Nat) (x:IBlk),(f++ [wJ next n])[i]? =some x->(f[i]? =some x)∨(i=f.length/\x=wJ next n):=fun i x hi=>by
  by_cases o:i<f.length
  ·rw[Np o] at hi;exact .inl hi
  ·have:i=f.length:=by
    have:=(Jh.1 hi).1;simp at this;omega
   subst this;rw[Nc (Je _),Qy] at hi;cases hi;exact .inr ⟨rfl,rfl⟩
 have t:abu (wJ next n)=(List.range n).map fun k=>((next+k:Nat):Int):=by
  unfold abu wJ;simp[abo]
 have hl:aaI (f++ [wJ next n])=aaI f++(List.range n).map fun k=>((next+k:Nat):Int):=by
  unfold aaI;rw[Nx,Qa,List.flatMap_nil,Ua,t]
 refine⟨by simp[h.len],by simp;have:=h.curl;omega,?_,?_,?_,?_,?_,?_,?_,?_,?_,?_⟩
 ·intro i w hi h0
  by_cases o:i<pl.length
  ·rw[Np o] at hi;exact h.par i w hi h0
  ·have a0:i=pl.length:=by
    have:=(Jh.1 hi).1;simp at this;omega
   subst a0;rw[Nc (Je _),Qy] at hi;cases hi;rw[h.len];exact hu
 ·intro i x c j y hy;rcases d i x c with c|⟨rfl,rfl⟩
  ·obtain⟨h1,h2⟩:=h.ops i x c j y hy;exact⟨h1,fun v hv=>(h2 v hv).ext q m (Og _)⟩
  ·simp[wJ] at hy
 ·intro i x c g;rcases d i x c with c|⟨rfl,rfl⟩
  ·exact(h.term i x c (fun e=>g (.inl e))).ext q m
  ·exact absurd (.inr rfl) g
 ·intro i x c g;rcases d i x c with c|⟨rfl,rfl⟩
  ·rcases g with g|rfl
   ·exact h.opn i x c g
   ·have:=(Jh.1 c).1;omega
  ·rfl
 ·intro i hi;rcases hi with hi|rfl
  ·have:=h.lt i hi;simp;omega
  ·simp
 ·intro v hv x l;rcases d cur x l with l|⟨e,_⟩
  ·exact(h.known v hv x l).ext q m (Og _)
  ·have:=h.curl;omega
 ·rw[hl];refine Qq.2 ⟨h.nd,?_,fun a ha b hb e=>?_⟩
  ·refine List.pairwise_map.2 (List.nodup_range.imp fun hab e=>hab ?_);omega
  ·obtain⟨k,_,rfl⟩:=Nu.1 hb;have:=h.rng a ha;omega
 ·intro v hv;rw[hl] at hv;rcases Jl.1 hv with hv|hv
  ·have:=h.rng v hv;omega
  ·obtain⟨k,hk,rfl⟩:=Nu.1 hv;have:=Ol.1 hk;omega
 ·intro i hi hP;have a2:i≠f.length:=fun e=>hP (.inr e)
  have a1:i<f.length:=by simp at hi;omega
  exact(h.rch i a1 (fun e=>hP (.inl e))).ext q
 ·intro i x c;rcases d i x c with c|⟨rfl,rfl⟩
  ·exact h.sml i x c
  ·exact⟨by unfold wJ;simpa using hn,by show 0<=4;decide⟩
theorem MInv.goto {c':Nat}{c:List Int}(d:c'<f.length)(hv:∀v∈c,∀b,f[c']? =some b->Kn f pl v c' b.ops.length):MInv p f c' next c O P pl:=
 {h with curl:=d,known:=hv }
theorem MInv.weak{O':Nat->Prop}(c:∀i,O i↔O' i)(d:∀i,P i->P' i):MInv p f cur next vals O' P' pl:=
 {h with term:=fun i b hb hn=>h.term i b hb (fun e=>hn ((c i).1 e)),opn:=fun i b hb hn=>h.opn i b hb ((c i).2 hn),lt:=fun i hi=>h.lt i ((c i).2 hi),rch:=fun i hi hn=>h.rch i hi (fun e=>hn (d i e))}
theorem MInv.below{v:Int}{k:Int}(hk:Kn f pl v i k)(c:Abv pl i j)(d:i≠j):Kn f pl v j k':=by
 obtain⟨b,a,h1,h2,h3⟩:=hk;refine⟨b,a,h1,h2.trans c,fun e=>?_⟩;have l:=h2.le h.par;have g:=c.le h.par;omega
end
structure EnvOk (p:IProg) (E:ME):Prop where
 nf:p.funcs.length=E.nf
 args:p.args=E.args
 data:p.data.length=3
 alt:∀x∈E.args,0<=x/\x<4
theorem opF_of{p:IProg}{F:Flds}(hs:zi o.code=F)(g:o.code≠26)(h2:o.code≠2)(d:F.is=true)(c:F.res=decide (0<=o.res))(hm:-1<=o.res)(i:F.a=true∨o.a=0)(hb:F.b=true∨o.b=0)(h:F.n=true∨o.n=0)(hg:o.args.length=0)
 (hp:(o.code≠24/\o.code≠25)∨(1<=o.n/\o.n<=255)):opF p o=true:=by
 unfold opF;rw[hs,if_neg g,if_neg h2];simp only[Jm,Bool.or_eq_true,decide_eq_true_eq];exact⟨d,⟨⟨⟨⟨⟨⟨c,hm⟩,i⟩,hb⟩,h⟩,hg⟩,hp⟩⟩
theorem gU{F:Flds}(hs:zi o.code=F)(c:F.a=false)(hb:F.b=false):rR o=o.args:=by unfold rR;rw[hs,c,hb];rfl
theorem fY {c:Int}(h:c=3∨c=4∨c=18∨c=19):zi c=⟨true,true,true,false,false⟩:=by rcases h with rfl|rfl|rfl|rfl<;>rfl
theorem eF {c:Int}(h:5<=c/\c<=17):zi c=⟨true,true,true,true,false⟩:=by
 unfold zi;rw[if_neg Zo,if_neg Zo,if_pos h]
theorem shape_st {c:Int}(h:c=20∨c=21):zi c=⟨true,false,true,true,false⟩:=by rcases h with rfl|rfl<;>rfl
theorem eK {c:Int}(h:c=22∨c=23):zi c=⟨true,true,true,false,true⟩:=by rcases h with rfl|rfl<;>rfl
section
variable {p:IProg} {M:MS} {O P:Nat->Prop} {pl:List Nat}
theorem eA{M:MS}(h:uc o.code=true):(M.emit o).next=M.next+1:=by unfold MS.emit;simp only[h,if_true]
theorem gS{M:MS}(h:uc o.code=false):(M.emit o).next=M.next/\(M.emit o).vals=M.vals:=by unfold MS.emit;simp only[h];exact⟨rfl,rfl⟩
theorem gy{M:MS}(h:uc o.code=true):(M.emit o).vals=M.vals++ [(M.next:Int)]:=by unfold MS.emit;simp only[h,if_true]
theorem fS{M:MS}(h:uc o.code=true):(M.next:Int)∈(M.emit o).vals:=by rw[gy h];simp
theorem abw{M:MS}(h:uc o.code=true):(eg M o).res=(M.next:Int):=by unfold eg;simp only[h,if_true]
theorem gX{M:MS}(h:uc o.code=false):(eg M o).res=-1:=by unfold eg;simp only[h];rfl
theorem MInv.emit(h:aaz p M O P pl)(d:O M.cur)(ho:opF p (eg M o)=true)(c:∀v∈rR o,∀b,M.f[M.cur]? =some b->Kn M.f pl v M.cur b.ops.length):aaz p (M.emit o) O P pl:=by
 obtain⟨b,hb⟩:=h.get
 show MInv p (wD M.f M.cur _) M.cur _ _ O P pl
 rw[xI hb];refine h.push hb d ho (fun v hv=>c v hv b hb) ?_
 cases hr:uc o.code with
 |true=>exact .inl ⟨abw hr,eA hr,by rw[abw hr];exact gy hr⟩
 |false=>exact .inr ⟨by rw[gX hr];decide,(gS hr).1,(gS hr).2⟩
theorem MInv.at (h:aaz p M O P pl){v:Int}(hv:v∈M.vals):∀b,M.f[M.cur]? =some b->Kn M.f pl v M.cur b.ops.length:=fun b hb=>h.known v hv b hb
theorem MInv.emitK (h:aaz p M O P pl)(m:O M.cur){c:Int}{F:Flds}(hs:zi c=F)(g:F.is=true/\F.res=true)(j:c≠26)(h2:c≠2)(k:c≠25){a b:Int}{n:Nat}(i:(F.a=true/\∀x,M.f[M.cur]? =some x->Kn M.f pl a M.cur x.ops.length)∨(F.a=false/\a=0))(hb:(F.b=true/\∀x,M.f[M.cur]? =some x->Kn M.f pl b M.cur x.ops.length)∨(F.b=false/\b=0))
 (l:F.n=true∨n=0) (hp:c≠24∨(1<=n/\n<=255)):aaz p (M.emit ⟨c,0,a,b,n,[]⟩) O P pl/\(M.next:Int)∈(M.emit ⟨c,0,a,b,n,[]⟩).vals:=by
 have hr:uc c=true:=by unfold uc;rw[hs,g.2];rfl
 have d:uc (⟨c,0,a,b,n,[]⟩:IOp).code=true:=hr;refine⟨h.emit m ?_ ?_,fS d⟩
 ·refine opF_of (F:=F) hs j h2 g.1 ?_ ?_ ?_ ?_ l rfl (hp.imp (fun e=>⟨e,k⟩) (fun e=>e))
  ·rw[abw d,g.2];simp
  ·rw[abw d];omega
  ·exact i.imp (·.1) (·.2)
  ·exact hb.imp (·.1) (·.2)
 ·intro v hv;unfold rR at hv;simp only[hs,Ua] at hv;rcases Jl.1 hv with hv|hv
  ·rcases i with⟨e1,e2⟩|⟨e1,e2⟩
   ·rw[e1,if_pos rfl,Jo] at hv;subst hv;exact e2
   ·rw[e1] at hv;simp at hv
  ·rcases hb with⟨e1,e2⟩|⟨e1,e2⟩
   ·rw[e1,if_pos rfl,Jo] at hv;subst hv;exact e2
   ·rw[e1] at hv;simp at hv
theorem MInv.emitR (h:aaz p M O P pl)(k:O M.cur){c:Int}{F:Flds}(hs:zi c=F)(l:F.is=true/\F.res=true)(d:c≠26)(h2:c≠2)(g:c≠25){a b:Int}{n:Nat}(j:(F.a=true/\a∈M.vals)∨(F.a=false/\a=0))(hb:(F.b=true/\∀x,M.f[M.cur]? =some x->Kn M.f pl b M.cur x.ops.length)∨(F.b=false/\b=0))
 (i:F.n=true∨n=0) (hp:c≠24∨(1<=n/\n<=255)):aaz p (M.emit ⟨c,0,a,b,n,[]⟩) O P pl/\(M.next:Int)∈(M.emit ⟨c,0,a,b,n,[]⟩).vals:=
 h.emitK k hs l d h2 g (j.imp (fun e=>⟨e.1,h.at e.2⟩) (fun e=>e)) hb i hp
theorem MInv.emitN (h:aaz p M O P pl)(m:O M.cur){c:Int}{F:Flds}(hs:zi c=F)(i:F.is=true/\F.res=false)(g:c≠26)(h2:c≠2)(k:c≠24){a b:Int}{n:Nat}(j:(F.a=true/\a∈M.vals)∨(F.a=false/\a=0))(hb:(F.b=true/\b∈M.vals)∨(F.b=false/\b=0))
 (l:F.n=true∨n=0) (hp:c≠25∨(1<=n/\n<=255)):aaz p (M.emit ⟨c,0,a,b,n,[]⟩) O P pl:=by
 have hr:uc c=false:=by unfold uc;rw[hs,i.2];simpa using g
 have d:uc (⟨c,0,a,b,n,[]⟩:IOp).code=false:=hr;refine h.emit m ?_ ?_
 ·refine opF_of (F:=F) hs g h2 i.1 ?_ ?_ ?_ ?_ l rfl (hp.imp (fun e=>⟨k,e⟩) (fun e=>e))
  ·rw[gX d,i.2];rfl
  ·rw[gX d];decide
  ·exact j.imp (·.1) (·.2)
  ·exact hb.imp (·.1) (·.2)
 ·intro v hv;unfold rR at hv;simp only[hs,Ua] at hv;rcases Jl.1 hv with hv|hv
  ·rcases j with⟨e1,e2⟩|⟨e1,e2⟩
   ·rw[e1,if_pos rfl,Jo] at hv;subst hv;exact h.at e2
   ·rw[e1] at hv;simp at hv
  ·rcases hb with⟨e1,e2⟩|⟨e1,e2⟩
   ·rw[e1,if_pos rfl,Jo] at hv;subst hv;exact h.at e2
   ·rw[e1] at hv;simp at hv
theorem MInv.num (h:aaz p M O P pl)(d:O M.cur)(n:Nat):aaz p (M.num n) O P pl/\(M.next:Int)∈(M.num n).vals:=
 h.emitR (c:=1) d (F:=⟨true,true,false,false,true⟩) rfl ⟨rfl,rfl⟩ Zd Zd Zd (.inr ⟨rfl,rfl⟩) (.inr ⟨rfl,rfl⟩) (.inl rfl) (.inl Zd)
theorem MInv.tick (h:aaz p M O P pl):aaz p M.tick O P pl:=h
theorem fE(h:k<l.length)(d:Int):l.getD k d∈l:=by
 rw[Jj,Jd h];exact Uf h
theorem MInv.any (E:ME)(h:aaz p M O P pl)(c:O M.cur):aaz p (zJ E M).2 O P pl/\(zJ E M).1∈(zJ E M).2.vals:=by
 unfold zJ
 split
 ·exact h.tick.num c _
 ·rename_i h0
  split
  ·refine⟨h,fE ?_ _⟩
   show _<M.vals.length
   omega
  ·refine⟨h,fE ?_ _⟩;exact aaE E M Zo
theorem MInv.addr (E:ME)(hp:EnvOk p E)(h:aaz p M O P pl)(c:O M.cur):aaz p (yJ E M).2 O P pl/\(yJ E M).1∈(yJ E M).2.vals:=by
 unfold yJ
 split
 ·exact h.tick.any E c
 ·have hr:uc (2:Int)=true:=rfl;refine⟨MInv.emit (M:=M.tick.tick.tick) h c ?_ (fun v hv=>?_),fS (M:=M.tick.tick.tick) hr⟩
  ·have h1:=aaE E M.tick (n:=2) Zo;unfold opF;rw[show(eg M.tick.tick.tick ⟨2,0,((tkV E M.tick 2:Nat):Int),0,tkV E M.tick.tick (sE (tkV E M.tick 2)),[]⟩).code=2 from rfl,if_neg Zd,if_pos rfl,abw hr];simp only[Jm,decide_eq_true_eq,hp.data];exact⟨rfl,⟨⟨⟨⟨by show(0:Int)<=((tkV E M.tick 2:Nat):Int);omega,by show((tkV E M.tick 2:Nat):Int)<((3:Nat):Int);omega⟩,by omega⟩,rfl⟩,rfl⟩⟩
  ·rw[gU (F:=⟨true,true,false,false,true⟩) rfl rfl rfl] at hv;simp at hv
theorem MInv.args (E:ME)(h:aaz p M O P pl)(d:O M.cur):∀n,aaz p (yI E n M).2 O P pl/\(yI E n M).1.length=n/\(∀v∈(yI E n M).1,v∈(yI E n M).2.vals)/\(yI E n M).2.cur=M.cur
 |0=>⟨h,rfl,fun v hv=>by simp[yI] at hv,rfl⟩
 |n+1=>by
  obtain⟨h1,h2,h3,h4⟩:=MInv.args E h d n;have c:O (yI E n M).2.cur:=by rw[h4];exact d
  obtain⟨i,g⟩:=h1.any E c;have hg:=yU E (yI E n M).2;refine⟨i,?_,fun v hv=>?_,hg.cur.trans h4⟩
  ·show(_++ [_]).length=_
   rw[Jk,h2];rfl
  ·rcases Jl.1 hv with hv|hv
   ·exact hg.pre.subset (h3 v hv)
   ·rw[Jo] at hv;subst hv;exact g
theorem MInv.call (E:ME)(hp:EnvOk p E)(h:aaz p M O P pl)(c:O M.cur):aaz p (vN E M) O P pl:=by
 unfold vN
 split
 ·exact h
 ·rename_i i
  simp only
  split
  ·exact h
  ·obtain⟨h1,h2,h3,g⟩:=MInv.args E h.tick c (E.args.getD (E.me+1+tkV E M (E.nf-E.me-1)) 0).toNat;have j:=aaE E M (n:=E.nf-E.me-1) Zo
   have h0:0<=E.args.getD (E.me+1+tkV E M (E.nf-E.me-1)) 0:=by
    rw[Jj]
    cases d:E.args[E.me+1+tkV E M (E.nf-E.me-1)]? with
    |none=>simp
    |some x=>exact(hp.alt x (Ji d)).1
   have hf:E.me+1+tkV E M (E.nf-E.me-1)<E.nf:=Zo;generalize E.me+1+tkV E M (E.nf-E.me-1)=f at *;have hr:uc (26:Int)=true:=rfl;refine h1.emit (by rw[g];exact c) ?_ (fun v hv=>?_)
   ·unfold opF;rw[if_pos (show(eg (yI E (E.args.getD f 0).toNat M.tick).2 ⟨26,0,(f:Nat),0,0,(yI E (E.args.getD f 0).toNat M.tick).1⟩).code=26 from rfl)];simp only[Jm,decide_eq_true_eq,hp.nf,hp.args];refine⟨rfl,⟨⟨⟨⟨⟨by show(0:Int)<=((f:Nat):Int);omega,by show((f:Nat):Int)<_;omega⟩,?_⟩,?_⟩,rfl⟩,rfl⟩⟩
    ·show(((yI E (E.args.getD f 0).toNat M.tick).1.length:Nat):Int)=E.args.getD ((f:Nat):Int).toNat 0
     rw[h2,Ni,Oa h0]
    ·rw[abw hr];omega
   ·rw[gU (F:=⟨true,false,false,false,false⟩) rfl rfl rfl] at hv;exact h1.at (h3 v hv)
theorem MInv.arith (E:ME)(h:aaz p M O P pl)(m:O M.cur):aaz p (yR E M) O P pl:=by
 obtain⟨h1,h2⟩:=h.any E m;have g1:=yU E M;have k:O (zJ E M).2.cur:=by rw[g1.cur];exact m
 obtain⟨h3,l⟩:=h1.any E k;have g2:=yU E (zJ E M).2;have d:O (zJ E (zJ E M).2).2.cur:=by rw[g2.cur];exact k
 have i:=g2.pre.subset h2;unfold yR;simp only;have q:=aaE E (zJ E (zJ E M).2).2 (n:=13) Zo;generalize tkV E (zJ E (zJ E M).2).2 13=r at *;generalize zJ E (zJ E M).2=b at *;generalize (zJ E M).1=a at *;have g:aaz p b.2.tick O P pl:=h3
 split
 ·split
  ·obtain⟨k1,k2⟩:=MInv.num (M:=b.2.tick.tick) g d 1;have kb:b.1∈(b.2.tick.tick.num 1).vals:=(wT b.2.tick.tick 1).pre.subset l;have ka:a∈(b.2.tick.tick.num 1).vals:=(wT b.2.tick.tick 1).pre.subset i;have j:O (b.2.tick.tick.num 1).cur:=by rw[(wT b.2.tick.tick 1).cur];exact d
   obtain⟨k3,k4⟩:=k1.emitR (c:=10) j (F:=⟨true,true,true,true,false⟩) rfl ⟨rfl,rfl⟩ Zd Zd Zd (a:=b.1) (b:=(b.2.tick.tick.next:Nat)) (n:=0) (.inl ⟨rfl,kb⟩) (.inl ⟨rfl,k1.at k2⟩) (.inr rfl) (.inl Zd);have g3:=yB (b.2.tick.tick.num 1) ⟨10,0,b.1,(b.2.tick.tick.next:Nat),0,[]⟩;have o:(b.2.tick.tick.num 1).next=b.2.tick.tick.next+1:=rfl;rw[o] at k4;exact(k3.emitR (c:=8) (by rw[g3.cur];exact j) (F:=⟨true,true,true,true,false⟩) rfl ⟨rfl,rfl⟩ Zd Zd Zd (a:=a) (b:=((b.2.tick.tick.next+1:Nat):Int)) (n:=0) (.inl ⟨rfl,g3.pre.subset ka⟩) (.inl ⟨rfl,k3.at k4⟩) (.inr rfl) (.inl Zd)).1
  ·exact(MInv.emitR (M:=b.2.tick.tick) g (c:=8) d (F:=⟨true,true,true,true,false⟩) rfl ⟨rfl,rfl⟩ Zd Zd Zd (a:=a) (b:=b.1) (n:=0) (.inl ⟨rfl,i⟩) (.inl ⟨rfl,MInv.at (M:=b.2.tick.tick) g l⟩) (.inr rfl) (.inl Zd)).1
 ·exact(MInv.emitR (M:=b.2.tick) g (c:=((5+r:Nat):Int)) d (F:=⟨true,true,true,true,false⟩) (eF Zo) ⟨rfl,rfl⟩ Zo Zo Zo (a:=a) (b:=b.1) (n:=0) (.inl ⟨rfl,i⟩) (.inl ⟨rfl,MInv.at (M:=b.2.tick) g l⟩) (.inr rfl) (.inl Zo)).1
theorem MInv.op (E:ME)(hp:EnvOk p E)(h:aaz p M O P pl)(d:O M.cur):aaz p (xK E M) O P pl:=by
 unfold xK;simp only;have ht:aaz p M.tick O P pl:=h;have j:O M.tick.cur:=d
 split
 ·exact(MInv.num (M:=M.tick.tick) h d _).1
 split
 ·obtain⟨h1,h2⟩:=MInv.any (M:=M.tick.tick) E h d;have i:=aaE E M.tick (n:=2) Zo;exact(h1.emitR (c:=3+((tkV E M.tick 2:Nat):Int)) (by rw[(yU E M.tick.tick).cur];exact d) (F:=⟨true,true,true,false,false⟩) (fY Zo) ⟨rfl,rfl⟩ Zo Zo Zo (.inl ⟨rfl,h2⟩) (.inr ⟨rfl,rfl⟩) (.inr rfl) (.inl Zo)).1
 split
 ·obtain⟨h1,h2⟩:=MInv.addr (M:=M.tick) E hp h d;have i:=aaE E (yJ E M.tick).2 (n:=2) Zo;exact(MInv.emitR (M:=(yJ E M.tick).2.tick) h1 (c:=18+((tkV E (yJ E M.tick).2 2:Nat):Int)) (by show O (yJ E M.tick).2.cur;rw[(ue E M.tick).cur];exact d) (F:=⟨true,true,true,false,false⟩) (fY Zo) ⟨rfl,rfl⟩ Zo Zo Zo (.inl ⟨rfl,h2⟩) (.inr ⟨rfl,rfl⟩) (.inr rfl) (.inl Zo)).1
 split
 ·obtain⟨h1,h2⟩:=MInv.addr (M:=M.tick) E hp h d;have k:O (yJ E M.tick).2.cur:=by rw[(ue E M.tick).cur];exact d
  obtain⟨h3,l⟩:=h1.any E k;have g:=yU E (yJ E M.tick).2;have i:=aaE E (zJ E (yJ E M.tick).2).2 (n:=2) Zo;exact MInv.emitN (M:=(zJ E (yJ E M.tick).2).2.tick) h3 (c:=20+((tkV E (zJ E (yJ E M.tick).2).2 2:Nat):Int)) (by show O (zJ E (yJ E M.tick).2).2.cur;rw[g.cur];exact k) (F:=⟨true,false,true,true,false⟩) (shape_st Zo) ⟨rfl,rfl⟩ Zo Zo Zo (.inl ⟨rfl,g.pre.subset h2⟩) (.inl ⟨rfl,l⟩) (.inr rfl) (.inl Zo)
 split
 ·have i:=aaE E M.tick (n:=3) Zo;exact(MInv.emitR (M:=M.tick.tick) h (c:=24) d (F:=⟨true,true,false,false,true⟩) rfl ⟨rfl,rfl⟩ Zd Zd Zd (.inr ⟨rfl,rfl⟩) (.inr ⟨rfl,rfl⟩) (.inl rfl) (.inr ⟨by omega,by omega⟩)).1
 split
 ·obtain⟨h1,h2⟩:=MInv.any (M:=M.tick) E h d;have i:=aaE E (zJ E M.tick).2 (n:=3) Zo;exact MInv.emitN (M:=(zJ E M.tick).2.tick) h1 (c:=25) (by show O (zJ E M.tick).2.cur;rw[(yU E M.tick).cur];exact d) (F:=⟨true,false,true,false,true⟩) rfl ⟨rfl,rfl⟩ Zd Zd Zd (.inl ⟨rfl,h2⟩) (.inr ⟨rfl,rfl⟩) (.inl rfl) (.inr ⟨by omega,by omega⟩)
 split
 ·obtain⟨h1,h2⟩:=MInv.num (M:=M.tick.tick) h d (tkV E M.tick 4096);have i:=aaE E (M.tick.tick.num (tkV E M.tick 4096)) (n:=2) Zo;exact(MInv.emitR (M:=(M.tick.tick.num (tkV E M.tick 4096)).tick) h1 (c:=22+((tkV E (M.tick.tick.num (tkV E M.tick 4096)) 2:Nat):Int)) (by show O (M.tick.tick.num (tkV E M.tick 4096)).cur;rw[(wT M.tick.tick (tkV E M.tick 4096)).cur];exact d) (F:=⟨true,true,true,false,true⟩) (eK Zo) ⟨rfl,rfl⟩ Zo Zo Zo (.inl ⟨rfl,h2⟩) (.inr ⟨rfl,rfl⟩) (.inl rfl) (.inl Zo)).1
 split
 ·exact ht.call E hp j
 split
 ·split
  ·exact MInv.emitN (M:=M.tick.tick) h (c:=27) d (F:=⟨true,false,false,false,false⟩) rfl ⟨rfl,rfl⟩ Zd Zd Zd (.inr ⟨rfl,rfl⟩) (.inr ⟨rfl,rfl⟩) (.inr rfl) (.inl Zd)
  ·exact h
 ·exact ht.arith E j
theorem fC (E:ME)(hE:∀x∈E.args,0<=x/\x<4):∀(n:Nat) (M:MS),(qY E n M).cur=M.cur
 |0,M=>rfl
 |n+1,M=>(fC E hE n _).trans (pX E hE M).cur
theorem MInv.opsN (E:ME)(hp:EnvOk p E):∀(n:Nat) (M:MS),aaz p M O P pl->O M.cur->aaz p (qY E n M) O P pl
 |0,M,h,hO=>h
 |n+1,M,h,hO=>MInv.opsN E hp n (xK E M) (h.op E hp hO) (by rw[(pX E hp.alt M).cur];exact hO)
theorem MInv.run (E:ME)(hp:EnvOk p E)(h:aaz p M O P pl)(c:O M.cur):aaz p (tR E M) O P pl/\(tR E M).cur=M.cur:=
 ⟨MInv.opsN E hp _ M.tick h c,fC E hp.alt _ M.tick⟩
end
def holdsO (a:Rg)(n:Int)(o:IObj):Prop:=o.bank=-1/\o.addr<=a.lo/\(a.hi:Int)+n<=(o.addr:Int)+o.size
instance (a:Rg) (n:Int) (o:IObj):Decidable (holdsO a n o):=by unfold holdsO;infer_instance
theorem ahi {p:IProg}(hv:vC p=0):0<p.funcs.length/\p.funcs.length<=2000:=by
 obtain⟨c,_⟩:=rz hv;unfold sR at c
 split at c
 ·omega
 ·rename_i h0
  split at c
  ·omega
  ·split at c
   ·omega
   ·split at c
    ·omega
    ·rename_i h
     have hs:yw p p.entry=true:=by
      by_cases e:yw p p.entry=true
      ·exact e
      ·exact absurd (Na (by simpa using e)) h
     unfold yw at hs;simp only[Jm,decide_eq_true_eq] at hs;omega
end Go.Proofs.YtoahcpkibpomcaaGreat
