/- Part of a proof. -/
import Derived.Test.YtojclalkfhoooaaIOper2
import Derived.Test.YtojclalkfhoooaaIOper3
import Derived.Test.YtojclalkfhoooaaGMap
import Derived.StillTail
import Derived.BigQuiet
import Derived.Test.YtojclalkfhoooaaGIChk
import Derived.Test.YtojclalkfhoooaaMath
import Derived.Test.YtojclalkfhoooaaITerm
import Derived.Test.YtojclalkfhoooaaOrd2
import Derived.Test.YtojclalkfhoooaaDom
import Derived.Laws.CopyOwn
set_option linter.unusedSimpArgs false
set_option linter.unusedVariables false
set_option maxHeartbeats 1600000
set_option maxRecDepth 100000
namespace Go.Proofs.Ytojclalkfhoooaa
open Go.RowKit
theorem ju {w:World}{C:Nat}{p:IProg}(o:IOp)(ho:qN o)(ar:Option Addr)(cap:Nat)(hs:zi o.code=⟨false,false,false,false,false⟩):
 Calls Try.prog 98 #[.pointer (some ⟨C,0,none⟩),opV o (.slice ar o.args.length cap)] w (ym w (opF p o)):=by
 unfold opV
 obtain⟨hc64,hr64,ha64,hb64,hn16⟩:=ho
 have e:opF p o=false:=by unfold opF;rw[hs];rfl
 rw[e]
 have hf:∀W,Calls Try.prog 105 #[.int .i64 o.code] W fun e w'=>e=.returned (.tuple #[.agg #[.bool false,.bool false,.bool false,.bool false],.bool false])/\Below W.heap.size W w':=fun W=>by have:=yu o.code W;rw[hs] at this;exact this
 have HF:=Lib.hid hf
 clear hf hs e
 go_enter Try.func98,Try.ntmps98
 go_wp2_with (first|(go_at_call 105;go_must (refine(HF.out _).mono ?_;rintro e w1 ⟨rfl,hb1⟩;have HB1:=Lib.hid hb1;clear hb1))|go_in)
 go_ret
 exact⟨rfl,(((Below.refl _ _).alloc (Nat.le_refl _) _).trans (HB1.out.mono (by simp))).alloc (by have h9:=HB1.out.size;simp at h9;omega) _⟩
theorem oper_any {w:World}{B C:Nat}{V:PV}{tl:List Value}{p:IProg}(hp:ProgIn w B V p)(hB:B<=w.heap.size)(hC:w.heap[C]? =some (.cells (rC V p++tl).toArray 128 (0,0)))(hl:p.args.length=p.funcs.length)(o:IOp)(ho:qN o)(ar:Option Addr)(cap:Nat)(hcap:o.args.length<=cap/\cap<=9223372036854775807):
 Calls Try.prog 98 #[.pointer (some ⟨C,0,none⟩),opV o (.slice ar o.args.length cap)] w (ym w (opF p o)):=by
 by_cases h26:o.code=26
 ·exact kM hp hB hC hl o ho ar cap hcap h26
 by_cases h2:o.code=2
 ·exact jo hp hB hC hl o ho ar cap hcap h2
 by_cases h24:o.code=24
 ·exact oper_in (pvs:=[]) o ho ar cap hcap h24
 by_cases h25:o.code=25
 ·exact oper_out (pvs:=[]) o ho ar cap hcap h25
 rcases rJ o.code with⟨h,e⟩|⟨h,e⟩|⟨h,e⟩|⟨h,e⟩|⟨h,e⟩|⟨h,e⟩|⟨h,e⟩|⟨h,e⟩
 ·exact kG (pvs:=[]) o ho ar cap hcap e h26 h2 h24 h25
 ·exact oper_una (pvs:=[]) o ho ar cap hcap e h26 h2 h24 h25
 ·exact oper_bin (pvs:=[]) o ho ar cap hcap e h26 h2 h24 h25
 ·exact oper_sto (pvs:=[]) o ho ar cap hcap e h26 h2 h24 h25
 ·exact oper_rom (pvs:=[]) o ho ar cap hcap e h26 h2 h24 h25
 ·exact absurd h h25
 ·exact kY (pvs:=[]) o ho ar cap hcap e h26 h2 h24 h25
 ·exact ju o ho ar cap e
open Go.RowKit
theorem vd {P:Program}{ops:Array Oper}{w:World}{Q:Act->Prop}:∀ {rest:List Oper} {a:Act},wpQuiet P ops (fun w'=>w'=w) Q rest a->wpStill P ops w Q rest a
 | [],a,h=>h
 |o::rest,a,h=>by
  unfold wpQuiet at h
  unfold wpStill
  split at h
  ·rename_i hw
   rw[if_pos hw]
   obtain⟨v,h1,h2⟩:=h
   have h3:=h1 w rfl
   have h2':=vd h2
   unfold Oper.quietAt at h3
   unfold Oper.still
   generalize (execOp a.eval o).run P w=r at *
   cases r with
   |ok n w'=>
    cases n<;>simp only[Oper.quietUpon] at h3<;>simp only[Oper.stillUpon]
    case value u=>obtain⟨e1,rfl⟩:=h3;exact⟨e1,h2'⟩
    case skip=>obtain⟨e1,rfl⟩:=h3;exact⟨e1,h2'⟩
    case enter f args=>exact⟨h3.1,v,h3.2,h2'⟩
   |halt x w'=>simp only[Oper.quietUpon] at h3
  ·rename_i hw
   rw[if_neg hw]
   exact vd h
theorem zt {P:Program}{id:Nat}{Q:Exit->Act->World->Prop}{a:Act}{w:World}{l:List Oper}(n:Nat)(hm:P.follows .mixedOrders=true)(hB:Region.lexTailB .any l.toArray n=true)
 (h:wpQuiet P l.toArray (fun w'=>w'=w.drew) (fun a'=>wpList P l.toArray Q (l.drop n) a' w.drew) (l.take n) a):(Code.region id l.toArray true).wp P Q a w:=
 wp_region_still_tail n hm hB (vd h)
open Go.RowKit
theorem qk {w:World}{C m1 m2 n:Nat}{pv:List Value}{blv idv:Value}{d d':wO}(h:ChkAt w C m1 m2 pv blv idv n d)(hn:n<9000000000000000000)(v i k:Int)(hv:I64 v)(hi:I64 i)(hk:I64 k)(hyes:rB d v i k=some d'):
 Calls Try.prog 97 #[.pointer (some ⟨C,0,none⟩),.int .i64 v,.int .i64 i,.int .i64 k] w fun e w'=>e=.returned (.bool true)/\ChkAt w' C m1 m2 pv blv idv (n+1) d'/\Kept m1 m2 w w':=by
 obtain⟨hb,hl,hm1,hm2,hne,hd⟩:=h
 obtain⟨p0,p1,p2,p3,p4,p5,rfl⟩:∃a b c d e f,pv=[a,b,c,d,e,f]:=by
  match pv,hl with
  | [a,b,c,d,e,f],_=>exact⟨a,b,c,d,e,f,rfl⟩
 have hlk:=hm1.lookOk hv
 have cm1:w.cell? ⟨C,7,none⟩=some (.map (some m1)):=zA hb rfl
 have cm2:w.cell? ⟨C,8,none⟩=some (.map (some m2)):=zA hb rfl
 have hnot:¬((d.1 v).isSome∨v<0∨65535<v):=fun hc=>by rw[rB,if_pos hc] at hyes;cases hyes
 have hd':d'=(lS d.1 v i,lS d.2 v k):=by rw[rB,if_neg hnot] at hyes;cases hyes;rfl
 have h0:(d.1 v).isSome=false:=by cases hx:(d.1 v).isSome with|false=>rfl|true=>exact absurd (.inl hx) hnot
 have hv1:d.1 v=none:=by cases hx:d.1 v with|none=>rfl|some y=>rw[hx] at h0;cases h0
 have hv2:d.2 v=none:=by cases hx:d.2 v with|none=>rfl|some y=>have:=hd v;rw[hx,hv1] at this;cases this
 have h1:decide (v<0)=false:=decide_eq_false (by omega)
 have h2:decide (65535<v)=false:=decide_eq_false (by omega)
 rw[h0] at hlk
 obtain⟨s1,w1,w2,e1,g1,e2,k1,g2⟩:=(wA.same (w':=w.drew) hm1 rfl).entry hn hv hi hv1
 obtain⟨es,ck,hmb⟩:=hm2.blk
 have hm2':wA w2 m2 n d.2:=(wA.same (w':=w.drew) hm2 rfl).same (g2.block m2 (lt_of_block hmb) (fun e=>hne (by cases e;rfl)))
 obtain⟨s2,w3,w4,e3,g3,e4,k2,g4⟩:=hm2'.entry hn hv hk hv2
 subst hd'
 clear hyes hnot
 simp only[goInt] at e1 e2 e3 e4
 have H:=Lib.hid (And.intro g2 g4)
 go_enter Try.func97,Try.ntmps97
 go_wp2
 go_region
 go_wp2
 go_ret
 obtain⟨g2,g4⟩:=H.out
 obtain⟨es1,ck1,hma⟩:=hm1.blk
 have hC1:C≠m1:=fun e=>by rw[e,hma] at hb;cases hb
 have hC2:C≠m2:=fun e=>by rw[e,hmb] at hb;cases hb
 have hsz:w.heap.size<=w2.heap.size:=g2.size
 have hk4:∀b,b≠m1->b≠m2->b<w.heap.size->w4.heap[b]? =w.heap[b]?:=fun b x1 x2 hbs=>(g4.block b (by omega) (fun e=>x2 (by cases e;rfl))).trans (g2.block b hbs (fun e=>x1 (by cases e;rfl)))
 obtain⟨es2,ck2,hk1⟩:=k1.blk
 refine⟨rfl,⟨(hk4 C hC1 hC2 (lt_of_block hb)).trans hb,rfl,k1.same (g4.block m1 (lt_of_block hk1) (fun e=>hne (by cases e;rfl))),k2,hne,fun x=>?_⟩,⟨g4.os.trans g2.os,g4.tape.trans g2.tape,g4.output.trans g2.output,Nat.le_trans hsz g4.size,fun b hbs x1 x2=>hk4 b x1 x2 hbs⟩⟩
 show(lS d.1 v i x).isSome=(lS d.2 v k x).isSome
 unfold lS
 split
 ·rfl
 ·exact hd x
def rR (o:IOp):List Int:=(if(zi o.code).a then [o.a] else [])++(if(zi o.code).b then [o.b] else [])++o.args
def ut (t:ITerm):Bool:=decide (t.kind=2)||(decide (t.kind=3)||decide (t.kind=4) && decide (t.a≠-1))
def mE (t:ITerm):List Int:=(if ut t then [t.a] else [])++(t.to.map (·.args)).flatten
def zy (blocks:List IBlk):List (List Nat):=blocks.map fun b=>b.term.to.map fun e=>e.block.toNat
def yy (d:wO)(g:List (List Nat))(i k:Int)(v:Int):Bool:=
 match d.1 v,d.2 v with
 |some b,some a=>!(decide (b=i) && decide (k<=a)) && wE g b.toNat i.toNat
 |_,_=>false
def xF (d:wO)(g:List (List Nat))(i:Int):List IOp->Int->Bool
 | [],_=>true
 |o::os,k=>(rR o).all (yy d g i k) && xF d g i os (k+1)
def wk (d:wO)(g:List (List Nat))(b:IBlk)(i:Int):Bool:=xF d g i b.ops 0 && (mE b.term).all (yy d g i b.ops.length)
def tO (d:wO)(g:List (List Nat)):List IBlk->Int->Bool
 | [],_=>true
 |b::bs,i=>wk d g b i && tO d g bs (i+1)
def iM (blocks:List IBlk)(d:wO):Bool:=decide ((vD (zy blocks)).length=blocks.length) && tO d (zy blocks) blocks 0
def yi (p:IProg)(n:Nat):Bool:=
 match p.funcs.getD n [] with
 | []=>true
 |b::bs=>decide ((b.params.length:Int)=p.args.getD n 0) && ((wg p (b::bs)).map (iM (b::bs))).getD false
def vC (p:IProg):Int:=if sR p≠0 then sR p else if(List.range p.funcs.length).all (yi p) then 0 else 51
theorem uX {i:Int}:∀(l m:List Int) (d:wO),vJ i (l++m) d=(vJ i l d).bind (vJ i m)
 | [],m,d=>rfl
 |v::l,m,d=>by
  show(rB d v i (-1)).bind (vJ i (l++m))=((rB d v i (-1)).bind (vJ i l)).bind (vJ i m)
  cases rB d v i (-1) with
  |none=>rfl
  |some d'=>exact uX l m d'
theorem nF {p:IProg}{blocks:List IBlk}{i:Int}{b:IBlk}{d d':wO}(h:pS p blocks i b d=some d'):wn blocks b.term=true/\∃d1,vJ i b.params d=some d1/\sS p i b.ops 0 d1=some d':=by
 unfold pS at h
 cases h1:vJ i b.params d with
 |none=>rw[h1] at h;cases h
 |some d1=>
  rw[h1,Option.bind_some] at h
  cases h2:sS p i b.ops 0 d1 with
  |none=>rw[h2] at h;cases h
  |some d2=>
   rw[h2,Option.bind_some] at h
   split at h
   ·cases h;exact⟨‹_›,d1,rfl,h2⟩
   ·cases h
theorem nk {p:IProg}{i:Int}:∀(os:List IOp) (k:Int) (d d':wO),sS p i os k d=some d'->∀o∈os,opF p o=true
 | [],_,_,_,_,o,ho=>by cases ho
 |x::os,k,d,d',h,o,ho=>by
  unfold sS at h
  split at h
  ·rename_i hx
   rcases List.mem_cons.1 ho with rfl|ho
   ·exact hx
   ·split at h
    ·cases h1:rB d x.res i k with
     |none=>rw[h1] at h;cases h
     |some d1=>rw[h1,Option.bind_some] at h;exact nk os _ _ _ h o ho
    ·exact nk os _ _ _ h o ho
  ·cases h
theorem rV {p:IProg}{blocks:List IBlk}:∀(bs:List IBlk) (i:Int) (d d':wO),uH p blocks bs i d=some d'->∀b∈bs,(∀o∈b.ops,opF p o=true)/\wn blocks b.term=true
 | [],_,_,_,_,b,hb=>by cases hb
 |x::bs,i,d,d',h,b,hb=>by
  unfold uH at h
  cases h1:pS p blocks i x d with
  |none=>rw[h1] at h;cases h
  |some d1=>
   rw[h1,Option.bind_some] at h
   rcases List.mem_cons.1 hb with rfl|hb
   ·obtain⟨h2,d2,_,h3⟩:=nF h1
    exact⟨nk _ _ _ _ h3,h2⟩
   ·exact rV bs _ _ _ h b hb
theorem tF {p:IProg}{n:Nat}{b:IBlk}{bs:List IBlk}(hf:p.funcs[n]? =some (b::bs))(h:yi p n=true):
 (b.params.length:Int)=p.args.getD n 0/\∃d,wg p (b::bs)=some d/\iM (b::bs) d=true:=by
 unfold yi at h
 rw[List.getD_eq_getElem?_getD,hf,Option.getD_some] at h
 simp only[Bool.and_eq_true,decide_eq_true_eq] at h
 obtain⟨h1,h2⟩:=h
 refine⟨h1,?_⟩
 cases h3:wg p (b::bs) with
 |none=>rw[h3] at h2;cases h2
 |some d=>rw[h3] at h2;exact⟨d,rfl,h2⟩
theorem se {p:IProg}(h:sR p=0):(p.funcs.length<=2000/\p.data.length<=512/\p.banks.length<=64)/\p.args.length=p.funcs.length/\p.args.all tX=true/\yw p p.entry=true/\(p.handler≠-1->yw p p.handler=true)/\wB p=true:=by
 unfold sR at h
 split at h
 ·omega
 split at h
 ·omega
 split at h
 ·omega
 split at h
 ·omega
 split at h
 ·omega
 rename_i h1 h2 h3 h4 h5
 refine⟨by omega,by simpa using h2,by simpa using h3,?_,?_,by simpa using h5⟩
 ·simpa using fun e=>h4 (.inl e)
 ·intro hn
  simpa using fun e=>h4 (.inr ⟨hn,e⟩)
theorem rz {p:IProg}(h:vC p=0):sR p=0/\∀n,n<p.funcs.length->yi p n=true:=by
 unfold vC at h
 split at h
 ·rename_i h1;exact absurd h h1
 ·rename_i h1
  refine⟨by omega,?_⟩
  split at h
  ·rename_i h2
   intro n hn
   exact List.all_eq_true.1 h2 n (List.mem_range.2 hn)
  ·omega
theorem jM {p:IProg}(h:vC p=0)(hpar:∀blocks∈p.funcs,∀b∈blocks,b.params.length<=65536):OkProg p:=by
 obtain⟨h0,hfn⟩:=rz h
 obtain⟨_,hal,hargs,_,hh,hpl⟩:=se h0
 have hget:∀i,0<=p.args.getD i 0/\p.args.getD i 0<=8:=by
  intro i
  rw[List.getD_eq_getElem?_getD]
  cases hx:p.args[i]? with
  |none=>simp
  |some x=>
   have:=List.all_eq_true.1 hargs x (List.mem_of_getElem? hx)
   unfold tX at this
   simp only[Bool.and_eq_true,decide_eq_true_eq] at this
   exact this
 refine⟨fun blocks hb b hbb=>?_,fun i b bs hi=>?_,fun hn=>?_,?_,fun i=>?_,hal⟩
 ·obtain⟨n,hn⟩:=List.getElem?_of_mem hb
  have hlt:=(List.getElem?_eq_some_iff.1 hn).1
  have hF:=hfn n hlt
  match blocks,hbb,hn with
  |b0::bs,hbb,hn=>
   obtain⟨_,d,hs,_⟩:=tF hn hF
   obtain⟨k1,k2⟩:=rV _ _ _ _ hs b hbb
   exact⟨fun o ho=>opF_ok (k1 o ho),termF_ok k2,hpar _ hb b hbb⟩
 ·exact(tF hi (hfn i (List.getElem?_eq_some_iff.1 hi).1)).1
 ·have:=hh hn
  unfold yw at this
  simp only[Bool.and_eq_true,decide_eq_true_eq,beq_iff_eq] at this
  obtain⟨a,b,c⟩:=this
  exact⟨a,by omega,c⟩
 ·intro s hs
  unfold wB at hpl
  rw[Bool.and_eq_true] at hpl
  have:=hpl.1
  unfold mh at this
  simpa using List.all_eq_true.1 this s hs
 ·have:=hget i;omega
open Go.RowKit
theorem uI {p:IProg}{i:Int}:∀(l m:List IOp) (k:Int) (d:wO),sS p i (l++m) k d=(sS p i l k d).bind (sS p i m (k+l.length))
 | [],m,k,d=>by simp[sS]
 |o::l,m,k,d=>by
  have e:k+1+(l.length:Int)=k+((o::l).length:Int):=by simp;omega
  show(if opF p o then(if 0<=o.res then(rB d o.res i k).bind (sS p i (l++m) (k+1)) else sS p i (l++m) (k+1) d) else none)=(if opF p o then(if 0<=o.res then(rB d o.res i k).bind (sS p i l (k+1)) else sS p i l (k+1) d) else none).bind _
  by_cases h:opF p o=true
  ·rw[if_pos h,if_pos h]
   by_cases h2:0<=o.res
   ·rw[if_pos h2,if_pos h2]
    cases rB d o.res i k with
    |none=>rfl
    |some d'=>rw[Option.bind_some,Option.bind_some,uI l m,e]
   ·rw[if_neg h2,if_neg h2,uI l m,e]
  ·rw[if_neg h,if_neg h];rfl
theorem ui {p:IProg}{bl:List IBlk}:∀(l m:List IBlk) (i:Int) (d:wO),uH p bl (l++m) i d=(uH p bl l i d).bind (uH p bl m (i+l.length))
 | [],m,i,d=>by simp[uH]
 |b::l,m,i,d=>by
  have e:i+1+(l.length:Int)=i+((b::l).length:Int):=by simp;omega
  show(pS p bl i b d).bind (uH p bl (l++m) (i+1))=((pS p bl i b d).bind (uH p bl l (i+1))).bind _
  cases pS p bl i b d with
  |none=>rfl
  |some d'=>rw[Option.bind_some,Option.bind_some,ui l m,e]
theorem sD {α:Type}{l:List α}{k:Nat}{x:α}(h:l[k]? =some x):l=l.take k++x::l.drop (k+1):=by
 rw[List.getElem?_eq_some_iff] at h
 obtain⟨hk,rfl⟩:=h
 conv=>lhs;rw[<-List.take_append_drop k l,List.drop_eq_getElem_cons hk]
theorem vS {α:Type}{l:List α}{k:Nat}{x:α}(h:l[k]? =some x):((l.take k).length:Int)=k:=by
 have:=(List.getElem?_eq_some_iff.1 h).1
 rw[List.length_take,Nat.min_eq_left (by omega)]
theorem lf {i:Int}{l:List Int}{k:Nat}{v:Int}(h:l[k]? =some v){d d':wO}(hd:vJ i (l.take k) d=some d'):vJ i (l.take (k+1)) d=rB d' v i (-1):=by
 rw[List.take_add_one,h,Option.toList,uX,hd,Option.bind_some]
 show(rB d' v i (-1)).bind (vJ i [])=_
 cases rB d' v i (-1)<;>rfl
theorem qr {i:Int}{l:List Int}{k:Nat}{v:Int}(h:l[k]? =some v){d d':wO}(hd:vJ i (l.take k) d=some d')(hn:rB d' v i (-1)=none):vJ i l d=none:=by
 rw[sD h,uX,hd,Option.bind_some]
 show(rB d' v i (-1)).bind _=none
 rw[hn];rfl
def ug (p:IProg)(i k:Int)(o:IOp)(d:wO):Option wO:=if opF p o then(if 0<=o.res then rB d o.res i k else some d) else none
theorem ro (p:IProg)(i k:Int)(o:IOp)(os:List IOp)(d:wO):sS p i (o::os) k d=(ug p i k o d).bind (sS p i os (k+1)):=by
 unfold sS ug
 by_cases h:opF p o=true
 ·rw[if_pos h,if_pos h]
  by_cases h2:0<=o.res
  ·rw[if_pos h2,if_pos h2]
  ·rw[if_neg h2,if_neg h2];rfl
 ·rw[if_neg h,if_neg h];rfl
theorem og {p:IProg}{i:Int}{l:List IOp}{k:Nat}{o:IOp}(h:l[k]? =some o){d d':wO}(hd:sS p i (l.take k) 0 d=some d'):sS p i (l.take (k+1)) 0 d=ug p i k o d':=by
 rw[List.take_add_one,h,Option.toList,uI,hd,Option.bind_some,ro,vS h,Int.zero_add]
 cases ug p i k o d'<;>rfl
theorem oR {p:IProg}{i:Int}{l:List IOp}{k:Nat}{o:IOp}(h:l[k]? =some o){d d':wO}(hd:sS p i (l.take k) 0 d=some d')(hn:ug p i k o d'=none):sS p i l 0 d=none:=by
 rw[sD h,uI,hd,Option.bind_some,ro,vS h,Int.zero_add,hn];rfl
theorem lQ {p:IProg}{bl l:List IBlk}{k:Nat}{b:IBlk}(h:l[k]? =some b){d d':wO}(hd:uH p bl (l.take k) 0 d=some d'):uH p bl (l.take (k+1)) 0 d=pS p bl k b d':=by
 rw[List.take_add_one,h,Option.toList,ui,hd,Option.bind_some,vS h,Int.zero_add]
 show(pS p bl k b d').bind (uH p bl [] _)=_
 cases pS p bl k b d'<;>rfl
theorem vt {p:IProg}{bl l:List IBlk}{k:Nat}{b:IBlk}(h:l[k]? =some b){d d':wO}(hd:uH p bl (l.take k) 0 d=some d')(hn:pS p bl k b d'=none):uH p bl l 0 d=none:=by
 rw[sD h,ui,hd,Option.bind_some,vS h,Int.zero_add]
 show(pS p bl k b d').bind _=none
 rw[hn];rfl
def sy:wO:=(fun _=>none,fun _=>none)
theorem wS (p:IProg)(bl:List IBlk):wg p bl=uH p bl bl 0 sy:=rfl
def ShpPost (w:World)(C m1 m2:Nat)(pv:List Value)(blv idv:Value)(r:Option wO)(e:Ending)(w':World):Prop:=
 e=.returned (.bool r.isSome)/\Kept m1 m2 w w'/\∀d,r=some d->∃n,n<9000000000000000000/\ChkAt w' C m1 m2 pv blv idv n d
def vZ (blocks:List IBlk):Prop:=blocks.length<=2000000/\∀b∈blocks,b.params.length<=2000000/\b.ops.length<=2000000/\b.term.to.length<=2000000
end Go.Proofs.Ytojclalkfhoooaa
set_option maxRecDepth 8000
namespace Go.Proofs.Ytojclalkfhoooaa
open Go.RowKit
structure SMem (w0 w:World) (B0 bs:Nat) (seen:List Bool) (pv:Value) (post:List Nat):Prop where
 hs:w.heap[bs]? =some (.cells (seen.map uo).toArray 4 (0,0))
 hp:w.ownsRow B0 3 1 pv post.length (post.map zj)
 hb:Below B0 w0 w
 lt:B0<=bs
structure ST (w w':World) (bs:Nat) (pv pv':Value):Prop where
 size:w.heap.size<=w'.heap.size
 blk:∀k,k<w.heap.size->k≠bs->pv.ownBlock≠some k->w'.heap[k]? =w.heap[k]?
 own:∀k,pv'.ownBlock=some k->pv.ownBlock=some k∨w.heap.size<=k
end Go.Proofs.Ytojclalkfhoooaa
set_option maxRecDepth 8000
namespace Go.Proofs.Ytojclalkfhoooaa
end Go.Proofs.Ytojclalkfhoooaa
set_option maxRecDepth 8000
namespace Go.Proofs.Ytojclalkfhoooaa
open Go.RowKit Go.Shelf
def j6 (w:World)(xs:List Int)(e:Ending)(w':World):Prop:=∃v,e=.returned v/\w'.ownsRow w.heap.size 3 1 v xs.length (xs.map zN)/\Below w.heap.size w w'
theorem lI (g:List (List Nat))(ord:List Nat):(un g ord).length=g.length:=by
 have h1:∀(l:List Nat) (P:List (List Nat)) (n:Nat),(l.foldl (xS n) P).length=P.length:=by
  intro l
  induction l with
  |nil=>intros;rfl
  |cons a l ih=>intro P n;rw[List.foldl_cons,ih];simp[xS]
 have h2:∀(l:List Nat) (P:List (List Nat)),(l.foldl (yh g) P).length=P.length:=by
  intro l
  induction l with
  |nil=>intros;rfl
  |cons a l ih=>intro P;rw[List.foldl_cons,ih];unfold yh;rw[h1]
 unfold un
 rw[h2];simp
theorem oS {g:List (List Nat)}(hr:∀row∈g,row.length<=2000000){ord:List Nat}(ho:ord.length<=2000000):∀row∈un g ord,row.length<=4000004000000:=by
 intro row hrow
 have:=rj g 2000000 hr ord (List.replicate g.length []) 0 (by intro r hr;rw[(List.mem_replicate.1 hr).2];simp) row hrow
 have h2:ord.length*2000000<=2000000*2000000:=Nat.mul_le_mul_right _ ho
 omega
theorem pz {preds:List (List Nat)}{f:Int->Int}:∀ {ns:List Nat} {idom idom':List Int} {ch ch':Bool},ny preds f ns idom ch idom' ch'->idom'.length=idom.length
 | [],_,_,_,_,h=>by rw[h.1]
 |n::ns,idom,idom',ch,ch',⟨pr,d,old,_,_,_,_,h⟩=>by
  rcases h with⟨_,h⟩|⟨_,h⟩
  ·exact pz h
  ·have:=pz h;simpa using this
theorem jF {preds:List (List Nat)}{f:Int->Int}{ns:List Nat}:∀ {k:Nat} {idom idom':List Int},ip preds f ns k idom idom'->idom'.length=idom.length
 |0,_,_,h=>h.elim
 |k+1,idom,idom',⟨i1,ch,h1,h2⟩=>by
  have e:=pz h1
  rcases h2 with⟨_,rfl⟩|⟨_,h2⟩
  ·exact e
  ·rw[jF h2,e]
theorem kf.len {g:List (List Nat)}{ns:List Nat}{idom:List Int}(h:kf g ns idom)(hg:0<g.length):idom.length=g.length:=by
 obtain⟨k,h⟩:=h
 rw[jF h];simp;omega
theorem pe (w:World)(C bv:Nat)(g:List (List Nat))(hv:zw g)(hn:g.length<=2000000)(hr:∀row∈g,row.length<=2000000)(ns:List Nat)(hF:tV g (0::ns))(idom:List Int)(hD:kf g ns idom)
 (hC:C<=w.heap.size) (hV:oN w C bv (0::ns) (atF (0::ns) (0::ns).length) (un g (0::ns))):
 Calls Try.prog 102 #[.pointer (some ⟨bv,0,none⟩),.int .i64 (g.length:Int)] w fun e w'=>∃b,e=.returned (.slice (some ⟨b,0,none⟩) g.length g.length)/\w.heap.size<=b/\w'.heap[b]? =some (.cells (idom.map (Value.int .i64)).toArray 3 (0,0))/\Below w.heap.size w w':=by
 obtain⟨h1,h2⟩:=hF.nodes hv
 obtain⟨k,hD⟩:=hD
 simp only[List.length_cons] at h1
 exact qQ w C bv g.length (0::ns) _ _ hC hV hv.1 hn ns rfl (fun x hx=>h2 x (by simp[hx])) (by omega) (lI _ _) (oS hr (by simp;omega)) k idom hD
theorem tw (w:World)(sv:Value)(g:List (List Nat))(B:Nat)(hB:B<=w.heap.size)(h:y7 zj w B sv g)(hv:zw g)(hn:g.length<=2000000)(hr:∀row∈g,row.length<=2000000)(ns:List Nat)(hF:tV g (0::ns))(idom:List Int)(hD:kf g ns idom):
 Calls Try.prog 67 #[.agg #[sv]] w (j6 w (idom.set 0 (-1))):=by
 obtain⟨a,cap,rfl,hcap⟩:=h.form
 have hbel:Below w.heap.size w (w.alloc (.cells #[.slice a g.length cap] 93)):=(Below.refl _ _).alloc (Nat.le_refl _) _
 have HL:=Lib.hid (hD.len hv.1)
 have HV:=Lib.hid hv
 have HR:=Lib.hid hr
 have HF:=Lib.hid hF
 have HD:=Lib.hid hD
 have cg:(w.alloc (.cells #[.slice a g.length cap] 93)).cell? ⟨w.heap.size,0,none⟩=some (.slice a g.length cap):=cell_of_one (zI rfl)
 have hgl:=hv.1
 clear hv hr hF hD
 go_enter Try.func67,Try.ntmps67
 go_wp2_with (go_at_call 100;go_must (refine(tK _ _ g B (by simp;omega) (h.below (hbel.mono hB)) HV.out hn HR.out).mono ?_;rintro e w1 ⟨rfl,hb1⟩;obtain⟨hc1,hf1⟩:=bcell hb1))
 generalize hW0:w.alloc (.cells #[.slice a g.length cap] 93)=W0 at cg hb1 hc1 hf1 ⊢
 have HW0:=Lib.hid hW0
 have lg:w.heap.size<W0.heap.size:=World.block_lt_of_cell? W0 _ cg
 have cg1:=(hc1 _ 0 lg).trans cg
 have hb01:Below (w.heap.size+1) W0 w1:=hb1.mono (by omega)
 clear hW0 hbel hc1 hf1 cg hb1
 go_cut [3] (fun s wx=>∃b,s=.slice (some ⟨b,0,none⟩) g.length g.length/\Hid (wx.heap[b]? =some (.cells (idom.map (Value.int .i64)).toArray 3 (0,0))/\w.heap.size<=b/\Below w.heap.size w wx))
 case first=>
  go_region_held3 (fun w'=>w'.cell? ⟨w.heap.size,0,none⟩=some (.slice a g.length cap)/\Below (w.heap.size+1) W0 w')
   (first
     |(go_split_ands;refine⟨?_,?_⟩<;>assumption)
     |(go_split_ands;refine⟨?_,uG ?_⟩<;>assumption)
     |(go_split_ands;exact oY ‹_› ‹_› (by assumption) (by assumption)))
   (first
     |(go_at_call 101;refine(view_any _ _ g B (o7 hB HW0 (by repeat' (first|assumption|(with_reducible refine Below.drew ?_)))) (nP h hB HW0 (by repeat' (first|assumption|(with_reducible refine Below.drew ?_)))) HV.out hn HR.out (0::ns) HF.out).mono ?_;rintro e w2 ⟨bv,rfl,hbv,hV,hb2⟩)
     |(go_at_call 102;refine(pe _ _ bv g HV.out hn HR.out ns HF.out idom HD.out (Nat.le_refl _) hV).mono ?_;rintro e w3 ⟨b,rfl,hbb,hrow,hb3⟩))
  all_goals
   go_wp2_with fail
   go_meet
   have hbw:Below (w.heap.size+1) W0 w3:=by
    repeat' (first|assumption|(with_reducible refine Below.drew ?_)|(refine Below.trans ?_ (Below.mono hb3 ?_))|(refine Below.trans ?_ (Below.mono hb2 ?_))|omega)
    all_goals (have:=hb2.size;have:=hb01.size;simp at *;omega)
   have hsz:=hb2.size
   have hsz1:=hb01.size
   exact⟨b,rfl,hrow,by simp at *;omega,ww rfl HW0 hbw⟩
 case rest=>
  obtain⟨b,rfl,HB⟩:=hcut
  have hl:=HL.out
  have cb:∃x,wc.cell? ⟨b,0,none⟩=some (.int .i64 x):=by
   obtain⟨x,hx⟩:∃x,idom[0]? =some x:=⟨_,List.getElem?_eq_getElem (by omega)⟩
   exact⟨x,zA HB.out.1 (by simp[hx])⟩
  obtain⟨x,cb⟩:=cb
  have fb:wc.frozen? ⟨b,0,none⟩=false:=zE HB.out.1
  go_wp2_with fail
  go_ret
  refine⟨_,rfl,?_,HB.out.2.2.setCell (by simpa using HB.out.2.1) _⟩
  have hs:=zD (i:=0) HB.out.1 (.int .i64 (-1))
  refine⟨by simp,.inr ⟨b,g.length,_,by simp[hl],HB.out.2.1,hs,by simp[hl],by unfold maxLen;omega,by simp[hl],?_⟩⟩
  simp only[List.map_set,List.length_set,hl,Nat.mul_one,List.setIfInBounds_toArray,List.toList_toArray]
  rw[List.take_of_length_le (by simp[hl])]
  rfl
open Go.RowKit Go.Shelf
structure ME where
 s:List Int
 args:List Int
 handler:Int
 me:Nat
 nf:Nat
structure MS where
 pos:Nat
 f:List IBlk
 cur:Nat
 next:Nat
 vals:List Int
 left:Int
def tkV (E:ME)(M:MS)(n:Nat):Nat:=(E.s.getD M.pos 0%(n:Int)).toNat
def MS.tick (M:MS):MS:= {M with pos:=M.pos+1 }
def wJ (next params:Nat):IBlk:=⟨(List.range params).map fun k=>((next+k:Nat):Int),[],⟨0,0,[]⟩⟩
def MS.block (M:MS)(params:Nat):MS:= {M with f:=M.f++ [wJ M.next params],next:=M.next+params }
def uc (c:Int):Bool:=(zi c).res||decide (c=26)
def wD {α:Type}(l:List α)(i:Nat)(g:α->α):List α:=match l[i]? with|some x=>l.set i (g x)|none=>l
def emOp (M:MS)(o:IOp):IOp:= {o with res:=if uc o.code then(M.next:Int) else -1 }
def MS.emit (M:MS)(o:IOp):MS:=
 {M with f:=wD M.f M.cur fun b=> {b with ops:=b.ops++ [emOp M o]},next:=if uc o.code then M.next+1 else M.next,vals:=if uc o.code then M.vals++ [(M.next:Int)] else M.vals }
def MS.endB (M:MS)(t:ITerm):MS:= {M with f:=wD M.f M.cur fun b=> {b with term:=t }}
def conOp (n:Nat):IOp:=⟨1,0,0,0,n,[]⟩
def MS.num (M:MS)(n:Nat):MS:=M.emit (conOp n)
def zJ (E:ME)(M:MS):Int×MS:=
 if M.vals.length=0 then((M.next:Int),M.tick.num (tkV E M 9))
 else if 0<tkV E M.tick 3 then(M.vals.getD (M.vals.length-1-tkV E M.tick.tick (min 4 M.vals.length)) 0,M.tick.tick.tick)
 else(M.vals.getD (tkV E M M.vals.length) 0,M.tick.tick)
def sE (k:Nat):Nat:=if k=0 then 15 else 6
def yJ (E:ME)(M:MS):Int×MS:=
 if tkV E M 24=23 then zJ E M.tick
 else((M.next:Int),M.tick.tick.tick.emit ⟨2,0,(tkV E M.tick 2:Nat),0,tkV E M.tick.tick (sE (tkV E M.tick 2)),[]⟩)
def yI (E:ME):Nat->MS->List Int×MS
 |0,M=>([],M)
 |n+1,M=>((yI E n M).1++ [(zJ E (yI E n M).2).1],(zJ E (yI E n M).2).2)
def vN (E:ME)(M:MS):MS:=
 if E.nf<=E.me+1 then M
 else
  let f:=E.me+1+tkV E M (E.nf-E.me-1)
  if(f:Int)=E.handler then M.tick
  else(yI E (E.args.getD f 0).toNat M.tick).2.emit ⟨26,0,(f:Nat),0,0,(yI E (E.args.getD f 0).toNat M.tick).1⟩
def yR (E:ME)(M:MS):MS:=
 let a:=zJ E M
 let b:=zJ E a.2
 let c:Nat:=5+tkV E b.2 13
 let M3:=b.2.tick
 if c=8 then
  (if 0<tkV E M3 8 then
    ((M3.tick.num 1).emit ⟨10,0,b.1,(M3.next:Nat),0,[]⟩).emit ⟨8,0,a.1,((M3.next+1:Nat):Int),0,[]⟩
  else M3.tick.emit ⟨8,0,a.1,b.1,0,[]⟩)
 else M3.emit ⟨(c:Nat),0,a.1,b.1,0,[]⟩
def xK (E:ME)(M0:MS):MS:=
 let k:=tkV E M0 14
 let M:=M0.tick
 if k=0 then M.tick.num (tkV E M 65536)
 else if k=1 then(zJ E M.tick).2.emit ⟨3+tkV E M 2,0,(zJ E M.tick).1,0,0,[]⟩
 else if k=2∨k=3 then(yJ E M).2.tick.emit ⟨18+tkV E (yJ E M).2 2,0,(yJ E M).1,0,0,[]⟩
 else if k=4∨k=5 then
  let b:=zJ E (yJ E M).2
  b.2.tick.emit ⟨20+tkV E b.2 2,0,(yJ E M).1,b.1,0,[]⟩
 else if k=6 then M.tick.emit ⟨24,0,0,0,1+tkV E M 3,[]⟩
 else if k=7 then(zJ E M).2.tick.emit ⟨25,0,(zJ E M).1,0,1+tkV E (zJ E M).2 3,[]⟩
 else if k=8 then(M.tick.num (tkV E M 4096)).tick.emit ⟨22+tkV E (M.tick.num (tkV E M 4096)) 2,0,(M.next:Nat),0,0,[]⟩
 else if k=9 then vN E M
 else if k=10 then(if tkV E M 3=0 then M.tick.emit ⟨27,0,0,0,0,[]⟩ else M.tick)
 else yR E M
def qY (E:ME):Nat->MS->MS
 |0,M=>M
 |n+1,M=>qY E n (xK E M)
def xE:Nat->MS->MS
 |0,M=>M
 |n+1,M=>(xE n M).block 0
def uV (E:ME)(part:MS->MS)(tg:Nat)(join keep:Nat):Nat->Nat->MS->MS
 |0,_,M=>M
 |n+1,k,M0=>
  let M1:=part {M0 with cur:=tg+k }
  let v:=zJ E M1.tick
  let M3:=if tkV E M1 12=11/\0<k then v.2.endB ⟨4,v.1,[]⟩ else v.2.endB ⟨1,0,[⟨(join:Nat),[v.1]⟩]⟩
  uV E part tg join keep n (k+1) {M3 with vals:=M3.vals.take keep }
def xk (tg n:Nat):List IEdge:=(List.range n).map fun k=>⟨((tg+k:Nat):Int),[]⟩
def xi (E:ME)(part:MS->MS)(n:Nat)(M:MS):MS:=
 let c:=zJ E M
 let tg:=c.2.f.length
 let M2:=(xE n c.2).block 1
 let join:=tg+n
 let M3:=M2.endB ⟨if 2<n then 3 else 2,c.1,xk tg n⟩
 let M4:=uV E part tg join M3.vals.length n 0 M3
 {M4 with cur:=join,vals:=M4.vals++ [(((M4.f.getD join ⟨[],[],⟨0,0,[]⟩⟩).params).getD 0 0)]}
def tH (E:ME)(part:MS->MS)(M:MS):MS:=
 let n:=(M.next:Int)
 let x:=zJ E (M.tick.num (tkV E M 5))
 let head:=x.2.f.length
 let i:Int:=(x.2.next:Nat)
 let j:Int:=((x.2.next+1:Nat):Int)
 let M2:=(((x.2.block 2).block 0).block 0).endB ⟨1,0,[⟨(head:Nat),[n,x.1]⟩]⟩
 let M3:=({M2 with cur:=head,vals:=M2.vals++ [j]}:MS).endB ⟨2,i,[⟨((head+1:Nat):Int),[]⟩,⟨((head+2:Nat):Int),[]⟩]⟩
 let M4:=part {M3 with cur:=head+1 }
 let M5:=(M4.num 1).emit ⟨6,0,i,(M4.next:Nat),0,[]⟩
 let y:=zJ E M5
 let M6:=y.2.endB ⟨1,0,[⟨(head:Nat),[((M4.next+1:Nat):Int),y.1]⟩]⟩
 {M6 with vals:=M6.vals.take M3.vals.length,cur:=head+2 }
def tR (E:ME)(M:MS):MS:=
 let M1:=qY E (tkV E M 5+1) M.tick
 {M1 with left:=M1.left-1 }
def zp (E:ME):Nat->MS->MS
 |0,M=>tR E M
 |d+1,M=>
  let M2:=tR E M
  if M2.left<1 then M2
  else
   let k:=tkV E M2 5
   if k=1∨k=2 then xi E (zp E d) 2 M2.tick
   else if k=3 then tH E (zp E d) M2.tick
   else if k=4 then xi E (zp E d) (2+tkV E M2.tick 3) M2.tick.tick
   else M2.tick
def xD (E:ME)(pos:Nat):MS:=
 let M0:MS:=⟨pos,[],0,0,[],6⟩
 let M1:MS:=({M0.tick with next:=tkV E M0 3*10 }:MS).block (E.args.getD E.me 0).toNat
 {M1 with vals:=(wJ (tkV E M0 3*10) (E.args.getD E.me 0).toNat).params }
def xR (E:ME)(pos:Nat):MS:=
 let M1:=zp E 1 (zp E 2 (xD E pos))
 let k:=tkV E M1 10
 if k=0 then M1.tick.endB ⟨5,0,[]⟩
 else if k=1 then M1.tick.endB ⟨4,-1,[]⟩
 else(zJ E M1.tick).2.endB ⟨4,(zJ E M1.tick).1,[]⟩
def tk0 (s:List Int)(pos n:Nat):Nat:=(s.getD pos 0%(n:Int)).toNat
def mdN (s:List Int):Nat:=1+tk0 s 0 4
def yS (s:List Int):Nat->List Int
 |0=> []
 |n+1=>yS s n++ [if n=0 then 0 else((tk0 s n 4:Nat):Int)]
def oJ (s:List Int):Bool:=decide (1<mdN s) && decide ((yS s (mdN s)).getD (mdN s-1) 0=0)
def vw (s:List Int):Int:=if oJ s=true/\tk0 s (mdN s) 2=0 then((mdN s-1:Nat):Int) else -1
def sP (s:List Int):Nat:=if oJ s then mdN s+1 else mdN s
def xC (s:List Int)(k:Nat):ME:=⟨s,yS s (mdN s),vw s,k,mdN s⟩
def zg (s:List Int):Nat->List (List IBlk)×Nat
 |0=>([],sP s)
 |n+1=>((zg s n).1++ [(xR (xC s n) (zg s n).2).f],(xR (xC s n) (zg s n).2).pos)
def qV (s:List Int):Bool:=decide (2<mdN s) && (decide (vw s<0) && decide (tk0 s (zg s (mdN s)).2 12=11))
def sG:ByteArray:=⟨((List.range 4096).map fun k=>UInt8.ofNat (k*k+k/256)).toArray⟩
def kr:List IObj:=[⟨-1,16384,16⟩,⟨-1,16640,7⟩,⟨0,128,32⟩]
def uR (s:List Int):IProg:=
 ⟨if qV s then(zg s (mdN s)).1.set (mdN s-1) [] else(zg s (mdN s)).1,yS s (mdN s),0,vw s,kr,[sG]⟩
def nN (l:List IBlk):Nat:=(l.map fun b=>b.ops.length).sum
def MS.sz (M:MS):Nat:=M.pos+M.next+M.f.length+M.vals.length+nN M.f
theorem xZ {α:Type}(l:List α)(i:Nat)(g:α->α):(wD l i g).length=l.length:=by unfold wD;split<;>simp
theorem xI {α:Type}{l:List α}{i:Nat}{x:α}(h:l[i]? =some x)(g:α->α):wD l i g=l.set i (g x):=by unfold wD;rw[h]
def xU (l m:List IBlk):Prop:=∀(i:Nat) (b:IBlk),l[i]? =some b->∃b',m[i]? =some b'/\b'.params=b.params
theorem xU.refl (l:List IBlk):xU l l:=fun _ b h=>⟨b,h,rfl⟩
theorem xU.trans {l m n:List IBlk}(h:xU l m)(k:xU m n):xU l n:=fun i b hb=>by
 obtain⟨b1,h1,h2⟩:=h i b hb
 obtain⟨b2,h3,h4⟩:=k i b1 h1
 exact⟨b2,h3,h4.trans h2⟩
theorem qB (l:List IBlk)(c:Nat)(g:IBlk->IBlk)(hg:∀b,(g b).params=b.params):xU l (wD l c g):=fun i b hb=>by
 cases h:l[c]? with
 |none=>unfold wD;rw[h];exact⟨b,hb,rfl⟩
 |some x=>
  rw[xI h,List.getElem?_set]
  by_cases e:c=i
  ·subst e
   rw[h] at hb;cases hb
   rw[if_pos rfl,if_pos (List.getElem?_eq_some_iff.1 h).1]
   exact⟨_,rfl,hg b⟩
  ·rw[if_neg e];exact⟨b,hb,rfl⟩
theorem qX (l m:List IBlk):xU l (l++m):=fun i b hb=>⟨b,by rw[List.getElem?_append_left (List.getElem?_eq_some_iff.1 hb).1];exact hb,rfl⟩
theorem ry (l m:List IBlk):nN (l++m)=nN l+nN m:=by unfold nN;rw[List.map_append,List.sum_append]
theorem sN:∀(l:List IBlk) (i:Nat) (b c:IBlk),l[i]? =some b->nN (l.set i c)+b.ops.length=nN l+c.ops.length
 | [],i,b,c,h=>by simp at h
 |x::l,0,b,c,h=>by
  cases h
  show((c::l).map _).sum+_=((x::l).map _).sum+_
  rw[List.map_cons,List.map_cons,List.sum_cons,List.sum_cons]
  omega
 |x::l,i+1,b,c,h=>by
  have:=sN l i b c (by simpa using h)
  show((x::l.set i c).map _).sum+_=((x::l).map _).sum+_
  unfold nN at this
  rw[List.map_cons,List.map_cons,List.sum_cons,List.sum_cons]
  omega
theorem opsN_le {l:List IBlk}{i:Nat}{b:IBlk}(h:l[i]? =some b):b.ops.length<=nN l:=by
 have:=sN l i b ⟨[],[],⟨0,0,[]⟩⟩ h
 simp at this
 omega
theorem pG (l:List IBlk)(i:Nat)(g:IBlk->IBlk)(c:Nat)(hg:∀b,(g b).ops.length<=b.ops.length+c):nN (wD l i g)<=nN l+c:=by
 cases h:l[i]? with
 |none=>unfold wD;rw[h];exact Nat.le_add_right _ _
 |some b=>
  rw[xI h]
  have:=sN l i b (g b) h
  have:=hg b
  omega
structure Grow (c:Nat) (M M':MS):Prop where
 left:M'.left=M.left
 pos:M.pos<=M'.pos
 sz:M'.sz<=M.sz+c
 cur:M'.cur=M.cur
 len:M'.f.length=M.f.length
 nxt:M.next<=M'.next
 pre:M.vals<+:M'.vals
 par:xU M.f M'.f
theorem Grow.refl (M:MS):Grow 0 M M:=⟨rfl,Nat.le_refl _,Nat.le_refl _,rfl,rfl,Nat.le_refl _,List.prefix_rfl,xU.refl _⟩
theorem Grow.trans {c d:Nat}{M M1 M2:MS}(h:Grow c M M1)(k:Grow d M1 M2):Grow (c+d) M M2:=⟨k.left.trans h.left,Nat.le_trans h.pos k.pos,by have:=h.sz;have:=k.sz;omega,k.cur.trans h.cur,k.len.trans h.len,Nat.le_trans h.nxt k.nxt,h.pre.trans k.pre,h.par.trans k.par⟩
theorem Grow.mono {c d:Nat}{M M1:MS}(h:Grow c M M1)(hc:c<=d):Grow d M M1:=⟨h.left,h.pos,by have:=h.sz;omega,h.cur,h.len,h.nxt,h.pre,h.par⟩
theorem zT (M:MS):Grow 1 M M.tick:=⟨rfl,Nat.le_succ _,by unfold MS.sz MS.tick;simp only;omega,rfl,rfl,Nat.le_refl _,List.prefix_rfl,xU.refl _⟩
theorem yB (M:MS)(o:IOp):Grow 3 M (M.emit o):=by
 have h:=pG M.f M.cur (fun b=> {b with ops:=b.ops++ [emOp M o]}) 1 (fun b=>by simp)
 refine⟨rfl,Nat.le_refl _,?_,rfl,xZ _ _ _,?_,?_,qB _ _ _ (fun _=>rfl)⟩
 ·unfold MS.sz MS.emit
  simp only[xZ]
  split
  ·simp only[List.length_append,List.length_singleton];omega
  ·omega
 ·unfold MS.emit;simp only;split<;>omega
 ·unfold MS.emit;simp only;split
  ·exact List.prefix_append _ _
  ·exact List.prefix_rfl
theorem wT (M:MS)(n:Nat):Grow 3 M (M.num n):=yB _ _
theorem zv (M:MS)(t:ITerm):Grow 0 M (M.endB t):=by
 have h:=pG M.f M.cur (fun b=> {b with term:=t }) 0 (fun b=>Nat.le_refl _)
 refine⟨rfl,Nat.le_refl _,?_,rfl,xZ _ _ _,Nat.le_refl _,List.prefix_rfl,qB _ _ _ (fun _=>rfl)⟩
 unfold MS.sz MS.endB
 simp only[xZ]
 omega
theorem yU (E:ME)(M:MS):Grow 4 M (zJ E M).2:=by
 unfold zJ
 split
 ·exact(zT M).trans (wT _ _)
 split
 ·exact(((zT M).trans (zT _)).trans (zT _)).mono (by omega)
 ·exact((zT M).trans (zT _)).mono (by omega)
theorem ue (E:ME)(M:MS):Grow 6 M (yJ E M).2:=by
 unfold yJ
 split
 ·exact((zT M).trans (yU E _)).mono (by omega)
 ·exact(((zT M).trans (zT _)).trans (zT _)).trans (yB _ _)
theorem tj (E:ME):∀(n:Nat) (M:MS),Grow (4*n) M (yI E n M).2
 |0,M=>Grow.refl M
 |n+1,M=>((tj E n M).trans (yU E _)).mono (by omega)
theorem sI (E:ME)(hE:∀x∈E.args,0<=x/\x<4)(M:MS):Grow 16 M (vN E M):=by
 unfold vN
 split
 ·exact(Grow.refl M).mono (by omega)
 simp only
 split
 ·exact(zT M).mono (by omega)
 ·have h:∀f,(E.args.getD f 0).toNat<=3:=fun f=>by
   rw[List.getD_eq_getElem?_getD]
   cases hx:E.args[f]? with
   |none=>simp
   |some x=>have:=hE x (List.mem_of_getElem? hx);simp only[Option.getD_some];omega
  have:=h (E.me+1+tkV E M (E.nf-E.me-1))
  exact(((zT M).trans (tj E _ _)).trans (yB _ _)).mono (by omega)
theorem kJ (E:ME)(M:MS):Grow 19 M (yR E M):=by
 unfold yR
 simp only
 have h:=((yU E M).trans (yU E _)).trans (zT _)
 split
 ·split
  ·exact((((h.trans (zT _)).trans (wT _ _)).trans (yB _ _)).trans (yB _ _)).mono (by omega)
  ·exact((h.trans (zT _)).trans (yB _ _)).mono (by omega)
 ·exact(h.trans (yB _ _)).mono (by omega)
theorem pX (E:ME)(hE:∀x∈E.args,0<=x/\x<4)(M:MS):Grow 20 M (xK E M):=by
 unfold xK
 simp only
 have h:=zT M
 split
 ·exact((h.trans (zT _)).trans (wT _ _)).mono (by omega)
 split
 ·exact(((h.trans (zT _)).trans (yU E _)).trans (yB _ _)).mono (by omega)
 split
 ·exact(((h.trans (ue E _)).trans (zT _)).trans (yB _ _)).mono (by omega)
 split
 ·exact((((h.trans (ue E _)).trans (yU E _)).trans (zT _)).trans (yB _ _)).mono (by omega)
 split
 ·exact((h.trans (zT _)).trans (yB _ _)).mono (by omega)
 split
 ·exact(((h.trans (yU E _)).trans (zT _)).trans (yB _ _)).mono (by omega)
 split
 ·exact((((h.trans (zT _)).trans (wT _ _)).trans (zT _)).trans (yB _ _)).mono (by omega)
 split
 ·exact(h.trans (sI E hE _)).mono (by omega)
 split
 ·split
  ·exact((h.trans (zT _)).trans (yB _ _)).mono (by omega)
  ·exact(h.trans (zT _)).mono (by omega)
 ·exact(h.trans (kJ E _)).mono (by omega)
theorem pw (E:ME)(hE:∀x∈E.args,0<=x/\x<4):∀(n:Nat) (M:MS),Grow (20*n) M (qY E n M)
 |0,M=>Grow.refl M
 |n+1,M=>((pX E hE M).trans (pw E hE n _)).mono (by omega)
theorem vO (E:ME)(M:MS){n:Nat}(hn:0<n):tkV E M n<n:=by
 unfold tkV
 have h1:=Int.emod_nonneg (E.s.getD M.pos 0) (show(n:Int)≠0 by omega)
 have h2:=Int.emod_lt_of_pos (E.s.getD M.pos 0) (show(0:Int)<n by omega)
 omega
theorem ma (n p:Nat):nN [wJ n p]=0:=rfl
theorem sz_block (M:MS)(p:Nat):(M.block p).sz=M.sz+1+p:=by
 unfold MS.sz MS.block
 simp only[List.length_append,List.length_singleton,ry,ma]
 omega
structure GrowP (c:Nat) (M M':MS):Prop where
 pos:M.pos<=M'.pos
 sz:M'.sz<=M.sz+c
 len:M.f.length<=M'.f.length
 nxt:M.next<=M'.next
 pre:M.vals<+:M'.vals
 cur:M.cur<M.f.length->M'.cur<M'.f.length
 left:M'.left<=M.left
 lft:6<=M.left+M.pos->6<=M'.left+M'.pos
 par:xU M.f M'.f
theorem GrowP.refl (M:MS):GrowP 0 M M:=⟨Nat.le_refl _,Nat.le_refl _,Nat.le_refl _,Nat.le_refl _,List.prefix_rfl,fun h=>h,Int.le_refl _,fun h=>h,xU.refl _⟩
theorem GrowP.trans {c d:Nat}{M M1 M2:MS}(h:GrowP c M M1)(k:GrowP d M1 M2):GrowP (c+d) M M2:=
 ⟨Nat.le_trans h.pos k.pos,by have:=h.sz;have:=k.sz;omega,Nat.le_trans h.len k.len,Nat.le_trans h.nxt k.nxt,h.pre.trans k.pre,fun e=>k.cur (h.cur e),Int.le_trans k.left h.left,fun e=>k.lft (h.lft e),h.par.trans k.par⟩
theorem GrowP.mono {c d:Nat}{M M1:MS}(h:GrowP c M M1)(hc:c<=d):GrowP d M M1:= {h with sz:=by have:=h.sz;omega }
theorem Grow.p {c:Nat}{M M':MS}(h:Grow c M M'):GrowP c M M':=⟨h.pos,h.sz,Nat.le_of_eq h.len.symm,h.nxt,h.pre,fun e=>by rw[h.cur,h.len];exact e,Int.le_of_eq h.left,fun e=>by have:=h.left;have:=h.pos;omega,h.par⟩
theorem xM (M:MS)(p:Nat):GrowP (1+p) M (M.block p):=
 ⟨Nat.le_refl _,by rw[sz_block];omega,by unfold MS.block;simp,by unfold MS.block;simp,List.prefix_rfl,fun e=>by unfold MS.block;simp;omega,Int.le_refl _,fun e=>e,qX _ _⟩
theorem vW:∀(n:Nat) (M:MS),GrowP n M (xE n M)
 |0,M=>GrowP.refl M
 |n+1,M=>(vW n M).trans ((xM _ 0).mono (by omega))
theorem tB:∀(n:Nat) (M:MS),(xE n M).f.length=M.f.length+n
 |0,M=>rfl
 |n+1,M=>by show((xE n M).f++ [_]).length=_;rw[List.length_append,tB n M];rfl
theorem yz (M:MS)(p:Nat):(M.block p).f.length=M.f.length+1:=by unfold MS.block;simp
theorem vk (M:MS)(c:Nat)(h:c<M.f.length):GrowP 0 M {M with cur:=c }:=⟨Nat.le_refl _,Nat.le_refl _,Nat.le_refl _,Nat.le_refl _,List.prefix_rfl,fun _=>h,Int.le_refl _,fun e=>e,xU.refl _⟩
theorem sg {α:Type}{l m:List α}(h:l<+:m):l.length<=m.length:=by obtain⟨t,rfl⟩:=h;simp
theorem uF {α:Type}{l m:List α}(h:l<+:m):m.take l.length=l:=by obtain⟨t,rfl⟩:=h;simp
theorem sY {c:Nat}{M M1:MS}(h:GrowP c M M1):GrowP c M {M1 with vals:=M1.vals.take M.vals.length }:=by
 refine⟨h.pos,?_,h.len,h.nxt,by rw[uF h.pre];exact List.prefix_rfl,h.cur,h.left,h.lft,h.par⟩
 have h1:=h.sz
 have h2:=sg h.pre
 unfold MS.sz at h1 ⊢
 simp only[uF h.pre]
 omega
def wM (E:ME)(join k:Nat)(M1:MS):MS:=
 if tkV E M1 12=11/\0<k then(zJ E M1.tick).2.endB ⟨4,(zJ E M1.tick).1,[]⟩ else(zJ E M1.tick).2.endB ⟨1,0,[⟨(join:Nat),[(zJ E M1.tick).1]⟩]⟩
theorem su (E:ME)(join k:Nat)(M1:MS):GrowP 5 M1 (wM E join k M1):=by
 have h:=((zT M1).trans (yU E _)).p
 unfold wM
 split
 ·exact h.trans (zv _ _).p
 ·exact h.trans (zv _ _).p
theorem rg (E:ME)(part:MS->MS)(tg join keep n k:Nat)(M:MS):uV E part tg join keep (n+1) k M=uV E part tg join keep n (k+1) {wM E join k (part {M with cur:=tg+k }) with vals:=(wM E join k (part {M with cur:=tg+k })).vals.take keep }:=rfl
theorem pF (E:ME)(part:MS->MS)(P:Nat)(hP:∀M,GrowP P M (part M))(tg join:Nat):∀(n k:Nat) (M:MS),tg+k+n<=M.f.length->GrowP (n*(P+5)) M (uV E part tg join M.vals.length n k M)/\(uV E part tg join M.vals.length n k M).vals=M.vals
 |0,k,M,h=>⟨(GrowP.refl M).mono (by omega),rfl⟩
 |n+1,k,M,h=>by
  rw[rg]
  have h1:=((vk M (tg+k) (by omega)).trans ((hP _).trans (su E join k (part {M with cur:=tg+k })))).mono (show 0+(P+5)<=P+5 by omega)
  have h2:=sY h1
  have h3:({wM E join k (part {M with cur:=tg+k }) with vals:=(wM E join k (part {M with cur:=tg+k })).vals.take M.vals.length }:MS).vals=M.vals:=uF h1.pre
  have h4:=pF E part P hP tg join n (k+1) {wM E join k (part {M with cur:=tg+k }) with vals:=(wM E join k (part {M with cur:=tg+k })).vals.take M.vals.length } (by have:=h2.len;simp only at this ⊢;omega)
  rw[h3] at h4
  refine⟨(h2.trans h4.1).mono ?_,h4.2⟩
  rw[Nat.succ_mul];omega
theorem uU (E:ME)(part:MS->MS)(P:Nat)(hP:∀M,GrowP P M (part M))(n:Nat)(hn:n<=4)(M:MS):GrowP (31+4*P) M (xi E part n M):=by
 unfold xi
 simp only
 have h1:=(yU E M).p
 generalize zJ E M=c at *
 have h2:=(h1.trans (vW n c.2)).trans (xM _ 1)
 have l2:((xE n c.2).block 1).f.length=c.2.f.length+n+1:=by rw[yz,tB]
 have h3:=h2.trans (zv ((xE n c.2).block 1) ⟨if 2<n then 3 else 2,c.1,xk c.2.f.length n⟩).p
 have l3:(((xE n c.2).block 1).endB ⟨if 2<n then 3 else 2,c.1,xk c.2.f.length n⟩).f.length=c.2.f.length+n+1:=(zv _ _).len.trans l2
 generalize ((xE n c.2).block 1).endB ⟨if 2<n then 3 else 2,c.1,xk c.2.f.length n⟩=M3 at *
 obtain⟨h4,h5⟩:=pF E part P hP c.2.f.length (c.2.f.length+n) n 0 M3 (by omega)
 generalize uV E part c.2.f.length (c.2.f.length+n) M3.vals.length n 0 M3=M4 at *
 have h6:=h3.trans h4
 have hm:n*(P+5)<=4*(P+5):=Nat.mul_le_mul_right _ hn
 refine⟨h6.pos,?_,h6.len,h6.nxt,h6.pre.trans (List.prefix_append _ _),fun e=>?_,h6.left,h6.lft,h6.par⟩
 ·have:=h6.sz
  unfold MS.sz at this ⊢
  simp only[List.length_append,List.length_singleton]
  omega
 ·have:=h4.len
  show c.2.f.length+n<M4.f.length
  omega
theorem qg (E:ME)(part:MS->MS)(P:Nat)(hP:∀M,GrowP P M (part M))(M:MS):GrowP (24+P) M (tH E part M):=by
 unfold tH
 simp only
 have h1:=(((zT M).trans (wT M.tick (tkV E M 5))).trans (yU E _)).p
 generalize zJ E (M.tick.num (tkV E M 5))=x at *
 have l2:(((x.2.block 2).block 0).block 0).f.length=x.2.f.length+3:=by rw[yz,yz,yz]
 have h2:=((h1.trans (xM _ 2)).trans (xM _ 0)).trans (xM _ 0)
 have h3:=h2.trans (zv (((x.2.block 2).block 0).block 0) ⟨1,0,[⟨(x.2.f.length:Nat),[(M.next:Int),x.1]⟩]⟩).p
 have l3:=(zv (((x.2.block 2).block 0).block 0) ⟨1,0,[⟨(x.2.f.length:Nat),[(M.next:Int),x.1]⟩]⟩).len.trans l2
 generalize (((x.2.block 2).block 0).block 0).endB ⟨1,0,[⟨(x.2.f.length:Nat),[(M.next:Int),x.1]⟩]⟩=M2 at *
 have h4:GrowP 1 M2 {M2 with cur:=x.2.f.length,vals:=M2.vals++ [((x.2.next+1:Nat):Int)]}:=by
  refine⟨Nat.le_refl _,?_,Nat.le_refl _,Nat.le_refl _,List.prefix_append _ _,fun _=>by show x.2.f.length<M2.f.length;omega,Int.le_refl _,fun e=>e,xU.refl _⟩
  unfold MS.sz
  simp only[List.length_append,List.length_singleton]
  omega
 have h5:=(h3.trans h4).trans (zv {M2 with cur:=x.2.f.length,vals:=M2.vals++ [((x.2.next+1:Nat):Int)]} ⟨2,(x.2.next:Nat),[⟨((x.2.f.length+1:Nat):Int),[]⟩,⟨((x.2.f.length+2:Nat):Int),[]⟩]⟩).p
 have l5:=(zv {M2 with cur:=x.2.f.length,vals:=M2.vals++ [((x.2.next+1:Nat):Int)]} ⟨2,(x.2.next:Nat),[⟨((x.2.f.length+1:Nat):Int),[]⟩,⟨((x.2.f.length+2:Nat):Int),[]⟩]⟩).len
 have l5':(MS.endB {M2 with cur:=x.2.f.length,vals:=M2.vals++ [((x.2.next+1:Nat):Int)]} ⟨2,(x.2.next:Nat),[⟨((x.2.f.length+1:Nat):Int),[]⟩,⟨((x.2.f.length+2:Nat):Int),[]⟩]⟩).f.length=x.2.f.length+3:=l5.trans l3
 generalize MS.endB {M2 with cur:=x.2.f.length,vals:=M2.vals++ [((x.2.next+1:Nat):Int)]} ⟨2,(x.2.next:Nat),[⟨((x.2.f.length+1:Nat):Int),[]⟩,⟨((x.2.f.length+2:Nat):Int),[]⟩]⟩=M3 at *
 have h6:=(vk M3 (x.2.f.length+1) (by omega)).trans (hP _)
 have h7:=h6.trans (wT (part {M3 with cur:=x.2.f.length+1 }) 1).p
 generalize part {M3 with cur:=x.2.f.length+1 }=M4 at *
 have h8:=(h7.trans (yB (M4.num 1) ⟨6,0,(x.2.next:Nat),(M4.next:Nat),0,[]⟩).p).trans (yU E _).p
 generalize zJ E ((M4.num 1).emit ⟨6,0,(x.2.next:Nat),(M4.next:Nat),0,[]⟩)=y at *
 have h9:=sY (h8.trans (zv y.2 ⟨1,0,[⟨(x.2.f.length:Nat),[((M4.next+1:Nat):Int),y.1]⟩]⟩).p)
 generalize hM6:y.2.endB ⟨1,0,[⟨(x.2.f.length:Nat),[((M4.next+1:Nat):Int),y.1]⟩]⟩=M6 at *
 have hl9:=h9.len
 simp only at hl9
 exact((h5.trans h9).trans (vk {M6 with vals:=M6.vals.take M3.vals.length } (x.2.f.length+2) (by show x.2.f.length+2<M6.f.length;omega))).mono (by omega)
theorem oL (E:ME)(hE:∀x∈E.args,0<=x/\x<4)(M:MS):GrowP 101 M (tR E M):=by
 unfold tR
 simp only
 have hk:=vO E M (n:=5) (by omega)
 have h1:=(zT M).trans (pw E hE (tkV E M 5+1) M.tick)
 have h2:=(pw E hE (tkV E M 5+1) M.tick)
 have h3:=h1.p
 refine⟨h3.pos,?_,h3.len,h3.nxt,h3.pre,h3.cur,by have:=h3.left;show _-1<=M.left;omega,fun e=>?_,h3.par⟩
 ·have:=h3.sz
  unfold MS.sz at this ⊢
  simp only
  omega
 ·have e1:=h1.left
  have e2:=h2.pos
  have e3:M.tick.pos=M.pos+1:=rfl
  show 6<=(qY E (tkV E M 5+1) M.tick).left-1+(((qY E (tkV E M 5+1) M.tick).pos:Nat):Int)
  omega
def pC:Nat->Nat
 |0=>101
 |d+1=>134+4*pC d
theorem xw (E:ME)(hE:∀x∈E.args,0<=x/\x<4):∀(d:Nat) (M:MS),GrowP (pC d) M (zp E d M)
 |0,M=>oL E hE M
 |d+1,M=>by
  unfold zp
  simp only
  have h1:=oL E hE M
  generalize tR E M=M2 at *
  have hd:=xw E hE d
  have h0:pC (d+1)=134+4*pC d:=rfl
  have ht:=(zT M2).p
  have htt:=(zT M2.tick).p
  split
  ·exact h1.mono (by omega)
  split
  ·exact((h1.trans ht).trans (uU E _ _ hd 2 (by omega) _)).mono (by omega)
  split
  ·exact((h1.trans ht).trans (qg E _ _ hd _)).mono (by omega)
  split
  ·have:=vO E M2.tick (n:=3) (by omega)
   exact(((h1.trans ht).trans htt).trans (uU E _ _ hd (2+tkV E M2.tick 3) (by omega) _)).mono (by omega)
  ·exact(h1.trans ht).mono (by omega)
def DefAt (f:List IBlk)(v:Int)(i:Nat)(k:Int):Prop:=
 ∃b,f[i]? =some b/\((k=-1/\v∈b.params)∨∃(j:Nat) (o:IOp),k=(j:Int)/\b.ops[j]? =some o/\o.res=v/\0<=v)
def ExtF (f f':List IBlk):Prop:=
 ∀(i:Nat) (b:IBlk),f[i]? =some b->∃b',f'[i]? =some b'/\b'.params=b.params/\b.ops<+:b'.ops/\(b.term.to=[]∨b'.term=b.term)
inductive Abv (pl:List Nat):Nat->Nat->Prop
 |refl (i:Nat):Abv pl i i
 |up {b i u:Nat}:pl[i]? =some u->0<i->Abv pl b u->Abv pl b i
def Kn (f:List IBlk)(pl:List Nat)(v:Int)(i:Nat)(k:Int):Prop:=∃(b:Nat) (a:Int),DefAt f v b a/\Abv pl b i/\(b=i->a<k)
def EdgeOk (f:List IBlk)(pl:List Nat)(i:Nat)(e:IEdge):Prop:=
 ∃(s u:Nat) (bs:IBlk),e.block=(s:Int)/\0<s/\f[s]? =some bs/\e.args.length=bs.params.length/\pl[s]? =some u/\Abv pl u i
def kindOk (t:ITerm):Bool:=
 if t.kind=1 then decide (t.to.length=1) && decide (t.a=0)
 else if t.kind=2 then decide (t.to.length=2)
 else if t.kind=3 then decide (1<=t.to.length)
 else if t.kind=4 then decide (t.to.length=0)
 else if t.kind=5 then decide (t.to.length=0) && decide (t.a=0)
 else false
def TermOk (f:List IBlk)(pl:List Nat)(i:Nat)(b:IBlk):Prop:=
 kindOk b.term=true/\(∀e∈b.term.to,EdgeOk f pl i e)/\∀v∈mE b.term,Kn f pl v i b.ops.length
inductive Rch (f:List IBlk):Nat->Prop
 |zero:Rch f 0
 |step {u s:Nat} {b:IBlk} {e:IEdge}:Rch f u->f[u]? =some b->e∈b.term.to->e.block=(s:Int)->Rch f s
def resL (l:List IOp):List Int:=(l.filter fun o=>decide (0<=o.res)).map (·.res)
def defsB (b:IBlk):List Int:=b.params++resL b.ops
def defsL (f:List IBlk):List Int:=f.flatMap defsB
structure MInv (p:IProg) (f:List IBlk) (cur next:Nat) (vals:List Int) (O P:Nat->Prop) (pl:List Nat):Prop where
 len:pl.length=f.length
 curl:cur<f.length
 par:∀i u,pl[i]? =some u->0<i->u<i
 ops:∀(i:Nat) (b:IBlk),f[i]? =some b->∀(j:Nat) (o:IOp),b.ops[j]? =some o->opF p o=true/\∀v∈rR o,Kn f pl v i j
 term:∀(i:Nat) (b:IBlk),f[i]? =some b->¬O i->TermOk f pl i b
 opn:∀(i:Nat) (b:IBlk),f[i]? =some b->O i->b.term.to=[]
 lt:∀i,O i->i<f.length
 known:∀v∈vals,∀b,f[cur]? =some b->Kn f pl v cur b.ops.length
 nd:(defsL f).Nodup
 rng:∀v∈defsL f,0<=v/\v<(next:Int)
 rch:∀i,i<f.length->¬P i->Rch f i
 sml:∀(i:Nat) (b:IBlk),f[i]? =some b->b.params.length<=3/\b.term.to.length<=4
abbrev MInvM (p:IProg)(M:MS)(O P:Nat->Prop)(pl:List Nat):Prop:=MInv p M.f M.cur M.next M.vals O P pl
section
variable {p:IProg} {f:List IBlk} {cur next:Nat} {vals:List Int} {O P:Nat->Prop} {pl:List Nat} (h:MInv p f cur next vals O P pl)
include h
end
structure EnvOk (p:IProg) (E:ME):Prop where
 nf:p.funcs.length=E.nf
 args:p.args=E.args
 data:p.data.length=3
 alt:∀x∈E.args,0<=x/\x<4
def At (p:IProg)(M:MS)(O P:Nat->Prop)(pl:List Nat)(v:Int):Prop:=MInvM p M O P pl/\v∈M.vals
section
variable {p:IProg} {M:MS} {O P:Nat->Prop} {pl:List Nat}
end
structure PartOut (M:MS) (O P:Nat->Prop) (pl:List Nat) (p:IProg) (M':MS) (pl':List Nat):Prop where
 pre:pl<+:pl'
 inv:MInvM p M' (fun i=>(O i/\i≠M.cur)∨i=M'.cur) P pl'
 abv:Abv pl' M.cur M'.cur
 new:M'.cur=M.cur∨M.f.length<=M'.cur
 np:¬P M'.cur
 vals:M.vals<+:M'.vals
 ext:ExtF M.f M'.f
section
variable {p:IProg} {E:ME} (hp:EnvOk p E)
include hp
end
section
variable {p:IProg} {E:ME} (hp:EnvOk p E)
include hp
end
end Go.Proofs.Ytojclalkfhoooaa
