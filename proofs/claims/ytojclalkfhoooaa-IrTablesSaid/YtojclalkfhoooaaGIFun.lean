/- Part of a proof. -/
import Derived.Test.YtojclalkfhoooaaGVmD
import Derived.Test.YtojclalkfhoooaaIOper
import Derived.Test.YtojclalkfhoooaaFrom
import Derived.Test.YtojclalkfhoooaaIShp2
import Derived.Test.YtojclalkfhoooaaIGraph
import Derived.Test.YtojclalkfhoooaaIEnds
set_option linter.unusedSimpArgs false
set_option linter.unusedVariables false
set_option maxHeartbeats 4000000
set_option maxRecDepth 100000
namespace Go.Proofs.Ytojclalkfhoooaa
open Go.RowKit
theorem jV {g:List (List Nat)}(hv:zw g)(hr:∀x,x<g.length->Reach (GE g) x){c:Nat}(hc:c<g.length):
 (pP g c=-1/\∀d,d≠c->wE g d c=false)∨∃c':Nat,pP g c=(c':Int)/\c'<g.length/\(∀d,d≠c->wE g d c'=wE g d c)/\wh (vD g) c'<wh (vD g) c:=by
 rcases idomOf hv c with⟨h1,h2⟩|⟨c',h1,h2,h3,h4⟩
 ·exact .inl ⟨h1,fun d hd=>by cases h:wE g d c with|false=>rfl|true=>exact(h2 d hd h).elim⟩
 ·have hb:=(yO hv c' c).1 h3
  refine .inr ⟨c',h1,(pn hv h3).1,fun d hd=>?_,?_⟩
  ·rw[Bool.eq_iff_iff]
   constructor
   ·intro h
    have h5:=(yO hv d c').1 h
    exact(yO hv d c).2 ⟨h5.1,hr c hc,oZ h5.2.2 hb.2.2⟩
   ·intro h
    exact(yO hv d c').2 ⟨((yO hv d c).1 h).1,hb.1,h4 d hd h⟩
  ·obtain⟨ns,hO⟩:=ordF hv
   obtain⟨D,hD⟩:=hO.dom
   rw[hO.eq]
   have hm:=hD.dom_mem ((hO.mem c).2 (hr c hc)) hb.2.2
   rcases Nat.lt_or_eq_of_le hm.2 with h|h
   ·exact h
   ·exact absurd (ou hO.nodup hm.1 ((hO.mem c).2 (hr c hc)) h) h2
theorem lC {g:List (List Nat)}(hv:zw g)(hr:∀x,x<g.length->Reach (GE g) x){c:Nat}(hc:c<g.length):wE g c c=true:=(yO hv c c).2 ⟨hr c hc,hr c hc,rF _ _⟩
def nS (g:List (List Nat))(db i:Nat)(x:Int):Prop:=(x=-1/\wE g db i=false)∨∃c:Nat,x=(c:Int)/\c<g.length/\wE g db c=wE g db i
def oQ (g:List (List Nat))(x:Int):Nat:=if x=-1 then 0 else wh (vD g) x.toNat+1
theorem lT {g:List (List Nat)}(hv:zw g)(hr:∀x,x<g.length->Reach (GE g) x){db i c:Nat}(hc:c<g.length)(h:wE g db c=wE g db i)(hne:c≠db):
 ∃y,(wQ g)[c]? =some y/\nS g db i y/\oQ g y<oQ g c:=by
 refine⟨pP g c,by unfold wQ;rw[List.getElem?_map,List.getElem?_range hc];rfl,?_⟩
 rcases jV hv hr hc with⟨h1,h2⟩|⟨c',h1,h2,h3,h4⟩
 ·rw[h1]
  refine⟨.inl ⟨rfl,by rw[<-h];exact h2 db (Ne.symm hne)⟩,?_⟩
  unfold oQ
  rw[if_pos rfl,if_neg (by omega)]
  omega
 ·rw[h1]
  refine⟨.inr ⟨c',rfl,h2,by rw[h3 db (Ne.symm hne)];exact h⟩,?_⟩
  unfold oQ
  rw[if_neg (by omega),if_neg (by omega),Int.toNat_natCast,Int.toNat_natCast]
  omega
theorem j8 (g:List (List Nat)):(wQ g).length=g.length:=by simp[wQ]
theorem case_dfd:∀q1 q2:Bool,(q1=true/\q2=true)∨(q1=true/\q2=false)∨(q1=false)
 |true,true=> .inl ⟨rfl,rfl⟩
 |true,false=> .inr (.inl ⟨rfl,rfl⟩)
 |false,_=> .inr (.inr rfl)
theorem qI {w:World}{C m1 m2 n:Nat}{pv:List Value}{blv idv:Value}{d:wO}{g:List (List Nat)}(hc:ChkAt w C m1 m2 pv blv idv n d)(hv:zw g)(hr:∀x,x<g.length->Reach (GE g) x)(hgl:g.length<=2000000)
 (hid:zY w w.heap.size idv (wQ g)) (hd:∀v b,d.1 v=some b->0<=b/\b.toNat<g.length) {l:List Int} {lv:Value} (hl:zY w w.heap.size lv l) (i:Nat) (hi:i<g.length) (k:Int) (hk:I64 k):
 Calls Try.prog 69 #[.pointer (some ⟨C,0,none⟩),lv,.int .i64 (i:Int),.int .i64 k] w (ym w (l.all (yy d g i k))):=by
 obtain⟨la,lc,rfl,hlc,hlm⟩:=hl.form
 obtain⟨da,dc,rfl,hdc,hdm⟩:=hid.form
 rw[j8] at hid hdc hc
 have hll:l.length<=9223372036854775807:=by omega
 obtain⟨hb,hpl,hm1,hm2,hne,hdm2⟩:=hc
 obtain⟨p0,p1,p2,p3,p4,p5,rfl⟩:∃a b c d e f,pv=[a,b,c,d,e,f]:=by
  match pv,hpl with
  | [a,b,c,d,e,f],_=>exact⟨a,b,c,d,e,f,rfl⟩
 have cm1:w.cell? ⟨C,7,none⟩=some (.map (some m1)):=zA hb rfl
 have cm2:w.cell? ⟨C,8,none⟩=some (.map (some m2)):=zA hb rfl
 have cid:w.cell? ⟨C,9,none⟩=some (.slice da g.length dc):=zA hb rfl
 have HC:=Lib.hid (show wA w m1 n d.1/\wA w m2 n d.2/\(∀x,(d.1 x).isSome=(d.2 x).isSome)/\zw g/\(∀x,x<g.length->Reach (GE g) x)/\(∀v b,d.1 v=some b->0<=b/\b.toNat<g.length)/\i<g.length from⟨hm1,hm2,hdm2,hv,hr,hd,hi⟩)
 have HL:=Lib.hid (show zY w w.heap.size (.slice la l.length lc) l/\zY w w.heap.size (.slice da g.length dc) (wQ g) from⟨hl,hid⟩)
 obtain⟨res,hres⟩:∃x,l.all (yy d g i k)=x:=⟨_,rfl⟩
 rw[hres]
 have HRES:=Lib.hid hres
 clear hres hb hm1 hm2 hne hdm2 hv hr hd hi hl hid hlc hlm hdc hdm
 go_enter Try.func69,Try.ntmps69
 generalize hW0:w=W0 at *
 clear hW0
 go_wp2
 go_loopw [16] (fun jv wx=>∃j:Nat,j<=l.length/\jv=.int .i64 (j:Int)/\wx=W0/\Hid ((l.take j).all (yy d g i k)=true)) (fun jv _=>l.length-(intOf jv).toNat)
 case atStart=>exact⟨0,Nat.zero_le _,rfl,rfl,by rfl⟩
 case round=>
  obtain⟨j,hj,rfl,rfl,HJ⟩:=hrel
  generalize hWW:wr=W0 at *
  clear hWW
  by_cases hlt:j<l.length
  ·have hltI:(j:Int)<l.length:=by omega
   have HLT:=Lib.hid hlt
   obtain⟨v,hvv⟩:∃v,l[j]? =some v:=⟨_,List.getElem?_eq_getElem hlt⟩
   obtain⟨b,o,rfl,hb,hcell,hv64⟩:=HL.out.1.get hvv
   rw[Nat.mul_one] at hcell
   have hlk:=HC.out.1.lookOk hv64
   have hl2:=HC.out.2.1.look hv64
   have HT:=Lib.hid (show(l.take (j+1)).all (yy d g i k)=((l.take j).all (yy d g i k) && yy d g i k v)/\(yy d g i k v=false->l.all (yy d g i k)=false) from⟨xX _ hvv,fun h=>vP _ hvv h⟩)
   clear hvv hb hlt
   cases h1:d.1 v with
   |none=>
    rw[h1] at hlk
    have HN:=Lib.hid (show yy d g i k v=false by unfold yy;rw[h1])
    clear h1 hl2
    go_wp2
    go_ret
    exact⟨uz (HRES.out.symm.trans (HT.out.2 HN.out)),Below.refl _ _⟩
   |some bz=>
    obtain⟨az,h2⟩:∃a,d.2 v=some a:=by
     have:=HC.out.2.2.1 v
     rw[h1] at this
     cases h:d.2 v with
     |none=>rw[h] at this;cases this
     |some a=>exact⟨a,rfl⟩
    obtain⟨hb0,hb1⟩:=HC.out.2.2.2.2.2.1 v bz h1
    obtain⟨db,rfl⟩:∃m:Nat,bz=(m:Int):=⟨bz.toNat,by omega⟩
    rw[Int.toNat_natCast] at hb1
    rw[h1] at hlk
    rw[h2] at hl2
    simp only[Option.getD_some,Option.isSome_some] at hlk hl2
    have hkn:yy d g i k v=(!(decide ((db:Int)=(i:Int)) && decide (k<=az)) && wE g db i):=by unfold yy;rw[h1,h2];rfl
    obtain⟨q1,hq1⟩:∃q,decide ((db:Int)=(i:Int))=q:=⟨_,rfl⟩
    obtain⟨q2,hq2⟩:∃q,decide (k<=az)=q:=⟨_,rfl⟩
    rw[hq1,hq2] at hkn
    have t1:(db==i)=q1:=by rw[<-hq1];simp only[Bool.beq_eq_decide_eq,Int.natCast_inj]
    have t1I:((db:Int)==(i:Int))=q1:=zf hq1
    have t1d:decide (db=i)=q1:=zZ hq1 (by omega)
    have HK:=Lib.hid (show yy d g i k v=(!(q1 && q2) && wE g db i)/\db<g.length from⟨hkn,hb1⟩)
    clear h1 h2 hkn hb0 hb1 hq1
    rcases case_dfd q1 q2 with⟨rfl,rfl⟩|⟨rfl,rfl⟩|rfl
    ·have HN:=Lib.hid (show yy d g i k v=false from HK.out.1)
     go_wp2
     go_ret
     exact⟨uz (HRES.out.symm.trans (HT.out.2 HN.out)),Below.refl _ _⟩
    all_goals (
     have HN:=Lib.hid (show yy d g i k v=wE g db i from by rw[HK.out.1];rfl)
     have HC0:=Lib.hid (show nS g db i (i:Int) from .inr ⟨i,rfl,HC.out.2.2.2.2.2.2,rfl⟩)
     go_wp2
     go_loopw [13] (fun xv wx=>∃x:Int,xv=.int .i64 x/\W0=wx/\Hid (nS g db i x)) (fun xv _=>oQ g (intOf xv))
     case atStart=>exact⟨_,rfl,rfl,HC0⟩
     case round=>
      obtain⟨x,rfl,rfl,HX⟩:=hrel
      rcases HX.out with⟨rfl,hno⟩|⟨c,rfl,hcl,hce⟩
      ·have u1:((-1:Int) !=(db:Int))=true:=by rw[bne_iff_ne];omega
       have HF:=Lib.hid (HN.out.trans hno)
       clear hno
       go_wp2
       go_ret
       exact⟨uz (HRES.out.symm.trans (HT.out.2 HF.out)),Below.refl _ _⟩
      ·by_cases hcd:c=db
       ·subst hcd
        have HY:=Lib.hid (show yy d g i k v=true by rw[HN.out,<-hce];exact lC HC.out.2.2.2.1 HC.out.2.2.2.2.1 hcl)
        have u1:((c:Int) !=(c:Int))=false:=by rw[bne_eq_false_iff_eq]
        clear hce hcl t1 t1I t1d
        go_wp2
        go_roundw
        case rel=>exact⟨j+1,HLT.out,by go_num,by trivial,Lib.hid (by rw[HT.out.1,HJ.out,HY.out];rfl)⟩
        case measure=>have:=HLT.out;simp[intOf];omega
       ·have u1:((c:Int) !=(db:Int))=true:=by rw[bne_iff_ne];omega
        have u2:((c:Int) !=-1)=true:=by rw[bne_iff_ne];omega
        obtain⟨y,hy,hy1,hy2⟩:=lT HC.out.2.2.2.1 HC.out.2.2.2.2.1 hcl hce hcd
        obtain⟨b9,o9,rfl,hb9,hc9,_⟩:=HL.out.2.get hy
        rw[Nat.mul_one] at hc9
        have HY:=Lib.hid (And.intro hy1 hy2)
        have hclI:(c:Int)<g.length:=by omega
        clear hce hcd hy hy1 hy2 hb9
        go_wp2
        go_roundw
        case rel=>exact⟨y,rfl,by trivial,Lib.hid HY.out.1⟩
        case measure=>have:=HY.out.2;simpa[intOf] using this)
  ·obtain rfl:j=l.length:=by omega
   have hltI:¬(l.length:Int)<l.length:=by omega
   have hall:=HJ.out
   rw[List.take_length] at hall
   have HA:=Lib.hid hall
   clear hlt hall
   go_wp2
   go_ret
   exact⟨uz (HRES.out.symm.trans HA.out),Below.refl _ _⟩
end Go.Proofs.Ytojclalkfhoooaa
set_option maxRecDepth 8000
namespace Go.Proofs.Ytojclalkfhoooaa
open Go.RowKit Go.Shelf
structure GraphIn (w:World) (sv:Value) (g:List (List Nat)):Prop where
 rows:y7 zj w w.heap.size sv g
 valid:zw g
 len:g.length<=2000000
 row:∀row∈g,row.length<=2000000
theorem GraphIn.below {w w':World}{sv:Value}{g:List (List Nat)}(h:GraphIn w sv g)(hb:Below w.heap.size w w'):GraphIn w' sv g:=
 ⟨(h.rows.below hb).mono hb.size,h.valid,h.len,h.row⟩
theorem iJ {w:World}{sv:Value}{g:List (List Nat)}(h:GraphIn w sv g):Calls Try.prog 68 #[.agg #[sv]] w (ng w (vD g)):=by
 obtain⟨ns,hO⟩:=ordF h.valid
 rw[hO.eq]
 exact tp w sv g w.heap.size (Nat.le_refl _) h.rows h.valid h.len h.row (0::ns) hO.is
theorem qP {w:World}{sv:Value}{g:List (List Nat)}(h:GraphIn w sv g):Calls Try.prog 67 #[.agg #[sv]] w (j6 w (wQ g)):=by
 obtain⟨ns,hO⟩:=ordF h.valid
 obtain⟨D,hD⟩:=hO.dom
 rw[<-idom_eq h.valid hO hD]
 exact tw w sv g w.heap.size (Nat.le_refl _) h.rows h.valid h.len h.row ns hO.is D hD.of
open Go.RowKit
theorem op_args {p:IProg}(ha:p.args.all tX=true){o:IOp}(h:opF p o=true):o.args.length<=1000000000000:=by
 unfold opF at h
 rw[Bool.and_eq_true] at h
 have hget:∀i,p.args.getD i 0<=8:=by
  intro i
  rw[List.getD_eq_getElem?_getD]
  cases hx:p.args[i]? with
  |none=>simp
  |some x=>
   have:=List.all_eq_true.1 ha x (List.mem_of_getElem? hx)
   unfold tX at this
   simp only[Bool.and_eq_true,decide_eq_true_eq] at this
   exact this.2
 have h2:=h.2
 split at h2
 ·simp only[Bool.and_eq_true,decide_eq_true_eq] at h2
  have:=hget o.a.toNat
  omega
 ·split at h2
  ·simp only[Bool.and_eq_true,decide_eq_true_eq] at h2
   omega
  ·simp only[Bool.and_eq_true,decide_eq_true_eq] at h2
   omega
theorem qM {blocks:List IBlk}{e:IEdge}(h:uM blocks e=true):xz blocks e.block∈blocks/\e.args.length=(xz blocks e.block).params.length/\1<=e.block/\e.block.toNat<blocks.length:=by
 unfold uM at h
 simp only[Bool.and_eq_true,decide_eq_true_eq] at h
 refine⟨?_,h.2,h.1.1,by omega⟩
 unfold xz
 rw[List.getD_eq_getElem?_getD,List.getElem?_eq_getElem (by omega),Option.getD_some]
 exact List.getElem_mem _
theorem lD {blocks:List IBlk}(hs:vZ blocks){t:ITerm}(h:wn blocks t=true):∀e∈t.to,e.args.length<=2000000:=by
 intro e he
 unfold wn at h
 rw[Bool.and_eq_true] at h
 obtain⟨h1,h2,_⟩:=qM (List.all_eq_true.1 h.1 e he)
 rw[h2]
 exact(hs.2 _ h1).1
theorem nO {blocks:List IBlk}(hne:blocks≠ [])(h:∀b∈blocks,wn blocks b.term=true):zw (zy blocks):=by
 refine⟨by unfold zy;rw[List.length_map];exact List.length_pos_iff.2 hne,fun l hl s hs=>?_⟩
 unfold zy at hl
 obtain⟨b,hb,rfl⟩:=List.mem_map.1 hl
 obtain⟨e,he,rfl⟩:=List.mem_map.1 hs
 have ht:=h b hb
 unfold wn at ht
 rw[Bool.and_eq_true] at ht
 have:=(qM (List.all_eq_true.1 ht.1 e he)).2.2.2
 unfold zy
 rw[List.length_map]
 exact this
theorem graphI_F {blocks:List IBlk}(h:∀b∈blocks,wn blocks b.term=true):zk blocks=(zy blocks).map (List.map (fun n:Nat=>(n:Int))):=by
 unfold zk zy tW
 rw[List.map_map]
 refine List.map_congr_left fun b hb=>?_
 show b.term.to.map (·.block)=(b.term.to.map fun e=>e.block.toNat).map (fun n:Nat=>(n:Int))
 rw[List.map_map]
 refine List.map_congr_left fun e he=>?_
 have ht:=h b hb
 unfold wn at ht
 rw[Bool.and_eq_true] at ht
 have:=(qM (List.all_eq_true.1 ht.1 e he)).2.2.1
 show e.block=((e.block.toNat:Nat):Int)
 omega
theorem graph_in {w:World}{sv:Value}{blocks:List IBlk}(hs:vZ blocks)(hne:blocks≠ [])(h:∀b∈blocks,wn blocks b.term=true)(hr:y7 zN w w.heap.size sv (zk blocks)):GraphIn w sv (zy blocks):=by
 rw[graphI_F h] at hr
 refine⟨(y7.map (fun n:Nat=>(n:Int)) (fun x=>rfl)).1 hr,nO hne h,by unfold zy;rw[List.length_map];exact hs.1,fun row hrow=>?_⟩
 unfold zy at hrow
 obtain⟨b,hb,rfl⟩:=List.mem_map.1 hrow
 rw[List.length_map]
 exact(hs.2 b hb).2.2
theorem xu (blocks:List IBlk):(zy blocks).length=blocks.length:=by simp[zy]
theorem m0:∀ {l m:List Nat},l.Nodup->(∀x∈l,x∈m)->l.length<=m.length
 | [],m,_,_=>Nat.zero_le _
 |a::l,m,hl,h=>by
  obtain⟨ha,hl⟩:=List.nodup_cons.1 hl
  have hm:=h a (List.mem_cons_self ..)
  have h2:=m0 (m:=m.erase a) hl (fun x hx=>(List.mem_erase_of_ne (fun e=>ha (by rw[<-e];exact hx))).2 (h x (List.mem_cons_of_mem _ hx)))
  rw[List.length_erase_of_mem hm] at h2
  have:=List.length_pos_of_mem hm
  rw[List.length_cons];omega
theorem jl {g:List (List Nat)}(hv:zw g)(h:(vD g).length=g.length):∀x,x<g.length->Reach (GE g) x:=by
 obtain⟨ns,hO⟩:=ordF hv
 rw[hO.eq] at h
 intro x hx
 refine(hO.mem x).1 ?_
 apply Classical.byContradiction
 intro hn
 have hle:=m0 (l:=x::0::ns) (m:=List.range g.length) (List.nodup_cons.2 ⟨hn,hO.nodup⟩) (fun y hy=>by
  rcases List.mem_cons.1 hy with rfl|hy
  ·exact List.mem_range.2 hx
  ·exact List.mem_range.2 (hO.lt y hy))
 rw[List.length_cons,h,List.length_range] at hle
 omega
theorem mu {d d':wO}{v i k:Int}(h:rB d v i k=some d'){m:Nat}(hi:0<=i/\i.toNat<m)(hd:∀x b,d.1 x=some b->0<=b/\b.toNat<m):∀x b,d'.1 x=some b->0<=b/\b.toNat<m:=by
 unfold rB at h
 split at h
 ·cases h
 ·cases h
  intro x b hb
  change lS d.1 v i x=some b at hb
  unfold lS at hb
  split at hb
  ·cases hb;exact hi
  ·exact hd x b hb
theorem oU {i:Int}{m:Nat}(hi:0<=i/\i.toNat<m):∀(l:List Int) (d d':wO),vJ i l d=some d'->(∀x b,d.1 x=some b->0<=b/\b.toNat<m)->∀x b,d'.1 x=some b->0<=b/\b.toNat<m
 | [],d,d',h,hd=>by cases h;exact hd
 |v::l,d,d',h,hd=>by
  unfold vJ at h
  cases h1:rB d v i (-1) with
  |none=>rw[h1] at h;cases h
  |some d1=>rw[h1,Option.bind_some] at h;exact oU hi l d1 d' h (mu h1 hi hd)
theorem mv {p:IProg}{i:Int}{m:Nat}(hi:0<=i/\i.toNat<m):∀(l:List IOp) (k:Int) (d d':wO),sS p i l k d=some d'->(∀x b,d.1 x=some b->0<=b/\b.toNat<m)->∀x b,d'.1 x=some b->0<=b/\b.toNat<m
 | [],k,d,d',h,hd=>by cases h;exact hd
 |o::l,k,d,d',h,hd=>by
  rw[ro] at h
  cases h1:ug p i k o d with
  |none=>rw[h1] at h;cases h
  |some d1=>
   rw[h1,Option.bind_some] at h
   refine mv hi l _ d1 d' h ?_
   unfold ug at h1
   split at h1
   ·split at h1
    ·exact mu h1 hi hd
    ·cases h1;exact hd
   ·cases h1
theorem oX {p:IProg}{bl:List IBlk}{m:Nat}:∀(l:List IBlk) (i:Nat) (d d':wO),i+l.length<=m->uH p bl l i d=some d'->(∀x b,d.1 x=some b->0<=b/\b.toNat<m)->∀x b,d'.1 x=some b->0<=b/\b.toNat<m
 | [],i,d,d',_,h,hd=>by cases h;exact hd
 |b::l,i,d,d',hm,h,hd=>by
  simp only[List.length_cons] at hm
  unfold uH at h
  cases h1:pS p bl i b d with
  |none=>rw[h1] at h;cases h
  |some d1=>
   rw[h1,Option.bind_some] at h
   obtain⟨_,d2,h2,h3⟩:=nF h1
   have hi:0<=(i:Int)/\((i:Int)).toNat<m:=by omega
   exact oX l (i+1) d1 d' (by omega) (by simpa using h) (mv hi _ _ _ _ h3 (oU hi _ _ _ h2 hd))
theorem rN {p:IProg}{bl:List IBlk}{d:wO}(h:wg p bl=some d):∀x b,d.1 x=some b->0<=b/\b.toNat<bl.length:=
 oX bl 0 sy d (by omega) h (fun x b hb=>by cases hb)
theorem vE (d:wO)(g:List (List Nat))(i:Int):∀(l m:List IOp) (k:Int),xF d g i (l++m) k=(xF d g i l k && xF d g i m (k+l.length))
 | [],m,k=>by simp[xF]
 |o::l,m,k=>by
  have e:k+1+(l.length:Int)=k+((o::l).length:Int):=by simp;omega
  show((rR o).all (yy d g i k) && xF d g i (l++m) (k+1))=(((rR o).all (yy d g i k) && xF d g i l (k+1)) && _)
  rw[vE d g i l m,e,Bool.and_assoc]
theorem ub (d:wO)(g:List (List Nat)):∀(l m:List IBlk) (i:Int),tO d g (l++m) i=(tO d g l i && tO d g m (i+l.length))
 | [],m,i=>by simp[tO]
 |b::l,m,i=>by
  have e:i+1+(l.length:Int)=i+((b::l).length:Int):=by simp;omega
  show(wk d g b i && tO d g (l++m) (i+1))=((wk d g b i && tO d g l (i+1)) && _)
  rw[ub d g l m,e,Bool.and_assoc]
theorem p6 {d:wO}{g:List (List Nat)}{i:Int}{l:List IOp}{k:Nat}{o:IOp}(h:l[k]? =some o):xF d g i (l.take (k+1)) 0=(xF d g i (l.take k) 0 && (rR o).all (yy d g i k)):=by
 rw[List.take_add_one,h,Option.toList,vE,vS h,Int.zero_add]
 simp[xF]
theorem oA {d:wO}{g:List (List Nat)}{i:Int}{l:List IOp}{k:Nat}{o:IOp}(h:l[k]? =some o)(hf:(rR o).all (yy d g i k)=false):xF d g i l 0=false:=by
 rw[sD h,vE,vS h,Int.zero_add]
 show(_ && ((rR o).all (yy d g i k) && _))=false
 rw[hf,Bool.false_and,Bool.and_false]
theorem mz {d:wO}{g:List (List Nat)}{l:List IBlk}{k:Nat}{b:IBlk}(h:l[k]? =some b):tO d g (l.take (k+1)) 0=(tO d g (l.take k) 0 && wk d g b k):=by
 rw[List.take_add_one,h,Option.toList,ub,vS h,Int.zero_add]
 simp[tO]
theorem pH {d:wO}{g:List (List Nat)}{l:List IBlk}{k:Nat}{b:IBlk}(h:l[k]? =some b)(hf:wk d g b k=false):tO d g l 0=false:=by
 rw[sD h,ub,vS h,Int.zero_add]
 show(_ && (wk d g b k && _))=false
 rw[hf,Bool.false_and,Bool.and_false]
theorem ChkAt.made {w:World}{C m1 m2:Nat}{pv:List Value}{blv idv:Value}(hC:w.heap[C]? =some (.cells (pv++ [blv,.map (some m1),.map (some m2),idv]).toArray 128 (0,0)))(hl:pv.length=6)(h1:w.heap[m1]? =some (.map #[] 0))(h2:w.heap[m2]? =some (.map #[] 0))(hne:m1≠m2):
 ChkAt w C m1 m2 pv blv idv 0 sy:=by
 have hm:∀m,w.heap[m]? =some (.map #[] 0)->wA w m 0 (fun _=>none):=fun m h=>by
  have h0:=wA.made ({w with heap:=w.heap.extract 0 m })
  have hsz:m<w.heap.size:=lt_of_block h
  have hs:(w.heap.extract 0 m).size=m:=by simp;omega
  obtain⟨D,⟨es,clock,k1,k2⟩,k3⟩:=h0
  have e1:(World.alloc {w with heap:=w.heap.extract 0 m } (.map #[] 0)).heap[(w.heap.extract 0 m).size]? =some (.map #[] 0):=zI rfl
  rw[e1] at k1
  cases k1
  exact⟨D,⟨_,_,h,k2⟩,k3⟩
 exact⟨hC,hl,hm m1 h1,hm m2 h2,hne,fun _=>rfl⟩
theorem ChkAt.idom {w:World}{C m1 m2 n:Nat}{pv:List Value}{blv idv:Value}{d:wO}(h:ChkAt w C m1 m2 pv blv idv n d)(iv:Value):ChkAt (w.setCell ⟨C,9,none⟩ iv) C m1 m2 pv blv iv n d:=by
 obtain⟨k1,k2⟩:=h.ne1
 refine⟨?_,h.plen,h.map1.same (Below.heap_setCell _ _ _ _ (Ne.symm k1)),h.map2.same (Below.heap_setCell _ _ _ _ (Ne.symm k2)),h.ne,h.dom⟩
 rw[zD h.blk]
 have hl:=h.plen
 obtain⟨p0,p1,p2,p3,p4,p5,rfl⟩:∃a b c d e f,pv=[a,b,c,d,e,f]:=by
  match pv,hl with
  | [a,b,c,d,e,f],_=>exact⟨a,b,c,d,e,f,rfl⟩
 rfl
end Go.Proofs.Ytojclalkfhoooaa
