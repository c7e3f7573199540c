/- Part of a proof. -/
import Derived.Test.YtoahcpkibpomcaaGreatIGraph
import Derived.StillTailTactics
set_option linter.all false
set_option maxHeartbeats 4000000
set_option maxRecDepth 100000
namespace Go.Proofs.YtoahcpkibpomcaaGreat
open Go.RowKit
variable {bs g2 g3 i j k m x:Nat}{w w0 w9 wx:World}{seen:List Bool}{gv lv wv:Value}{c d:Array Bool}{t:ITerm}{xs:List Int}{o:IOp}{oi:Oper}{rs:List Nat}
def aam (o:IOp)(av:Value):Value:=.agg #[I o.code,I o.res,I o.a,I o.b,U (o.n:Int),av]
end Go.Proofs.YtoahcpkibpomcaaGreat
namespace Go.Proofs
open Go.Shelf
def Tryz.lays212_ren:Go.Shelf.Ren:=⟨fun|212=>151|263=>157|264=>158|n=>n,fun|46=>92|51=>50|146=>220|53=>181|148=>222|n=>n,fun|n=>n⟩
theorem Tryz.lays212:Go.Proofs.Lays.n212 Tryz.prog Tryz.lays212_ren:= {
 mixed:=by kernel_rfl
 f212:=Tryz.func151.trans (congrArg some (by kernel_rfl))
 f263:=Tryz.func157.trans (congrArg some (by kernel_rfl))
 f264:=Tryz.func158.trans (congrArg some (by kernel_rfl))
 t46:=Tryz.underlying92
 a46:=Tryz.isAgg92
 z46:=Tryz.sizeOf92
 v46:=Tryz.zeroValue92
 t51:=Tryz.underlying50
 a51:=Tryz.isAgg50
 z51:=Tryz.sizeOf50
 v51:=Tryz.zeroValue50
 t53:=Tryz.underlying181
 a53:=Tryz.isAgg181
 z53:=Tryz.sizeOf181
 v53:=Tryz.zeroValue181
 t146:=Tryz.underlying220
 a146:=Tryz.isAgg220
 z146:=Tryz.sizeOf220
 v146:=Tryz.zeroValue220
 t148:=Tryz.underlying222
 a148:=Tryz.isAgg222
 z148:=Tryz.sizeOf222
 v148:=Tryz.zeroValue222 }
open Go.RowKit Go.Lib in
theorem Tryz.bits_Mul (x y:Nat)(d:x<18446744073709551616)(c:y<18446744073709551616)(w:World):
 Calls Tryz.prog 151 #[.int .u64 x,.int .u64 y] w fun e w'=>e=.returned (.tuple #[.int .u64 ((x*y/18446744073709551616:Nat):Int),.int .u64 ((x*y%18446744073709551616:Nat):Int)])/\w'=w:=Any.bits_Mul Tryz.lays212 x y d c w
end Go.Proofs
namespace Go.Proofs.YtoahcpkibpomcaaGreat
open Go.RowKit
variable {bs g2 g3 i j k m x:Nat}{w w0 w9 wx:World}{seen:List Bool}{gv lv wv:Value}{c d:Array Bool}{t:ITerm}{xs:List Int}{o:IOp}{oi:Oper}{rs:List Nat}
def wN (N m:Nat)(z:Value):List Value:=List.replicate m z++List.replicate (N-m) (I 0)
theorem nY (N:Nat)(z:Value):wN N 0 z=List.replicate N (I 0):=by simp[wN]
theorem mI (N:Nat)(z:Value):wN N N z=List.replicate N z:=by simp[wN]
theorem kK{N:Nat}(z:Value)(h:j<m):(wN N m z)[j]? =some z:=by
 unfold wN;rw[Np (by simpa using h)];simp[h]
theorem sL{N:Nat}(z:Value)(h:m+k<=N):splice (wN N m z) m (List.replicate k z)=wN N (m+k) z:=by
 unfold splice wN
 have e1:List.take m (List.replicate m z++List.replicate (N-m) (I 0))=List.replicate m z:=by
  rw[List.take_append_of_le_length Zs,Oy Zs]
 have e2:List.drop (m+(List.replicate k z).length) (List.replicate m z++List.replicate (N-m) (I 0))=List.replicate (N-(m+k)) (I 0):=by
  rw[List.drop_append,List.drop_eq_nil_of_le Zs,Op,List.drop_replicate]
  congr 1;simp;omega
 rw[e1,e2,<-Nv,List.replicate_append_replicate]
theorem qW{N:Nat}(z:Value)(h:k<=N):splice (List.replicate N (I 0)) 0 (List.replicate k z)=wN N k z:=by
 have:=sL (m:=0) z (by omega:0+k<=N);rw[nY] at this
 simpa using this
theorem lr (w:World)(s o a2 N:Nat)(hc:T w s o (I (-1)))(h1:1<=N)(hN:N<=4000000):
 A 145 #[.slice (some ⟨s,o,none⟩) 1 a2,I N] w fun e w'=>e=.returned (.slice (some ⟨w.heap.size,0,none⟩) N N)/\L w' w.heap.size (List.replicate N (I (-1))).toArray 3/\O w w':=by
 obtain⟨ii,a6,a9,a3,a8⟩:=info_parts Tryz.info_int;have a4:=run_make_row' (P:=Tryz.prog) 22 3 (I 0) 8 Tryz.underlying22 Tryz.info_int rfl .i64 .i64 N Zo Zo;go_enter Tryz.func145,Tryz.ntmps145
 have u:A 151 #[.int .u64 1,.int .u64 (N:Int)] w fun e w'=>e=.returned (.tuple #[.int .u64 0,.int .u64 (N:Int)])/\w'=w:=by
  refine(Tryz.bits_Mul 1 N Zo Zo w).mono ?_;rintro e w1 ⟨rfl,rfl⟩;refine⟨?_,rfl⟩;rw[show 1*N/18446744073709551616=0 by omega,show 1*N%18446744073709551616=N by omega];rfl
 have hs:=jU hc;have b4:(N:Int)<=9223372036854775807:=Zo;have b3:¬(N:Int)<0:=Zo;have x: [I (-1)].length=Nat.min 1 N:=(Ud h1).symm;have l:L (w.alloc (.cells (madeCells #[I 0] N) 3)) w.heap.size (List.replicate N (I 0)).toArray 3:=by rw[zI rfl,yA]
 have k:∀(j:Nat) (v:Value),[I (-1)][j]? =some v->(w.alloc (.cells (madeCells #[I 0] N) 3)).cell? ((⟨s,o,none⟩:Addr).add j)=some v:=by
  intro j v g
  cases j with
  |zero=>simp at g;subst g;exact(Ok _ _ _ hs).trans hc
  |succ j=>simp at g
 have q:O w (w.alloc (.cells (madeCells #[I 0] N) 3)):=(Below.refl _ _).alloc (Je _) _;have t:(Tryz.prog.info? 3).map (·.size)=some 1:=by rw[a6];simp[a3]
 go_wp2_with (first|(go_at_call 151;refine u.mono ?_;rintro e w1 ⟨rfl,rfl⟩)|(with_reducible refine wpList_copy_splice rfl (.tmp 31) (.tmp 32) 22 22 rfl 3 Tryz.underlying22 t (some ⟨w1.heap.size,0,none⟩) (some ⟨s,o,none⟩) N N 1 a2 rfl rfl w1.heap.size 0 (List.replicate N (I 0)) 3 l [I (-1)] x (fun _=>⟨rfl,_,rfl,k⟩) Zt (by simp[Value.oneCell']) w1.heap.size w1 q (Je _) ?_;intro w2 c a7))
 have a1:Hid (L w2 w1.heap.size (wN N 1 (I (-1))).toArray 3):=by
  have:=c.out;rw[show([I (-1)]:List Value)=List.replicate 1 (I (-1)) from rfl,qW _ h1] at this;exact Ja this
 clear u c q k l x a4
 go_loopw [8] (fun i wr=>∃m:Nat,i=I m/\1<=m/\(m:Int)<=N/\Hid (L wr w1.heap.size (wN N m (I (-1))).toArray 3)/\O w1 wr) (fun i _=>N-(intOf i).toNat)
 case atStart=>exact⟨1,rfl,by omega,by omega,a1,a7⟩
 case round=>
  obtain⟨m,rfl,x,b1,c,y⟩:=hrel
  by_cases b2:(m:Int)<N
  ·have e1:(m:Int)<=N:=Zo;have e2:(0:Int)<=m:=Zo;go_wp2
   obtain⟨w3,b0,a0,d⟩:∃w3:World,(Sem.run Tryz.prog (Builtin.copy_ #[22,22] 3 #[.slice (some ⟨w1.heap.size,m,none⟩) (N-m) (N-m),.slice (some ⟨w1.heap.size,0,none⟩) m N]) wr.drew=.ok (I ((min m (N-m):Nat):Int)) w3.drew)/\Hid (L w3 w1.heap.size (wN N (m+min m (N-m)) (I (-1))).toArray 3)/\O w1 w3:=by
    refine⟨wr.setRow w1.heap.size (splice (wN N m (I (-1))) m (List.replicate (min m (N-m)) (I (-1)))).toArray,?_,?_,py y (Je _) _⟩
    ·have:=run_copy_row (P:=Tryz.prog) wr.drew 22 22 3 3 w1.heap.size m (N-m) (N-m) ⟨w1.heap.size,0,none⟩ m N (wN N m (I (-1))).toArray 3 (List.replicate (min m (N-m)) (I (-1))) Tryz.underlying22 t c.out
      (by rw[Qr]) (fun j v g=>by
       have a5:j<min m (N-m):=by
        have:=(Jh.1 g).1;simpa using this
       rw[Nm,if_pos a5] at g;cases g;have ea:(⟨w1.heap.size,0,none⟩:Addr).add j=⟨w1.heap.size,j,none⟩:=by by_cases h:j=0<;>simp[Addr.add,h]
       rw[ea];refine zA (w:=wr.drew) (b:=w1.heap.size) (cs:=(wN N m (I (-1))).toArray) c.out ?_;simp only[List.getElem?_toArray]
       exact kK _ Zo) (by simp[wN];omega) (by intro v hv;rw[List.eq_of_mem_replicate hv];rfl)
     rw[Qr] at this;refine(this.trans ?_);unfold splice;simp only[Nv,Qr];rfl
    ·have:=setRow_heap wr w1.heap.size _ (splice (wN N m (I (-1))) m (List.replicate (min m (N-m)) (I (-1)))).toArray _ _ c.out;rw[sL _ Zo] at this ⊢;exact Ja this
   clear c y;go_wp2
   go_region
   go_wp2;go_roundw
   case rel=>exact⟨m+min m (N-m),by rw[Int.natCast_add],by omega,by omega,a0,⟨d.os,d.tape,d.output,d.size,d.block⟩⟩
   case measure=>simp[intOf];omega
  ·go_wp2;go_ret;have:m=N:=Zo;subst this;refine⟨rfl,?_,y⟩;have:=c.out;rw[mI] at this
   simpa using this
end Go.Proofs.YtoahcpkibpomcaaGreat
set_option maxRecDepth 8000
namespace Go.Proofs.YtoahcpkibpomcaaGreat
open Go.RowKit
variable {bs g2 g3 i j k m x:Nat}{w w0 w9 wx:World}{seen:List Bool}{gv lv wv:Value}{c d:Array Bool}{t:ITerm}{xs:List Int}{o:IOp}{oi:Oper}{rs:List Nat}
structure FMem (w0 w:World) (bs:Nat) (seen:List Bool) (wv:Value) (work:List Nat):Prop where
 hs:w.heap[bs]? =some (.cells (seen.map sl).toArray 4 (0,0))
 hp:w.ownsRow (bs+1) 3 1 wv work.length (work.map zj)
 hb:Below bs w0 w
theorem FMem.mark{n:Nat}{work:List Nat}(h:FMem w0 w bs seen wv work):FMem w0 (w.setCell ⟨bs,n,none⟩ (.bool true)) bs (seen.set n true) wv work:=by
 obtain⟨hs,hp,hb⟩:=h;refine⟨?_,ownsRow_setCell_other hp (zC (b:=bs) hp hs (.inr Zd)) _,hb.setCell (show bs<=bs from Je _) _⟩;rw[zD hs];simp[sl,Ox]
theorem FMem.push{w2:World}{c:Value}{d work':List Nat}(h:FMem w0 w bs seen wv d)(o:Obj)(hg:(w.alloc o).grownBy w2 wv.ownBlock)(ho:w2.ownsRow (bs+1) 3 1 c work'.length (work'.map zj)):FMem w0 w2 bs seen c work':=by
 obtain⟨hs,hp,hb⟩:=h;have hl:=lt_of_block hs;exact⟨zL hg (zB hs) (zC (b:=bs) hp hs (.inr Zd)),ho,(hb.alloc Zo o).grown hg Zt (fun k e=>by have:=(hp.lt k e).1;omega)⟩
theorem FMem.pop{g c:Nat}{st:List Nat}(h:FMem w0 w bs seen (Y g (st.length+1) c) (st++ [x])):FMem w0 w bs seen (Y g st.length c) st:=by
 obtain⟨hs,hp,hb⟩:=h;simp only[Jk,Ju,Js,Ql,List.map_nil] at hp;exact⟨hs,bH hp,hb⟩
theorem dP (n:Nat):ey (List.replicate n false)=n:=by simp[ey]
def cE (w:World)(F:List Bool)(e:Ending)(w':World):Prop:=∃bs,e=.returned (Y bs F.length F.length)/\w.heap.size<=bs/\L w' bs (F.map sl).toArray 4/\O w w'
theorem from_any (w:World)(sv:Value)(g:List (List Nat))(B:Nat)(hB:B<=w.heap.size)(h:aaB zj w B sv g)(hv:zw g)(hn:g.length<=2000000)(hr:∀row∈g,row.length<=2000000)(fr:Nat)(b7:fr<g.length)(out:Int)(F:List Bool)(hF:iK g fr out F):
 A 49 #[.agg #[sv],I fr,I out] w (cE w F):=by
 obtain⟨a,c,rfl,f5⟩:=h.form;obtain⟨ii,d6,d1,d0,c9⟩:=info_parts Tryz.info_int;have cg:T (w.alloc (G #[.slice a g.length c] 105)) w.heap.size 0 (.slice a g.length c):=cell_of_one (zI rfl);have HV:=Ja hv;have HR:=Ja hr;have HF:=Ja hF;clear hv hr hF;have g4:=run_make_row' (P:=Tryz.prog) 97 4 (.bool false) 1 Tryz.underlying97 Tryz.info_bool rfl .i64 .i64 g.length Zo Zo;rcases HF.out with⟨a5,c4⟩|⟨a5,k0,c3⟩
 ·have a1:((fr:Int)==out)=true:=by simpa using a5
  have e6:=Ja c4;clear a5 c4;go_enter Tryz.func49,Tryz.ntmps49;go_wp2;go_ret
  have hs:L ((w.alloc (G #[.slice a g.length c] 105)).alloc (G (madeCells #[.bool false] g.length) 4)) (w.heap.size+1) ((List.replicate g.length false).map sl).toArray 4:=by
   rw[zI Zs,yA];simp[sl]
  rw[e6.out];exact⟨w.heap.size+1,by rw[Qr];rfl,by omega,hs,((Below.refl _ w).alloc (Je _) _).alloc Zs _⟩
 ·have a1:((fr:Int)==out)=false:=by simpa using a5
  have e5:=Ja c3
  have b8:FMem (w.alloc (G #[.slice a g.length c] 105)) (((w.alloc (G #[.slice a g.length c] 105)).alloc (G (madeCells #[.bool false] g.length) 4)).alloc (G #[I fr] 3)) (w.heap.size+1) (List.replicate g.length false) (Y (w.heap.size+2) 1 1) [fr]:=by
   refine⟨?_,⟨by simp,.inr ⟨w.heap.size+2,1,_,by simp,by omega,zI Zs,by simp,by decide,by simp,by simp[zj]⟩⟩,?_⟩
   ·rw[zB (zI Zs),yA];simp[sl]
   ·exact((Below.refl _ _).alloc Zs _).alloc Zs _
  have j2:=zA (i:=fr) (v:=.bool false) b8.hs (by simp[sl,Nm,b7]);have i9:=zE (i:=fr) b8.hs;have h6:(fr:Int)<g.length:=Zo
  have e4:Hid (FMem (w.alloc (G #[.slice a g.length c] 105)) (((w.alloc (G #[.slice a g.length c] 105)).alloc (G ((madeCells #[.bool false] g.length).setIfInBounds fr (.bool true)) 4)).alloc (G #[I fr] 3)) (w.heap.size+1) ((List.replicate g.length false).set fr true) (Y (w.heap.size+1+1) 1 1) [fr]):=by
   refine⟨?_,⟨by simp,.inr ⟨w.heap.size+2,1,_,by simp,by omega,zI Zs,by simp,by decide,by simp,by simp[zj]⟩⟩,?_⟩
   ·rw[zB (zI Zs),yA];simp only[sl,Ox,List.map_replicate,Jc]
   ·exact((Below.refl _ _).alloc Zs _).alloc Zs _
  clear a5 c3 b8;go_enter Tryz.func49,Tryz.ntmps49;go_wp2
  go_loopg [8] k0 (fun k v wr=>∃seen work,Hid (FMem (w.alloc (G #[.slice a g.length c] 105)) wr (w.heap.size+1) seen v work/\aaj g out k seen work F/\seen.length=g.length/\work.length+ey seen<=2000001/\∀x∈work,x<g.length))
  case atStart=>exact⟨_,_,e4.out,e5.out,by simp,by have:=dN (seen:=List.replicate g.length false) (n:=fr) (by rw[Nm,if_pos b7]);rw[dP] at this;simp;omega,by simpa using b7⟩
  case round=>
   obtain⟨seen,work,m⟩:=hrel
   cases gk with
   |zero=>
    obtain⟨rfl,rfl⟩:=m.out.2.1;obtain⟨a0,c0,rfl⟩:=zG m.out.1.hp;simp only[Ow];go_wp2;go_ret;have hl:=m.out.2.2.1;refine⟨w.heap.size+1,by rw[hl];rfl,by omega,m.out.1.hs,?_⟩
    exact((Below.refl _ w).alloc (Je _) _).trans (m.out.1.hb.mono Zo)
   |succ k=>
    obtain⟨st,n,rfl,b6⟩:=m.out.2.1;have a6:=m.out.1;have ho:=a6.hp;simp only[Jk,Nq,Ow,Ng] at ho;obtain⟨gw,k1,rfl,g8,h4⟩:=ho.form Zo;have h7:=(zm ho).1;have f3:=(zm ho).2;have ce:T wr gw st.length (I n):=(ho.cellAt st.length Zo).trans (by simp[zj]);have d5:n<g.length:=m.out.2.2.2.2 n Zs;have g3:(n:Int)<g.length:=Zo;obtain⟨row,q⟩:∃row,g[n]? =some row:=⟨_,Jd d5⟩
    have a9:succ g n=row:=by unfold succ;rw[Jj,q];rfl
    have c2:O w wr:=((Below.refl _ w).alloc (Je _) _).trans (a6.hb.mono Zo);obtain⟨bg,og,a2,g0,rfl,i0,hc,e7,hx⟩:=(h.below (c2.mono hB)).row q;have h8:T wr w.heap.size 0 (.slice (some ⟨bg,og,none⟩) g.length c):=(a6.hb.cell (p:=⟨w.heap.size,0,none⟩) (show w.heap.size<w.heap.size+1 by omega)).trans cg;have d3:=Ja a6.pop;have d2:=Ja b6;have t:=Ja (Jb q a9);have f6:=c2;have hrl:=HR.out row (Ji q);have HW:=Ja (Jb m.out.2.2.1 m.out.2.2.2);have g6:st.length+1<=2000001:=by have:=m.out.2.2.2.1;simp only[Jk,Ju] at this;omega
    clear a6 ho b6 q a9 m;go_wp2
    go_loopw [8,10] (fun v jv wx=>∃j:Nat,j<=row.length/\jv=I j/\Hid (FMem (w.alloc (G #[.slice (some ⟨bg,og,none⟩) g.length c] 105)) wx (w.heap.size+1) ((row.take j).foldl (ua out) (seen,st)).1 v ((row.take j).foldl (ua out) (seen,st)).2)) (fun _ jv _=>row.length-(intOf jv).toNat)
    case atStart=>exact⟨0,Jt _,rfl,d3.out⟩
    case round=>
     obtain⟨j,hj,rfl,l⟩:=hrel;generalize o:(row.take j).foldl (ua out) (seen,st)=s2 at l;have y:=dS out (row.take j) (seen,st);rw[o] at y;obtain⟨sn,wk⟩:=s2
     dsimp only at l y
     have c5:=Ja (Jb o y);obtain⟨aw,cw,rfl⟩:=zG l.out.hp;have e0:O w wr:=((Below.refl _ w).alloc (Je _) _).trans (l.out.hb.mono Zo);have f4:T wr w.heap.size 0 (.slice (some ⟨bg,og,none⟩) g.length c):=(l.out.hb.cell (p:=⟨w.heap.size,0,none⟩) (show w.heap.size<w.heap.size+1 by omega)).trans cg;obtain⟨bg',og',a2',e8,e',f7,d7,_,c1⟩:=(h.below (e0.mono hB)).row t.out.1;cases e';have h9:=d7
     by_cases g5:(j:Int)<row.length
     ·obtain⟨s,b3⟩:∃s,row[j]? =some s:=⟨_,Jd Zo⟩
      have g2:s<g.length:=HV.out.2 row (Ji t.out.1) s (Ji b3);have f0:(s:Int)<g.length:=Zo;obtain⟨b2,o2,rfl,i1,e1⟩:=c1 j s b3;simp only[zj] at e1;have hl:=HW.out.1;obtain⟨b0,a8⟩:∃b0,sn[s]? =some b0:=⟨_,Jd Zo⟩
      have j1:T wr (w.heap.size+1) s (.bool b0):=zA l.out.hs (by simp[a8,sl]);have i2:N wr (w.heap.size+1) s:=zE l.out.hs
      have b1:(row.take (j+1)).foldl (ua out) (seen,st)=ua out (sn,wk) s:=by
       rw[Nh,b3,List.foldl_append,c5.out.1];rfl
      have d:=Ja (Jb b1 a8);clear b1 b3 a8 c1 y o
      by_cases u:(s:Int)=out
      ·have a1:((s:Int) !=out)=false:=by simpa using u
       have b9:=Ja u;clear u;go_wp2;go_roundw
       case rel=>
        refine⟨j+1,by omega,by simp,?_⟩;rw[d.out.1];unfold ua;rw[if_neg (fun h=>h.1 b9.out)];exact l.out
       case measure=>simp[intOf]<;>omega
      ·have a1:((s:Int) !=out)=true:=by simpa using u
       have b9:=Ja u;clear u
       cases b0 with
       |true=>
        go_wp2;go_roundw
        case rel=>
         refine⟨j+1,by omega,by simp,?_⟩;rw[d.out.1];unfold ua;rw[if_neg (fun h=>by have:=h.2;rw[d.out.2] at this;simp at this)];exact l.out
        case measure=>simp[intOf]<;>omega
       |false=>
        have d4:wk.length<=4000004:=by
         have h1:=c5.out.2.2;have h2:=HW.out.2.1;simp only[Jk,Ju] at h1 h2;omega
        have k2:=Ja d4;have f2:=(zm l.out.hp)
        have HM:=Ja (l.out.mark (n:=s));have g1:=lt_of_block l.out.hs;go_wp2_with (at_builtin;go_must (refine wpList_append_lies _ rfl (.tmp 70) (.tmp 72) 22 rfl (w.heap.size+1+1) 3 ii (I 0) 1 8 Tryz.underlying22 d6 d1 d0 c9 rfl Zd _ wk.length (wk.map zj) rfl (HM.out.hp.alloc _) ⟨wr.heap.size,0,none⟩ 1 1 [I s] rfl rfl (Oi (cs:=#[I s]) (zI Zs)) (by simp[Value.oneCell']) Zd (by unfold maxLen;omega) Zo Zt (wr.heap.size+1) Zs ?_;intro gq f9 w6 b4 a4 f8 f1;have c8:=Ja (Jb b4 a4);clear b4 a4))
        go_roundw
        case rel=>
         refine⟨j+1,by omega,by simp,?_⟩;rw[d.out.1];unfold ua;rw[if_pos ⟨b9.out,d.out.2⟩];refine HM.out.push _ c8.out.2 ?_
         simpa[zj] using c8.out.1
        case measure=>simp[intOf]<;>omega
     ·obtain rfl:j=row.length:=by omega
      rw[Nl] at o;have b5:(succ g n).foldl (ua out) (seen,st)=(sn,wk):=by rw[t.out.2];exact o
      have a3:=d2.out;rw[b5] at a3;have e2:=Ja a3;have a7:=rL out row (seen,st) (fun s hs=>by rw[HW.out.1];exact HV.out.2 row (Ji t.out.1) s hs);rw[o] at a7;have e3:=Ja a7;have c7:=Ja y;clear a3 y o b5 a7;go_wp2
      go_roundg k
      refine⟨sn,wk,l.out,e2.out,?_,?_,?_⟩
      ·rw[c7.out.1];exact HW.out.1
      ·have h1:=c7.out.2;have h2:=HW.out.2.1;simp only[Jk,Ju] at h2;omega
      ·intro x hx;rcases(e3.out.2.2.1 x).1 hx with h5|⟨h5,_⟩
       ·exact HW.out.2.2 x (by simp[h5])
       ·exact HV.out.2 row (Ji t.out.1) x h5
      exact Nat.lt_succ_self k
def xT (t:ITerm)(k:Nat):List Int:=((t.to.take k).map (·.args)).flatten
theorem u7{e:IEdge}(h:t.to[k]? =some e):xT t (k+1)=xT t k++e.args:=by
 unfold xT;rw[Nh,h,Js,List.flatten_append];simp
theorem tP(h:∀e∈t.to,e.args.length<=2000000):∀k,k<=t.to.length->(xT t k).length<=k*2000000
 |0,_=>Jt _
 |k+1,hk=>by
  obtain⟨e,he⟩:∃e,t.to[k]? =some e:=⟨_,Jd Zo⟩
  rw[u7 he,Jk];have:=tP h k Zo;have:=h e (Ji he);omega
theorem si (t:ITerm):xT t t.to.length=(t.to.map (·.args)).flatten:=by unfold xT;rw[Nl]
theorem my:∀b2 b3 b4 b5:Bool,(b2||(b3||b4 && b5))=true->(b2=true)∨(b2=false/\b3=true)∨(b2=false/\b3=false/\b4=true/\b5=true)
 |true,_,_,_,_=> .inl rfl
 |false,true,_,_,_=> .inr (.inl ⟨rfl,rfl⟩)
 |false,false,true,true,_=> .inr (.inr ⟨rfl,rfl,rfl,rfl⟩)
theorem lB:∀b2 b3 b4 b5:Bool,(b2||(b3||b4 && b5))=false->(b2=false/\b3=false/\b4=false)∨(b2=false/\b3=false/\b4=true/\b5=false)
 |false,false,false,_,_=> .inl ⟨rfl,rfl,rfl⟩
 |false,false,true,false,_=> .inr ⟨rfl,rfl,rfl,rfl⟩
structure EndsMem (w wx:World) (xs:List Int) (v:Value):Prop where
 below:Below w.heap.size w wx
 own:wx.ownsRow w.heap.size 3 1 v xs.length (xs.map zN)
theorem ends_1(t:ITerm)(ht:I64 t.kind/\I64 t.a){tv:Value}{B:Nat}(hB:B<=w.heap.size)(a1:wH w B tv t.to)(b0:t.to.length<=2000000/\∀e∈t.to,e.args.length<=2000000)(hh:ut t=true):
 A 121 #[.agg #[I t.kind,I t.a,tv]] w (wG w ([t.a]++(t.to.map (·.args)).flatten)):=by
 obtain⟨ta,tc,rfl,d4,d3⟩:=a1.form;obtain⟨ii,b9,a6,a5,a4⟩:=info_parts Tryz.info_int;have e5:t.to.length<=9223372036854775807:=Zo
 have h64:∀x∈ [t.a]++(t.to.map (·.args)).flatten,I64 x:=by
  intro x hx;rcases Jl.1 hx with hx|hx
  ·simp at hx;rw[hx];exact ht.2
  ·obtain⟨l,hl,d2⟩:=List.mem_flatten.1 hx;obtain⟨e,he,rfl⟩:=Nu.1 hl;obtain⟨k,hk⟩:=Ny he;obtain⟨b,o,_,_,_,_,av,_,u⟩:=a1.get hk;exact zY.all u x d2
 have c9:=Ja h64;unfold ut at hh;obtain⟨tk,b8⟩:∃x,t.kind=x:=⟨_,rfl⟩
 obtain⟨tA,a8⟩:∃x,t.a=x:=⟨_,rfl⟩
 rw[b8,a8] at hh ht ⊢
 try rw[a8] at c9
 obtain⟨b2,g2⟩:∃q,decide (tk=2)=q:=⟨_,rfl⟩
 obtain⟨b3,g3⟩:∃q,decide (tk=3)=q:=⟨_,rfl⟩
 obtain⟨b4,g4⟩:∃q,decide (tk=4)=q:=⟨_,rfl⟩
 obtain⟨b5,g5⟩:∃q,decide (tA≠-1)=q:=⟨_,rfl⟩
 rw[g2,g3,g4,g5] at hh;have t2:(tk==2)=b2:=x9 g2;have t3:(tk==3)=b3:=x9 g3;have t4:(tk==4)=b4:=x9 g4;have t5:(tA !=-1)=b5:=by rw[<-g5,bne];by_cases h:tA=-1<;>simp[h]
 have g:=Ja (show wH w B (.slice ta t.to.length tc) t.to/\B<=w.heap.size/\t.to.length<=2000000/\∀e∈t.to,e.args.length<=2000000 from⟨a1,hB,b0⟩);have HT:=Ja ht;have j:=zI (W:=w) (o:=G #[I tk,I tA,.slice ta t.to.length tc] 82) rfl;have c5:O w (w.alloc (G #[I tk,I tA,.slice ta t.to.length tc] 82)):=(Below.refl _ _).alloc (Je _) _;clear a1 hB b0 ht d4 d3 g2 g3 g4 g5 b8 a8 h64;have d5:=my b2 b3 b4 b5 hh;clear hh;rcases d5 with rfl|⟨rfl,rfl⟩|⟨rfl,rfl,rfl,rfl⟩
 all_goals (
  go_enter Tryz.func121,Tryz.ntmps121;go_upto_region 2 with fail;generalize e3:w.alloc (G #[I tk,I tA,.slice ta t.to.length tc] 82)=W0 at *;have y0:=K0 j;have y1:=K1 j;have y2:=K2 j;have H0:=Ja (show O w W0/\L W0 w.heap.size #[I tk,I tA,.slice ta t.to.length tc] 82 from⟨c5,j⟩);clear e3 j c5;have own0:W0.ownsRow w.heap.size 3 1 (F) 0 []:=Jv W0 _ _ _;have i:=Ja own0;clear own0;go_upto_region 4 with(at_builtin;go_must (refine zK _ rfl (.tmp 24) (.tmp 27) 22 rfl w.heap.size 3 ii (I 0) 1 8 Tryz.underlying22 b9 a6 a5 a4 rfl Zd (F) 0 [] rfl (i.out.alloc _) _ 1 [I tA] rfl (yM.one (zI Zs) (by simp[Value.oneCell'])) Zd Zd (by have:=H0.out.1.size;simp;omega) ?_;intro v0 W1 c d b6))
  have c3:O w W1:=yP (H0.out.1.alloc H0.out.1.size _) d (by have:=H0.out.1.size;simp;omega) (wF i.out);have a7:=zL d (zB H0.out.2) (zC i.out H0.out.2 (.inr Zd));have z2:=K2 a7;have HS:=Ja (show EndsMem w W1 ([tA]++xT t 0) v0 from⟨c3,c⟩);have e6:=Ja a7;clear c3 a7 c d b6 y0 y1 y2;go_wp2
  go_loopw [3,32] (fun lv kv wx=>∃k:Nat,k<=t.to.length/\kv=I k/\Hid (EndsMem w wx ([tA]++xT t k) lv)) (fun _ kv _=>t.to.length-(intOf kv).toNat)
  case atStart=>exact⟨0,Jt _,rfl,HS⟩
  case round=>
   obtain⟨k,hk,rfl,HK⟩:=hrel
   by_cases a3:k<t.to.length
   ·have d0:(k:Int)<t.to.length:=Zo;have c8:=Ja a3;obtain⟨e,he⟩:∃e,t.to[k]? =some e:=⟨_,Jd a3⟩
    obtain⟨eb,eo,rfl,c0,c2,d1,av,c1,u⟩:=g.out.1.get he;obtain⟨aa,ac,rfl,d7,d6⟩:=u.form;have b1:=HK.out.below.mono g.out.2.1;have e0:=zV b1 c0 c2;have e1:=zV b1 c0 c1;have HE:=Ja (show t.to[k]? =some e/\zY w B (.slice aa e.args.length ac) e.args from⟨he,u⟩);clear he c2 c1 d1 u d7 d6 b1 a3 z2;have b7:=zI (W:=wr) (o:=G #[I e.block,.slice aa e.args.length ac] 79) rfl;have a0:=HK.out.below.alloc HK.out.below.size (G #[I e.block,.slice aa e.args.length ac] 79);have a2:=HK.out.own.alloc (G #[I e.block,.slice aa e.args.length ac] 79);have a9:=zY.src (HE.out.2.below zO (a0.mono g.out.2.1));go_upto_region 7 with fail;generalize e2:wr.alloc (G #[I e.block,.slice aa e.args.length ac] 79)=W2 at *;generalize wr.heap.size=b5 at *;have z51:=K1 b7
    have m:([tA]++xT t k).length+e.args.length<=6000000000000:=by
     have h1:=tP g.out.2.2.2 k hk;have h2:=g.out.2.2.1;have h3:=g.out.2.2.2 e (Ji HE.out.1);rw[Jk];simp only[Nq,Ow];omega
    have y:=Ja (show _/\_ from⟨m,a0⟩);have c7:=Ja a2;have e4:=Ja a9;clear m a2 a9 a0 b7 e2 e0 e1;go_wp2_with (at_builtin;go_must (refine zK _ rfl (.tmp 36) (.tmp 38) 22 rfl w.heap.size 3 ii (I 0) 1 8 Tryz.underlying22 b9 a6 a5 a4 rfl Zd _ ([tA]++xT t k).length (([tA]++xT t k).map zN) rfl c7.out _ e.args.length (e.args.map zN) rfl e4.out (by have:=y.out.1;unfold maxLen;omega) (by have:=y.out.1;omega) y.out.2.size ?_;intro v9 w9 c d b6))
    have c4:=yP y.out.2 d y.out.2.size (wF c7.out);have HN:=Ja (Jb c4 c);clear c d b6 c4;go_roundw
    case rel=>
     refine⟨k+1,c8.out,by go_num,Ja ⟨HN.out.1,?_⟩⟩;rw[u7 HE.out.1,<-Nv,Jk (bs:=e.args),Js (l₂:=e.args)];exact HN.out.2
    case measure=>have:=c8.out;simp[intOf];omega
   ·obtain rfl:k=t.to.length:=by omega
    have d0:¬(t.to.length:Int)<t.to.length:=Zo;clear a3 z2;go_wp2;go_ret;have c:=HK.out.own;rw[si] at c
    exact⟨_,rfl,uA c rfl c9.out,HK.out.below⟩)
theorem ends_0(t:ITerm)(ht:I64 t.kind/\I64 t.a){tv:Value}{B:Nat}(hB:B<=w.heap.size)(y:wH w B tv t.to)(a5:t.to.length<=2000000/\∀e∈t.to,e.args.length<=2000000)(hh:ut t=false):
 A 121 #[.agg #[I t.kind,I t.a,tv]] w (wG w (([]:List Int)++(t.to.map (·.args)).flatten)):=by
 obtain⟨ta,tc,rfl,c9,c8⟩:=y.form;obtain⟨ii,d0,c3,c2,c1⟩:=info_parts Tryz.info_int;have e2:t.to.length<=9223372036854775807:=Zo
 have h64:∀x∈([]:List Int)++(t.to.map (·.args)).flatten,I64 x:=by
  intro x hx;rcases Jl.1 hx with hx|hx
  ·simp at hx
  ·obtain⟨l,hl,c7⟩:=List.mem_flatten.1 hx;obtain⟨e,he,rfl⟩:=Nu.1 hl;obtain⟨k,hk⟩:=Ny he;obtain⟨b,o,_,_,_,_,av,_,j⟩:=y.get hk;exact zY.all j x c7
 have c0:=Ja h64;unfold ut at hh;obtain⟨tk,a8⟩:∃x,t.kind=x:=⟨_,rfl⟩
 obtain⟨tA,a3⟩:∃x,t.a=x:=⟨_,rfl⟩
 rw[a8,a3] at hh ht ⊢
 try rw[a3] at c0
 obtain⟨b2,g2⟩:∃q,decide (tk=2)=q:=⟨_,rfl⟩
 obtain⟨b3,g3⟩:∃q,decide (tk=3)=q:=⟨_,rfl⟩
 obtain⟨b4,g4⟩:∃q,decide (tk=4)=q:=⟨_,rfl⟩
 obtain⟨b5,g5⟩:∃q,decide (tA≠-1)=q:=⟨_,rfl⟩
 rw[g2,g3,g4,g5] at hh;have t2:(tk==2)=b2:=x9 g2;have t3:(tk==3)=b3:=x9 g3;have t4:(tk==4)=b4:=x9 g4;have t5:(tA !=-1)=b5:=by rw[<-g5,bne];by_cases h:tA=-1<;>simp[h]
 have d:=Ja (show wH w B (.slice ta t.to.length tc) t.to/\B<=w.heap.size/\t.to.length<=2000000/\∀e∈t.to,e.args.length<=2000000 from⟨y,hB,a5⟩);have HT:=Ja ht;have g:=zI (W:=w) (o:=G #[I tk,I tA,.slice ta t.to.length tc] 82) rfl;have b7:O w (w.alloc (G #[I tk,I tA,.slice ta t.to.length tc] 82)):=(Below.refl _ _).alloc (Je _) _;clear y hB a5 ht c9 c8 g2 g3 g4 g5 a8 a3 h64;have d1:=lB b2 b3 b4 b5 hh;clear hh;rcases d1 with⟨rfl,rfl,rfl⟩|⟨rfl,rfl,rfl,rfl⟩
 all_goals (
  go_enter Tryz.func121,Tryz.ntmps121;go_upto_region 2 with fail;generalize d6:w.alloc (G #[I tk,I tA,.slice ta t.to.length tc] 82)=W0 at *;have y0:=K0 g;have y1:=K1 g;have y2:=K2 g;have H0:=Ja (show O w W0/\L W0 w.heap.size #[I tk,I tA,.slice ta t.to.length tc] 82 from⟨b7,g⟩);clear d6 g b7;go_upto_region 4 with fail;have z2:=y2;have HS:=Ja (show EndsMem w W0 (([]:List Int)++xT t 0) (F) from⟨H0.out.1,Jv W0 _ _ _⟩);have e3:=Ja H0.out.2;generalize W0=W1 at *;clear y0 y1 y2;go_wp2
  go_loopw [3,32] (fun lv kv wx=>∃k:Nat,k<=t.to.length/\kv=I k/\Hid (EndsMem w wx (([]:List Int)++xT t k) lv)) (fun _ kv _=>t.to.length-(intOf kv).toNat)
  case atStart=>exact⟨0,Jt _,rfl,HS⟩
  case round=>
   obtain⟨k,hk,rfl,HK⟩:=hrel
   by_cases a1:k<t.to.length
   ·have c4:(k:Int)<t.to.length:=Zo;have b9:=Ja a1;obtain⟨e,he⟩:∃e,t.to[k]? =some e:=⟨_,Jd a1⟩
    obtain⟨eb,eo,rfl,a9,b1,c5,av,b0,j⟩:=d.out.1.get he;obtain⟨aa,ac,rfl,d4,d3⟩:=j.form;have a6:=HK.out.below.mono d.out.2.1;have e0:=zV a6 a9 b1;have e1:=zV a6 a9 b0;have HE:=Ja (show t.to[k]? =some e/\zY w B (.slice aa e.args.length ac) e.args from⟨he,j⟩);clear he b1 b0 c5 j d4 d3 a6 a1 z2;have a7:=zI (W:=wr) (o:=G #[I e.block,.slice aa e.args.length ac] 79) rfl;have u:=HK.out.below.alloc HK.out.below.size (G #[I e.block,.slice aa e.args.length ac] 79);have a0:=HK.out.own.alloc (G #[I e.block,.slice aa e.args.length ac] 79);have a4:=zY.src (HE.out.2.below zO (u.mono d.out.2.1));go_upto_region 7 with fail;generalize d5:wr.alloc (G #[I e.block,.slice aa e.args.length ac] 79)=W2 at *;generalize wr.heap.size=b5 at *;have z51:=K1 a7
    have i:(([]:List Int)++xT t k).length+e.args.length<=6000000000000:=by
     have h1:=tP d.out.2.2.2 k hk;have h2:=d.out.2.2.1;have h3:=d.out.2.2.2 e (Ji HE.out.1);rw[Jk];simp only[Nq,Ow];omega
    have m:=Ja (show _/\_ from⟨i,u⟩);have b8:=Ja a0;have d7:=Ja a4;clear i a0 a4 u a7 d5 e0 e1;go_wp2_with (at_builtin;go_must (refine zK _ rfl (.tmp 36) (.tmp 38) 22 rfl w.heap.size 3 ii (I 0) 1 8 Tryz.underlying22 d0 c3 c2 c1 rfl Zd _ (([]:List Int)++xT t k).length ((([]:List Int)++xT t k).map zN) rfl b8.out _ e.args.length (e.args.map zN) rfl d7.out (by have:=m.out.1;unfold maxLen;omega) (by have:=m.out.1;omega) m.out.2.size ?_;intro v9 w9 c a2 d2))
    have b6:=yP m.out.2 a2 m.out.2.size (wF b8.out);have HN:=Ja (Jb b6 c);clear c a2 d2 b6;go_roundw
    case rel=>
     refine⟨k+1,b9.out,by go_num,Ja ⟨HN.out.1,?_⟩⟩;rw[u7 HE.out.1,<-Nv,Jk (bs:=e.args),Js (l₂:=e.args)];exact HN.out.2
    case measure=>have:=b9.out;simp[intOf];omega
   ·obtain rfl:k=t.to.length:=by omega
    have c4:¬(t.to.length:Int)<t.to.length:=Zo;clear a1 z2;go_wp2;go_ret;have c:=HK.out.own;rw[si] at c
    exact⟨_,rfl,uA c rfl c0.out,HK.out.below⟩)
theorem ends_any(t:ITerm)(ht:I64 t.kind/\I64 t.a){tv:Value}{B:Nat}(hB:B<=w.heap.size)(d:wH w B tv t.to)(c:t.to.length<=2000000/\∀e∈t.to,e.args.length<=2000000):
 A 121 #[.agg #[I t.kind,I t.a,tv]] w (wG w (mE t)):=by
 unfold mE;cases g:ut t
 ·exact ends_0 t ht hB d c g
 ·exact ends_1 t ht hB d c g
abbrev GR:=List Int×Value
variable {l:List GR}
def pU (v:Value)(l:List GR):Row:=⟨v,22,1,l.length,l.map (·.2)⟩
def sp (l:List GR):List Row:=l.map fun q=>zP q.2 q.1
def pV (w:World)(B:Nat)(v:Value)(rows:List (List Int)):Prop:=∃l:List GR,l.map (·.1)=rows/\Rows w B (pU v l::sp l)
def RetGraph (w:World)(rows:List (List Int))(e:Ending)(w':World):Prop:=∃a n c,e=.returned (.agg #[.slice a n c])/\pV w' w.heap.size (.slice a n c) rows/\O w w'
theorem ne_type7{a b:Nat}{ca cb:Array Value}{ta tb:TypeId}(d:L w a ca ta)(hb:L w b cb tb)(c:ta≠tb):a≠b:=fun e=>by
 subst e;rw[d] at hb
 injection hb with h3
 injection h3 with _ h4
 exact c h4
theorem rowI_get{b:IBlk}{e:IEdge}(h:b.term.to[k]? =some e):(tW b).take (k+1)=(tW b).take k++ [e.block]:=by
 unfold tW;rw[Nh,Jr,h];rfl
theorem lZ{l:List IBlk}{b:IBlk}(h:l[k]? =some b):(zk l).take (k+1)=(zk l).take k++ [tW b]:=by
 unfold zk;rw[Nh,Jr,h];rfl
structure GrMid (w:World) (fb g2 g3:Nat) (fv gv lv:Value) (l:List GR) (xs:List Int) (wx:World):Prop where
 h1:wx.heap[fb]? =some (.cells #[fv] 39 (0,0))
 h2:wx.heap[g2]? =some (.cells #[.slice none 0 0] 105 (0,0))
 h3:wx.heap[g3]? =some (.cells #[gv] 105 (0,0))
 bel:Below fb w wx
 rows:Rows wx fb (zP lv xs::pU gv l::sp l)
 ges:fb<=g2/\fb<=g3/\g2≠g3/\fb≠g3
 sz:fb<=wx.heap.size
theorem GrMid.next{fb:Nat}{fv c:Value}(h:GrMid w fb g2 g3 fv gv lv l xs wx){o:Obj}{x:Int}(hg:(wx.alloc o).grownBy w9 lv.ownBlock)
 (i:w9.ownsRow fb 3 1 c (xs.length+1) (xs.map zN++ [zN x])) (j:c.ownBlock=lv.ownBlock∨c.ownBlock=some (wx.alloc o).heap.size):GrMid w fb g2 g3 fv gv c l (xs++ [x]) w9:=by
 have ho:=h.rows.own _ (.head _);have hb:∀ {b:Nat} {cs:Array Value} {t:TypeId},L wx b cs t->3≠t->L w9 b cs t:=fun hb hne=>zL hg (zB hb) (zC ho hb (.inr hne))
 have g:O wx (wx.alloc o):=(Below.refl _ _).alloc (Je _) _;have d:wx.heap.size<=w9.heap.size:=by have:=hg.size;simp at this;omega
 refine⟨hb h.h1 Zd,hb h.h2 Zd,hb h.h3 Zd,?_,?_,h.ges,Jn h.sz d⟩
 ·exact h.bel.trans ⟨hg.os,hg.tape,hg.output,d,fun k hk=>(hg.block k (by simp;have:=h.sz;omega) (fun e=>by have:=(ho.lt k e.symm).1;omega)).trans (g.block k (by have:=h.sz;omega))⟩
 ·refine h.rows.grow (r':=zP c (xs++ [x])) g hg ?_ (fun k e=>?_)
  ·show w9.ownsRow fb 3 1 c (xs++ [x]).length ((xs++ [x]).map zN)
   rw[Jk,Ju,Js];exact i
  ·rcases j with e2|e2
   ·exact .inl (e2.symm.trans e)
   ·right;have e3:=e2.symm.trans e;simp at e3;omega
theorem GrMid.close{fb:Nat}{fv c:Value}(h:GrMid w fb g2 g3 fv gv lv l xs wx){o:Obj}(hg:(wx.alloc o).grownBy w9 gv.ownBlock)
 (i:w9.ownsRow fb 22 1 c (l.length+1) (l.map (·.2)++ [lv])) (y:c.ownBlock=gv.ownBlock∨c.ownBlock=some (wx.alloc o).heap.size) (u:Value):
 L (w9.setCell ⟨g3,0,none⟩ u) fb #[fv] 39/\L (w9.setCell ⟨g3,0,none⟩ u) g2 #[F] 105/\L (w9.setCell ⟨g3,0,none⟩ u) g3 #[u] 105/\Below fb w (w9.setCell ⟨g3,0,none⟩ u)/\
  Rows (w9.setCell ⟨g3,0,none⟩ u) fb (pU c (l++ [(xs,lv)])::sp (l++ [(xs,lv)])):=by
 have ho:=h.rows.own (pU gv l) (.tail _ (.head _));have hb:∀ {b:Nat} {cs:Array Value} {t:TypeId},L wx b cs t->22≠t->L w9 b cs t:=fun hb hne=>zL hg (zB hb) (zC ho hb (.inr hne))
 have d:O wx (wx.alloc o):=(Below.refl _ _).alloc (Je _) _;have j:wx.heap.size<=w9.heap.size:=by have:=hg.size;simp at this;omega
 have g:=hb h.h3 Zd;refine⟨zR (hb h.h1 Zd) h.ges.2.2.2,zR (hb h.h2 Zd) h.ges.2.2.1,by rw[zD g];rfl,?_,?_⟩
 ·exact(h.bel.trans ⟨hg.os,hg.tape,hg.output,j,fun k hk=>(hg.block k (by simp;have:=h.sz;omega) (fun e=>by have:=(ho.lt k e.symm).1;omega)).trans (d.block k (by have:=h.sz;omega))⟩).setCell h.ges.2.1 _
 ·have h1:=(h.rows.perm (List.Perm.swap _ _ _)).grow (r':=pU c (l++ [(xs,lv)])) d hg (by
   show w9.ownsRow fb 22 1 c (l++ [(xs,lv)]).length ((l++ [(xs,lv)]).map (·.2))
   rw[Jk,Ju,Js]
   exact i) (fun k e=>by
   rcases y with e2|e2
   ·exact .inl (e2.symm.trans e)
   ·right;have e3:=e2.symm.trans e;simp at e3
    omega)
  have h2:Rows w9 fb (pU c (l++ [(xs,lv)])::sp (l++ [(xs,lv)])):=h1.perm (List.Perm.cons _ (by
   unfold sp;rw[Js]
   exact(List.perm_append_singleton _ _).symm))
  refine h2.keep fun k hk=>Below.heap_setCell _ _ _ _ (fun e=>?_)
  obtain⟨r,hr,x⟩:=Nj.1 hk;have e':k=g3:=e;subst e'
  have m:105≠r.e:=by
   rcases Jq.1 hr with rfl|hr
   ·show 105≠22;decide
   ·unfold sp at hr;obtain⟨q,_,rfl⟩:=Nu.1 hr
    show 105≠3;decide
  exact zC (h2.own r hr) g (.inr (fun e=>m e.symm)) x
theorem afH{B:Nat}{d7:Value}{blocks:List IBlk}(c2:wX w B d7 blocks)(hB:B<=w.heap.size)(hs:vZ blocks):
 A 48 #[.agg #[d7]] w (RetGraph w (zk blocks)):=by
 obtain⟨fa,fc,rfl,k7,k6⟩:=c2.form;have k4:=hs.1;have b3:=Ja (Jb c2 (Jb hB hs));obtain⟨fb,c1⟩:∃fb,w.heap.size=fb:=⟨_,rfl⟩
 have d4:O w (((w.alloc (G #[.slice fa blocks.length fc] 39)).alloc (G #[F] 105)).alloc (G #[F] 105)):=(((Below.refl _ _).alloc (Je _) _).alloc Zs _).alloc Zt _;have b4:=zB (o:=G #[F] 105) (zB (o:=G #[F] 105) (zI (W:=w) (o:=G #[.slice fa blocks.length fc] 39) rfl));have b0:=zB (o:=G #[F] 105) (zI (W:=w.alloc (G #[.slice fa blocks.length fc] 39)) (o:=G #[F] 105) rfl);have a9:=zI (W:=(w.alloc (G #[.slice fa blocks.length fc] 39)).alloc (G #[F] 105)) (o:=G #[F] 105) rfl;have c8:(w.alloc (G #[.slice fa blocks.length fc] 39)).heap.size=w.heap.size+1:=by simp
 have c7:((w.alloc (G #[.slice fa blocks.length fc] 39)).alloc (G #[F] 105)).heap.size=w.heap.size+1+1:=by simp
 rw[c8] at b0;rw[c7] at a9;clear c2 hB hs c8 c7;go_enter Tryz.func48,Tryz.ntmps48;go_upto_region 2 with fail;generalize h4:((w.alloc (G #[.slice fa blocks.length fc] 39)).alloc (G #[F] 105)).alloc (G #[F] 105)=W1 at *;rw[c1] at b4 b0 a9;generalize f8:fb+1+1=g3 at *;generalize f9:fb+1=g2 at *;have c9:g2≠g3/\fb<=g2/\fb<=g3:=Zo;have H1:=Ja (Jb d4 (Jb b4 (Jb b0 (Jb a9 (Jb c1 c9)))));clear d4 b4 b0 a9 h4 c1 f9 f8 c9;go_wp2
 go_loopw [4] (fun kv wx=>∃(k:Nat) (a:Option Addr) (n c:Nat),k<=blocks.length/\kv=I k/\Hid (L wx fb #[.slice fa blocks.length fc] 39/\L wx g2 #[F] 105/\L wx g3 #[.slice a n c] 105/\Below fb w wx/\pV wx fb (.slice a n c) ((zk blocks).take k))) (fun kv _=>blocks.length-(intOf kv).toNat)
 case atStart=>exact⟨0,none,0,0,Jt _,rfl,Ja ⟨H1.out.2.1,H1.out.2.2.1,H1.out.2.2.2.1,by rw[<-H1.out.2.2.2.2.1];exact H1.out.1,[],rfl,Rows.nil.cons (Jv _ _ _ _) (fun g e=>by simp[Row.blk,pU,Value.ownBlock] at e)⟩⟩
 case round=>
  obtain⟨k,a,n,c,hk,rfl,t⟩:=hrel;have c0:=zA (i:=0) t.out.1 rfl;have b9:=lt_of_block t.out.1
  by_cases d1:k<blocks.length
  ·have e7:(k:Int)<(blocks.length:Int):=Zo;obtain⟨b,hb⟩:∃b,blocks[k]? =some b:=⟨_,Jd d1⟩
   obtain⟨l,hl,b1⟩:=t.out.2.2.2.2;have a4:fb=w.heap.size:=H1.out.2.2.2.2.1.symm;have x:GrMid w fb g2 g3 (.slice fa blocks.length fc) (.slice a n c) (F) l [] wr:=⟨t.out.1,t.out.2.1,t.out.2.2.1,t.out.2.2.2.1,b1.cons (Jv _ _ _ _) (fun g e=>by simp[Row.blk,zP,Value.ownBlock] at e),⟨H1.out.2.2.2.2.2.2.1,H1.out.2.2.2.2.2.2.2,H1.out.2.2.2.2.2.1,fun e=>ne_type7 t.out.1 t.out.2.2.1 Zd e⟩,Qd b9⟩
   have h6:=Ja x;have HL:=Ja (Jb hl hb);have d3:=b3.out.2.2.2 b (Ji hb);have k0:=d3.2.2;have h5:=Ja (show ∀wx,Below fb w wx->wX wx B (.slice fa blocks.length fc) blocks/\B<=wx.heap.size from fun wx hbx=>⟨b3.out.1.below yT (hbx.mono (by rw[a4];exact b3.out.2.1)),Jn b3.out.2.1 hbx.size⟩);clear hl b1 x hb d3 a4;go_wp2;clear c0 b9
   go_loopw [5,6] (fun lv jv wx=>∃(j:Nat) (la:Option Addr) (lc:Nat),j<=b.term.to.length/\lv=.slice la j lc/\jv=I j/\Hid (GrMid w fb g2 g3 (.slice fa blocks.length fc) (.slice a n c) (.slice la j lc) l ((tW b).take j) wx)) (fun _ jv _=>b.term.to.length-(intOf jv).toNat)
   case atStart=>exact⟨0,none,0,Jt _,rfl,rfl,h6⟩
   case round=>
    obtain⟨j,la,lc,hj,rfl,rfl,HM⟩:=hrel;have c0:=zA (i:=0) HM.out.h1 rfl;have b9:=lt_of_block HM.out.h1;obtain⟨b8,l2⟩:=h5.out _ HM.out.bel;obtain⟨bb,bo,g6,l1,d6,d5,h64,pv,ov,tv,g0,g1,g4,b5,b7,a1⟩:=b8.get HL.out.2;obtain⟨ta,tc,rfl,k1,j2⟩:=a1.form;subst g6;have i1:bb<wr.heap.size:=Zo
    by_cases d2:j<b.term.to.length
    ·have f4:(j:Int)<(b.term.to.length:Int):=Zo;obtain⟨e,he⟩:∃e,b.term.to[j]? =some e:=⟨_,Jd d2⟩
     obtain⟨eb,eo,f0,l0,k9,e8,_⟩:=a1.get he;subst f0;have i0:eb<wr.heap.size:=Zo;have b6:=HM.out.rows.own _ (.head _);have a6:((tW b).take j).length=j:=te hj
     have u:wr.ownsRow fb 3 1 (.slice la j lc) j (((tW b).take j).map zN):=by
      have h:=b6
      show wr.ownsRow fb 3 1 (.slice la j lc) j _
      unfold zP at h;simp only at h;rw[a6] at h;exact h
     have HO:=Ja (Jb u (Jb a6 he));have g5:fb<=wr.heap.size:=Zo;obtain⟨ij,f6,e6,e5,e4⟩:=info_parts Tryz.info_int;clear b6 a6 u he b5 b7 a1 b8 e8 g0 g1 d6 d5 h64;go_wp2_with (at_builtin;go_must (refine zK _ rfl (.tmp 26) (.tmp 38) 22 rfl fb 3 ij (I 0) 1 8 Tryz.underlying22 f6 e6 e5 e4 rfl Zd (.slice la j lc) j (((tW b).take j).map zN) rfl (HO.out.1.alloc _) _ 1 [zN e.block] rfl (yM.one (zI rfl) rfl) (by unfold maxLen;omega) Zo Zt ?_;intro v9 w9 m d y;obtain⟨a8,a7,rfl⟩:=zG m;have a0:=Ja (Jb m (Jb d y));clear m d y))
     go_roundw
     case rel=>
      refine⟨j+1,a8,a7,d2,rfl,by go_num,Ja ?_⟩;rw[rowI_get HO.out.2.2];exact HM.out.next a0.out.2.1 (by rw[HO.out.2.1];exact a0.out.1) a0.out.2.2
     case measure=>simp[intOf];omega
    ·obtain rfl:j=b.term.to.length:=by omega
     have f4:¬(b.term.to.length:Int)<(b.term.to.length:Int):=Zo;have c4:(tW b).take b.term.to.length=tW b:=Oy (by unfold tW;simp);have x:=HM.out;rw[c4] at x;have k3:=zA (i:=0) x.h3 rfl;have h8:=lt_of_block x.h3;have a2:=x.rows.own (pU (.slice a n c) l) (.tail _ (.head _));obtain⟨a',c',c3⟩:=zG a2
     have f3:n=l.length:=by
      simp only[pU] at c3;cases c3;rfl
     subst f3;have u:wr.ownsRow fb 22 1 (.slice a l.length c) l.length (l.map (·.2)):=a2
     have k2:l.length<=2000000:=by
      have h1:=congrArg List.length HL.out.1;rw[Nr,Oc] at h1;omega
     have HO:=Ja (Jb x u);have g5:fb<=wr.heap.size:=Zo;obtain⟨ik,f5,e3,e2,e1⟩:=info_parts Tryz.info_ints;clear c4 x a2 c3 u b5 b7 a1 b8 g0 g1 d6 d5 h64;go_wp2_with (at_builtin;go_must (refine zK _ rfl (.tmp 41) (.tmp 43) 103 rfl fb 22 ik (F) 1 24 Tryz.underlying103 f5 e3 e2 e1 rfl Zd (.slice a l.length c) l.length (l.map (·.2)) rfl (HO.out.2.alloc _) _ 1 [.slice la b.term.to.length lc] rfl (yM.one (zI rfl) rfl) (by unfold maxLen;omega) Zo Zt ?_;intro v9 w9 m d y;obtain⟨a8,a7,rfl⟩:=zG m;have b2:=zL d (zB HO.out.1.h3) (zC HO.out.2 HO.out.1.h3 (.inr Zd));have i9:=zA (i:=0) b2 rfl;have i2:N w9 g3 0:=zE b2;have h7:=lt_of_block b2;have a0:=Ja (Jb m (Jb d y));clear m d y b2))
     go_roundw
     case rel=>
      have a5:=HO.out.1.close a0.out.2.1 a0.out.1 a0.out.2.2 (.slice a8 (l.length+1) a7);refine⟨k+1,a8,l.length+1,a7,d1,by go_num,Ja ⟨a5.1,a5.2.1,a5.2.2.1,a5.2.2.2.1,l++ [(tW b,.slice la b.term.to.length lc)],?_,a5.2.2.2.2⟩⟩;rw[lZ HL.out.2,Js,HL.out.1];rfl
     case measure=>simp[intOf];omega
  ·obtain rfl:k=blocks.length:=by omega
   have e7:¬(blocks.length:Int)<(blocks.length:Int):=Zo;have d0:=zA (i:=0) t.out.2.2.1 rfl;have k5:=lt_of_block t.out.2.2.1;have e0:=zA (i:=0) t.out.2.1 rfl;have h9:=lt_of_block t.out.2.1;have ef:N wr g2 0:=zE t.out.2.1;go_wp2;have g8:=t.out.2.2.2.1;have f7:=t.out.2.2.2.2;have a4:=H1.out.2.2.2.2.1;have c5:=zD (i:=0) t.out.2.1 (.slice a n c);have x0:=zA (i:=0) c5 rfl;have j1:=lt_of_block c5;refine bodyPost_ret (v:=.agg #[.slice a n c]) ?_ rfl ?_
   ·rw[zM rfl];go_simp
   ·refine⟨a,n,c,rfl,?_,?_⟩
    ·obtain⟨l,hl,hr⟩:=f7;refine⟨l,by rw[hl,Oy (by unfold zk;simp)],?_⟩;rw[a4];refine hr.keep fun q hq=>Below.heap_setCell _ _ _ _ (fun e=>?_)
     obtain⟨r,a3,f2⟩:=Nj.1 hq;have e':q=g2:=e;subst e'
     have f1:r.e≠105:=by
      rcases Jq.1 a3 with rfl|a3
      ·show 22≠105;decide
      ·unfold sp at a3;obtain⟨p,_,rfl⟩:=Nu.1 a3
       show 3≠105;decide
     exact zC (hr.own r a3) t.out.2.1 (.inr f1) f2
    ·rw[a4];exact g8.setCell H1.out.2.2.2.2.2.2.1 _
theorem mem_a(h:(zi o.code).a=true):o.a∈rR o:=by
 unfold rR;rw[if_pos h];simp
theorem mem_b(h:(zi o.code).b=true):o.b∈rR o:=by
 unfold rR;rw[if_pos h];simp
theorem acc_a(h:aeV o=true):(zi o.code).a=true:=by
 unfold aeV at h;simp only[Jm,decide_eq_true_eq] at h;have:o.code=18∨o.code=19∨o.code=20∨o.code=21:=Zo;rcases this with e|e|e|e<;>rw[e]<;>rfl
def jx (blocks:List IBlk):Prop:=∀b∈blocks,(∀o∈b.ops,o.args.length<=2000000)/\∀e∈b.term.to,e.args.length<=2000000
section
variable {P:Program} {ops:Array Oper} {Q:Exit->Act->World->Prop} {md:Region.Mode} {S:World->Prop} {L:Nat}
def uO (P:Program)(md:Region.Mode)(ops:Array Oper)(Q:Exit->Act->World->Prop)(S:World->Prop)(L:Nat):Nat->Array Bool->Act->World->Prop
 |0,listed,a,w=>Region.ready md ops listed=[]/\Q .normal a w
 |fuel+1,listed,a,w=>
  (Region.ready md ops listed=[]->Q .normal a w)/\
  ∀i∈Region.ready md ops listed,wpOp P ops Q i (fun a' w'=>(i≠L->S w')/\uO P md ops Q S L fuel (listed.setIfInBounds i true) a' w') a w
theorem pL:∀(fuel:Nat) (listed:Array Bool) (a:Act) (w:World),uO P md ops Q S L fuel listed a w->wpAny P md ops Q fuel listed a w
 |0,_,_,_,h=>h
 |fuel+1,_,_,_,h=>⟨h.1,fun i hi=>wpOp_mono (fun a' w' h'=>pL fuel _ a' w' h'.2) (h.2 i hi)⟩
def mw (md:Region.Mode)(ops:Array Oper)(L i:Nat):Bool:=((ops[L]?).map fun o=>o.after.any fun e=>Region.binds md e && e.on==i).getD false
theorem waits_ne(d:mw md ops L i=true)(hi:c.getD i true=false)(l:j∈Region.ready md ops c):j≠L:=by
 rintro rfl;obtain⟨_,oj,k,g⟩:=mem_ready.1 l;unfold mw at d;rw[k] at d;obtain⟨e,m,hb⟩:=Array.any_eq_true'.1 d;simp only[Jm,beq_iff_eq] at hb;have h1:=g e m hb.1;rw[hb.2] at h1;rcases Nat.lt_or_ge i c.size with h|h
 ·simp[h] at hi h1;rw[hi] at h1;cases h1
 ·simp[Array.getElem?_eq_none h] at h1
theorem nD{v:Value}(hi:ops[i]? =some oi)(a2:mw md ops L i=true)(l:∀(j:Nat) (o:Oper) cs b,ops[j]? =some o->o.op≠ .select cs b)
 (hQ:∀c a w,Q (.panic c) (a.put oi.dst v) w->Q (.panic c) a w):
 ∀(fuel:Nat) (listed:Array Bool) (a:Act) (w:World),
  (∀j oj,ops[j]? =some oj->j≠i->listed.getD j true=false->(∀e∈oj.after,Region.binds md e=true->e.on≠i)->oi.apart ops oj=true)->
  i∈Region.ready md ops listed->YieldsIf P ops S oi v a->S w->
  uO P md ops Q S L fuel (listed.setIfInBounds i true) (a.put oi.dst v) w->uO P md ops Q S L (fuel+1) listed a w:=by
 intro fuel
 induction fuel with
 |zero=>
  intro listed a w _ hr x u H;refine⟨fun h=>(by rw[h] at hr;cases hr),fun j hj=>?_⟩
  by_cases d:j=i
  ·subst d;exact x.wpOp hi u ⟨fun _=>u,H⟩
  ·have:=ready_mono hj d;rw[H.1] at this
   cases this
 |succ fuel ih=>
  intro listed a w g hr x u H;refine⟨fun h=>(by rw[h] at hr;cases hr),fun j hj=>?_⟩
  by_cases d:j=i
  ·subst d;exact x.wpOp hi u ⟨fun _=>u,H⟩
  ·have h1:=H.2 j (ready_mono hj d);have a3:j≠L:=waits_ne a2 (mem_ready.1 hr).1 hj;obtain⟨q,oj,m,a1⟩:=mem_ready.1 hj
   have a0:∀e∈oj.after,Region.binds md e=true->e.on≠i:=fun e he hb heq=>by
    have h1:=a1 e he hb;have h0:=(mem_ready.1 hr).1;rw[heq] at h1;rcases Nat.lt_or_ge i listed.size with h'|h'
    ·simp[h'] at h0 h1;rw[h0] at h1;cases h1
    ·simp[Array.getElem?_eq_none h'] at h1
   have h2:=wpOp_putIf m (g j oj m d q a0) (fun cs b=>l i oi cs b hi) (fun cs b=>l j oj cs b m) hQ x h1
   have t:∀k ok,ops[k]? =some ok->k≠i->(listed.setIfInBounds j true).getD k true=false->
    (∀e∈ok.after,Region.binds md e=true->e.on≠i)->oi.apart ops ok=true:=fun k ok hk hki hun hno=>by
    refine g k ok hk hki ?_ hno
    by_cases y:j=k
    ·subst y;exact q
    ·rw[getD_set_ne true y] at hun;exact hun
   refine wpOp_mono (fun a' w' h3=>⟨h3.2.1,ih (listed.setIfInBounds j true) a' w' t (ready_mono hr (Ne.symm d)) h3.1 (h3.2.1 a3) ?_⟩) h2;rw[Array.setIfInBounds_comm _ _ d];exact h3.2.2
theorem zF{v:Value}{fuel:Nat}{a:Act}(hi:ops[i]? =some oi)(g:mw md ops L i=true)
 (hs:Region.noSelect ops=true) (hf:Region.free md ops d i=true) (hr:(Region.ready md ops d).contains i=true)
 (l:∀c a w,Q (.panic c) (a.put oi.dst v) w->Q (.panic c) a w) (j:YieldsIf P ops S oi v a) (k:S w)
 (h:uO P md ops Q S L fuel (d.setIfInBounds i true) (a.put oi.dst v) w):uO P md ops Q S L (fuel+1) d a w:=
 nD hi g (Region.noSelect_spec hs) l fuel d a w (Region.free_spec hi hf) (by simpa using hr) j k h
theorem Tl(i:Nat){v:Value}{fuel:Nat}{a:Act}(h:uO P md ops Q S L fuel (d.setIfInBounds i true) (a.put oi.dst v) w)(hi:ops[i]? =some oi:=by rfl)(g:mw md ops L i=true:=by kernel_rfl)
 (hs:Region.noSelect ops=true:=by kernel_rfl) (hf:Region.free md ops d i=true:=by kernel_rfl) (hr:(Region.ready md ops d).contains i=true:=by kernel_rfl)
 (l:∀c a w,Q (.panic c) (a.put oi.dst v) w->Q (.panic c) a w:=by exact fun _ _ _ h=>h) (j:YieldsIf P ops S oi v a:=by exact Or.inl ⟨by rfl,by intro w hSw;(try dsimp only at hSw);go_simp;try with_reducible rfl⟩) (k:S w:=by assumption):uO P md ops Q S L (fuel+1) d a w:=
 zF hi g hs hf hr l j k h
def zS (P:Program)(md:Region.Mode)(ops:Array Oper)(Q:Exit->Act->World->Prop)(S:World->Prop)(L:Nat)(fuel:Nat)(listed:Array Bool)(a:Act)(w:World)(rs:List Nat):Prop:=
 ∀i∈rs,wpOp P ops Q i (fun a' w'=>(i≠L->S w')/\uO P md ops Q S L fuel (listed.setIfInBounds i true) a' w') a w
theorem zS.nil{fuel:Nat}{a:Act}:zS P md ops Q S L fuel c a w []:=fun _ h=>by cases h
theorem zS.cons{fuel:Nat}{a:Act}{o:Oper}(ho:ops[i]? =some o)
 (h:∀K':Act->World->Prop,Shut (∀a w,S w->(S w->uO P md ops Q S L fuel (c.setIfInBounds i true) a w)->K' a w)->if Region.wanted o (yielded ops a.tmps)=true then Oper.wp P o a w K' Q else K' (a.put o.dst undef) w)
 (hs:zS P md ops Q S L fuel c a w rs):zS P md ops Q S L fuel c a w (i::rs):=fun j d=>by
 rcases Jq.1 d with rfl|d
 ·exact wpOp_step ho (fun K' hK=>h K' (fun a w hS hW=>hK a w ⟨fun _=>hS,hW hS⟩))
 ·exact hs j d
theorem zS.last{fuel:Nat}{a:Act}{o:Oper}(ho:ops[L]? =some o)
 (h:∀K':Act->World->Prop,Shut (∀a w,uO P md ops Q S L fuel (c.setIfInBounds L true) a w->K' a w)->if Region.wanted o (yielded ops a.tmps)=true then Oper.wp P o a w K' Q else K' (a.put o.dst undef) w):
 zS P md ops Q S L fuel c a w [L]:=fun j d=>by
 rcases Jq.1 d with rfl|d
 ·exact wpOp_step ho (fun K' hK=>h K' (fun a w hW=>hK a w ⟨fun e=>absurd rfl e,hW⟩))
 ·cases d
theorem z8{fuel:Nat}{a:Act}(hr:Region.ready md ops c=rs)(d:rs≠ [])
 (h:zS P md ops Q S L fuel c a w rs):uO P md ops Q S L (fuel+1) c a w:=⟨fun h0=>absurd (hr ▸ h0) d,hr ▸ h⟩
theorem xj{listed:Array Bool}{a:Act}(hr:Region.ready md ops listed=[])(h:Q .normal a w):∀fuel,uO P md ops Q S L fuel listed a w
 |0=>⟨hr,h⟩
 |_+1=>⟨fun _=>h,by rw[hr];simp⟩
theorem yQ{id:Nat}{a:Act}(L:Nat)(hm:P.follows .mixedOrders=true)(c:S w.drew)
 (h:S w.drew->uO P .any ops Q S L ops.size (Array.replicate ops.size false) a w.drew):(Code.region id ops true).wp P Q a w:=
 wp_region_any hm (pL _ _ _ _ (h c))
end
theorem vF{α:Type}{sz:Nat}{R:World->Nat->Nat->Nat->α->Prop}{B:Nat}{v:Value}{xs:List α}(h:yN sz R w B v xs){x:α}(c:x∈xs):∃b o,R w B b o x:=by
 obtain⟨k,hk⟩:=Ny c;obtain⟨a,d,rfl,_,_,h3⟩:=h;obtain⟨b,o,_,_,hr⟩:=h3 k x hk;exact⟨b,_,hr⟩
theorem rI{B:Nat}{v:Value}(h:zY w B v xs):∀x∈xs,I64 x:=fun x hx=>by
 obtain⟨b,o,hr⟩:=vF h hx;exact hr.2
theorem ProgIn.p64{B:Nat}{V:PV}{p:IProg}(h:ProgIn w B V p):P64 p:=by
 refine⟨fun f hf b hb=>?_,rI h.args,fun o ho=>?_,fun s hs=>?_,h.ent,h.hnd⟩
 ·obtain⟨x,y,bv,_,d⟩:=vF h.funcs hf;obtain⟨x,y,_,_,h3,pv,ov,tv,_,_,_,j,i,g⟩:=vF d hb;refine⟨rI j,fun o ho=>?_,h3,fun e he=>?_⟩
  ·obtain⟨x,y,_,_,_,_,_,k,av,_,c⟩:=vF i ho;exact⟨k,rI c⟩
  ·obtain⟨x,y,_,h2,av,_,c⟩:=vF g he;exact⟨h2,rI c⟩
 ·obtain⟨x,y,_,_,_,l⟩:=vF h.data ho;exact l
 ·obtain⟨x,y,h1,h2⟩:=vF h.banks hs;exact h2
def i8 (w:World)(B b q:Nat)(x:Int):Prop:=T w b q (I x)
abbrev pg:=yN 1 i8
def RowCR (w:World)(B b q:Nat)(x:List Int):Prop:=∃v,T w b q v/\pg w B v x
abbrev RowsC:=yN 1 RowCR
theorem mf{B:Nat}{v:Value}(h:w.ownsRow B 3 1 v xs.length (xs.map zN)):pg w w.heap.size v xs:=by
 have h2:w.ownsRow B 3 1 v xs.length (xs.flatMap fun x=> [zN x]):=by rw[<-Qh];exact h
 have:=wC (sz:=1) (f:=fun x:Int=> [zN x]) (R:=i8) (g:=fun x:Int=>x) Zd (fun _=>rfl) h2 (fun q hq b o hc=>hc 0 _ rfl);rw[List.map_id'] at this;exact this
theorem iW{B:Nat}{v:Value}{rows:List (List Int)}(h:pV w B v rows):RowsC w w.heap.size v rows:=by
 obtain⟨l,rfl,hr⟩:=h;have h1:w.ownsRow B 22 1 v l.length (l.flatMap fun q=> [q.2]):=by rw[<-Qh];exact hr.own _ (.head _)
 exact wC (sz:=1) (f:=fun q:GR=> [q.2]) (R:=RowCR) (g:=fun q:GR=>q.1) Zd (fun _=>rfl) h1 (fun q hq b o hc=>⟨q.2,hc 0 _ rfl,mf (hr.own (zP q.2 q.1) (.tail _ (show zP q.2 q.1∈sp l from Oj (f:=fun q:GR=>zP q.2 q.1) hq)))⟩)
def re (w:World)(a:Rg)(e:Ending)(w':World):Prop:=e=.returned (.agg #[U (a.lo:Int),U (a.hi:Int)])/\O w w'
theorem ahR (x y:Nat):∀(ts:Array TypeId) (t:TypeId) (W:World),(Builtin.max_ ts t #[U x,U y]).run Tryz.prog W=.ok (U ((max x y:Nat):Int)) W:=fun ts t W=>by
 rw[run_max_int2,show(if(y:Int)>x then(y:Int) else x)=((max x y:Nat):Int) by split<;>omega]
theorem min16 (x y:Nat):∀(ts:Array TypeId) (t:TypeId) (W:World),(Builtin.min_ ts t #[U x,U y]).run Tryz.prog W=.ok (U ((min x y:Nat):Int)) W:=fun ts t W=>by
 rw[run_min_int2,show(if(y:Int)<x then(y:Int) else x)=((min x y:Nat):Int) by split<;>omega]
theorem full_any (w:World):A 39 #[] w (re w y7):=by
 go_enter Tryz.func39,Tryz.ntmps39;go_wp2;refine bodyPost_ret (v:=.agg #[U 0,U 65535]) ?_ rfl ?_
 ·rw[zM rfl];go_simp
 ·exact⟨rfl,by repeat' (first|exact Below.refl _ _|assumption|(refine Below.alloc ?_ (by first|(simp;done)|(simp;omega)) _)|(refine Below.setCell ?_ (by first|(simp;done)|(simp;omega)) _))⟩
theorem m0 (w:World):A 39 #[] w (fun e w'=>e=.returned (.agg #[U 0,U 65535])/\O w w'):=full_any w
theorem af2 (w:World)(n:Nat):A 122 #[U n] w (re w (afw n)):=by
 go_enter Tryz.func122,Tryz.ntmps122;go_wp2;refine bodyPost_ret (v:=.agg #[U n,U n]) ?_ rfl ?_
 ·rw[zM rfl];go_simp
 ·exact⟨rfl,by repeat' (first|exact Below.refl _ _|assumption|(refine Below.alloc ?_ (by first|(simp;done)|(simp;omega)) _)|(refine Below.setCell ?_ (by first|(simp;done)|(simp;omega)) _))⟩
theorem i5 (w:World)(a:Rg):A 83 #[.agg #[U (a.lo:Int),U (a.hi:Int)]] w (fun e w'=>e=.returned (.bool (yf a))/\O w w'):=by
 obtain⟨q,c⟩:∃q,yf a=q:=⟨_,rfl⟩
 have hb:((a.lo:Int)==(a.hi:Int))=q:=by rw[<-c];unfold yf;rw[Bool.eq_iff_iff,beq_iff_eq,decide_eq_true_eq];omega
 rw[c];clear c;go_enter Tryz.func83,Tryz.ntmps83;go_wp2;go_ret;exact⟨rfl,by repeat' (first|exact Below.refl _ _|assumption|(refine Below.alloc ?_ (by first|(simp;done)|(simp;omega)) _)|(refine Below.setCell ?_ (by first|(simp;done)|(simp;omega)) _))⟩
theorem hull_any (w:World)(a b:Rg):A 92 #[.agg #[U (a.lo:Int),U (a.hi:Int)],.agg #[U (b.lo:Int),U (b.hi:Int)]] w (re w (sq a b)):=by
 obtain⟨x,d⟩:∃x,min a.lo b.lo=x:=⟨_,rfl⟩
 obtain⟨y,c⟩:∃y,max a.hi b.hi=y:=⟨_,rfl⟩
 have h1:=min16 a.lo b.lo;have h2:=ahR a.hi b.hi;rw[d] at h1;rw[c] at h2;have hr:sq a b=⟨x,y⟩:=by unfold sq;rw[d,c]
 rw[hr];clear d c hr;go_enter Tryz.func92,Tryz.ntmps92;go_wp2;refine bodyPost_ret (v:=.agg #[U x,U y]) ?_ rfl ?_
 ·rw[zM rfl];go_simp
 ·exact⟨rfl,by repeat' (first|exact Below.refl _ _|assumption|(refine Below.alloc ?_ (by first|(simp;done)|(simp;omega)) _)|(refine Below.setCell ?_ (by first|(simp;done)|(simp;omega)) _))⟩
theorem ac2 (w:World){lo hi:Int}(hl:-70000000<=lo/\lo<=70000000)(l:-70000000<=hi/\hi<=70000000):A 71 #[I lo,I hi] w (re w (wl lo hi)):=by
 obtain⟨x,g⟩:∃x,(lo%65536).toNat=x:=⟨_,rfl⟩
 obtain⟨y,d⟩:∃y,(hi%65536).toNat=y:=⟨_,rfl⟩
 have e1:IntKind.u16.wrap lo=(x:Int):=by rw[xY];omega
 have e2:IntKind.u16.wrap hi=(y:Int):=by rw[xY];omega
 by_cases h:lo/65536=hi/65536
 ·have hr:wl lo hi=⟨x,y⟩:=by unfold wl;rw[if_pos h,g,d]
  have hb:(lo/65536 !=hi/65536)=false:=by simp[h]
  rw[hr];clear hr g d h;go_enter Tryz.func71,Tryz.ntmps71;go_wp2;refine bodyPost_ret (v:=.agg #[U x,U y]) ?_ rfl ⟨rfl,by repeat' (first|exact Below.refl _ _|assumption|(refine Below.alloc ?_ (by first|(simp;done)|(simp;omega)) _)|(refine Below.setCell ?_ (by first|(simp;done)|(simp;omega)) _))⟩;rw[zM rfl];go_simp
 ·have hr:wl lo hi=⟨0,65535⟩:=by unfold wl;rw[if_neg h];rfl
  have hb:(lo/65536 !=hi/65536)=true:=by simp[h]
  rw[hr];clear hr g d h;go_enter Tryz.func71,Tryz.ntmps71;go_wp2_with (go_at_call 39;go_must (refine(m0 _).mono ?_;rintro e w1 ⟨rfl,c⟩;have hk:L w1 w.heap.size #[U 0,U 0] 45:=zH c (zI Zs) Zs;have f0:=zA (i:=0) hk rfl;have f1:=zA (i:=1) hk rfl;have g0:=zE (i:=0) hk;have g1:=zE (i:=1) hk;have j:=lt_of_block hk;have k:=Below.trans (show O w _ from by repeat' (first|exact Below.refl _ _|(refine Below.alloc ?_ (by first|(simp;done)|(simp;omega)) _))) (c.mono (by first|(simp;done)|(simp;omega)));clear c hk))
  refine bodyPost_ret (v:=.agg #[U 0,U 65535]) ?_ rfl ⟨rfl,by repeat' (first|exact Below.refl _ _|assumption|(refine Below.alloc ?_ (by first|(simp;done)|(simp;omega)) _)|(refine Below.setCell ?_ (by first|(simp;done)|(simp;omega)) _))⟩;rw[zM rfl];go_simp
theorem aeU (w:World){lo hi:Nat}(hl:lo<=hi)(j:hi<9223372036854775807):A 76 #[I lo,I hi] w (re w (vl lo hi)):=by
 by_cases h:hi<=65535
 ·have hr:vl lo hi=⟨lo,hi⟩:=by unfold vl;rw[if_pos h]
  have e1:IntKind.u16.wrap (lo:Int)=(lo:Int):=by rw[xY];omega
  have e2:IntKind.u16.wrap (hi:Int)=(hi:Int):=by rw[xY];omega
  have hb:¬(65535:Int)<(hi:Int):=Zo;rw[hr];clear hr h;go_enter Tryz.func76,Tryz.ntmps76;go_wp2;refine bodyPost_ret (v:=.agg #[U lo,U hi]) ?_ rfl ⟨rfl,by repeat' (first|exact Below.refl _ _|assumption|(refine Below.alloc ?_ (by first|(simp;done)|(simp;omega)) _)|(refine Below.setCell ?_ (by first|(simp;done)|(simp;omega)) _))⟩;rw[zM rfl];go_simp
 ·have hr:vl lo hi=⟨0,65535⟩:=by unfold vl;rw[if_neg h];rfl
  have hb:(65535:Int)<(hi:Int):=Zo;rw[hr];clear hr h;go_enter Tryz.func76,Tryz.ntmps76;go_wp2_with (go_at_call 39;go_must (refine(m0 _).mono ?_;rintro e w1 ⟨rfl,c⟩;have hk:L w1 w.heap.size #[U 0,U 0] 45:=zH c (zI Zs) Zs;have f0:=zA (i:=0) hk rfl;have f1:=zA (i:=1) hk rfl;have g0:=zE (i:=0) hk;have g1:=zE (i:=1) hk;have d:=lt_of_block hk;have g:=Below.trans (show O w _ from by repeat' (first|exact Below.refl _ _|(refine Below.alloc ?_ (by first|(simp;done)|(simp;omega)) _))) (c.mono (by first|(simp;done)|(simp;omega)));clear c hk))
  refine bodyPost_ret (v:=.agg #[U 0,U 65535]) ?_ rfl ⟨rfl,by repeat' (first|exact Below.refl _ _|assumption|(refine Below.alloc ?_ (by first|(simp;done)|(simp;omega)) _)|(refine Below.setCell ?_ (by first|(simp;done)|(simp;omega)) _))⟩;rw[zM rfl];go_simp
theorem afD (w:World){a b:Rg}(j:a.lo<65536/\a.hi<65536)(hb:b.lo<65536):A 84 #[.agg #[U (a.lo:Int),U (a.hi:Int)],.agg #[U (b.lo:Int),U (b.hi:Int)]] w (re w (pn a b)):=by
 by_cases h:b.lo=b.hi
 ·obtain⟨x,d⟩:∃x,a.lo/2^(b.lo%16)=x:=⟨_,rfl⟩
  obtain⟨y,c⟩:∃y,a.hi/2^(b.lo%16)=y:=⟨_,rfl⟩
  have hr:pn a b=⟨x,y⟩:=by unfold pn yf;rw[if_pos (by simpa using h),d,c]
  have i:((b.lo:Int)==(b.hi:Int))=true:=by rw[beq_iff_eq];omega
  rw[hr];have g:=Ja (Jb d c);clear hr h d c;go_enter Tryz.func84,Tryz.ntmps84;go_wp2_with go_in;refine bodyPost_ret (v:=.agg #[U ((a.lo:Int)/2^(b.lo%16)),U ((a.hi:Int)/2^(b.lo%16))]) ?_ rfl ⟨by rw[<-g.out.1,<-g.out.2];simp,by repeat' (first|exact Below.refl _ _|assumption|(refine Below.alloc ?_ (by first|(simp;done)|(simp;omega)) _)|(refine Below.setCell ?_ (by first|(simp;done)|(simp;omega)) _))⟩;rw[zM rfl];go_simp
 ·have hr:pn a b=⟨0,a.hi⟩:=by unfold pn yf;rw[if_neg (by simpa using h)]
  have i:((b.lo:Int)==(b.hi:Int))=false:=Ze;rw[hr];clear hr h;go_enter Tryz.func84,Tryz.ntmps84;go_wp2_with go_in;refine bodyPost_ret (v:=.agg #[U 0,U (a.hi:Int)]) ?_ rfl ⟨rfl,by repeat' (first|exact Below.refl _ _|assumption|(refine Below.alloc ?_ (by first|(simp;done)|(simp;omega)) _)|(refine Below.setCell ?_ (by first|(simp;done)|(simp;omega)) _))⟩;rw[zM rfl];go_simp
theorem aeW (w:World)(p q:Bool):A 87 #[.bool p,.bool q] w (re w (if p=true then⟨1,1⟩ else if q=true then⟨0,0⟩ else⟨0,1⟩)):=by
 cases p
 ·cases q
  ·show A 87 #[.bool false,.bool false] w (re w ⟨0,1⟩)
   go_enter Tryz.func87,Tryz.ntmps87;go_wp2;refine bodyPost_ret (v:=.agg #[U 0,U 1]) ?_ rfl ⟨rfl,by repeat' (first|exact Below.refl _ _|assumption|(refine Below.alloc ?_ (by first|(simp;done)|(simp;omega)) _)|(refine Below.setCell ?_ (by first|(simp;done)|(simp;omega)) _))⟩;rw[zM rfl];go_simp
  ·show A 87 #[.bool false,.bool true] w (re w ⟨0,0⟩)
   go_enter Tryz.func87,Tryz.ntmps87;go_wp2_with (go_at_call 122;go_must (refine(show A 122 #[U 0] _ (fun e w'=>e=.returned (.agg #[U 0,U 0])/\Below _ _ w') from af2 _ 0).mono ?_;rintro e w1 ⟨rfl,c⟩;have hk:L w1 w.heap.size #[U 0,U 0] 45:=zH c (zI Zs) Zs;have f0:=zA (i:=0) hk rfl;have f1:=zA (i:=1) hk rfl;have g0:=zE (i:=0) hk;have g1:=zE (i:=1) hk;have d:=lt_of_block hk;have g:=Below.trans (show O w _ from by repeat' (first|exact Below.refl _ _|(refine Below.alloc ?_ (by first|(simp;done)|(simp;omega)) _))) (c.mono (by first|(simp;done)|(simp;omega)));clear c hk))
   refine bodyPost_ret (v:=.agg #[U 0,U 0]) ?_ rfl ⟨rfl,by repeat' (first|exact Below.refl _ _|assumption|(refine Below.alloc ?_ (by first|(simp;done)|(simp;omega)) _)|(refine Below.setCell ?_ (by first|(simp;done)|(simp;omega)) _))⟩;rw[zM rfl];go_simp
 ·show A 87 #[.bool true,.bool q] w (re w ⟨1,1⟩)
  go_enter Tryz.func87,Tryz.ntmps87;go_wp2_with (go_at_call 122;go_must (refine(show A 122 #[U 1] _ (fun e w'=>e=.returned (.agg #[U 1,U 1])/\Below _ _ w') from af2 _ 1).mono ?_;rintro e w1 ⟨rfl,c⟩;have hk:L w1 w.heap.size #[U 0,U 0] 45:=zH c (zI Zs) Zs;have f0:=zA (i:=0) hk rfl;have f1:=zA (i:=1) hk rfl;have g0:=zE (i:=0) hk;have g1:=zE (i:=1) hk;have d:=lt_of_block hk;have g:=Below.trans (show O w _ from by repeat' (first|exact Below.refl _ _|(refine Below.alloc ?_ (by first|(simp;done)|(simp;omega)) _))) (c.mono (by first|(simp;done)|(simp;omega)));clear c hk))
  refine bodyPost_ret (v:=.agg #[U 1,U 1]) ?_ rfl ⟨rfl,by repeat' (first|exact Below.refl _ _|assumption|(refine Below.alloc ?_ (by first|(simp;done)|(simp;omega)) _)|(refine Below.setCell ?_ (by first|(simp;done)|(simp;omega)) _))⟩;rw[zM rfl];go_simp
theorem agD(w:World){y:Nat}(u:x<65536)(t:y<65536):A 80 #[U x,U y] w (fun e w'=>e=.returned (U ((q8 (max x y):Nat):Int))/\w=w'):=by
 obtain⟨z,o⟩:∃z,max x y=z:=⟨_,rfl⟩
 have h1:=ahR x y;rw[o] at h1 ⊢;have l:z<65536:=Zo;have c:=afo l;have i:=Ja (Jb (ahO z) (Jb c (el z)));clear o u t c;go_enter Tryz.func80,Tryz.ntmps80;go_wp2
 go_loop [5] (fun mv=>∃m k:Nat,mv=I m/\m+1=2^k/\m<=q8 z) (fun mv=>(65536-intOf mv).toNat)
 case atStart=>exact⟨0,0,rfl,rfl,Jt _⟩
 case round=>
  obtain⟨m,k,rfl,hk,hm⟩:=hrel;have d:=i.out.2.1;have HK:=Ja (Jb hk hm);have a2:m<65536:=Zo
  by_cases g:m<z
  ·have h:(m:Int)<(z:Int):=Zo
   have q:2*m+1<=q8 z:=by
    obtain⟨j,h3,h4,_⟩:=i.out.2.2;have h5:=i.out.1;have h6:k<j:=(Nat.pow_lt_pow_iff_right (a:=2) Zd).1 Zo;have h7:=Nat.pow_le_pow_right (show 0<2 by decide) (show k+1<=j by omega);rw[Nat.pow_succ] at h7;omega
   have HN:=Ja q;clear hk hm d q g;go_wp2
   go_round
   case rel=>exact⟨2*m+1,k+1,by go_num,by have:=HK.out.1;rw[Nat.pow_succ];omega,HN.out⟩
   case measure=>simp[intOf];omega
  ·have h:¬(m:Int)<(z:Int):=Zo
   have a1:q8 z=m:=by
    have:=agh z m k hk Zo;omega
   have a0:IntKind.u16.wrap (m:Int)=(m:Int):=by rw[xY];omega
   clear g hk hm d;go_wp2;go_ret;exact⟨rfl,rfl⟩
def ahv (a:Int):List IOp:=[⟨1,1,0,0,15,[]⟩,⟨9,2,0,1,0,[]⟩,⟨2,3,0,0,0,[]⟩,⟨5,4,2,3,0,[]⟩,⟨a,5,4,0,0,[]⟩]
def mainL:List IBlk:=[⟨[],[],⟨5,0,[]⟩⟩]
def ahp (a:Int):List IBlk:=[⟨[0],ahv a,⟨4,5,[]⟩⟩]
def afW (a:Int):IProg:=⟨[mainL,ahp a],[0,1],0,-1,[⟨-1,16384,16⟩],[]⟩
theorem yN.two{α:Type}{sz:Nat}{R:World->Nat->Nat->Nat->α->Prop}{B b:Nat}{x y:α}(hb:b<B)(h0:R w B b 0 x)(h1:R w B b sz y):yN sz R w B (Y b 2 2) [x,y]:=by
 refine⟨_,2,rfl,Je _,by omega,fun k z hk=>⟨b,0,rfl,hb,?_⟩⟩
 match k,hk with
 |0,hk=>cases hk;rw[Ng,Nat.zero_mul];exact h0
 |1,hk=>cases hk;rw[Ng,Nat.one_mul];exact h1
def ahY (o:IOp):IOp×Value:=(o,F)
theorem ops_nil{B b n:Nat}{l:List IOp}{e:TypeId}(h:L w b ((l.map ahY).flatMap zU).toArray e)(hb:b<B)(h64:∀o∈l,qN o/\o.args=[])(c:n=l.length)(hl:l.length<=1000000):
 mN w B (Y b n n) l:=by
 have:=ahQ (l:=l.map ahY) h hb (fun q hq=>by
  obtain⟨o,ho,rfl⟩:=Nu.1 hq;obtain⟨h1,h2⟩:=h64 o ho;refine⟨h1,?_⟩
  show zY w B (F) o.args
  rw[h2]
  exact yN.nil) (by rw[Nr];exact hl)
 rw[Nr,List.map_map,show((fun q:IOp×Value=>q.1) ∘ ahY)=id from rfl,List.map_id] at this;rw[c];exact this
theorem agf (w:World)(a:Int)(h:I64 a):A 30 #[I a] w (mL w (afW a)):=by
 have m:=Ja h;clear h;obtain⟨s,hs⟩:∃s,w.heap.size=s:=⟨_,rfl⟩
 go_enter Tryz.func30,Tryz.ntmps30;go_wp2;generalize c:World.alloc _ _=W;have hb:Below s w W:=by rw[<-c,<-hs];repeat' (first|exact Below.refl _ _|refine Below.alloc ?_ (by first|exact Je _|(simp;done)|(simp;omega)) _)
 have h0:L W s #[Y (s+1+1+1+1+1+1+1) 2 2,Y (s+1+1+1+1+1+1+1+1) 2 2,I 0,I (-1),Y (s+1+1+1+1+1+1+1+1+1) 1 1,F] 29:=by rw[<-c];repeat' (first|exact zI (by first|exact hs|rfl|(simp;done)|(simp;omega))|refine zB ?_)
 have h1:L W (s+1) (((ahv a).map ahY).flatMap zU).toArray 76:=by rw[<-c];repeat' (first|exact zI (by first|exact hs|rfl|(simp;done)|(simp;omega))|refine zB ?_)
 have h2:L W (s+1+1) #[F,F,I 5,I 0,F] 84:=by rw[<-c];repeat' (first|exact zI (by first|exact hs|rfl|(simp;done)|(simp;omega))|refine zB ?_)
 have l:L W (s+1+1+1+1) #[I 0] 3:=by rw[<-c];repeat' (first|exact zI (by first|exact hs|rfl|(simp;done)|(simp;omega))|refine zB ?_)
 have d:L W (s+1+1+1+1+1) #[Y (s+1+1+1+1) 1 1,Y (s+1) 5 5,I 4,I 5,F] 84:=by rw[<-c];repeat' (first|exact zI (by first|exact hs|rfl|(simp;done)|(simp;omega))|refine zB ?_)
 have k:L W (s+1+1+1+1+1+1+1) #[Y (s+1+1) 1 1,Y (s+1+1+1+1+1) 1 1] 39:=by rw[<-c];repeat' (first|exact zI (by first|exact hs|rfl|(simp;done)|(simp;omega))|refine zB ?_)
 have j:L W (s+1+1+1+1+1+1+1+1) #[I 0,I 1] 3:=by rw[<-c];repeat' (first|exact zI (by first|exact hs|rfl|(simp;done)|(simp;omega))|refine zB ?_)
 have g:L W (s+1+1+1+1+1+1+1+1+1) #[I (-1),U 16384,U 16] 89:=by rw[<-c];repeat' (first|exact zI (by first|exact hs|rfl|(simp;done)|(simp;omega))|refine zB ?_)
 clear c;have t:=lt_of_block g;refine bodyPost_ret (v:=.agg #[Y (s+1+1+1+1+1+1+1) 2 2,Y (s+1+1+1+1+1+1+1+1) 2 2,I 0,I (-1),Y (s+1+1+1+1+1+1+1+1+1) 1 1,F]) ?_ rfl ?_
 ·have x0:=zA (i:=0) h0 rfl;have x1:=zA (i:=1) h0 rfl;have x2:=zA (i:=2) h0 rfl;have x3:=zA (i:=3) h0 rfl;have x4:=zA (i:=4) h0 rfl;have x5:=zA (i:=5) h0 rfl;have q:=lt_of_block h0;rw[zM rfl];go_simp
 ·refine⟨⟨_,_,_,_⟩,rfl,⟨?_,?_,?_,yN.nil,pZ,i64_neg⟩,by rw[hs];exact hb⟩
  ·refine yN.two Zo ⟨_,zA k rfl,yN.one Zo ?_⟩ ⟨_,zA k rfl,yN.one Zo ?_⟩
   ·exact⟨zA h2 rfl,zA h2 rfl,⟨⟨by decide,by decide⟩,⟨by decide,by decide⟩⟩,_,_,_,zA h2 rfl,zA h2 rfl,zA h2 rfl,yN.nil,yN.nil,yN.nil⟩
   ·refine⟨zA d rfl,zA d rfl,⟨(show I64 (4) from⟨by decide,by decide⟩),(show I64 (5) from⟨by decide,by decide⟩)⟩,_,_,_,zA d rfl,zA d rfl,zA d rfl,yN.one Zo ⟨zA l rfl,⟨by decide,by decide⟩⟩,ops_nil h1 Zo (fun o ho=>?_) rfl (by show(5:Nat)<=_;omega),yN.nil⟩;simp only[ahv,Jq,List.not_mem_nil,or_false] at ho;rcases ho with rfl|rfl|rfl|rfl|rfl
    ·exact⟨⟨⟨by decide,by decide⟩,⟨by decide,by decide⟩,⟨by decide,by decide⟩,⟨by decide,by decide⟩,by decide⟩,rfl⟩
    ·exact⟨⟨⟨by decide,by decide⟩,⟨by decide,by decide⟩,⟨by decide,by decide⟩,⟨by decide,by decide⟩,by decide⟩,rfl⟩
    ·exact⟨⟨⟨by decide,by decide⟩,⟨by decide,by decide⟩,⟨by decide,by decide⟩,⟨by decide,by decide⟩,by decide⟩,rfl⟩
    ·exact⟨⟨⟨by decide,by decide⟩,⟨by decide,by decide⟩,⟨by decide,by decide⟩,⟨by decide,by decide⟩,by decide⟩,rfl⟩
    ·exact⟨⟨m.out,(show I64 (5) from⟨by decide,by decide⟩),(show I64 (4) from⟨by decide,by decide⟩),(show I64 (0) from⟨by decide,by decide⟩),(show(0:Nat)<65536 by decide)⟩,rfl⟩
  ·exact yN.two Zo ⟨zA j rfl,⟨by decide,by decide⟩⟩ ⟨zA j rfl,⟨by decide,by decide⟩⟩
  ·exact yN.one Zo ⟨zA g rfl,zA g rfl,zA g rfl,⟨by decide,by decide⟩,by decide,by decide⟩
end Go.Proofs.YtoahcpkibpomcaaGreat
