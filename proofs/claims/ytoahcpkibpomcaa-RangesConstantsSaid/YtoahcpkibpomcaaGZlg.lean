/- Part of a proof. -/
import Derived.Test.YtoahcpkibpomcaaGZm0
set_option linter.all false
set_option maxHeartbeats 8000000
set_option maxRecDepth 100000
namespace Go.Proofs.Ytoahcpkibpomcaa
open Go.RowKit
variable {W W1 w w9 wx:World}{l:List (Nat×Nat)}{a2 f2 k x:Nat}{c:Int}{ov:Value}{a1 f1:Option Addr}
theorem Try.info_irop:(Try.prog.info? 27).map (fun i=>(i.zero,i.size,i.bytes))=some (some (.agg #[I 0,I 0,I 0,I 0,M 0,.slice none 0 0]),6,64):=by kernel_rfl
theorem ops_own{S:Nat}{v:Value}{l:List (IOp×Value)}(h:w.ownsRow S 27 6 v l.length (l.flatMap zU))(m:∀q∈l,qN q.1/\zY w w.heap.size q.2 q.1.args):mN w w.heap.size v (l.map (·.1)):=by
 obtain⟨a,c,rfl⟩:=zG h;have hl:=zm h;refine⟨a,c,by rw[Nr],by rw[Nr];exact hl.1,by omega,fun k o hk=>?_⟩;rw[Jr,Oz] at hk;obtain⟨q,f,rfl⟩:=hk;have x:=(Jh.1 f).1;obtain⟨g,y,e,hg,hb⟩:=h.form Zo;cases e
 have d:∀j v,(zU q)[j]? =some v->O w g (0+k*6+j) v:=fun j v hj=>by
  have i:j<6:=(Jh.1 hj).1;rw[Ng];exact(h.cellAt (k*6+j) Zo).trans ((uB zU 6 (fun _=>rfl) l k q f j i).trans hj)
 obtain⟨u,t⟩:=m q (Ji f);exact⟨g,0,rfl,hb,d 0 _ rfl,d 1 _ rfl,d 2 _ rfl,d 3 _ rfl,d 4 _ rfl,u,q.2,d 5 _ rfl,t⟩
theorem dR (a:Nat)(c:a<65536)(w:World):A 14 #[M a] w fun e w'=>e=.returned (I (s16 a))/\w=w':=by
 by_cases h:a<32768
 ·have t1:decide ((32768:Int)<=(a:Int))=false:=decide_eq_false Zo;have t2:decide (32768<=a)=false:=decide_eq_false Zo;have e:s16 a=(a:Int):=by unfold s16;rw[if_pos h]
  rw[e];clear h e;go_enter Try.func14,Try.ntmps14;go_wp2;go_ret;refine⟨zh ?_,rfl⟩;omega
 ·have t1:decide ((32768:Int)<=(a:Int))=true:=decide_eq_true Zo;have t2:decide (32768<=a)=true:=decide_eq_true Zo;have e:s16 a=(a:Int)-65536:=by unfold s16;rw[if_neg h]
  rw[e];clear h e;go_enter Try.func14,Try.ntmps14;go_wp2;go_ret;refine⟨zh ?_,rfl⟩;omega
theorem bG (b:Bool)(w:World):A 15 #[.bool b] w fun e w'=>e=.returned (M (iw b:Nat))/\w=w':=by
 cases b<;>go_enter Try.func15,Try.ntmps15<;>go_wp2<;>go_ret<;>exact⟨rfl,rfl⟩
theorem and15 (b:Nat)(hb:b<65536):bits .and .u16 (b:Int) 15=((b%16:Nat):Int):=by
 have h:=(bits_nat .u16 16 Zd wraps_u16 b 15 hb Zd).1;rw[show((15:Nat):Int)=15 from rfl] at h;rw[h]
 congr 1
 have:=Nat.and_two_pow_sub_one_eq_mod b 4
 simpa using this
theorem rarith_5 (a b:Nat)(c:a<65536)(hb:b<65536)(w:World):A 7 #[I 5,M a,M b] w fun e w'=>e=.returned (M (yW 5 a b:Nat))/\w=w':=by
 go_enter Try.func7,Try.ntmps7;go_wp2
 all_goals go_ret
 all_goals refine⟨zh ?_,rfl⟩
 all_goals exact ar5 a b
theorem rarith_6 (a b:Nat)(c:a<65536)(hb:b<65536)(w:World):A 7 #[I 6,M a,M b] w fun e w'=>e=.returned (M (yW 6 a b:Nat))/\w=w':=by
 go_enter Try.func7,Try.ntmps7;go_wp2
 all_goals go_ret
 all_goals refine⟨zh ?_,rfl⟩
 all_goals exact ar6 a b hb
theorem rarith_7 (a b:Nat)(c:a<65536)(hb:b<65536)(w:World):A 7 #[I 7,M a,M b] w fun e w'=>e=.returned (M (yW 7 a b:Nat))/\w=w':=by
 go_enter Try.func7,Try.ntmps7;go_wp2
 all_goals go_ret
 all_goals refine⟨zh ?_,rfl⟩
 all_goals exact ar7 a b
theorem rarith_8 (a b:Nat)(c:a<65536)(hb:b<65536)(d:b≠0)(w:World):A 7 #[I 8,M a,M b] w fun e w'=>e=.returned (M (yW 8 a b:Nat))/\w=w':=by
 have g:((b:Int)==0)=false:=Ze;have f:¬(b:Int)=0:=Zo;clear d;go_enter Try.func7,Try.ntmps7;go_wp2
 all_goals go_ret
 all_goals refine⟨zh ?_,rfl⟩
 all_goals exact ar8 a b c
theorem rarith_9 (a b:Nat)(c:a<65536)(hb:b<65536)(w:World):A 7 #[I 9,M a,M b] w fun e w'=>e=.returned (M (yW 9 a b:Nat))/\w=w':=by
 go_enter Try.func7,Try.ntmps7;go_wp2
 all_goals go_ret
 all_goals refine⟨zh ?_,rfl⟩
 all_goals exact ar9 a b c hb
theorem au (a b:Nat)(c:a<65536)(hb:b<65536)(w:World):A 7 #[I 10,M a,M b] w fun e w'=>e=.returned (M (yW 10 a b:Nat))/\w=w':=by
 go_enter Try.func7,Try.ntmps7;go_wp2
 all_goals go_ret
 all_goals refine⟨zh ?_,rfl⟩
 all_goals exact ar10 a b c hb
theorem aaq (a b:Nat)(c:a<65536)(hb:b<65536)(w:World):A 7 #[I 11,M a,M b] w fun e w'=>e=.returned (M (yW 11 a b:Nat))/\w=w':=by
 go_enter Try.func7,Try.ntmps7;go_wp2
 all_goals go_ret
 all_goals refine⟨zh ?_,rfl⟩
 all_goals exact ar11 a b c hb
theorem ae (a b:Nat)(d:a<65536)(hb:b<65536)(w:World):A 7 #[I 12,M a,M b] w fun e w'=>e=.returned (M (yW 12 a b:Nat))/\w=w':=by
 have c:=and15 b hb;go_enter Try.func7,Try.ntmps7;go_wp2
 all_goals go_ret
 all_goals refine⟨zh ?_,rfl⟩
 all_goals exact ar12 a b
theorem aae (a b:Nat)(d:a<65536)(hb:b<65536)(w:World):A 7 #[I 13,M a,M b] w fun e w'=>e=.returned (M (yW 13 a b:Nat))/\w=w':=by
 have c:=and15 b hb;go_enter Try.func7,Try.ntmps7;go_wp2
 all_goals go_ret
 all_goals refine⟨zh ?_,rfl⟩
 all_goals exact ar13 a b
theorem aan (a b:Nat)(c:a<65536)(hb:b<65536)(w:World):A 7 #[I 15,M a,M b] w fun e w'=>e=.returned (M (yW 15 a b:Nat))/\w=w':=by
 go_enter Try.func7,Try.ntmps7;go_wp2_with (go_at_call 15;go_must (refine(bG _ _).mono ?_;rintro e w' ⟨rfl,rfl⟩))
 all_goals go_ret
 all_goals refine⟨zh ?_,rfl⟩
 all_goals exact congrArg _ (ar15 a b)
theorem aV (a b:Nat)(c:a<65536)(hb:b<65536)(w:World):A 7 #[I 16,M a,M b] w fun e w'=>e=.returned (M (yW 16 a b:Nat))/\w=w':=by
 go_enter Try.func7,Try.ntmps7;go_wp2_with (go_at_call 15;go_must (refine(bG _ _).mono ?_;rintro e w' ⟨rfl,rfl⟩))
 all_goals go_ret
 all_goals refine⟨zh ?_,rfl⟩
 all_goals exact rfl
theorem aT (a b:Nat)(c:a<65536)(hb:b<65536)(w:World):A 7 #[I 17,M a,M b] w fun e w'=>e=.returned (M (yW 17 a b:Nat))/\w=w':=by
 have m1:True:=trivial;go_enter Try.func7,Try.ntmps7;go_wp2_with (first|(go_at_call 15;go_must (refine(bG _ _).mono ?_;rintro e w' ⟨rfl,rfl⟩))|(go_at_call 14;have d:=m1;clear m1;go_must (refine(dR a c _).mono ?_;rintro e w' ⟨rfl,rfl⟩))|(go_at_call 14;go_must (refine(dR b hb _).mono ?_;rintro e w' ⟨rfl,rfl⟩)))
 all_goals go_ret
 all_goals refine⟨zh ?_,rfl⟩
 all_goals exact rfl
theorem adC (x:Int)(h:x<0):(x-1).tdiv 2=x/2:=by
 rw[Int.tdiv_eq_ediv]
 split
 ·omega
 ·have:Int.sign 2=1:=rfl;omega
theorem ai (x:Int)(h:0<=x):x.tdiv 2=x/2:=Int.tdiv_eq_ediv_of_nonneg h
theorem aS (x:Int)(k:Nat):x/2^(k+1)=(x/2^k)/2:=by
 rw[Int.pow_succ,Int.ediv_ediv_of_nonneg (Int.pow_nonneg Zd)]
theorem dU {x:Int}(h:-32768<=x/\x<32768):∀k:Nat,-32768<=x/2^k/\x/2^k<32768
 |0=>by simpa using h
 |k+1=>by have:=dU h k;rw[aS];omega
theorem aX (a b:Nat)(l:a<65536)(hb:b<65536)(w:World):A 7 #[I 14,M a,M b] w fun e w'=>e=.returned (M (yW 14 a b:Nat))/\w=w':=by
 have m:=and15 b hb;have hr:=aac a l;have t:=Ja hr;have hm:b%16<16:=Qj _ Zd;obtain⟨n,c⟩:∃n,b%16=n:=⟨_,rfl⟩
 rw[c] at m hm;have g:=Ja c;clear hr c;generalize q:w=W0;clear q;go_enter Try.func7,Try.ntmps7;go_wp2_with (first|(go_at_call 14;go_must (refine(dR a l _).mono ?_;rintro e w' ⟨rfl,rfl⟩)))
 have o:s16 a=s16 a/2^0:=by simp
 have u:=Ja o;clear o
 go_loopw [7,8] (fun xv kv wx=>∃(k:Nat) (x:Int),k<=n/\xv=I x/\kv=I k/\W0=wx/\Hid (x=s16 a/2^k)) (fun _ kv _=>n-(intOf kv).toNat)
 case atStart=>exact⟨0,s16 a,Jt _,rfl,rfl,rfl,u⟩
 case round=>
  obtain⟨k,x,hk,rfl,rfl,rfl,h⟩:=hrel;have j:-32768<=x/\x<32768:=by rw[h.out];exact dU t.out k
  obtain⟨a0,y⟩:=j
  by_cases d:k<n
  ·have i:(k:Int)<n:=Zo;have f:=Ja d
   by_cases c:x<0
   ·have t1:decide (x<0)=true:=decide_eq_true c;have g:=Ja c;clear d c;go_wp2;go_roundw
    case rel=>
     refine⟨k+1,x/2,f.out,?_,by go_num,by trivial,Ja (by rw[aS,<-h.out])⟩;have e:=adC x g.out
     first|(rw[e];congr 1;omega)|(rw[show x-1=x-1 from rfl,e])|(congr 1<;>simp[e])
    case measure=>have:=f.out;simp[intOf];omega
   ·have t1:decide (x<0)=false:=decide_eq_false c;have g:=Ja (show 0<=x by omega);clear d c;go_wp2;go_roundw
    case rel=>
     refine⟨k+1,x/2,f.out,?_,by go_num,by trivial,Ja (by rw[aS,<-h.out])⟩;have e:=ai x g.out
     first|(rw[e];congr 1;omega)|(congr 1<;>simp[e])
    case measure=>have:=f.out;simp[intOf];omega
  ·obtain rfl:k=n:=by omega
   have i:¬(k:Int)<k:=Zo;clear d;go_wp2;go_ret;refine⟨zh ?_,rfl⟩;rw[h.out,xY]
   show _=((((s16 a/2^(b%16))%65536).toNat:Nat):Int)
   rw[g.out];omega
theorem agR (c:Int)(g:5<=c/\c<=17)(a b:Nat)(d:a<65536)(hb:b<65536)(f:c=8->b≠0)(w:World):A 7 #[I c,M a,M b] w fun e w'=>e=.returned (M (yW c a b:Nat))/\w=w':=by
 have h:c=5∨c=6∨c=7∨c=8∨c=9∨c=10∨c=11∨c=12∨c=13∨c=14∨c=15∨c=16∨c=17:=Zo;rcases h with rfl|rfl|rfl|rfl|rfl|rfl|rfl|rfl|rfl|rfl|rfl|rfl|rfl
 ·exact rarith_5 a b d hb w
 ·exact rarith_6 a b d hb w
 ·exact rarith_7 a b d hb w
 ·exact rarith_8 a b d hb (f rfl) w
 ·exact rarith_9 a b d hb w
 ·exact au a b d hb w
 ·exact aaq a b d hb w
 ·exact ae a b d hb w
 ·exact aae a b d hb w
 ·exact aX a b d hb w
 ·exact aan a b d hb w
 ·exact aV a b d hb w
 ·exact aT a b d hb w
end Go.Proofs.Ytoahcpkibpomcaa
set_option maxRecDepth 100000
namespace Go.Proofs.Ytoahcpkibpomcaa
open Go.ChangeShapes Go.WideShapes Go.ChangeAt Go.RowKit
variable {W W1 w w9 wx:World}{l:List (Nat×Nat)}{a2 f2 k x:Nat}{c:Int}{ov:Value}{a1 f1:Option Addr}
theorem jd{a:Addr}{v:Value}(h:w.cell? a=some v):a.spot=none:=by
 unfold World.cell? at h
 split at h
 ·split at h
  ·simp at h
  ·rename_i c;simpa using c
 ·simp at h
theorem ag3 (b o k:Nat):(⟨b,o,none⟩:Addr).add k=⟨b,o+k,none⟩:=by
 unfold Addr.add;split
 ·rename_i h;subst h;rfl
 ·rfl
open Go.RowKit
def af5 (q:Nat×Nat):Int:=if 5+((q.1%13:Nat):Int)=8/\q.2=0 then 5 else 5+((q.1%13:Nat):Int)
def cstC (k:Nat)(x:Nat):IOp:=⟨1,2*(k:Int)+1,0,0,x,[]⟩
def arC (k:Nat)(c:Int):IOp:=⟨c,2*(k:Int)+2,2*(k:Int),2*(k:Int)+1,0,[]⟩
def agV:List (Nat×Nat)->Nat->List IOp
 | [],_=> []
 |q::l,k=>cstC k q.2::arC k (af5 q)::agV l (k+1)
def af7 (y:Nat)(q:Nat×Nat):Nat:=yW (af5 q) y q.2
def agr:List (Nat×Nat)->Nat->List Nat
 | [],_=> []
 |q::l,y=>q.2::af7 y q::agr l (af7 y q)
def agq (x:Nat)(l:List (Nat×Nat)):List IOp:=⟨1,0,0,0,x,[]⟩::agV l 0
def agC (x:Nat)(l:List (Nat×Nat)):List Nat:=x::agr l x
def adU (x:Nat)(l:List (Nat×Nat)):IBlk:=⟨[],agq x l,⟨4,-1,[]⟩⟩
def ags (x:Nat)(l:List (Nat×Nat)):IProg:=⟨[[adU x l]],[0],0,-1,[],[]⟩
theorem af6 (q:Nat×Nat):5<=af5 q/\af5 q<=17/\¬(af5 q=8/\q.2=0):=by
 unfold af5;have:q.1%13<13:=Qj _ Zd
 split<;>omega
theorem agF (q:Nat×Nat):∀(l:List (Nat×Nat)) (k:Nat),agV (l++ [q]) k=agV l k++ [cstC (k+l.length) q.2,arC (k+l.length) (af5 q)]
 | [],k=>rfl
 |x::l,k=>by
  rw[List.cons_append];unfold agV;rw[agF q l (k+1),Nq,show k+1+l.length=k+(l.length+1) by omega];rfl
theorem agv (q:Nat×Nat):∀(l:List (Nat×Nat)) (y:Nat),agr (l++ [q]) y=agr l y++ [q.2,af7 (l.foldl af7 y) q]
 | [],y=>rfl
 |x::l,y=>by
  rw[List.cons_append];unfold agr;rw[agv q l];rfl
theorem agN:∀(l:List (Nat×Nat)) (k:Nat),(agV l k).length=2*l.length
 | [],k=>rfl
 |x::l,k=>by
  unfold agV;rw[Nq,Nq,agN l,Nq];omega
theorem ago:∀(l:List (Nat×Nat)) (y:Nat),(agr l y).length=2*l.length
 | [],k=>rfl
 |x::l,k=>by
  unfold agr;rw[Nq,Nq,ago l,Nq];omega
theorem agG:∀(l:List (Nat×Nat)) (y:Nat),(agC y l)[2*l.length]? =some (l.foldl af7 y)
 | [],y=>rfl
 |x::l,y=>by
  unfold agC agr;rw[show 2*(x::l).length=2*l.length+1+1 by rw[Nq];omega,List.getElem?_cons_succ,List.getElem?_cons_succ];exact agG l (af7 y x)
def agS (p:IProg)(j:Nat)(o:IOp):Prop:=o.res=(j:Int)/\opF p o=true/\∀v∈rR o,0<=v/\v<(j:Int)
theorem agk(d:5<=c/\c<=17):zi c=⟨true,true,true,true,false⟩:=by
 rcases rJ c with⟨h,e⟩|⟨h,e⟩|⟨h,e⟩|⟨h,e⟩|⟨h,e⟩|⟨h,e⟩|⟨h,e⟩|⟨h,e⟩
 all_goals first|omega|exact e
theorem ag0 (p:IProg)(j:Nat)(r:Int)(hr:r=(j:Int))(x:Nat):agS p j ⟨1,r,0,0,x,[]⟩:=by
 refine⟨hr,?_,fun v hv=>by cases hv⟩;unfold opF;rw[if_neg (by show ¬(1:Int)=26;decide),if_neg (by show ¬(1:Int)=2;decide)];have d:0<=r:=Zo;have c:-1<=r:=Zo;simp[zi,d,c]
theorem str_ar(p:IProg)(k:Nat)(d:5<=c/\c<=17):agS p (2*k+2) (arC k c):=by
 refine⟨by show 2*(k:Int)+2=((2*k+2:Nat):Int);omega,?_,fun v hv=>?_⟩
 ·unfold opF
  show((zi c).is && (if c=26 then _ else if c=2 then _ else _))=true
  rw[agk d,if_neg Zo,if_neg Zo];have i:(0:Int)<=2*(k:Int)+2:=Zo;have h:(-1:Int)<=2*(k:Int)+2:=Zo;have g:¬c=24:=Zo;have f:¬c=25:=Zo;simp[arC,agk d,i,h,g,f]
 ·have:rR (arC k c)=[2*(k:Int),2*(k:Int)+1]:=by
   unfold rR
   show(if(zi c).a then _ else _)++(if(zi c).b then _ else _)++_=_
   rw[agk d];rfl
  rw[this] at hv;simp only[Jq,List.not_mem_nil,or_false] at hv;rcases hv with rfl|rfl<;>omega
theorem agJ (p:IProg):∀(l:List (Nat×Nat)) (k j:Nat) (o:IOp),(agV l k)[j]? =some o->agS p (2*k+1+j) o
 | [],k,j,o,h=>by cases h
 |q::l,k,0,o,h=>by
  cases h
  exact ag0 p _ _ Zo _
 |q::l,k,1,o,h=>by
  cases h
  exact str_ar p k ⟨(af6 q).1,(af6 q).2.1⟩
 |q::l,k,j+2,o,h=>by
  have:=agJ p l (k+1) j o h;rw[show 2*(k+1)+1+j=2*k+1+(j+2) by omega] at this;exact this
theorem agz (p:IProg)(x:Nat)(l:List (Nat×Nat)):∀(j:Nat) (o:IOp),(agq x l)[j]? =some o->agS p j o
 |0,o,h=>by
  cases h
  exact ag0 p 0 0 rfl x
 |j+1,o,h=>by
  have:=agJ p l 0 j o h;rw[show 2*0+1+j=j+1 by omega] at this;exact this
def ag9 (d:wO)(n:Nat):Prop:=∀v:Int,d.1 v=(if 0<=v/\v<(n:Int) then some 0 else none)/\d.2 v=(if 0<=v/\v<(n:Int) then some v else none)
theorem ag1 {p:IProg}:∀(os:List IOp) (k:Nat) (d:wO),ag9 d k->(∀j o,os[j]? =some o->agS p (k+j) o)->k+os.length<=65536->∃d',sS p 0 os (k:Int) d=some d'/\ag9 d' (k+os.length)
 | [],k,d,hd,_,_=>⟨d,rfl,hd⟩
 |o::os,k,d,hd,ho,hl=>by
  rw[Nq] at hl;obtain⟨h1,h2,_⟩:=ho 0 o rfl;rw[Uk] at h1;unfold sS;rw[if_pos h2,if_pos Zo];unfold rB;have g:=(hd o.res).1;rw[if_neg Zo] at g;rw[if_neg (by rw[g];rintro(h|h|h)<;>first|cases h|omega),Nw]
  have f:ag9 (lS d.1 o.res 0,lS d.2 o.res (k:Int)) (k+1):=fun v=>by
   obtain⟨e1,e2⟩:=hd v
   show lS d.1 o.res 0 v=_/\lS d.2 o.res (k:Int) v=_
   unfold lS
   by_cases hv:v=o.res
   ·rw[if_pos hv,if_pos hv,if_pos Zo,if_pos Zo];exact⟨rfl,by rw[hv,h1]⟩
   ·rw[if_neg hv,if_neg hv,e1,e2]
    by_cases c:0<=v/\v<(k:Int)
    ·rw[if_pos c,if_pos c,if_pos Zo,if_pos Zo];exact⟨rfl,rfl⟩
    ·rw[if_neg c,if_neg c,if_neg Zo,if_neg Zo];exact⟨rfl,rfl⟩
  have:=ag1 os (k+1) _ f (fun j o' hj=>by
   have:=ho (j+1) o' hj;rw[show k+(j+1)=k+1+j by omega] at this
   exact this) Zo
  rw[show k+(o::os).length=k+1+os.length by rw[Nq];omega];exact this
theorem agK {d:wO}{n:Nat}(c:ag9 d n){p:IProg}:∀(os:List IOp) (k:Nat),(∀j o,os[j]? =some o->agS p (k+j) o)->k+os.length<=n->xF d [[]] 0 os (k:Int)=true
 | [],k,_,_=>rfl
 |o::os,k,ho,hl=>by
  rw[Nq] at hl;unfold xF;rw[Jm,Oe];refine⟨fun v hv=>?_,?_⟩
  ·obtain⟨_,_,h3⟩:=ho 0 o rfl;have f:=h3 v hv;unfold yy;rw[(c v).1,(c v).2,if_pos Zo,if_pos Zo]
   show(!(decide ((0:Int)=0) && decide ((k:Int)<=v)) && wE [[]] 0 0)=true
   rw[show decide ((k:Int)<=v)=false from decide_eq_false Zo]
   decide
  ·have:=agK c os (k+1) (fun j o' hj=>by
    have:=ho (j+1) o' hj;rw[show k+(j+1)=k+1+j by omega] at this
    exact this) Zo
   exact this
theorem con_head (x:Nat)(l:List (Nat×Nat)):sR (ags x l)=0:=by kernel_rfl
theorem agj (x:Nat)(l:List (Nat×Nat)):(agq x l).length=2*l.length+1:=by
 unfold agq;rw[Nq,agN]
theorem agp(x:Nat)(hl:l.length<=30):vC (ags x l)=0:=by
 unfold vC;rw[con_head,if_neg Zd,if_pos];have g:=agj x l;rw[Oe];intro i hi
 have:i=0:=by
  have:i<1:=Ol.1 hi;omega
 subst this;obtain⟨d,f,c⟩:=ag1 (p:=ags x l) (agq x l) 0 (fun _=>none,fun _=>none) (fun v=>by rw[if_neg Zo,if_neg Zo];exact⟨rfl,rfl⟩) (fun j o h=>by rw[Ng];exact agz _ x l j o h) Zo;rw[Ng] at c
 have m:wg (ags x l) [adU x l]=some d:=by
  unfold wg uH pS
  show(((sS (ags x l) 0 (agq x l) 0 (fun _=>none,fun _=>none)).bind fun d'=>if wn [adU x l] ⟨4,-1,[]⟩ then some d' else none).bind _)=_
  rw[show((0:Nat):Int)=0 from rfl] at f;rw[f,Nw,if_pos (by rfl),Nw];rfl
 show yi (ags x l) 0=true
 unfold yi
 show(decide ((0:Int)=0) && ((wg (ags x l) [adU x l]).map (iM [adU x l])).getD false)=true
 rw[m,Option.map_some,Ot];unfold iM;have k:=agK c (agq x l) 0 (fun j o h=>by rw[Ng];exact agz (ags x l) x l j o h) Zo;rw[Jm,Jm];refine⟨by decide,by kernel_rfl,?_⟩;unfold tO aaC;rw[Jm,Jm];exact⟨⟨k,rfl⟩,rfl⟩
theorem agL (p:IProg):∀(l:List (Nat×Nat)) (k y:Nat) (A:List Rg) (kn_:List Bool),A.length=2*k+1->A.getD (2*k) ⟨0,0⟩=qm y->y<65536->(∀q∈l,q.2<65536)->
 (agV l k).foldl (opQ p) ⟨A++List.replicate (2*l.length) zf,kn_⟩=⟨A++(agr l y).map qm,kn_⟩
 | [],k,y,A,kn_,_,_,_,_=>rfl
 |q::l,k,y,A,kn_,hA,hy,hy1,hq=>by
  obtain⟨h5,h17,h8⟩:=af6 q;have c:=hq q (.head _);have d:af7 y q<65536:=jz _ y q.2 hy1 c
  have e1:opQ p ⟨A++List.replicate (2*(q::l).length) zf,kn_⟩ (cstC k q.2)=⟨(A++ [qm q.2])++List.replicate (2*l.length+1) zf,kn_⟩:=by
   unfold opQ;rw[if_pos (by show 0<=2*(k:Int)+1;omega)]
   show(⟨(A++List.replicate (2*(q::l).length) zf).set (2*(k:Int)+1).toNat (qm q.2),kn_⟩:Slv)=_
   rw[show(2*(k:Int)+1).toNat=A.length by omega,Nq,show 2*(l.length+1)=(2*l.length+1)+1 by omega,Qz,Uj _ _ (Je _),Qy,Jf,Nv];rfl
  have e2:opQ p ⟨(A++ [qm q.2])++List.replicate (2*l.length+1) zf,kn_⟩ (arC k (af5 q))=⟨((A++ [qm q.2])++ [qm (af7 y q)])++List.replicate (2*l.length) zf,kn_⟩:=by
   have hv:afI p ⟨(A++ [qm q.2])++List.replicate (2*l.length+1) zf,kn_⟩ (arC k (af5 q))=some (qm (af7 y q)):=by
    unfold afI;rw[if_neg (by show ¬af5 q=1;omega),if_neg (by show ¬af5 q=2;omega),if_pos (by show(zi (af5 q)).b=true;rw[agk ⟨h5,h17⟩])]
    have g1:Slv.get ⟨(A++ [qm q.2])++List.replicate (2*l.length+1) zf,kn_⟩ (arC k (af5 q)).a=qm y:=by
     show((A++ [qm q.2])++List.replicate (2*l.length+1) zf).getD (2*(k:Int)).toNat ⟨0,0⟩=_
     rw[show(2*(k:Int)).toNat=2*k by omega,Nv,Jj,Np Zo,<-Jj,hy]
    have g2:Slv.get ⟨(A++ [qm q.2])++List.replicate (2*l.length+1) zf,kn_⟩ (arC k (af5 q)).b=qm q.2:=by
     show((A++ [qm q.2])++List.replicate (2*l.length+1) zf).getD (2*(k:Int)+1).toNat ⟨0,0⟩=_
     rw[show(2*(k:Int)+1).toNat=A.length by omega,Nv,Jj,Nc (Je _),Qy];rfl
    rw[g1,g2]
    show some (np (af5 q) (qm y) (qm q.2))=_
    unfold np;rw[if_pos ⟨h17,by simp[zx,qm],.inr (by simp[zx,qm])⟩,if_neg (by show ¬(af5 q=8/\q.2=0);exact h8)];unfold rr;rw[if_neg Zo,if_neg Zo];rfl
   unfold opQ;rw[hv,if_pos (by show 0<=2*(k:Int)+2;omega)]
   show(⟨((A++ [qm q.2])++List.replicate (2*l.length+1) zf).set (2*(k:Int)+2).toNat (qm (af7 y q)),kn_⟩:Slv)=_
   have f:(A++ [qm q.2]).length=2*k+2:=by rw[Jk,hA];rfl
   rw[show(2*(k:Int)+2).toNat=(A++ [qm q.2]).length by omega,Qz,Uj _ _ (Je _),Qy,Jf,Nv (A++ [qm q.2])];rfl
  unfold agV
  rw[Qk,Qk,e1,e2,agL p l (k+1) (af7 y q) ((A++ [qm q.2])++ [qm (af7 y q)]) kn_ Zt (by
   rw[Jj,Nc Zt,show 2*(k+1)-(A++ [qm q.2]).length=0 by simp;omega]
   rfl) d (fun z hz=>hq z (.tail _ hz))]
  show(⟨_,kn_⟩:Slv)=⟨A++(q.2::af7 y q::agr l (af7 y q)).map qm,kn_⟩
  rw[Ql,Ql,Nv,Nv];rfl
theorem agZ:∀(os:List IOp) (k:Nat),(∀j o,os[j]? =some o->o.res=((k+j:Nat):Int))->k+os.length<=65536->o8 (k:Int) os=((k+os.length:Nat):Int)
 | [],k,_,_=>rfl
 |o::os,k,ho,hl=>by
  rw[Nq] at hl ⊢;have h:=ho 0 o rfl;unfold o8
  rw[Qk,h,show max (k:Int) (cG ((k+0:Nat):Int))=((k+1:Nat):Int) by
   unfold cG;rw[wrap64_in Zo Zo]
   omega]
  have:=agZ os (k+1) (fun j o' hj=>by
   have:=ho (j+1) o' hj;rw[show k+(j+1)=k+1+j by omega] at this
   exact this) Zo
  unfold o8 at this;rw[this,show k+1+os.length=k+(os.length+1) by omega]
theorem ag7(x:Nat)(hl:l.length<=30):aaG [adU x l]=((2*l.length+1:Nat):Int):=by
 have c:=agj x l;have:=agZ (agq x l) 0 (fun j o h=>by rw[Ng];exact(agz (ags x l) x l j o h).1) Zo;rw[Ng,c] at this;exact this
theorem agm(x:Nat)(hl:l.length<=30):∀f∈(ags x l).funcs,vZ f:=by
 intro f hf;have c:=agj x l;simp only[ags,Jq,List.not_mem_nil,or_false] at hf;subst hf;refine⟨by show(1:Nat)<=_;omega,fun b hb=>?_⟩;simp only[Jo] at hb;subst hb;exact⟨by show(0:Nat)<=_;omega,by show(agq x l).length<=_;omega,by show(0:Nat)<=_;omega⟩
theorem agO(c:P64 (ags x l))(d:x<65536)(hl:l.length<=30)(f:∀q∈l,q.2<65536):xB (ags x l) [adU x l]=(agC x l).map qm:=by
 have h:=agU (n:=0) (b:=adU x l) (agp x hl) (agm x hl) c rfl rfl;refine Eq.trans h ?_;have ho:vD (zy [adU x l])=[0]:=by kernel_rfl
 unfold agx;rw[ho,ag7 x hl]
 have g:evL [adU x l] [0]=(agq x l).map .op:=by
  unfold evL evB
  show(((agq x l).map Evn.op++ [])++ [])=_
  rw[Ua,Ua]
 rw[g,List.foldl_map]
 show(((agq x l).foldl (opQ (ags x l)) (af9 (2*l.length+1)))).r=_
 unfold agq af9;rw[Qk]
 have e0:opQ (ags x l) ⟨List.replicate (2*l.length+1) zf,List.replicate (2*l.length+1) false⟩ ⟨1,0,0,0,x,[]⟩=⟨[qm x]++List.replicate (2*l.length) zf,List.replicate (2*l.length+1) false⟩:=by
  unfold opQ;rw[if_pos (by show(0:Int)<=0;omega),Qz];rfl
 rw[e0,agL (ags x l) l 0 x [qm x] _ rfl rfl d f];rfl
theorem agB:∀(l:List (Nat×Nat)) (k:Nat) (o:IOp),o∈agV l k->o.code=1∨(5<=o.code/\o.code<=17)
 | [],k,o,h=>by cases h
 |q::l,k,o,h=>by
  rcases Jq.1 h with rfl|h
  ·exact .inl rfl
  ·rcases Jq.1 h with rfl|h
   ·exact .inr ⟨(af6 q).1,(af6 q).2.1⟩
   ·exact agB l (k+1) o h
theorem con_objs (x:Nat)(l:List (Nat×Nat))(R:List Rg):aeA (ags x l).data R [adU x l]=[]:=by
 have:accL [adU x l]=[]:=by
  unfold accL;rw[List.filter_eq_nil_iff];intro o ho;have ho:o∈agq x l:=by simpa[adU] using ho
  have c:o.code=1∨(5<=o.code/\o.code<=17):=by
   rcases Jq.1 ho with rfl|ho
   ·exact .inl rfl
   ·exact agB l 0 o ho
  unfold ky;simp only[Jm,decide_eq_true_eq];omega
 unfold aeA;rw[this];rfl
def PrR (w:World)(B b q:Nat)(x:Nat×Nat):Prop:=O w b q (M (x.1:Int))/\O w b (q+1) (M (x.2:Int))/\x.1<65536/\x.2<65536
abbrev ag6:=yN 2 PrR
theorem agT:vV PrR:=⟨fun w w' B b q x hB hb h=>⟨zV hb hB h.1,zV hb hB h.2.1,h.2.2⟩,fun w B B' b q x _ h=>h⟩
theorem ag6.all{B:Nat}{v:Value}(h:ag6 w B v l):∀q∈l,q.1<65536/\q.2<65536:=by
 intro q c;obtain⟨k,hk⟩:=Ny c;obtain⟨_,_,_,_,_,f⟩:=h;obtain⟨_,_,_,_,_,_,d⟩:=f k q hk;exact d
theorem agW{g n size c:Nat}{e:TypeId}{cs:Array Value}(h:T w g cs e)(hb:c<=g)(d:n<=maxLen)(hs:cs.size=n*size):w.ownsRow c e size (L g n n) n cs.toList:=
 ⟨by simpa using hs,.inr ⟨g,n,cs,rfl,hb,h,Je _,d,hs,by rw[Oy (by simp[hs])]⟩⟩
structure ConAt (w:World) (x:Nat) (l:List (Nat×Nat)) (ov wv_:Value) (k:Nat) (wx:World):Prop where
 bel:Below w.heap.size w wx
 ops:wx.ownsRow w.heap.size 27 6 ov (2*k+1) (((agq x (l.take k)).map dx).flatMap zU)
 want:wx.ownsRow w.heap.size 22 1 wv_ (2*k+1) ((agC x (l.take k)).map vL)
theorem yM.many{b n m:Nat}{xs:List Value}{e:TypeId}(h:T w b xs.toArray e)(d:xs.length=m*n)(c:∀u∈xs,u.oneCell'=true):yM w n (L b m m) m xs:=
 ⟨_,_,rfl,d,c,.inr ⟨_,rfl,Oi (cs:=xs.toArray) h⟩⟩
theorem ConAt.grow1{c:Value}(h:ConAt w x l ov c k wx)(hb:Q wx W1)(hg:W1.grownBy w9 ov.ownBlock):
 Q w w9/\w9.ownsRow w.heap.size 22 1 c (2*k+1) ((agC x (l.take k)).map vL):=by
 have f:=p7 h.ops hb (Je _);have d:=p7 h.want hb (Je _);have hl:=h.bel.size;exact⟨(h.bel.trans (hb.mono hl)).grown hg (Jn hl hb.size) (wF f),d.kept hg (zo d f Zd)⟩
theorem ConAt.grow2{q:Nat×Nat}{g d f:Value}{w10:World}(i:l[k]? =some q)(h:Q w w9)(ho:w9.ownsRow w.heap.size 27 6 g (2*k+1+2) (((agq x (l.take k)).map dx).flatMap zU++ [I 1,I (2*(k:Int)+1),I 0,I 0,M (q.2:Int),.slice none 0 0,I (af5 q),I (2*(k:Int)+2),I (2*(k:Int)),I (2*(k:Int)+1),M 0,.slice none 0 0]))
 (u:w9.ownsRow w.heap.size 22 1 d (2*k+1) ((agC x (l.take k)).map vL)) (hb:Q w9 W1) (hg:W1.grownBy w10 d.ownBlock)
 (c:w10.ownsRow w.heap.size 22 1 f (2*k+1+2) ((agC x (l.take k)).map vL++ [M (q.2:Int),M ((af7 ((l.take k).foldl af7 x) q:Nat):Int)])):ConAt w x l g f (k+1) w10:=by
 have t:=p7 ho hb (Je _);have o:=p7 u hb (Je _);have hl:=h.size;have ht:l.take (k+1)=l.take k++ [q]:=by rw[Nh,i];rfl
 have j:(l.take k).length=k:=by
  have:=(Jh.1 i).1;rw[Oc];omega
 refine⟨(h.trans (hb.mono hl)).grown hg (Jn hl hb.size) (wF o),?_,?_⟩
 ·have m:=t.kept hg (zo t o Zd);rw[ht];unfold agq at m ⊢;rw[agF,j,Ng,<-List.cons_append,Js,Nx];exact m
 ·rw[ht];unfold agC at c ⊢;rw[agv,<-List.cons_append,Js];exact c
theorem ag5:∀(l:List (Nat×Nat)) (y:Nat),y<65536->(∀q∈l,q.2<65536)->l.foldl af7 y<65536
 | [],y,h,_=>h
 |q::l,y,h,hq=>ag5 l (af7 y q) (jz _ y q.2 h (hq q (.head _))) (fun z hz=>hq z (.tail _ hz))
theorem ConAt.last{c:Option Addr}{wc:Nat}(h:ConAt w x l ov (.slice c (2*k+1) wc) k wx)(hk:k<=l.length):∃gw_,c=some ⟨gw_,0,none⟩/\w.heap.size<=gw_/\gw_<wx.heap.size/\∀w9:World,w9.ownsRow w.heap.size 22 1 (.slice c (2*k+1) wc) (2*k+1) ((agC x (l.take k)).map vL)->O w9 gw_ (2*k) (M (((l.take k).foldl af7 x:Nat):Int)):=by
 obtain⟨g,i,e,hg,d⟩:=h.want.form Zo;cases e;refine⟨g,rfl,hg,d,fun w9 hw=>?_⟩;have f:(l.take k).length=k:=by rw[Oc];omega
 refine(hw.cellAt (2*k) Zo).trans ?_;have:=agG (l.take k) x;rw[f] at this;rw[Jr,this];rfl
theorem agX:∀(l:List (Nat×Nat)) (k:Nat),k+l.length<=1000->(∀q∈l,q.2<65536)->∀o∈agV l k,qN o/\o.args=[]
 | [],k,_,_,o,h=>by cases h
 |q::l,k,hk,hq,o,h=>by
  rw[Nq] at hk;rcases Jq.1 h with rfl|h
  ·exact⟨⟨(show I64 (1) from⟨by decide,by decide⟩),(show I64 (2*(k:Int)+1) from⟨by omega,by omega⟩),(show I64 (0) from⟨by decide,by decide⟩),(show I64 (0) from⟨by decide,by decide⟩),hq q (.head _)⟩,rfl⟩
  ·rcases Jq.1 h with rfl|h
   ·obtain⟨h5,h17,_⟩:=af6 q;exact⟨⟨(show I64 (af5 q) from⟨by omega,by omega⟩),(show I64 (2*(k:Int)+2) from⟨by omega,by omega⟩),(show I64 (2*(k:Int)) from⟨by omega,by omega⟩),(show I64 (2*(k:Int)+1) from⟨by omega,by omega⟩),(show(0:Nat)<65536 by decide)⟩,rfl⟩
   ·exact agX l (k+1) Zo (fun z hz=>hq z (.tail _ hz)) o h
theorem allC_64(c:x<65536)(hl:l.length<=30)(d:∀q∈l,q.2<65536):∀o∈agq x l,qN o/\o.args=[]:=fun o h=>by
 rcases Jq.1 h with rfl|h
 ·exact⟨⟨(show I64 (1) from⟨by decide,by decide⟩),(show I64 (0) from⟨by decide,by decide⟩),(show I64 (0) from⟨by decide,by decide⟩),(show I64 (0) from⟨by decide,by decide⟩),c⟩,rfl⟩
 ·exact agX l 0 Zo d o h
theorem con_prog{S s:Nat}(c:x<65536)(hl:l.length<=30)(d:∀q∈l,q.2<65536)(ho:W.ownsRow S 27 6 ov (2*l.length+1) (((agq x l).map dx).flatMap zU))
 (b0:T W s #[F,ov,I 4,I (-1),F] 36)
 (b1:T W (s+1) #[L s 1 1] 39)
 (b2:T W (s+1+1) #[I 0] 3):ProgIn W W.heap.size ⟨L (s+1) 1 1,L (s+1+1) 1 1,F,F⟩ (ags x l):=by
 have h:=lt_of_block b2
 have ho2:mN W W.heap.size ov (agq x l):=by
  have:=ops_own (l:=(agq x l).map dx) (S:=S) (v:=ov) (w:=W) (by rw[Nr,agj];exact ho) (fun q hqq=>by
   obtain⟨o,ho,rfl⟩:=Nu.1 hqq;obtain⟨g,f⟩:=allC_64 c hl d o ho;refine⟨g,?_⟩
   show zY W _ (F) o.args
   rw[f]
   exact yN.nil)
  rwa [List.map_map,show((fun q:IOp×Value=>q.1) ∘ dx)=id from rfl,List.map_id] at this
 refine⟨?_,?_,yN.nil,yN.nil,pZ,afi⟩
 ·exact yN.one Zo ⟨_,zA b1 rfl,yN.one Zo ⟨zA b0 rfl,zA b0 rfl,⟨(show I64 (4) from⟨by decide,by decide⟩),(show I64 (-1) from⟨by decide,by decide⟩)⟩,_,_,_,zA b0 rfl,zA b0 rfl,zA b0 rfl,yN.nil,ho2,yN.nil⟩⟩
 ·exact yN.one Zo ⟨zA b2 rfl,⟨by decide,by decide⟩⟩
theorem agP(d:x<65536)(hl:l.length<=30)(g:∀q∈l,q.2<65536)(hp:ProgIn w w.heap.size ⟨.slice f1 1 f2,.slice a1 1 a2,F,F⟩ (ags x l)):
 A 8 #[.agg #[.slice f1 1 f2,.slice a1 1 a2,I 0,I (-1),F,F],I 0] w (fun e w'=>∃b,e=.returned (L b (2*l.length+1) (2*l.length+1))/\T w' b (((agC x l).map qm).flatMap xe).toArray 48/\Q w w'):=by
 refine(df (f:=0) (bl:=[adU x l]) hp (Je _) (agm x hl) (agp x hl) rfl (fun h=>by cases h)).mono ?_;rintro e w' ⟨b,rfl,c,j,i⟩;rw[agO hp.p64 d hl g] at c ⊢;rw[Nr,show(agC x l).length=2*l.length+1 by unfold agC;rw[Nq,ago]];exact⟨b,rfl,c,i⟩
theorem agI(hl:l.length<=30)(hp:ProgIn w w.heap.size ⟨.slice f1 1 f2,.slice a1 1 a2,F,F⟩ (ags x l)):
 A 9 #[.agg #[.slice f1 1 f2,.slice a1 1 a2,I 0,I (-1),F,F],I 0] w (fun e w'=>∃a c,e=.returned (.slice a 0 c)/\Q w w'):=by
 refine(agl (f:=0) (bl:=[adU x l]) hp (Je _) (agm x hl) (agp x hl) rfl).mono ?_;rintro e w' ⟨v,rfl,d,g⟩;rw[con_objs] at d;obtain⟨a,c,rfl⟩:=zG d;exact⟨a,c,rfl,g⟩
theorem law_con (w:World)(x:Nat)(sv:Value)(l0:List (Nat×Nat))(h0:x<65536)(hs:ag6 w w.heap.size sv l0):
 A 3 #[M x,sv] w fun e w'=>e=.returned (.bool true)/\Q w w':=by
 obtain⟨sa,sc,rfl,g2,f9⟩:=hs.form;obtain⟨n,hn,b5,j9⟩:∃n:Nat,(if(30:Int)<(l0.length:Int) then 30 else(l0.length:Int))=(n:Int)/\n<=30/\n<=l0.length:=⟨min l0.length 30,by split<;>omega,by omega,by omega⟩
 obtain⟨l,hl,g4⟩:∃l,l=l0.take n/\l.length=n:=⟨_,rfl,by rw[Oc];omega⟩
 have HS:=Ja (Jb hs hl);clear hs hl;go_enter Try.func3,Try.ntmps3;go_upto_region 2 with(go_at_call 6;go_must (refine(agY _).mono ?_;rintro e w1 ⟨rfl,d3⟩))
 go_upto_region 3 with fail;clear hn;have c9:=d3.size;have HB:=Ja d3;clear d3;go_upto_region 5 with fail;generalize hW:World.alloc _ _=W
 have H0:Hid (ConAt w x l (L w1.heap.size 1 1) (L (w1.heap.size+1) 1 1) 0 W):=by
  have g0:T W w1.heap.size #[I 1,I 0,I 0,I 0,M x,F] 27:=by rw[<-hW];exact zB (zI rfl)
  have g1:T W (w1.heap.size+1) #[M x] 22:=by rw[<-hW];exact zI Zs
  refine Ja ⟨?_,agW g0 c9 Zd rfl,agW g1 Zo Zd rfl⟩;rw[<-hW];exact(HB.out.alloc c9 _).alloc Zt _
 clear hW HB c9;go_wp2
 go_loopw [6,7,8,9,26] (fun ov wv_ _ _ kv wx=>∃(k:Nat) (oa:Option Addr) (oc:Nat) (wa_:Option Addr) (wc:Nat),k<=n/\ov=.slice oa (2*k+1) oc/\wv_=.slice wa_ (2*k+1) wc/\kv=I k/\Hid (ConAt w x l (.slice oa (2*k+1) oc) (.slice wa_ (2*k+1) wc) k wx)) (fun _ _ _ _ kv _=>n-(intOf kv).toNat)
 case atStart=>exact⟨0,_,_,_,_,Jt _,rfl,rfl,rfl,H0⟩
 case round=>
  obtain⟨k,oa,oc,wa_,wcp,hk,rfl,rfl,rfl,c⟩:=hrel
  by_cases a0:k<n
  ·have b6:(k:Int)<(n:Int):=Zo;obtain⟨q,hq⟩:∃q,l0[k]? =some q:=⟨_,Jd Zo⟩
   have d7:l[k]? =some q:=by rw[HS.out.2,Ug,if_pos a0];exact hq
   have c8:ag6 wr w.heap.size (.slice sa l0.length sc) l0:=HS.out.1.below agT c.out.bel;obtain⟨bb,bo,rfl,e3,z0,z1,j2,g3⟩:=c8.get hq;have k3:=c.out.bel.size;have HQ:=Ja (Jb d7 c8);clear hq d7 c8;go_upto_region 9 with fail;obtain⟨d,hd⟩:∃d:Int,5+(q.1:Int)%13=d:=⟨_,rfl⟩
   rw[hd];have e2:(if d=8/\q.2=0 then 5 else d)=af5 q:=by unfold af5;rw[<-hd];simp only[Ou,Int.cast_ofNat_Int]
   clear hd;obtain⟨g,hg⟩:∃g:Bool,decide (d=8/\q.2=0)=g:=⟨_,rfl⟩
   have a2:(if g=true then 5 else d)=af5 q:=by rw[<-e2,<-hg];simp only[decide_eq_true_eq]
   clear e2
   go_cut [46] from 37 to 45 (fun v wx=>v=.bool g/\wx=wr)
   case first=>
    clear a2
    by_cases h8:d=8
    ·subst h8
     by_cases hz:q.2=0
     ·rw[decide_eq_true ⟨rfl,hz⟩] at hg;subst hg;have d5:((q.2:Int)==0)=true:=by rw[beq_iff_eq];omega
      go_wp2_with fail;go_meet;exact⟨rfl,rfl⟩
     ·rw[decide_eq_false (fun h=>hz h.2)] at hg;subst hg;have d5:((q.2:Int)==0)=false:=Ze;go_wp2_with fail;go_meet;exact⟨rfl,rfl⟩
    ·rw[decide_eq_false (fun h=>h8 h.1)] at hg;subst hg;have d5:(d==8)=false:=by rw[beq_eq_false_iff_ne];exact h8
     go_wp2_with fail;go_meet;exact⟨rfl,rfl⟩
   case rest=>
   obtain⟨rfl,a4⟩:=hcut;rw[a4];clear a4 hg
   go_upto_if 46 with fail
   go_cut [9,46] (fun s v wx=>s=I (af5 q)/\v=.bool g/\wx=wr)
   case first=>
    cases g
    ·rw[if_neg Zd] at a2;go_wp2_with fail;go_meet;exact⟨by rw[<-a2],rfl,rfl⟩
    ·rw[if_pos rfl] at a2;go_wp2_with fail;go_meet;exact⟨by rw[<-a2],rfl,rfl⟩
   case rest=>
   obtain⟨rfl,rfl,a4⟩:=hcut;rw[a4];clear a4 a2;obtain⟨ii,g8,f0,e8,e7⟩:=info_parts Try.info_irop;obtain⟨f4,g7,e6,e5,e4⟩:=info_parts Try.info_u16;obtain⟨gw_,rfl,h1,e1,b8⟩:=c.out.last Zo;have HL:=Ja b8;clear b8;go_upto_region 12 with(at_builtin;go_must (refine zK _ rfl (.tmp 47) (.tmp 67) 28 rfl w.heap.size 27 ii (.agg #[I 0,I 0,I 0,I 0,M 0,F]) 6 64 Try.underlying28 g8 f0 e8 e7 rfl Zd (.slice oa (2*k+1) oc) (2*k+1) (((agq x (l.take k)).map dx).flatMap zU) rfl (c.out.ops.alloc _) (L wr.heap.size 2 2) 2 [I 1,I (2*(k:Int)+1),I 0,I 0,M (q.2:Int),F,I (af5 q),I (2*(k:Int)+2),I (2*(k:Int)),I (2*(k:Int)+1),M 0,F] rfl (yM.many (zI rfl) rfl (by simp[Value.oneCell'])) (by unfold maxLen;omega) Zo Zt ?_;intro v9 w9 a3 a6 f2;obtain⟨oa9,oc9,rfl⟩:=zG a3))
   have hG:=c.out.grow1 ((Below.refl _ _).alloc (Je _) _) a6;have HV:=Ja (Jb hG.1 (Jb hG.2 hG.1.size));have h6:=Ja a3;have f3:=HL.out w9 hG.2;have d6:=(hG.1.cell (p:=⟨bb,bo+k*2+1,none⟩) e3).trans ((c.out.bel.cell (p:=⟨bb,bo+k*2+1,none⟩) e3).symm.trans z1)
   have i2:gw_<w9.heap.size:=by
    obtain⟨g',i1,e',k2,f1⟩:=hG.2.form Zo;cases e';exact f1
   have k4:=hG.1.size;have a9:=Ja (show ∀W,Q w9 W->O W bb (bo+k*2+1) (M (q.2:Int)) from fun W hb=>(hb.cell (p:=⟨bb,bo+k*2+1,none⟩) (by show bb<_;omega)).trans d6);have h5:=Ja (show ∀W w10,Q w9 W->W.grownBy w10 (some gw_)->O w10 bb (bo+k*2+1) (M (q.2:Int)) from fun W w10 hb hg=>(hg.cell_far ⟨bb,bo+k*2+1,none⟩ (by have:=hb.size;show bb<_;omega) (fun e=>by have e:bb=gw_:=Nt e;omega)).trans (a9.out W hb));obtain⟨y,b7⟩:∃y,(l.take k).foldl af7 x=y:=⟨_,rfl⟩
   have f5:y<65536:=by
    rw[<-b7];exact ag5 _ _ h0 (fun z hz=>(HS.out.1.all z (by rw[HS.out.2] at hz;exact List.mem_of_mem_take (List.mem_of_mem_take hz))).2)
   rw[b7] at f3;have h7:=Ja (fun W=>agR (af5 q) ⟨(af6 q).1,(af6 q).2.1⟩ y q.2 f5 g3 (fun h8 hb0=>(af6 q).2.2 ⟨h8,hb0⟩) W);have h4:=Ja b7;have i8:IntKind.i64.wrap (2*(k:Int))=2*(k:Int):=by first|exact Om _ Zo|(unfold IntKind.wrap;simp;omega)
   have j1:(2*(k:Int)).toNat=2*k:=Zo;have k1:(0:Int)<=2*(k:Int):=Zo;have k0:2*(k:Int)<2*(k:Int)+1:=Zo;clear z0 z1 a3 a6 f2 hG d6 b7;refine wp_region_noPanic ?_;refine yQ (S:=(fun w'=>O w' bb (bo+k*2+1) (M (q.2:Int)))) 20 Zk (a9.out _ (Below.refl _ _).drew) (fun hHeld=>?_);refine Tl 0 ?_
   try simp only[Yp]
   refine Tl 1 ?_
   try simp only[Yp]
   refine Tl 2 ?_
   try simp only[Yp]
   refine Tl 3 ?_
   try simp only[Yp]
   refine Tl 4 ?_
   try simp only[Yp]
   refine Tl 5 ?_
   try simp only[Yp]
   refine Tl 6 ?_
   try simp only[Yp]
   refine Tl 7 ?_
   try simp only[Yp]
   refine Tl 8 ?_
   try simp only[Yp]
   refine Tl 9 ?_
   try simp only[Yp]
   refine Tl 10 ?_
   try simp only[Yp]
   refine Tl 12 ?_
   try simp only[Yp]
   refine Tl 13 ?_
   try simp only[Yp]
   refine Tl 14 ?_
   try simp only[Yp]
   refine Tl 15 ?_
   try simp only[Yp]
   refine Tl 16 ?_
   try simp only[Yp]
   refine z8 (rs:=[11]) Zk Zs ?_;refine zS.cons (o:=_) rfl (fun K hK=>?_) ?_
   ·skip
    go_simp;refine hK.out _ _ (a9.out _ (Below.refl w9.heap.size w9).drew) (fun hHeld=>?_);clear hK K
    try simp only[Yp]
    refine z8 (rs:=[17]) Zk Zs ?_;refine zS.cons (o:=_) rfl (fun K hK=>?_) ?_
    ·skip
     (go_simp;refine(h7.out _).mono ?_;rintro e w5 ⟨rfl,rfl⟩)
     refine hK.out _ _ (a9.out _ (Below.refl w9.heap.size w9).drew) (fun hHeld=>?_);clear hK K
     try simp only[Yp]
     refine z8 (rs:=[18]) Zk Zs ?_;refine zS.cons (o:=_) rfl (fun K hK=>?_) ?_
     ·skip
      go_simp;refine hK.out _ _ (a9.out _ ((Below.refl w9.heap.size w9).drew.alloc (Je _) _)) (fun hHeld=>?_);clear hK K
      try simp only[Yp]
      refine z8 (rs:=[19]) Zk Zs ?_;refine zS.cons (o:=_) rfl (fun K hK=>?_) ?_
      ·skip
       (refine yG (by rfl) (.tmp 69) (.tmp 87) _ (by rfl) w.heap.size 22 f4 (M 0) 1 2 Try.underlying29 g7 e6 e5 e4 rfl Zd (L gw_ (2*k+1) wcp) (2*k+1) ((agC x (l.take k)).map vL) (by rfl) (HV.out.2.1.drew.alloc _) (L w9.drew.heap.size 2 2) 2 [M (q.2:Int),M ((af7 y q:Nat):Int)] (by rfl) (yM.many (zI rfl) rfl (by simp[Value.oneCell'])) (by unfold maxLen;omega) Zo (by have:=HV.out.2.2;simp;omega) ?_;intro va10 vc10 w10 a5 t d4;(try dsimp only))
       refine hK.out _ _ (h5.out _ _ (((Below.refl w9.heap.size w9).drew.alloc (Je _) _)) t) (fun hHeld=>?_);clear hK K
       try simp only[Yp]
       refine z8 (rs:=[20]) Zk Zs ?_;refine zS.last (o:=_) rfl (fun K hK=>?_);go_simp;refine hK.out _ _ ?_;clear hK K
       try simp only[Yp]
       refine xj Zk (NoPanic.normal ?_) _;have HF:=Ja (ConAt.grow2 HQ.out.1 HV.out.1 h6.out HV.out.2.1 ((Below.refl w9.heap.size w9).drew.alloc (Je _) (U #[M (q.2:Int),M ((af7 y q:Nat):Int)] 22)) t (by rw[h4.out];exact a5));clear a5 t d4 hHeld;go_wp2_with fail;refine⟨⟨k+1,oa9,oc9,va10,vc10,a0,rfl,rfl,by go_num,?_⟩,by simp[intOf];omega⟩;have h9:=HF.out;rw[show 2*k+1+2=2*(k+1)+1 by omega] at h9;exact Ja h9
      exact zS.nil
     exact zS.nil
    exact zS.nil
   exact zS.nil
  ·obtain rfl:k=n:=by omega
   have b6:¬(k:Int)<(k:Int):=Zo;clear a0;obtain⟨s,hs⟩:∃s,wr.heap.size=s:=⟨_,rfl⟩
   go_upto_region 15 with fail;generalize hW:World.alloc _ _=W;have hb:Below s wr W:=by rw[<-hW,<-hs];repeat' (first|exact Below.refl _ _|refine Below.alloc ?_ (by first|exact Je _|(simp;done)|(simp;omega)) _)
   have b0:T W s #[F,.slice oa (2*k+1) oc,I 4,I (-1),F] 36:=by rw[<-hW];repeat' (first|exact zI (by first|exact hs|rfl|(simp;done)|(simp;omega))|refine zB ?_)
   have b1:T W (s+1) #[L s 1 1] 39:=by rw[<-hW];repeat' (first|exact zI (by first|exact hs|rfl|(simp;done)|(simp;omega))|refine zB ?_)
   have b2:T W (s+1+1) #[I 0] 3:=by rw[<-hW];repeat' (first|exact zI (by first|exact hs|rfl|(simp;done)|(simp;omega))|refine zB ?_)
   have b3:T W (s+1+1+1) #[L (s+1) 1 1,L (s+1+1) 1 1,I 0,I (-1),F,F] 44:=by rw[<-hW];repeat' (first|exact zI (by first|exact hs|rfl|(simp;done)|(simp;omega))|refine zB ?_)
   clear hW;subst g4;have e0:l.take l.length=l:=Nl;have d2:∀q∈l,q.2<65536:=fun z hz=>(HS.out.1.all z (by rw[HS.out.2] at hz;exact List.mem_of_mem_take hz)).2
   have b4:=p7 c.out.ops hb Zo;have u:=p7 c.out.want hb Zo;rw[e0] at b4 u;have hP:=con_prog (S:=w.heap.size) h0 b5 d2 b4 b0 b1 b2;have d8:(agC x l).length=2*l.length+1:=by unfold agC;rw[Nq,ago]
   obtain⟨gw_,wcap,h3,h1,e1⟩:=u.form Zo;cases h3;have HW:=Ja (Jb hP (Jb d2 (Jb u (Jb (c.out.bel.trans (hb.mono (by have:=c.out.bel.size;omega))) (Jb b3 d8)))));have c0:=zA (i:=0) b3 rfl;have c1:=zA (i:=1) b3 rfl;have c2:=zA (i:=2) b3 rfl;have c3:=zA (i:=3) b3 rfl;have c4:=zA (i:=4) b3 rfl;have c5:=zA (i:=5) b3 rfl;have b9:=lt_of_block b3;clear e0 d2 b4 u hP hb b0 b1 b2 b3 c H0 d8 g2 f9;go_upto_region 16 with(go_at_call 8;go_must (refine(agP h0 b5 HW.out.2.1 HW.out.1).mono ?_;rintro e w2 ⟨rb,rfl,d1,a1⟩))
   have HR:=Ja (show w2.heap[rb]? =_/\Q w w2/\w2.ownsRow w.heap.size 22 1 _ _ _/\w2.heap[s+1+1+1]? =_/\ProgIn w2 w2.heap.size _ (ags x l)/\rb<w2.heap.size/\gw_<w2.heap.size from⟨d1,HW.out.2.2.2.1.trans (a1.mono HW.out.2.2.2.1.size),p7 HW.out.2.2.1 a1 (Je _),zH a1 HW.out.2.2.2.2.1 b9,(HW.out.1.below a1).mono a1.size,lt_of_block d1,Jy e1 a1.size⟩);clear d1 a1 c0 c1 c2 c3 c4 c5 b9;have h2:((((2*l.length+1:Nat):Int)) !=(((2*l.length+1:Nat):Int)))=false:=by simp
   go_upto_region 18 with fail;obtain⟨N,hN⟩:∃N,2*l.length+1=N:=⟨_,rfl⟩
   have HN:=Ja hN;rw[hN];have i0:N<=61:=Zo;clear h2 hN;go_wp2
   go_loopw [12,107] (fun _ kv wx=>∃i:Nat,i<=N/\kv=I i/\Hid (Q w2 wx)) (fun _ kv _=>N-(intOf kv).toNat)
   case atStart=>exact⟨0,Jt _,rfl,Ja (Below.refl _ _)⟩
   case round=>
    obtain⟨i,hi,rfl,c⟩:=hrel
    by_cases a0:i<N
    ·have b6:(i:Int)<(N:Int):=Zo;obtain⟨y,hy⟩:∃y,(agC x l)[i]? =some y:=⟨_,Jd (by rw[HW.out.2.2.2.2.2,HN.out];exact a0)⟩
     have c7:((agC x l).map qm)[i]? =some (qm y):=by rw[Jr,hy];rfl
     have d0:=zH c.out HR.out.1 HR.out.2.2.2.2.2.1;have z0:=oW (f:=xe) (n:=2) (fun _=>rfl) d0 c7 (j:=0) (v:=M y) rfl;have z1:=oW (f:=xe) (n:=2) (fun _=>rfl) d0 c7 (j:=1) (v:=M y) rfl;rw[Ng,Uk] at z0;rw[Ng] at z1;have z2:O wr gw_ i (M y):=(c.out.cell (p:=⟨gw_,i,none⟩) HR.out.2.2.2.2.2.2).trans ((HR.out.2.2.1.cellAt i (by have:=HN.out;omega)).trans (by rw[Jr,hy];rfl));have f6:=c.out.size;have g6:=HR.out.2.2.2.2.2.1;have g5:=HR.out.2.2.2.2.2.2;have HC:=Ja (show ∀W,Q wr W->O W rb (i*2) (M y)/\O W rb (i*2+1) (M y)/\O W gw_ i (M y) from fun W hb=>⟨(hb.cell (p:=⟨rb,i*2,none⟩) (by show rb<_;omega)).trans z0,(hb.cell (p:=⟨rb,i*2+1,none⟩) (by show rb<_;omega)).trans z1,(hb.cell (p:=⟨gw_,i,none⟩) (by show gw_<_;omega)).trans z2⟩);clear hy c7 d0 z0 z1 z2 f6 g6 g5;go_upto_region 21 with fail
     go_region_held3 (fun w'=>O w' rb (i*2) (M y)/\O w' rb (i*2+1) (M y)/\O w' gw_ i (M y)) ((refine HC.out _ ?_;repeat' (first|with_reducible exact Below.refl _ _|with_reducible assumption|with_reducible refine Below.drew ?_))) (fail)
     all_goals go_wp2_with fail
     all_goals go_roundw
     all_goals first
      |exact⟨i+1,a0,by go_num,Ja (by have h:=c.out;first|exact h|exact h.drew|exact h.drew.drew)⟩
      |(simp[intOf];omega)
    ·obtain rfl:i=N:=by omega
     have b6:¬(i:Int)<(i:Int):=Zo;clear a0;have m:=zH c.out HR.out.2.2.2.1 (lt_of_block HR.out.2.2.2.1);have c0:=zA (i:=0) m rfl;have c1:=zA (i:=1) m rfl;have c2:=zA (i:=2) m rfl;have c3:=zA (i:=3) m rfl;have c4:=zA (i:=4) m rfl;have c5:=zA (i:=5) m rfl;have b9:=lt_of_block m;have HE:=Ja (HR.out.2.1.trans (c.out.mono HR.out.2.1.size));clear m;go_wp2_with (go_at_call 9;go_must (refine(agI b5 ((HR.out.2.2.2.2.1.below c.out).mono c.out.size)).mono ?_;rintro e w3 ⟨ra,rc,rfl,m⟩))
     go_ret;exact⟨rfl,HE.out.trans (m.mono HE.out.size)⟩
end Go.Proofs.Ytoahcpkibpomcaa
set_option maxRecDepth 100000
namespace Go.Proofs.Ytoahcpkibpomcaa
open Go.ChangeShapes Go.WideShapes Go.ChangeAt Go.RowKit
variable {W W1 w w9 wx:World}{l:List (Nat×Nat)}{a2 f2 k x:Nat}{c:Int}{ov:Value}{a1 f1:Option Addr}
abbrev abP {H:Type}(d:DataW H):Nat:=Rows.uptoBulk d
theorem acU {H:Type}(d:DataW H):1<=abP d:=by
 cases d with
 |lit l=>cases l<;>simp[abP,Rows.uptoBulk]
 |nil=>simp[abP,Rows.uptoBulk]
 |ptr d=>simp[abP,Rows.uptoBulk]
 |slice elems spare=>simp[abP,Rows.uptoBulk]
 |agg parts=>simp[abP,Rows.uptoBulk]
 |iface t d=>simp[abP,Rows.uptoBulk]
 |map entries=>simp[abP,Rows.uptoBulk]
 |held h=>simp[abP,Rows.uptoBulk]
theorem aa3 {H:Type}{d:DataW H}{l:List (DataW H)}(h:d∈l):abP d<=Rows.uptoBulkAll l:=by
 induction l with
 |nil=>cases h
 |cons x r ih=>
  simp only[Rows.uptoBulkAll];rcases Jq.1 h with e|e
  ·subst e;show Rows.uptoBulk d<=_;omega
  ·have:=ih e;omega
theorem bulk_len {H:Type}(l:List (DataW H)):l.length<=Rows.uptoBulkAll l:=by
 induction l with
 |nil=>simp[Rows.uptoBulkAll]
 |cons x r ih=>have:=acU x;simp only[Rows.uptoBulkAll,Nq];have e:abP x=Rows.uptoBulk x:=rfl;omega
theorem ach {H:Type}(l s:List (DataW H)):abP (.slice l s)=Rows.uptoBulkAll l+Rows.uptoBulkAll s+1:=by simp only[abP,Rows.uptoBulk]
theorem abY {α:Type}{p:Nat->α->Prop}:∀n,(∀i,i<n->∃y,p i y)->∃l:List α,l.length=n/\∀i y,l[i]? =some y->p i y
 |0,_=>⟨[],rfl,fun i y h=>by simp at h⟩
 |n+1,h=>by
  obtain⟨l,h1,h2⟩:=abY n (fun i hi=>h i Zo);obtain⟨y,c⟩:=h n Zo;refine⟨l++ [y],by simp[h1],fun i z hz=>?_⟩
  by_cases hi:i<l.length
  ·rw[Np hi] at hz;exact h2 i z hz
  ·have hl:=(Jh.1 hz).1;simp at hl;obtain rfl:i=l.length:=by omega
   simp at hz;subst hz;rw[h1];exact c
theorem abU{α:Type}{P:Program}{H:Type}{enc:TypeId×Value->H}{fuel:Nat}{u:Value}{x:DataW H×List MemPlace}{t e:TypeId}{sz:Nat}(ht:P.underlying t=some (.slice e))(c1:P.cellsOf e=sz)(a6:0<sz)
 (R:World->Nat->Nat->Nat->α->Prop) (S:Nat->α->Prop) (hS:∀m n a,m<=n->S m a->S n a)
 (hR:∀b o cs n y,cs.length=sz->(∀j v,cs[j]? =some v->O W b (o+j) v)->DataW.trod enc P W 0 (fun _=>true) true n e cs=some y->∃a,R W W.heap.size b o a/\S (abP y.1) a)
 (hf:DataW.trod enc P W 0 (fun _=>true) true fuel t [u]=some x):∃row:List α,yN sz R W W.heap.size u row/\row.length+1<=abP x.1/\∀a∈row,S (abP x.1) a:=by
 rcases Go.Deep.open_slice ht hf with⟨h1,rfl⟩|⟨a,len,a5,m,n,D,Pl,h1,hb,hl,hm,a4,rfl,hx⟩
 ·simp at h1;subst h1;exact⟨[],yN.nil,acU _,fun a h=>by simp at h⟩
 ·simp at h1;subst h1;simp only[if_true] at a4
  have a3:0<len->a.spot=none:=fun h0=>by
   obtain⟨g,f,h3⟩:=hx 0 Zo;rw[c1] at f;obtain⟨_,w,c⟩:=World.cells?_some f;have k0:=c 0 Zo;rw[Go.Deep.add_add,Jd Zo] at k0;have h:=jd k0
   simpa[Addr.add] using h
  have a1:∀i,i<len->∃y:α,(a.spot=none/\a.block<W.heap.size/\R W W.heap.size a.block (a.off+i*sz) y)/\S (abP (D i)) y:=by
   intro i hi;obtain⟨g,f,h3⟩:=hx i Zo;rw[c1] at f;obtain⟨_,w,c⟩:=World.cells?_some f;have hs:=a3 Zo;have ha:a=⟨a.block,a.off,none⟩:=by cases a;simp at hs;simp[hs]
   have hc:∀j v,g[j]? =some v->O W a.block (a.off+i*sz+j) v:=fun j v hj=>by
    have b0:=(Jh.1 hj).1;have k:=c j Zo;rw[Go.Deep.add_add,ha,ag3] at k;rw[show a.off+i*sz+j=a.off+(i*sz+j) by omega,k]
    simpa using hj
   obtain⟨y,hy,a2⟩:=hR a.block (a.off+i*sz) g n _ w hc h3;refine⟨y,⟨hs,?_,hy⟩,a2⟩;obtain⟨v,hv⟩:∃v,g[0]? =some v:=⟨_,Jd Zo⟩
   exact jU (hc 0 v hv)
  obtain⟨l,q,a0⟩:=abY len a1;have a9:len<=Rows.uptoBulkAll ((List.range len).map D):=by have:=bulk_len ((List.range len).map D);simpa using this
  refine⟨l,⟨some a,a5,by rw[q],by rw[q];exact hl,by unfold maxLen at hm;omega,fun k y hk=>?_⟩,?_,fun y hy=>?_⟩
  ·obtain⟨⟨f,h3,h4⟩,_⟩:=a0 k y hk;exact⟨a.block,a.off,by cases a;simp at f;simp[f],h3,h4⟩
  ·rw[ach,q];omega
  ·obtain⟨i,hi⟩:=Ny hy;have b1:=(Jh.1 hi).1;refine hS _ _ _ ?_ (a0 i y hi).2;have:=aa3 (d:=D i) (l:=(List.range len).map D) (List.mem_map_of_mem (Ol.2 Zo));rw[ach];omega
end Go.Proofs.Ytoahcpkibpomcaa
set_option maxRecDepth 100000
namespace Go.Proofs.Ytoahcpkibpomcaa
open Go.ChangeShapes Go.WideShapes Go.ChangeAt Go.RowKit
variable {W W1 w w9 wx:World}{l:List (Nat×Nat)}{a2 f2 k x:Nat}{c:Int}{ov:Value}{a1 f1:Option Addr}
section
variable {H:Type} {enc:TypeId×Value->H} {W:World} {v:Value} {d:DataW H} {p:List MemPlace} {r:Go.Reach} {base:Nat}
theorem agQ (hv:Value.okWide Try.prog W r base 23 v)(l:DataW.Trod enc Try.prog W 0 (fun _=>true) true 23 v d p):∃row:List (Nat×Nat),ag6 W W.heap.size v row:=by
 obtain⟨a0,g,m,rfl⟩:=okWide_slice Try.underlying23 hv;obtain⟨fuel,hf⟩:=l
 obtain⟨row,k,q,_⟩:=abU (α:=Nat×Nat) Try.underlying23 (show Try.prog.cellsOf 30=2 by kernel_rfl) Zd PrR (fun _ _=>True) (fun _ _ _ _ h=>h) (fun b o cs n y hl hc ht=>by
  obtain⟨zs,e,f,c⟩:=acP Try.underlying30 Try.underlying22 Zk hl ht
  obtain⟨a,b',rfl⟩:∃a b,zs=[a,b]:=by
   match zs,f with
   | [a,b],_=>exact⟨a,b,rfl⟩
  obtain⟨x,rfl,j⟩:=a8 (c a Zs);obtain⟨y',rfl,i⟩:=a8 (c b' Zs);subst e
  exact⟨(x,y'),⟨by have:=hc 0 _ rfl;rwa [Uk] at this,hc 1 _ rfl,j,i⟩,trivial⟩) hf
 exact⟨row,k⟩
end
end Go.Proofs.Ytoahcpkibpomcaa
