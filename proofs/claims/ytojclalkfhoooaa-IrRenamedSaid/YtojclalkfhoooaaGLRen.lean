/- Part of a proof. -/
import Derived.Test.YtojclalkfhoooaaGLw0v2
import Derived.Test.YtojclalkfhoooaaGLw3v2
import Derived.Test.YtojclalkfhoooaaGMathv2
import Derived.Test.YtojclalkfhoooaaGRw3
set_option linter.all false
set_option maxHeartbeats 16000000
set_option maxRecDepth 100000
namespace Go.Proofs.Ytojclalkfhoooaa
open Go.RowKit
variable {w wx:World}{d i o5 p1:Nat}{kd:Int}{pc:List Value}{gv:Value}{bs gl:List BT}{t:PT}
theorem rnA_eq (T kd ta:Int)(es:List IEdge):rnA T ⟨kd,ta,es⟩=if kd=2∨kd=3∨(kd=4/\0<=ta) then T-ta else ta:=rfl
theorem aes (kd ta:Int):kd=2∨(kd≠2/\kd=3)∨(kd≠2/\kd≠3/\kd=4/\0<=ta)∨(kd≠2/\kd≠3/\kd=4/\¬0<=ta)∨(kd≠2/\kd≠3/\kd≠4):=by omega
theorem rn_term{j n:Nat}{T ta:Int}{pv ov tv:Value}{tos:List (IEdge×Value)}{nb:BT}{rest:List Row}(hT:0<=T/\T<=65535)(hn:n<=1000000)(r0:∀q∈tos,(1<=q.1.block/\q.1.block<(n:Int))/\(∀x∈q.1.args,Sm6 x)/\q.1.args.length<=1000000)(m:tos.length<=1000000)(o:gl.length<=1000000)(C6:Sm6 ta)(g0:pv.oneCell'=true/\ov.oneCell'=true/\tv.oneCell'=true)(r2:zz nb=[pv,ov,A kd,A (rnA T ⟨kd,ta,[]⟩),tv])
 (hm:RwMid w p1 o5 pc [(d,[pv,ov,A kd,A ta,tv],49),(j,[gv],43)] (xg tv tos::(ve tos++(zd gv gl::rest))) wx) (u0 u2 u3 u4 u6 u9 q9 q8 q7 q6 q5 C5 C4 C3 q4 q3 q2 q1 q0 p6 p5 p4 p3 p2 p0 o9 o6 o4 o3 o2 o1 o0 n9 n8 n7 n6 n5 n4 n3 n2 n1 n0 m7 m6 m5 m4 m3 m2 m1 m0 l9 l8 l7 l6 l5 l4 l3 l2 l1 l0 k9 k7 k6 k5 k4 k3 k2 k1 k0 j5 j4 j3 j2 j1 j0 i7 i6 i5 i4 i3 i2 i1 i0 h9 h8 h7 h6 h0 g9 g6 g5 g4 g3 g2 g1 f7 f6 f5 f4 f3 f2 f1 f0 e9 e8 e7 e6 e5 e1 e0 d9 d8 d7 d6 d5 d4 d3 d2 d1 d0 c9 c8 c7 c5 c4 c2 c0 b9 b8 b7 b6 b5 b1 C1 C0 B9 B8 B7 B6 B5 B4 B3 B2 B0 A9 A8 A7 A6 A5 A4 A3 A2 A1 A0 z6 z5 z4 z3 z2 z1 z0 y7 y6 y5 y4 y3 y2 y1 y0 x9 x8 x7 x6 x5 x4 x3 x2 x1 x0 w9 w8 w7 w6 w5 w4 w3 w2 w1 w0 v9 v6 v5 v4 v3 v2 v1 v0 u8 u5 u1 t8 t7 t6 t5 t4 t3 t2 s8 s7 s6 s5 s4 s3 s2 s1 s0 r6 b0 a7 a6 a5 a4 a3:Value) (K:Act->World->Prop) (Q:Exit->Act->World->Prop)
 (hK:∀(gv':Value) (y16 y17 y18 y138 y139 y140 y141 y142 y143 y144 y145 y146 y147 y148 y149 y150 y151 y152 y153 y154 y155 y156 y157 y158 y159 y160 y161 y162 y163 y164 y165 y166 y167 y168 y169 y170 y171 y172 y173 y174 y175 y176 y177 y178 y179 y180 y181 y182 y183 y184 y185 y186 y187 y188 y189 y190 y191 y192 y193 y194 y195 y196 y197 y198 y199 y200 y201 y202 y203 y204 y205 y206 y207 y208 y209 y210 y211 y212 y213 y214 y215 y216 y217 y218 y219 y220 y221:Value) (wy:World),RwMid w p1 o5 pc [(j,[gv'],43)] (xg tv (tos.map (gE_ T n))::(ve (tos.map (gE_ T n))++(zd gv' (gl++ [nb])::rest))) wy->K ⟨#[u0,A T,u2,u3,u4,.pointer (some ⟨o5,0,none⟩),u6,A n,.pointer (some ⟨j,0,none⟩),u9,.pointer (some ⟨d,0,none⟩),q9,q8,q7,q6,q5,y16,y17,y18,q4,q3,q2,q1,q0,p6,p5,p4,p3,p2,p0,o9,o6,o4,o3,o2,o1,o0,n9,n8,n7,n6,n5,n4,n3,n2,n1,n0,m7,m6,m5,m4,m3,m2,m1,m0,l9,l8,l7,l6,l5,l4,l3,l2,l1,l0,k9,k7,k6,k5,k4,k3,k2,k1,k0,j5,j4,j3,j2,j1,j0,i7,i6,i5,i4,i3,i2,i1,i0,h9,h8,h7,h6,h0,g9,g6,g5,g4,g3,g2,g1,f7,f6,f5,f4,f3,f2,f1,f0,e9,e8,e7,e6,e5,e1,e0,d9,d8,d7,d6,d5,d4,d3,d2,d1,d0,c9,c8,c7,c5,c4,c2,c0,b9,b8,b7,b6,b5,b1,y138,y139,y140,y141,y142,y143,y144,y145,y146,y147,y148,y149,y150,y151,y152,y153,y154,y155,y156,y157,y158,y159,y160,y161,y162,y163,y164,y165,y166,y167,y168,y169,y170,y171,y172,y173,y174,y175,y176,y177,y178,y179,y180,y181,y182,y183,y184,y185,y186,y187,y188,y189,y190,y191,y192,y193,y194,y195,y196,y197,y198,y199,y200,y201,y202,y203,y204,y205,y206,y207,y208,y209,y210,y211,y212,y213,y214,y215,y216,y217,y218,y219,y220,y221,b0,a7,a6,a5,a4,a3],[]⟩ wy):
 Code.wp Try.prog rnCT (Exit.then K Q) ⟨#[u0,A T,u2,u3,u4,.pointer (some ⟨o5,0,none⟩),u6,A n,.pointer (some ⟨j,0,none⟩),u9,.pointer (some ⟨d,0,none⟩),q9,q8,q7,q6,q5,C5,C4,C3,q4,q3,q2,q1,q0,p6,p5,p4,p3,p2,p0,o9,o6,o4,o3,o2,o1,o0,n9,n8,n7,n6,n5,n4,n3,n2,n1,n0,m7,m6,m5,m4,m3,m2,m1,m0,l9,l8,l7,l6,l5,l4,l3,l2,l1,l0,k9,k7,k6,k5,k4,k3,k2,k1,k0,j5,j4,j3,j2,j1,j0,i7,i6,i5,i4,i3,i2,i1,i0,h9,h8,h7,h6,h0,g9,g6,g5,g4,g3,g2,g1,f7,f6,f5,f4,f3,f2,f1,f0,e9,e8,e7,e6,e5,e1,e0,d9,d8,d7,d6,d5,d4,d3,d2,d1,d0,c9,c8,c7,c5,c4,c2,c0,b9,b8,b7,b6,b5,b1,C1,C0,B9,B8,B7,B6,B5,B4,B3,B2,B0,A9,A8,A7,A6,A5,A4,A3,A2,A1,A0,z6,z5,z4,z3,z2,z1,z0,y7,y6,y5,y4,y3,y2,y1,y0,x9,x8,x7,x6,x5,x4,x3,x2,x1,x0,w9,w8,w7,w6,w5,w4,w3,w2,w1,w0,v9,v6,v5,v4,v3,v2,v1,v0,u8,u5,u1,t8,t7,t6,t5,t4,t3,t2,s8,s7,s6,s5,s4,s3,s2,s1,s0,r6,b0,a7,a6,a5,a4,a3],[]⟩ wx:=by
 obtain⟨ea,ec,r4⟩:=zG (hm.rows.own _ (.head _));have C2:tv=.slice ea tos.length ec:=r4;subst C2
 conv=>arg 2;whnf
 have hb:=(hm.bx _ (.head _)).1;have b2:G wx d 2 (A kd):=zA (i:=2) hb rfl;have b3:G wx d 3 (A ta):=zA (i:=3) hb rfl;have b4:G wx d 4 (.slice ea tos.length ec):=zA (i:=4) hb rfl;have bl:=lt_of_block hb;have r3:=hm.box [A kd,A ta,.slice ea tos.length ec] 47;have y:=Ja (Jb r3 (Jb hK (Jb r0 (Jb g0 r2))));clear hb hm r3 hK r0 g0 r2 r4;refine wp_seq_k fun K1 hK1=>?_
 have r5:=Ja hK1;clear hK1;go_wp2;refine r5.out _ _ ?_;clear r5 b2 b3 b4 bl;obtain⟨k,f9⟩:∃t,wx.heap.size=t:=⟨_,rfl⟩
 rw[f9] at y ⊢;clear f9;generalize hW:wx.alloc (U #[A kd,A ta,.slice ea tos.length ec] 47)=W1 at *;have a0:RwMid w p1 o5 pc [(k,[A kd,A ta,.slice ea tos.length ec],47),(d,[pv,ov,A kd,A ta,.slice ea tos.length ec],49),(j,[gv],43)] (xg (.slice ea tos.length ec) tos::(ve tos++(zd gv gl::rest))) W1:=y.out.1;clear hW;have a2:=(a0.bx _ (.head _)).1;have a1:=(a0.bx _ (.tail _ (.head _))).1;have t0:G W1 k 0 (A kd):=zA (i:=0) a2 rfl;have t1:G W1 k 1 (A ta):=zA (i:=1) a2 rfl;have tl:=lt_of_block a2;have c3:G W1 d 3 (A ta):=zA (i:=3) a1 rfl;have cf:W1.frozen? ⟨d,3,none⟩=false:=zE a1;have cl:=lt_of_block a1;have C7:IntKind.i64.wrap (T-ta)=T-ta:=Om _ (by unfold Sm6 at C6;omega);have HC:=Ja a0;clear a2 a1 a0
 have f8:∀(Z:World) (sl:Array Value),(kd=2∨kd=3∨(kd=4/\0<=ta))->Z=W1.setCell ⟨d,3,none⟩ (A (T-ta))->RwMid w p1 o5 pc [(k,[A kd,A ta,.slice ea tos.length ec],47),(d,[pv,ov,A kd,A (rnA T ⟨kd,ta,[]⟩),.slice ea tos.length ec],49),(j,[gv],43)] (xg (.slice ea tos.length ec) tos::(ve tos++(zd gv gl::rest))) Z:=fun Z sl hk hz=>by
  subst hz;have h1:=HC.out.swap (B1:=[(d,[pv,ov,A kd,A ta,.slice ea tos.length ec],49),(k,[A kd,A ta,.slice ea tos.length ec],47),(j,[gv],43)]) (List.Perm.swap _ _ _);have h2:=h1.setB rfl (i:=3) (u:=A (T-ta));rw[rnA_eq,if_pos hk];exact h2.swap (List.Perm.swap _ _ _)
 have c:=Ja (Jb y.out.2.1 (Jb y.out.2.2.1 (Jb y.out.2.2.2.1 y.out.2.2.2.2)));clear y
 have r1:∀(sl:Array Value),¬(kd=2∨kd=3∨(kd=4/\0<=ta))->RwMid w p1 o5 pc [(k,[A kd,A ta,.slice ea tos.length ec],47),(d,[pv,ov,A kd,A (rnA T ⟨kd,ta,[]⟩),.slice ea tos.length ec],49),(j,[gv],43)] (xg (.slice ea tos.length ec) tos::(ve tos++(zd gv gl::rest))) W1:=fun sl hk=>by
  rw[rnA_eq,if_neg hk];exact HC.out
 have HY:=Ja (Jb f8 r1);clear f8 r1 HC;rcases aes kd ta with h|⟨h,r⟩|⟨h,r,h3,h4⟩|⟨h,r,h3,h4⟩|⟨h,r,h3⟩
 ·have e2:(kd==2)=true:=beq_iff_eq.2 h;refine wp_seq_k fun K2 hK2=>?_
  have g:=Ja hK2;clear hK2;go_wp2;refine g.out _ _ ?_;refine ad5 hT hn c.out.2.1 m o c.out.2.2.1 c.out.2.2.2 (HY.out.1 _ #[] (.inl h) rfl) _ _ _ _ _ _ _ _ _ _ _ _ _ _ _ _ _ _ _ _ _ _ _ _ _ _ _ _ _ _ _ _ _ _ _ _ _ _ _ _ _ _ _ _ _ _ _ _ _ _ _ _ _ _ _ _ _ _ _ _ _ _ _ _ _ _ _ _ _ _ _ _ _ _ _ _ _ _ _ _ _ _ _ _ _ _ _ _ _ _ _ _ _ _ _ _ _ _ _ _ _ _ _ _ _ _ _ _ _ _ _ _ _ _ _ _ _ _ _ _ _ _ _ _ _ _ _ _ _ _ _ _ _ _ _ _ _ _ _ _ _ _ _ _ _ _ _ _ _ _ _ _ _ _ _ _ _ _ _ _ _ _ _ _ _ _ _ _ _ _ _ _ _ _ _ _ _ _ _ _ _ _ _ _ _ _ _ _ _ _ _ _ _ _ _ _ _ _ _ _ _ _ _ _ _ _ _ _ _ _ _ _ _ _ _ _ _ _ _ _ _ _ K Q ?_;intro gv' y17 y18 y164 y165 y166 y167 y168 y169 y170 y171 y172 y173 y174 y175 y176 y177 y178 y179 y180 y181 y182 y183 y184 y185 y186 y187 y188 y189 y190 y191 y192 y193 y194 y195 y196 y197 y198 y199 y200 y201 y202 y203 y204 y205 y206 y207 y208 y209 y210 y211 y212 y213 y214 y215 y216 y217 y218 y219 y220 y221 wy l;exact c.out.1 gv' _ _ _ _ _ _ _ _ _ _ _ _ _ _ _ _ _ _ _ _ _ _ _ _ _ _ _ _ _ _ _ _ _ _ _ _ _ _ _ _ _ _ _ _ _ _ _ _ _ _ _ _ _ _ _ _ _ _ _ _ _ _ _ _ _ _ _ _ _ _ _ _ _ _ _ _ _ _ _ _ _ _ _ _ _ _ _ wy l
 ·have e2:(kd==2)=false:=beq_eq_false_iff_ne.2 h;have e3:(kd==3)=true:=beq_iff_eq.2 r;refine wp_seq_k fun K2 hK2=>?_
  have g:=Ja hK2;clear hK2;go_wp2;refine g.out _ _ ?_;refine ad5 hT hn c.out.2.1 m o c.out.2.2.1 c.out.2.2.2 (HY.out.1 _ #[] (.inr (.inl r)) rfl) _ _ _ _ _ _ _ _ _ _ _ _ _ _ _ _ _ _ _ _ _ _ _ _ _ _ _ _ _ _ _ _ _ _ _ _ _ _ _ _ _ _ _ _ _ _ _ _ _ _ _ _ _ _ _ _ _ _ _ _ _ _ _ _ _ _ _ _ _ _ _ _ _ _ _ _ _ _ _ _ _ _ _ _ _ _ _ _ _ _ _ _ _ _ _ _ _ _ _ _ _ _ _ _ _ _ _ _ _ _ _ _ _ _ _ _ _ _ _ _ _ _ _ _ _ _ _ _ _ _ _ _ _ _ _ _ _ _ _ _ _ _ _ _ _ _ _ _ _ _ _ _ _ _ _ _ _ _ _ _ _ _ _ _ _ _ _ _ _ _ _ _ _ _ _ _ _ _ _ _ _ _ _ _ _ _ _ _ _ _ _ _ _ _ _ _ _ _ _ _ _ _ _ _ _ _ _ _ _ _ _ _ _ _ _ _ _ _ _ _ _ _ K Q ?_;intro gv' y17 y18 y164 y165 y166 y167 y168 y169 y170 y171 y172 y173 y174 y175 y176 y177 y178 y179 y180 y181 y182 y183 y184 y185 y186 y187 y188 y189 y190 y191 y192 y193 y194 y195 y196 y197 y198 y199 y200 y201 y202 y203 y204 y205 y206 y207 y208 y209 y210 y211 y212 y213 y214 y215 y216 y217 y218 y219 y220 y221 wy l;exact c.out.1 gv' _ _ _ _ _ _ _ _ _ _ _ _ _ _ _ _ _ _ _ _ _ _ _ _ _ _ _ _ _ _ _ _ _ _ _ _ _ _ _ _ _ _ _ _ _ _ _ _ _ _ _ _ _ _ _ _ _ _ _ _ _ _ _ _ _ _ _ _ _ _ _ _ _ _ _ _ _ _ _ _ _ _ _ _ _ _ _ wy l
 ·have e2:(kd==2)=false:=beq_eq_false_iff_ne.2 h;have e3:(kd==3)=false:=beq_eq_false_iff_ne.2 r;have e4:(kd==4)=true:=beq_iff_eq.2 h3;refine wp_seq_k fun K2 hK2=>?_
  have g:=Ja hK2;clear hK2;go_wp2;refine g.out _ _ ?_;refine ad5 hT hn c.out.2.1 m o c.out.2.2.1 c.out.2.2.2 (HY.out.1 _ #[] (.inr (.inr ⟨h3,h4⟩)) rfl) _ _ _ _ _ _ _ _ _ _ _ _ _ _ _ _ _ _ _ _ _ _ _ _ _ _ _ _ _ _ _ _ _ _ _ _ _ _ _ _ _ _ _ _ _ _ _ _ _ _ _ _ _ _ _ _ _ _ _ _ _ _ _ _ _ _ _ _ _ _ _ _ _ _ _ _ _ _ _ _ _ _ _ _ _ _ _ _ _ _ _ _ _ _ _ _ _ _ _ _ _ _ _ _ _ _ _ _ _ _ _ _ _ _ _ _ _ _ _ _ _ _ _ _ _ _ _ _ _ _ _ _ _ _ _ _ _ _ _ _ _ _ _ _ _ _ _ _ _ _ _ _ _ _ _ _ _ _ _ _ _ _ _ _ _ _ _ _ _ _ _ _ _ _ _ _ _ _ _ _ _ _ _ _ _ _ _ _ _ _ _ _ _ _ _ _ _ _ _ _ _ _ _ _ _ _ _ _ _ _ _ _ _ _ _ _ _ _ _ _ _ _ K Q ?_;intro gv' y17 y18 y164 y165 y166 y167 y168 y169 y170 y171 y172 y173 y174 y175 y176 y177 y178 y179 y180 y181 y182 y183 y184 y185 y186 y187 y188 y189 y190 y191 y192 y193 y194 y195 y196 y197 y198 y199 y200 y201 y202 y203 y204 y205 y206 y207 y208 y209 y210 y211 y212 y213 y214 y215 y216 y217 y218 y219 y220 y221 wy l;exact c.out.1 gv' _ _ _ _ _ _ _ _ _ _ _ _ _ _ _ _ _ _ _ _ _ _ _ _ _ _ _ _ _ _ _ _ _ _ _ _ _ _ _ _ _ _ _ _ _ _ _ _ _ _ _ _ _ _ _ _ _ _ _ _ _ _ _ _ _ _ _ _ _ _ _ _ _ _ _ _ _ _ _ _ _ _ _ _ _ _ _ wy l
 ·have e2:(kd==2)=false:=beq_eq_false_iff_ne.2 h;have e3:(kd==3)=false:=beq_eq_false_iff_ne.2 r;have e4:(kd==4)=true:=beq_iff_eq.2 h3;have h5:ta<0:=Zo;refine wp_seq_k fun K2 hK2=>?_
  have g:=Ja hK2;clear hK2;go_wp2;refine g.out _ _ ?_;refine ad5 hT hn c.out.2.1 m o c.out.2.2.1 c.out.2.2.2 (HY.out.2 #[] Zo) _ _ _ _ _ _ _ _ _ _ _ _ _ _ _ _ _ _ _ _ _ _ _ _ _ _ _ _ _ _ _ _ _ _ _ _ _ _ _ _ _ _ _ _ _ _ _ _ _ _ _ _ _ _ _ _ _ _ _ _ _ _ _ _ _ _ _ _ _ _ _ _ _ _ _ _ _ _ _ _ _ _ _ _ _ _ _ _ _ _ _ _ _ _ _ _ _ _ _ _ _ _ _ _ _ _ _ _ _ _ _ _ _ _ _ _ _ _ _ _ _ _ _ _ _ _ _ _ _ _ _ _ _ _ _ _ _ _ _ _ _ _ _ _ _ _ _ _ _ _ _ _ _ _ _ _ _ _ _ _ _ _ _ _ _ _ _ _ _ _ _ _ _ _ _ _ _ _ _ _ _ _ _ _ _ _ _ _ _ _ _ _ _ _ _ _ _ _ _ _ _ _ _ _ _ _ _ _ _ _ _ _ _ _ _ _ _ _ _ _ _ _ K Q ?_;intro gv' y17 y18 y164 y165 y166 y167 y168 y169 y170 y171 y172 y173 y174 y175 y176 y177 y178 y179 y180 y181 y182 y183 y184 y185 y186 y187 y188 y189 y190 y191 y192 y193 y194 y195 y196 y197 y198 y199 y200 y201 y202 y203 y204 y205 y206 y207 y208 y209 y210 y211 y212 y213 y214 y215 y216 y217 y218 y219 y220 y221 wy l;exact c.out.1 gv' _ _ _ _ _ _ _ _ _ _ _ _ _ _ _ _ _ _ _ _ _ _ _ _ _ _ _ _ _ _ _ _ _ _ _ _ _ _ _ _ _ _ _ _ _ _ _ _ _ _ _ _ _ _ _ _ _ _ _ _ _ _ _ _ _ _ _ _ _ _ _ _ _ _ _ _ _ _ _ _ _ _ _ _ _ _ _ wy l
 ·have e2:(kd==2)=false:=beq_eq_false_iff_ne.2 h;have e3:(kd==3)=false:=beq_eq_false_iff_ne.2 r;have e4:(kd==4)=false:=beq_eq_false_iff_ne.2 h3;refine wp_seq_k fun K2 hK2=>?_
  have g:=Ja hK2;clear hK2;go_wp2;refine g.out _ _ ?_;refine ad5 hT hn c.out.2.1 m o c.out.2.2.1 c.out.2.2.2 (HY.out.2 #[] Zo) _ _ _ _ _ _ _ _ _ _ _ _ _ _ _ _ _ _ _ _ _ _ _ _ _ _ _ _ _ _ _ _ _ _ _ _ _ _ _ _ _ _ _ _ _ _ _ _ _ _ _ _ _ _ _ _ _ _ _ _ _ _ _ _ _ _ _ _ _ _ _ _ _ _ _ _ _ _ _ _ _ _ _ _ _ _ _ _ _ _ _ _ _ _ _ _ _ _ _ _ _ _ _ _ _ _ _ _ _ _ _ _ _ _ _ _ _ _ _ _ _ _ _ _ _ _ _ _ _ _ _ _ _ _ _ _ _ _ _ _ _ _ _ _ _ _ _ _ _ _ _ _ _ _ _ _ _ _ _ _ _ _ _ _ _ _ _ _ _ _ _ _ _ _ _ _ _ _ _ _ _ _ _ _ _ _ _ _ _ _ _ _ _ _ _ _ _ _ _ _ _ _ _ _ _ _ _ _ _ _ _ _ _ _ _ _ _ _ _ _ _ _ K Q ?_;intro gv' y17 y18 y164 y165 y166 y167 y168 y169 y170 y171 y172 y173 y174 y175 y176 y177 y178 y179 y180 y181 y182 y183 y184 y185 y186 y187 y188 y189 y190 y191 y192 y193 y194 y195 y196 y197 y198 y199 y200 y201 y202 y203 y204 y205 y206 y207 y208 y209 y210 y211 y212 y213 y214 y215 y216 y217 y218 y219 y220 y221 wy l;exact c.out.1 gv' _ _ _ _ _ _ _ _ _ _ _ _ _ _ _ _ _ _ _ _ _ _ _ _ _ _ _ _ _ _ _ _ _ _ _ _ _ _ _ _ _ _ _ _ _ _ _ _ _ _ _ _ _ _ _ _ _ _ _ _ _ _ _ _ _ _ _ _ _ _ _ _ _ _ _ _ _ _ _ _ _ _ _ _ _ _ _ wy l
theorem aev{c:Nat}{T ta:Int}{pv ov tv:Value}{xs:List Int}{B2:List (Nat×List Value×TypeId)}{rest:List Row}(hT:0<=T/\T<=65535)(x6:∀x∈xs,Sm6 x)(A9:xs.length<=1000000)
 (hm:RwMid w p1 o5 pc ((c,[pv,ov,A kd,A ta,tv],49)::B2) (zP pv xs::rest) wx) (u0 u2 u3 u4 u6 q7 u8 u9 A3 x5 x4 x3 x2 x1 w9 w8 w7 w6 w5 w4 w3 w2 w1 w0 v9 v6 v5 v4 v3 v2 v1 v0 u5 u1 t8 t7 t6 t5 t4 t3 t2 s8 s7 s6 s5 s4 s3 s2 s1 s0 A2 A1 A0 z6 z5 z4 z3 z2 z1 z0 y7 y6 y5 y4 y3 y2 y1 x9 r6 r5 r4 r3 r2 r1 r0 q9 q8 q6 q5 q4 q3 q2 q1 q0 p6 p5 p4 p3 p2 p0 o9 o6 o4 o3 o2 o1 o0 n6 n5 n4 n3 n2 n1 n0 m7 m6 m5 m4 m3 m2 m1 m0 l9 l8 l7 l6 l5 l4 l3 l2 l1 l0 k9 k7 k6 k5 k4 k3 k2 k1 k0 j5 j4 j3 j2 j1 j0 i7 i6 i5 i4 i3 i2 i1 i0 h8 h7 h6 h5 h4 h0 g9 g6 g5 g4 g3 g2 g1 g0 f9 f8 f7 f6 f5 f4 f3 f2 f1 f0 e8 e7 e6 e5 e4 e3 e2 e1 e0 d9 d8 d7 d6 d5 d4 d3 d2 d1 d0 c9 c8 c7 c5 c4 c3 c2 c0 b9 b8 b7 b6 b5 b4 b3 b2 b1 b0 a7 a6 a5 a4 a3 a2 a1 a0 y u t r o m l k h g d:Value) (K:Act->World->Prop) (Q:Exit->Act->World->Prop)
 (hK:∀(y11 y53 y54 y55 y56 y57 y58 y59 y60 y61 y62 y63 y64 y65 y66 y67 y68 y69 y70:Value) (wy:World),RwMid w p1 o5 pc ((c,[pv,ov,A kd,A ta,tv],49)::B2) (zP pv (rnL T xs)::rest) wy->K ⟨#[u0,A T,u2,u3,u4,.pointer (some ⟨o5,0,none⟩),u6,q7,u8,u9,.pointer (some ⟨c,0,none⟩),y11,x5,x4,x3,x2,x1,w9,w8,w7,w6,w5,w4,w3,w2,w1,w0,v9,v6,v5,v4,v3,v2,v1,v0,u5,u1,t8,t7,t6,t5,t4,t3,t2,s8,s7,s6,s5,s4,s3,s2,s1,s0,y53,y54,y55,y56,y57,y58,y59,y60,y61,y62,y63,y64,y65,y66,y67,y68,y69,y70,r6,r5,r4,r3,r2,r1,r0,q9,q8,q6,q5,q4,q3,q2,q1,q0,p6,p5,p4,p3,p2,p0,o9,o6,o4,o3,o2,o1,o0,n6,n5,n4,n3,n2,n1,n0,m7,m6,m5,m4,m3,m2,m1,m0,l9,l8,l7,l6,l5,l4,l3,l2,l1,l0,k9,k7,k6,k5,k4,k3,k2,k1,k0,j5,j4,j3,j2,j1,j0,i7,i6,i5,i4,i3,i2,i1,i0,h8,h7,h6,h5,h4,h0,g9,g6,g5,g4,g3,g2,g1,g0,f9,f8,f7,f6,f5,f4,f3,f2,f1,f0,e8,e7,e6,e5,e4,e3,e2,e1,e0,d9,d8,d7,d6,d5,d4,d3,d2,d1,d0,c9,c8,c7,c5,c4,c3,c2,c0,b9,b8,b7,b6,b5,b4,b3,b2,b1,b0,a7,a6,a5,a4,a3,a2,a1,a0,y,u,t,r,o,m,l,k,h,g,d],[]⟩ wy):
 Code.wp Try.prog rnCPh (Exit.then K Q) ⟨#[u0,A T,u2,u3,u4,.pointer (some ⟨o5,0,none⟩),u6,q7,u8,u9,.pointer (some ⟨c,0,none⟩),A3,x5,x4,x3,x2,x1,w9,w8,w7,w6,w5,w4,w3,w2,w1,w0,v9,v6,v5,v4,v3,v2,v1,v0,u5,u1,t8,t7,t6,t5,t4,t3,t2,s8,s7,s6,s5,s4,s3,s2,s1,s0,A2,A1,A0,z6,z5,z4,z3,z2,z1,z0,y7,y6,y5,y4,y3,y2,y1,x9,r6,r5,r4,r3,r2,r1,r0,q9,q8,q6,q5,q4,q3,q2,q1,q0,p6,p5,p4,p3,p2,p0,o9,o6,o4,o3,o2,o1,o0,n6,n5,n4,n3,n2,n1,n0,m7,m6,m5,m4,m3,m2,m1,m0,l9,l8,l7,l6,l5,l4,l3,l2,l1,l0,k9,k7,k6,k5,k4,k3,k2,k1,k0,j5,j4,j3,j2,j1,j0,i7,i6,i5,i4,i3,i2,i1,i0,h8,h7,h6,h5,h4,h0,g9,g6,g5,g4,g3,g2,g1,g0,f9,f8,f7,f6,f5,f4,f3,f2,f1,f0,e8,e7,e6,e5,e4,e3,e2,e1,e0,d9,d8,d7,d6,d5,d4,d3,d2,d1,d0,c9,c8,c7,c5,c4,c3,c2,c0,b9,b8,b7,b6,b5,b4,b3,b2,b1,b0,a7,a6,a5,a4,a3,a2,a1,a0,y,u,t,r,o,m,l,k,h,g,d],[]⟩ wx:=by
 conv=>arg 2;whnf
 obtain⟨aa,ac,A6⟩:=hm.formI (.head _);subst A6;have HM:=Ja hm;have A7:=Ja x6;have HK:=Ja hK;clear hm x6 hK;go_wp2
 go_loopw [11] (fun kv wy=>∃j:Nat,j<=xs.length/\kv=A j/\Hid (RwMid w p1 o5 pc ((c,[.slice aa xs.length ac,ov,A kd,A ta,tv],49)::B2) (zP (.slice aa xs.length ac) (mpK (gI_ T) xs j)::rest) wy)) (fun kv _=>xs.length-(intOf kv).toNat)
 case atStart=>exact⟨0,Jt _,rfl,HM⟩
 case round=>
  obtain⟨j,hj,rfl,HJ⟩:=hrel;have hb:=(HJ.out.bx _ (.head _)).1;have x0:G wr c 0 (.slice aa xs.length ac):=zA (i:=0) hb rfl;have xl:=lt_of_block hb;clear hb
  by_cases n8:j<xs.length
  ·obtain⟨x,hx⟩:∃x,xs[j]? =some x:=⟨_,Jd n8⟩
   have A5:(j:Int)<(xs.length:Int):=Zo;obtain⟨ga,B1,x8,y0,yf,A8,n9⟩:=HJ.out.getI (.head _) (adZ (gI_ T) hx);have e9:aa=some ⟨ga,0,none⟩:=by injection x8
   subst e9;have x7:=A7.out x (Ji hx);have B0:IntKind.i64.wrap (T-x)=T-x:=Om _ (by unfold Sm6 at x7;omega);have HX:=Ja (Jb hx n9);clear hx x8 n8 x7 n9;go_upto_region 14 with fail;refine zt 10 Zk Zk ?_;simp only[Qo,Uc,Qp,Ui]
   repeat (go_big_quiet_step (fail))
   refine wpQuiet_nil ?_;go_wp2;have A4:=(Jh.1 HX.out.1).1;refine⟨⟨j+1,A4,by go_num,Ja ?_⟩,by simp[intOf];omega⟩;have h9:=(HJ.out.below (Below.refl _ _).drew).putI (T-x) (Uq _) HX.out.2 (adZ (gI_ T) HX.out.1);rw[show T-x=gI_ T x from rfl,aea (gI_ T) HX.out.1] at h9;exact h9
  ·obtain rfl:j=xs.length:=by omega
   have A5:¬(xs.length:Int)<(xs.length:Int):=Zo;have n7:=HJ.out;rw[aej] at n7;have HE:=Ja n7;clear n8 n7;go_wp2;exact HK.out _ _ _ _ _ _ _ _ _ _ _ _ _ _ _ _ _ _ _ _ HE.out
theorem rnP_tmod{n:Nat}(hi:i<n):((n:Int)-(i:Int)).tmod (n:Int)=(rnP n i:Int):=by
 rw[show(n:Int)-(i:Int)=((n-i:Nat):Int) by omega];rfl
def ad0 (T:Int)(n:Nat)(b:BT):BT:=⟨rnL T b.params,b.pv,b.ops.map (gO_ T),b.ov,b.kind,rnA T ⟨b.kind,b.a,[]⟩,b.tos.map (gE_ T n),b.tv⟩
structure RwB (n:Nat) (b:BT):Prop where
 ps:∀x∈b.params,Sm6 x
 pl:b.params.length<=1000000
 os:∀q∈b.ops,Sm6 q.1.res/\Sm6 q.1.a/\Sm6 q.1.b/\(∀x∈q.1.args,Sm6 x)/\q.1.args.length<=1000000
 ol:b.ops.length<=1000000
 ta:Sm6 b.a
 es:∀q∈b.tos,(1<=q.1.block/\q.1.block<(n:Int))/\(∀x∈q.1.args,Sm6 x)/\q.1.args.length<=1000000
 el:b.tos.length<=1000000
theorem rn_block{r n:Nat}{T:Int}{b:BT}{rest:List Row}(hT:0<=T/\T<=65535)(hn:n<=1000000)(c:RwB n b)(A1:gl.length<=1000000)
 (hm:RwMid w p1 o5 pc [(r,zz b,49),(d,[gv],43)] (zd gv gl::(b.rows++rest)) wx) (u0 u2 u3 u4 u6 u9 A0 z6 z5 z4 z3 z2 z1 z0 d4 d3 d2 d1 d0 c9 c8 c7 c5 c4 c3 c2 c0 b9 b8 b7 b6 b5 b4 b3 b2 b1 b0 a7 a6 a5 a4 a3 a2 a1 a0 x u t y7 y6 y5 y4 y3 y2 y1 y0 x9 x8 x7 x6 x5 x4 x3 x2 x1 x0 w9 w8 w7 w6 w5 w4 w3 w2 w1 w0 v9 v6 v5 v4 v3 v2 v1 v0 u8 u5 u1 t8 t7 t6 t5 t4 t3 t2 s8 s6 s5 s4 s3 s2 s1 s0 r6 r5 r4 r3 r2 r1 r0 q9 q8 q7 q6 q5 q4 q3 q2 q1 q0 p6 p5 p4 p3 p2 p0 o9 o6 o4 o3 o2 o1 o0 n9 n8 n7 n6 n5 n4 n3 n2 n1 n0 m7 m6 m5 m4 m3 m2 m1 m0 l9 l8 l7 l6 l5 l4 l3 l2 l1 l0 k9 k7 k6 k5 k4 k3 k2 k1 k0 j5 j4 j3 j2 j1 j0 i7 i6 i5 i4 i3 i2 i1 i0 h9 h8 h7 h0 g9 g6 g5 g4 g3 g2 g1 g0 f9 f8 f7 f6 f5 f4 f3 f2 f1 f0 e9 e8 e7 e6 e5 e4 e3 e2 e1 e0 d9 d8 l k j i h g:Value) (K:Act->World->Prop) (Q:Exit->Act->World->Prop)
 (hK:∀(gv':Value) (y11 y12 y13 y14 y15 y16 y17 y18 y53 y54 y55 y56 y57 y58 y59 y60 y61 y62 y63 y64 y65 y66 y67 y68 y69 y70 y71 y72 y73 y74 y75 y76 y77 y78 y79 y80 y81 y82 y83 y84 y85 y86 y87 y88 y89 y90 y91 y92 y93 y94 y95 y96 y97 y98 y99 y100 y101 y102 y103 y104 y105 y106 y107 y108 y109 y110 y111 y112 y113 y114 y115 y116 y117 y118 y119 y120 y121 y122 y123 y124 y125 y126 y127 y128 y129 y130 y131 y132 y133 y134 y135 y136 y137 y138 y139 y140 y141 y142 y143 y144 y145 y146 y147 y148 y149 y150 y151 y152 y153 y154 y155 y156 y157 y158 y159 y160 y161 y162 y163 y164 y165 y166 y167 y168 y169 y170 y171 y172 y173 y174 y175 y176 y177 y178 y179 y180 y181 y182 y183 y184 y185 y186 y187 y188 y189 y190 y191 y192 y193 y194 y195 y196 y197 y198 y199 y200 y201 y202 y203 y204 y205 y206 y207 y208 y209 y210 y211 y212 y213 y214 y215 y216 y217 y218 y219 y220 y221:Value) (wy:World),RwMid w p1 o5 pc [(d,[gv'],43)] (zd gv' (gl++ [ad0 T n b])::((ad0 T n b).rows++rest)) wy->K ⟨#[u0,A T,u2,u3,u4,.pointer (some ⟨o5,0,none⟩),u6,A n,.pointer (some ⟨d,0,none⟩),u9,.pointer (some ⟨r,0,none⟩),y11,y12,y13,y14,y15,y16,y17,y18,d4,d3,d2,d1,d0,c9,c8,c7,c5,c4,c3,c2,c0,b9,b8,b7,b6,b5,b4,b3,b2,b1,b0,a7,a6,a5,a4,a3,a2,a1,a0,x,u,t,y53,y54,y55,y56,y57,y58,y59,y60,y61,y62,y63,y64,y65,y66,y67,y68,y69,y70,y71,y72,y73,y74,y75,y76,y77,y78,y79,y80,y81,y82,y83,y84,y85,y86,y87,y88,y89,y90,y91,y92,y93,y94,y95,y96,y97,y98,y99,y100,y101,y102,y103,y104,y105,y106,y107,y108,y109,y110,y111,y112,y113,y114,y115,y116,y117,y118,y119,y120,y121,y122,y123,y124,y125,y126,y127,y128,y129,y130,y131,y132,y133,y134,y135,y136,y137,y138,y139,y140,y141,y142,y143,y144,y145,y146,y147,y148,y149,y150,y151,y152,y153,y154,y155,y156,y157,y158,y159,y160,y161,y162,y163,y164,y165,y166,y167,y168,y169,y170,y171,y172,y173,y174,y175,y176,y177,y178,y179,y180,y181,y182,y183,y184,y185,y186,y187,y188,y189,y190,y191,y192,y193,y194,y195,y196,y197,y198,y199,y200,y201,y202,y203,y204,y205,y206,y207,y208,y209,y210,y211,y212,y213,y214,y215,y216,y217,y218,y219,y220,y221,l,k,j,i,h,g],[]⟩ wy):
 Code.wp Try.prog rnCP (Exit.then K Q) ⟨#[u0,A T,u2,u3,u4,.pointer (some ⟨o5,0,none⟩),u6,A n,.pointer (some ⟨d,0,none⟩),u9,.pointer (some ⟨r,0,none⟩),A0,z6,z5,z4,z3,z2,z1,z0,d4,d3,d2,d1,d0,c9,c8,c7,c5,c4,c3,c2,c0,b9,b8,b7,b6,b5,b4,b3,b2,b1,b0,a7,a6,a5,a4,a3,a2,a1,a0,x,u,t,y7,y6,y5,y4,y3,y2,y1,y0,x9,x8,x7,x6,x5,x4,x3,x2,x1,x0,w9,w8,w7,w6,w5,w4,w3,w2,w1,w0,v9,v6,v5,v4,v3,v2,v1,v0,u8,u5,u1,t8,t7,t6,t5,t4,t3,t2,s8,s6,s5,s4,s3,s2,s1,s0,r6,r5,r4,r3,r2,r1,r0,q9,q8,q7,q6,q5,q4,q3,q2,q1,q0,p6,p5,p4,p3,p2,p0,o9,o6,o4,o3,o2,o1,o0,n9,n8,n7,n6,n5,n4,n3,n2,n1,n0,m7,m6,m5,m4,m3,m2,m1,m0,l9,l8,l7,l6,l5,l4,l3,l2,l1,l0,k9,k7,k6,k5,k4,k3,k2,k1,k0,j5,j4,j3,j2,j1,j0,i7,i6,i5,i4,i3,i2,i1,i0,h9,h8,h7,h0,g9,g6,g5,g4,g3,g2,g1,g0,f9,f8,f7,f6,f5,f4,f3,f2,f1,f0,e9,e8,e7,e6,e5,e4,e3,e2,e1,e0,d9,d8,l,k,j,i,h,g],[]⟩ wx:=by
 obtain⟨pa,A2,d6⟩:=hm.formI (v:=b.pv) (xs:=b.params) (.tail _ (.head _));obtain⟨oa,oc,d7⟩:=zG (hm.rows.own (yo b.ov b.ops) (.tail _ (.tail _ (.head _))));obtain⟨ta,tc,d5⟩:=zG (hm.rows.own (xg b.tv b.tos) (.tail _ (.tail _ (.tail _ (.head _)))));have o:b.ov=.slice oa b.ops.length oc:=d7;have m:b.tv=.slice ta b.tos.length tc:=d5;have s7:b.pv.oneCell'=true/\b.ov.oneCell'=true/\b.tv.oneCell'=true:=by rw[d6,o,m];exact⟨rfl,rfl,rfl⟩
 clear d6 d7 o d5 m
 have h1:=hm.perm (RS':=zP b.pv b.params::(yo b.ov b.ops::xg b.tv b.tos::(wI b.ops++ve b.tos)++(zd gv gl::rest))) (by
  classical
  refine Jp.2 fun y=>?_
  simp only[BT.rows,ad0,Nb,Nf]
  omega)
 clear hm
 conv=>arg 2;whnf
 refine wp_seq_k fun K2 hK2=>?_
 refine aev hT c.ps c.pl h1 _ _ _ _ _ _ _ _ _ _ _ _ _ _ _ _ _ _ _ _ _ _ _ _ _ _ _ _ _ _ _ _ _ _ _ _ _ _ _ _ _ _ _ _ _ _ _ _ _ _ _ _ _ _ _ _ _ _ _ _ _ _ _ _ _ _ _ _ _ _ _ _ _ _ _ _ _ _ _ _ _ _ _ _ _ _ _ _ _ _ _ _ _ _ _ _ _ _ _ _ _ _ _ _ _ _ _ _ _ _ _ _ _ _ _ _ _ _ _ _ _ _ _ _ _ _ _ _ _ _ _ _ _ _ _ _ _ _ _ _ _ _ _ _ _ _ _ _ _ _ _ _ _ _ _ _ _ _ _ _ _ _ _ _ _ _ _ _ _ _ _ _ _ _ _ _ _ _ _ _ _ _ _ _ _ _ _ _ _ _ _ _ _ _ _ _ _ _ _ _ _ _ _ _ _ _ _ _ _ _ _ _ _ _ _ _ _ _ _ _ _ _ _ _ _ K2 _ ?_;clear h1;intro y11 y53 y54 y55 y56 y57 y58 y59 y60 y61 y62 y63 y64 y65 y66 y67 y68 y69 y70 wy h2;refine hK2 _ _ ?_;clear hK2
 have h3:=h2.perm (RS':=yo b.ov b.ops::(wI b.ops++(zP b.pv (rnL T b.params)::xg b.tv b.tos::ve b.tos++(zd gv gl::rest)))) (by
  classical
  refine Jp.2 fun y=>?_
  simp only[BT.rows,ad0,Nb,Nf]
  omega)
 clear h2;refine wp_seq_k fun K3 hK3=>?_
 refine rn_ops hT c.os c.ol h3 _ _ _ _ _ _ _ _ _ _ _ _ _ _ _ _ _ _ _ _ _ _ _ _ _ _ _ _ _ _ _ _ _ _ _ _ _ _ _ _ _ _ _ _ _ _ _ _ _ _ _ _ _ _ _ _ _ _ _ _ _ _ _ _ _ _ _ _ _ _ _ _ _ _ _ _ _ _ _ _ _ _ _ _ _ _ _ _ _ _ _ _ _ _ _ _ _ _ _ _ _ _ _ _ _ _ _ _ _ _ _ _ _ _ _ _ _ _ _ _ _ _ _ _ _ _ _ _ _ _ _ _ _ _ _ _ _ _ _ _ _ _ _ _ _ _ _ _ _ _ _ _ _ _ _ _ _ _ _ _ _ _ _ _ _ _ _ _ _ _ _ _ _ _ _ _ _ _ _ _ _ _ _ _ _ _ _ _ _ _ _ _ _ _ _ _ _ _ _ _ _ _ _ _ _ _ _ _ _ _ _ _ _ _ _ _ _ _ _ _ _ _ _ _ _ K3 _ ?_;clear h3;intro y12 y13 y14 y15 y71 y72 y73 y74 y75 y76 y77 y78 y79 y80 y81 y82 y83 y84 y85 y86 y87 y88 y89 y90 y91 y92 y93 y94 y95 y96 y97 y98 y99 y100 y101 y102 y103 y104 y105 y106 y107 y108 y109 y110 y111 y112 y113 y114 y115 y116 y117 y118 y119 y120 y121 y122 y123 y124 y125 y126 y127 y128 y129 y130 y131 y132 y133 y134 y135 y136 y137 wz_ h4;refine hK3 _ _ ?_;clear hK3
 have h5:=h4.perm (RS':=xg b.tv b.tos::(ve b.tos++(zd gv gl::(zP b.pv (rnL T b.params)::yo b.ov (b.ops.map (gO_ T))::wI (b.ops.map (gO_ T))++rest)))) (by
  classical
  refine Jp.2 fun y=>?_
  simp only[BT.rows,ad0,Nb,Nf]
  omega)
 clear h4;refine rn_term hT hn c.es c.el A1 c.ta s7 (nb:=ad0 T n b) rfl h5 _ _ _ _ _ _ _ _ _ _ _ _ _ _ _ _ _ _ _ _ _ _ _ _ _ _ _ _ _ _ _ _ _ _ _ _ _ _ _ _ _ _ _ _ _ _ _ _ _ _ _ _ _ _ _ _ _ _ _ _ _ _ _ _ _ _ _ _ _ _ _ _ _ _ _ _ _ _ _ _ _ _ _ _ _ _ _ _ _ _ _ _ _ _ _ _ _ _ _ _ _ _ _ _ _ _ _ _ _ _ _ _ _ _ _ _ _ _ _ _ _ _ _ _ _ _ _ _ _ _ _ _ _ _ _ _ _ _ _ _ _ _ _ _ _ _ _ _ _ _ _ _ _ _ _ _ _ _ _ _ _ _ _ _ _ _ _ _ _ _ _ _ _ _ _ _ _ _ _ _ _ _ _ _ _ _ _ _ _ _ _ _ _ _ _ _ _ _ _ _ _ _ _ _ _ _ _ _ _ _ _ _ _ _ _ _ _ _ _ _ _ _ _ K Q ?_;clear h5;intro gv' y16 y17 y18 y138 y139 y140 y141 y142 y143 y144 y145 y146 y147 y148 y149 y150 y151 y152 y153 y154 y155 y156 y157 y158 y159 y160 y161 y162 y163 y164 y165 y166 y167 y168 y169 y170 y171 y172 y173 y174 y175 y176 y177 y178 y179 y180 y181 y182 y183 y184 y185 y186 y187 y188 y189 y190 y191 y192 y193 y194 y195 y196 y197 y198 y199 y200 y201 y202 y203 y204 y205 y206 y207 y208 y209 y210 y211 y212 y213 y214 y215 y216 y217 y218 y219 y220 y221 wv h6;refine hK gv' _ _ _ _ _ _ _ _ _ _ _ _ _ _ _ _ _ _ _ _ _ _ _ _ _ _ _ _ _ _ _ _ _ _ _ _ _ _ _ _ _ _ _ _ _ _ _ _ _ _ _ _ _ _ _ _ _ _ _ _ _ _ _ _ _ _ _ _ _ _ _ _ _ _ _ _ _ _ _ _ _ _ _ _ _ _ _ _ _ _ _ _ _ _ _ _ _ _ _ _ _ _ _ _ _ _ _ _ _ _ _ _ _ _ _ _ _ _ _ _ _ _ _ _ _ _ _ _ _ _ _ _ _ _ _ _ _ _ _ _ _ _ _ _ _ _ _ _ _ _ _ _ _ _ _ _ _ _ _ _ _ _ _ _ _ _ _ _ _ _ _ _ _ _ _ _ _ _ ?_
 exact h6.perm (by
  classical
  refine Jp.2 fun y=>?_
  simp only[BT.rows,ad0,Nb,Nf]
  omega)
structure RwK (n:Nat) (b:IBlk):Prop where
 ps:(∀x∈b.params,Sm6 x)/\b.params.length<=1000000
 os:(∀o∈b.ops,Sm6 o.res/\Sm6 o.a/\Sm6 o.b/\(∀x∈o.args,Sm6 x)/\o.args.length<=1000000)/\b.ops.length<=1000000
 ta:Sm6 b.term.a
 es:(∀e∈b.term.to,(1<=e.block/\e.block<(n:Int))/\(∀x∈e.args,Sm6 x)/\e.args.length<=1000000)/\b.term.to.length<=1000000
def RwF (f:List IBlk):Prop:=f.length<=1000000/\∀b∈f,RwK f.length b
theorem RwK.bt {n:Nat}{b:BT}(h:RwK n b.blk):RwB n b:=by
 refine⟨h.ps.1,h.ps.2,fun q hq=>h.os.1 q.1 (Nu.2 ⟨q,hq,rfl⟩),?_,h.ta,fun q hq=>h.es.1 q.1 (Nu.2 ⟨q,hq,rfl⟩),?_⟩
 ·have:=h.os.2;unfold BT.blk at this
  simpa using this
 ·have:=h.es.2;unfold BT.blk at this
  simpa using this
def btN:BT:=⟨[],O,[],O,0,0,[],O⟩
def blS (T:Int)(n:Nat)(bs:List BT)(i:Nat):List BT:=bs.mapIdx fun j b=>if rnP n j<i then ad0 T n b else b
def glS (T:Int)(n:Nat)(bs:List BT)(i:Nat):List BT:=(List.range i).map fun j=>ad0 T n (bs.getD (rnP n j) btN)
theorem blS_len (T:Int)(n:Nat)(bs:List BT)(i:Nat):(blS T n bs i).length=bs.length:=List.length_mapIdx
theorem aew (T:Int)(n:Nat)(bs:List BT)(i:Nat):(glS T n bs i).length=i:=by unfold glS;rw[Nr,Un]
theorem blS_zero (T:Int)(n:Nat)(bs:List BT):blS T n bs 0=bs:=by
 refine Oq fun j=>?_
 unfold blS;rw[List.getElem?_mapIdx]
 cases bs[j]? with
 |none=>rfl
 |some b=>rfl
theorem blS_get{T:Int}{n:Nat}{b:BT}(hi:i<n)(hb:bs[rnP n i]? =some b):(blS T n bs i)[rnP n i]? =some b:=by
 unfold blS;rw[List.getElem?_mapIdx,hb]
 show some (if rnP n (rnP n i)<i then ad0 T n b else b)=some b
 rw[aaV hi,if_neg (Nat.lt_irrefl _)]
theorem blS_set{T:Int}{n:Nat}{b:BT}(hi:i<n)(g:bs.length=n)(hb:bs[rnP n i]? =some b):(blS T n bs i).set (rnP n i) (ad0 T n b)=blS T n bs (i+1):=by
 refine Oq fun j=>?_
 rw[Ov]
 by_cases d:rnP n i=j
 ·subst d;rw[if_pos rfl,if_pos (by rw[blS_len,g];exact abS Zo)];unfold blS;rw[List.getElem?_mapIdx,hb]
  show some (ad0 T n b)=some (if rnP n (rnP n i)<i+1 then ad0 T n b else b)
  rw[aaV hi,if_pos Zo]
 ·rw[if_neg d];unfold blS;rw[List.getElem?_mapIdx,List.getElem?_mapIdx]
  cases l:bs[j]? with
  |none=>rfl
  |some c=>
   have k:j<n:=by rw[<-g];exact(Jh.1 l).1
   show some (if rnP n j<i then ad0 T n c else c)=some (if rnP n j<i+1 then ad0 T n c else c)
   have m:rnP n j≠i:=fun e=>d (by rw[<-e,aaV k])
   by_cases h:rnP n j<i
   ·rw[if_pos h,if_pos Zo]
   ·rw[if_neg h,if_neg Zo]
theorem blS_full{T:Int}{n:Nat}(g:bs.length=n):blS T n bs n=bs.map (ad0 T n):=by
 refine Oq fun j=>?_
 unfold blS;rw[List.getElem?_mapIdx,Jr]
 cases d:bs[j]? with
 |none=>rfl
 |some c=>
  have h:j<n:=by rw[<-g];exact(Jh.1 d).1
  show some (if rnP n j<n then ad0 T n c else c)=some (ad0 T n c)
  rw[if_pos (abS Zo)]
theorem glS_succ{T:Int}{n:Nat}{b:BT}(hb:bs[rnP n i]? =some b):glS T n bs (i+1)=glS T n bs i++ [ad0 T n b]:=by
 unfold glS;rw[List.range_succ,Js]
 show _++ [ad0 T n (bs.getD (rnP n i) btN)]=_
 rw[Jj,hb];rfl
theorem glS_perm{T:Int}{n:Nat}(i:bs.length=n):(glS T n bs n).Perm (bs.map (ad0 T n)):=by
 have h:=(rnP_perm n).map (fun j=>ad0 T n (bs.getD j btN));rw[List.map_map] at h
 have e:(List.range n).map (fun j=>ad0 T n (bs.getD j btN))=bs.map (ad0 T n):=by
  refine Oq fun j=>?_
  rw[Jr,Jr]
  by_cases g:j<n
  ·rw[Oh g];obtain⟨c,d⟩:∃c,bs[j]? =some c:=⟨_,Jd Zo⟩
   rw[d]
   show some (ad0 T n (bs.getD j btN))=some (ad0 T n c)
   rw[Jj,d];rfl
  ·rw[Of Zt,Of Zo];rfl
 rw[e] at h;exact h
theorem rnBT_blk (T:Int)(n:Nat)(b:BT):(ad0 T n b).blk=rnB T n b.blk:=by
 unfold ad0 rnB BT.blk rnT rnA;simp only[List.map_map];rfl
theorem glS_fn{T:Int}{n:Nat}(d:bs.length=n):(glS T n bs n).map BT.blk=abC T (bs.map BT.blk):=by
 unfold glS abC;rw[List.map_map,Nr,d];refine Up fun j hj=>?_
 have h:j<n:=Ol.1 hj
 show(ad0 T n (bs.getD (rnP n j) btN)).blk=_
 rw[rnBT_blk]
 congr 1
 rw[Jj,Jj,Jr];obtain⟨c,g⟩:∃c,bs[rnP n j]? =some c:=⟨_,Jd (by rw[d];exact abS Zo)⟩
 rw[g];rfl
theorem aeq{P:Program}{s:Code}{R:Exit->Act->World->Prop}{a:Act}(h:s.wp P (Exit.then (fun a w=>R .normal a w) R) a w):s.wp P R a w:=
 wp_mono h fun e a' w' hq=>by cases e<;>exact hq
theorem FnOk.num{p:IProg}{f:List IBlk}(h:FnOk p f){v:Int}{k:Int}(hk:KnS f v i k):0<=v/\v<=65535:=by
 obtain⟨b,a,c,_⟩:=hk;have hm:=fB.mem (T:=65535) h (fun v hv=>(h.rng v hv).2) Zd c;exact h.rng v hm.1
theorem FnOk.rwk {p:IProg}{f:List IBlk}(h:FnOk p f)(hp:p.funcs.length<=15000/\p.data.length<=15000){b:IBlk}(hb:b∈f)(hs:SmB 15000 b):RwK f.length b:=by
 obtain⟨i,hi⟩:=Ny hb;refine⟨⟨fun x c=>?_,by have:=hs.par;omega⟩,⟨fun o ho=>?_,by have:=hs.ops;omega⟩,?_,⟨fun e he=>⟨?_,fun x c=>?_,by have:=hs.earg e he;omega⟩,by have:=hs.tos;omega⟩⟩
 ·have:=h.rng x (Qx.2 ⟨b,hb,Jz _ c⟩);unfold Sm6;omega
 ·obtain⟨j,w⟩:=Ny ho;have l:∀v∈rR o,0<=v/\v<=65535:=fun v hv=>h.num (h.use i b hi j o w v hv)
  have d:=h.ops b hb o ho;have r:0<=o.res->o.res<=65535:=fun h0=>(h.rng _ (acO hb ho h0)).2
  have y:(zi o.code).a=true->0<=o.a/\o.a<=65535:=fun e=>l _ (by unfold rR;rw[if_pos e];exact Jz _ (Jz _ (.head _)))
  have u:(zi o.code).b=true->0<=o.b/\o.b<=65535:=fun e=>l _ (by unfold rR;rw[if_pos e];exact Jz _ (Qf _ (.head _)))
  have g:∀x∈o.args,Sm6 x:=fun x c=>by
   have:=l x (Qf _ c);unfold Sm6;omega
  have t:-1<=o.res/\(-1000000<=o.a/\o.a<=1000000)/\(-1000000<=o.b/\o.b<=1000000):=by
   unfold opF at d;rw[Jm] at d;have h2:=d.2
   split at h2
   ·simp only[Jm,decide_eq_true_eq] at h2;omega
   ·split at h2
    ·simp only[Jm,decide_eq_true_eq] at h2;omega
    ·simp only[Jm,Bool.or_eq_true,decide_eq_true_eq] at h2;obtain⟨⟨⟨⟨⟨⟨_,h3⟩,k⟩,h5⟩,_⟩,_⟩,_⟩:=h2;refine⟨h3,?_,?_⟩
     ·rcases k with e|e
      ·have:=y e;omega
      ·omega
     ·rcases h5 with e|e
      ·have:=u e;omega
      ·omega
  refine⟨?_,t.2.1,t.2.2,g,by have:=hs.oarg o ho;omega⟩;unfold Sm6;rcases Int.lt_or_le o.res 0 with e|e
  ·have:=t.1;omega
  ·have:=r e;omega
 ·have m:=h.term b hb;have c:ut b.term=true->0<=b.term.a/\b.term.a<=65535:=fun e=>h.num (h.tuse i b hi _ (by unfold mE;rw[if_pos e];exact Jz _ (.head _)))
  unfold wn at m;rw[Jm] at m;have h2:=m.2;unfold Sm6
  by_cases e:ut b.term=true
  ·have:=c e;omega
  ·unfold ut at e;simp only[Bool.or_eq_true,Jm,decide_eq_true_eq,not_or,not_and,Classical.not_not] at e
   by_cases h1:b.term.kind=1
   ·rw[if_pos h1] at h2;simp only[Jm,decide_eq_true_eq] at h2;omega
   ·rw[if_neg h1,if_neg e.1,if_neg e.2.1] at h2
    by_cases k:b.term.kind=4
    ·have:=e.2.2 k;omega
    ·rw[if_neg k] at h2
     split at h2
     ·simp only[Jm,decide_eq_true_eq] at h2;omega
     ·cases h2
 ·exact(FnOk.rnB (T:=65535) h (fun v hv=>(h.rng v hv).2) Zd hb).edg e he
 ·have:=h.num (h.tuse i b hi x (by
   unfold mE
   exact Qf _ (List.mem_flatten.2 ⟨e.args,Nu.2 ⟨e,he,rfl⟩,c⟩)))
  unfold Sm6;omega
theorem aep (s:List Int):∀f∈(uR s).funcs,RwF f:=fun f hf=>by
 obtain⟨k,hk⟩:=Ny hf;have hm:=acK s;rcases acF s hk with e|⟨h1,_,_⟩
 ·subst e;exact⟨by simp,fun b hb=>by cases hb⟩
 ·exact⟨by have:=(hm.fs f hf).1;omega,fun b hb=>h1.rwk ⟨hm.fn,hm.da⟩ hb ((hm.fs f hf).2 b hb)⟩
theorem RwMid.start{w2:World}{o:Obj}(d:w.heap.size=p1)(g:w2.heap.size=o5)
 (hr:Rows w2 ((w.alloc o).alloc (U #[O,O,A 0,A 0,O,O] 29)).heap.size t.rows)
 (hb:F ((w.alloc o).alloc (U #[O,O,A 0,A 0,O,O] 29)) w2):
 RwMid w p1 o5 (zW t) [] t.rows (w2.alloc (U (zW t).toArray 29)):=by
 subst d g;have hs:((w.alloc o).alloc (U #[O,O,A 0,A 0,O,O] 29)).heap.size=w.heap.size+1+1:=by simp
 have h1:=zI (W:=w.alloc o) (o:=U #[O,O,A 0,A 0,O,O] 29) (B:=w.heap.size+1) Zs;have h3:F w ((w.alloc o).alloc (U #[O,O,A 0,A 0,O,O] 29)):=((Below.refl _ _).alloc (Je _) _).alloc Zs _;have c:=hb.size;rw[hs] at hr hb c;have h:∀k,k∈t.rows.filterMap Row.blk->k<w2.heap.size:=fun k hk=>(hr.lt hk).2
 refine⟨zB (zH hb h1 Zo),zI rfl,fun x hx=>(List.not_mem_nil hx).elim,?_,rfl,?_,fun e=>by have:=h _ e;omega,List.nodup_nil,by omega⟩
 ·exact(h3.trans (hb.mono Zo)).alloc Zo _
 ·exact hr.below ((Below.refl _ _).alloc (Je _) _)
theorem RwMid.ret{BX:List (Nat×List Value×TypeId)}{RS:List Row}(h:RwMid w p1 o5 pc BX RS wx)(i:∃RX,RS.Perm (t.rows++RX))(j:pc=zW t){v0 v1 v2 v3 v4 v5:Value}(g:(zW t).toArray=#[v0,v1,v2,v3,v4,v5]){p:IProg}(hp:t.prog=p):
 aex w p (.returned (.agg #[v0,v1,v2,v3,v4,v5])) ((((((wx.setCell ⟨p1+1,0,none⟩ v0).setCell ⟨p1+1,1,none⟩ v1).setCell ⟨p1+1,2,none⟩ v2).setCell ⟨p1+1,3,none⟩ v3).setCell ⟨p1+1,4,none⟩ v4).setCell ⟨p1+1,5,none⟩ v5):=by
 have e:zW t=[v0,v1,v2,v3,v4,v5]:=congrArg Array.toList g;unfold zW at e;simp only[List.cons.injEq,and_true] at e;obtain⟨rfl,rfl,rfl,rfl,rfl,rfl⟩:=e;obtain⟨RX,d⟩:=i;refine⟨t,rfl,hp,?_,?_⟩
 ·have hb:=h.base;refine((h.rows.perm d).left.base (show w.heap.size<=p1+1+1 by omega)).keep fun k hk=>?_
  have c:k≠p1+1:=fun e=>by have:=((h.rows.perm d).left.lt hk).1;omega
  exact(Below.heap_setCell _ _ _ _ c).trans ((Below.heap_setCell _ _ _ _ c).trans ((Below.heap_setCell _ _ _ _ c).trans ((Below.heap_setCell _ _ _ _ c).trans ((Below.heap_setCell _ _ _ _ c).trans (Below.heap_setCell _ _ _ _ c)))))
 ·have hb:=h.bel;rw[h.base] at hb ⊢;exact(((((hb.setCell (by show w.heap.size<=w.heap.size+1;omega) _).setCell (by show w.heap.size<=w.heap.size+1;omega) _).setCell (by show w.heap.size<=w.heap.size+1;omega) _).setCell (by show w.heap.size<=w.heap.size+1;omega) _).setCell (by show w.heap.size<=w.heap.size+1;omega) _).setCell (by show w.heap.size<=w.heap.size+1;omega) _
def aeu (t:PT)(fs:List FT):List Row:=wY t.fv fs::zP t.av t.args::vK t.dv t.data:: [v8 t.bv t.banks]
theorem ael{V:PV}{p:IProg}(hp:ProgIn w w.heap.size V p)(hs:SmallP p){T:Int}(hT:0<=T/\T<=65535)(f6:∀f∈p.funcs,RwF f):
 Y 30 #[yH V p,A T] w (aex w (rnF T p)):=by
 obtain⟨fa,fc,d6,o,i6⟩:=hp.funcs.form;obtain⟨aa,ac,e5,j4,j3⟩:=hp.args.form;obtain⟨da,dc,d8,j0,i7⟩:=hp.data.form;obtain⟨ba,bc,e3,a0,j2⟩:=hp.banks.form;obtain⟨p1,i1⟩:∃p1,w.heap.size=p1:=⟨_,rfl⟩
 have d1:∀W,Below w.heap.size w W->Y 36 #[.agg (R p fa fc aa ac da dc ba bc)] W _:=fun W hb=>by
  have h:=uJ ((hp.below hb).mono hb.size) hs;unfold yH at h;rw[d6,e5,d8,e3] at h;exact h
 unfold yH;rw[d6,e5,d8,e3];have g1:Below w.heap.size w ((w.alloc (U (R p fa fc aa ac da dc ba bc) 29)).alloc (U #[O,O,A 0,A 0,O,O] 29)):=((Below.refl _ _).alloc (Je _) _).alloc Zs _;have H6:=hs.fn.1;have h6:=Ja d1;have k5:=Ja g1;have k3:=Ja f6;clear d1 g1 hp hs d6 e5 d8 e3 o i6 j4 j3 j0 i7 a0 j2 f6;go_enter Try.func30,Try.ntmps30;go_upto_region 2 with(go_at_call 36;go_must (refine(h6.out _ k5.out).mono ?_;rintro e w2 ⟨t,a6,a5,aa2,ac2,b0,a7,ba2,bc2,rfl,hV,ht,hr,hb⟩;have HT:=Ja (Jb hV (Jb ht (Jb hr hb)));clear hV ht hr hb))
 have a2:t.entry=p.entry/\t.handler=p.handler:=by rw[<-HT.out.2.1];exact⟨rfl,rfl⟩
 have b6:(zW t).toArray=R p a6 a5 aa2 ac2 b0 a7 ba2 bc2:=by
  unfold zW;rw[HT.out.1.1,HT.out.1.2.1,HT.out.1.2.2.1,HT.out.1.2.2.2,a2.1,a2.2]
 obtain⟨o5,d2⟩:∃o5,w2.heap.size=o5:=⟨_,rfl⟩
 have hm:RwMid w p1 o5 (zW t) [] t.rows (w2.alloc (U (zW t).toArray 29)):=RwMid.start i1 d2 HT.out.2.2.1 HT.out.2.2.2;rw[b6] at hm;have G8:t.funcs.length=p.funcs.length:=by rw[<-HT.out.2.1];unfold PT.prog;simp
 have HM:=Ja hm;have HC:=Ja b6;generalize j5:w2.alloc (U (R p a6 a5 aa2 ac2 b0 a7 ba2 bc2) 29)=W3 at *;rw[d2];clear j5 d2 a2 b6 hm;go_wp2
 go_loopw [6] (fun kv wx=>∃(k:Nat) (ds:List FT),k<=p.funcs.length/\kv=A k/\ds.length=k/\ds.map FT.fn=(t.funcs.take k).map (fun F=>abC T F.fn)/\Hid (RwMid w p1 o5 (zW t) [] (aeu t (ds++t.funcs.drop k)++(ds++t.funcs.drop k).flatMap FT.rows) wx)) (fun kv _=>p.funcs.length-(intOf kv).toNat)
 case atStart=>exact⟨0,[],Jt _,rfl,rfl,rfl,HM⟩
 case round=>
  obtain⟨k,ds,hk,rfl,e0,b2,HK⟩:=hrel;have c:=HK.out.ho;rw[HC.out] at c;have o0_:G wr o5 0 (.slice a6 p.funcs.length a5):=zA (i:=0) c rfl;have ol:=lt_of_block c
  by_cases i2:k<p.funcs.length
  ·obtain⟨F,hF⟩:∃F,t.funcs[k]? =some F:=⟨_,Jd Zo⟩
   obtain⟨dr_,d9⟩:∃dr_,t.funcs.drop (k+1)=dr_:=⟨_,rfl⟩
   have b1:t.funcs.drop k=F::dr_:=by
    obtain⟨i4,rfl⟩:=Jh.1 hF;rw[<-d9];exact Qn i4
   have d3:=HK.out;rw[b1] at d3;obtain⟨n,a4⟩:∃n,F.blks.length=n:=⟨_,rfl⟩
   obtain⟨RS0,b3⟩:∃RS0,zd F.bv F.blks::(aeu t (ds++F::dr_)++(ds.flatMap FT.rows++dr_.flatMap FT.rows))=RS0:=⟨_,rfl⟩
   have b5:RwF F.fn:=k3.out _ (by
    rw[<-HT.out.2.1]
    exact Nu.2 ⟨F,Ji hF,rfl⟩)
   have hn:n<=1000000:=by
    have:=b5.1;unfold FT.fn at this;rw[Nr,a4] at this;exact this
   have c9:∀b∈F.blks,RwB n b:=fun b hb=>by
    have h:=b5.2 b.blk (Nu.2 ⟨b,hb,rfl⟩);unfold FT.fn at h;rw[Nr,a4] at h;exact h.bt
   have c8:=d3.perm (RS':=F.blks.flatMap BT.rows++RS0) (by
    rw[<-b3]
    classical
    refine Jp.2 fun y=>?_
    simp only[Nx,Qa,FT.rows,Nb,Nf]
    omega)
   have e6:wY t.fv (ds++F::dr_)∈RS0:=by rw[<-b3];exact .tail _ (Jz _ (.head _))
   have e7:zd F.bv F.blks∈RS0:=by rw[<-b3];exact .head _
   have e1:(ds++F::dr_)[k]? =some F:=by rw[Nc Zo,e0,Qy];rfl
   obtain⟨b4,H7,g5,o,_,A8,f8⟩:=c8.getS (f:=fun x:FT=> [x.bv]) (n:=1) Zd (fun _=>rfl) (r:=wY t.fv (ds++F::dr_)) (Qf _ e6) ⟨rfl,rfl,Qh⟩ e1
   have k1:a6=some ⟨b4,0,none⟩:=by
    have h:t.fv=_:=g5;rw[HT.out.1.1] at h
    injection h
   subst k1;obtain⟨bga,bgc,g6⟩:=zG (c8.rows.own _ (Qf _ e7));have b9:F.bv=.slice bga n bgc:=by rw[<-a4];exact g6
   have f0:G wr b4 k (.slice bga n bgc):=by have h:=o 0 _ rfl;rw[Nk] at h;rw[<-b9];exact h
   have i3:(k:Int)<(p.funcs.length:Int):=Zo;have m:=(c8.box [O] 43).nil (r:=zd (O) []) (Jv _ _ _ _) rfl;have g9:=Ja m;have HF:=Ja (Jb hF (Jb b1 (Jb b3 (Jb e6 (Jb e7 (Jb e1 (Jb c9 (Jb f8 b9))))))));have HD:=Ja (Jb e0 (Jb b2 d9));clear d3 b5 c8 e6 e7 e1 g5 o f8 g6 b9 m hF b1 b3 c9 c e0 b2 d9 HK;go_upto_region 7 with fail;obtain⟨e9,h8⟩:∃g,wr.heap.size=g:=⟨_,rfl⟩
   rw[h8] at g9 ⊢;clear h8;generalize wr.alloc (U #[O] 43)=W1 at *;clear o0_ ol f0;go_wp2
   go_loopw [9] (fun iv wz_=>∃(i:Nat) (gv:Value),i<=n/\iv=A i/\Hid (RwMid w p1 o5 (zW t) [(e9,[gv],43)] (zd gv (glS T n F.blks i)::((blS T n F.blks i).flatMap BT.rows++RS0)) wz_)) (fun iv _=>n-(intOf iv).toNat)
   case atStart=>exact⟨0,_,Jt _,rfl,by rw[blS_zero];exact g9⟩
   case round=>
    obtain⟨i,gv,hi,rfl,HI⟩:=hrel;have c:=HI.out.ho;rw[HC.out] at c;have o0_:G wr o5 0 (N b4 p.funcs.length a5):=zA (i:=0) c rfl;have ol:=lt_of_block c;obtain⟨o,d7,A9⟩:=HI.out.readS (f:=fun x:FT=> [x.bv]) (n:=1) Zd (fun _=>rfl) (r:=wY t.fv (ds++F::dr_)) (.tail _ (Qf _ HF.out.2.2.2.1)) ⟨rfl,rfl,Qh⟩ HF.out.2.2.2.2.2.2.2.1 HF.out.2.2.2.2.2.1;have f0:G wr b4 k (.slice bga n bgc):=by have h:=o 0 _ rfl;rw[Nk] at h;rw[<-HF.out.2.2.2.2.2.2.2.2];exact h
    have ff:wr.frozen? ⟨b4,k,none⟩=false:=by have h:=d7 0 Zd;rw[Nk] at h;exact h
    by_cases a1:i<n
    ·obtain⟨r,hr⟩:∃r,rnP n i=r:=⟨_,rfl⟩
     have G9:r<n:=by rw[<-hr];exact abS Zo
     obtain⟨b,hb⟩:∃b,F.blks[r]? =some b:=⟨_,Jd Zo⟩
     have e4:(blS T n F.blks i)[r]? =some b:=by rw[<-hr];exact blS_get a1 (by rw[hr];exact hb)
     have H1:IntKind.i64.wrap ((n:Int)-(i:Int))=(n:Int)-(i:Int):=Om _ Zo;have H0:((n:Int)-(i:Int)).tmod (n:Int)=(r:Int):=by rw[<-hr];exact rnP_tmod a1
     have H5:(i:Int)<(n:Int):=Zo;have H2:0<(n:Int):=Zo;have H4:¬n=0:=Zo;have A7:(r:Int)<(n:Int):=Zo;obtain⟨bg,bc3,f3,a0,_,B0,j1⟩:=HI.out.getS (f:=zz) (n:=5) Zd (fun _=>rfl) (r:=zd F.bv F.blks) (.tail _ (Qf _ HF.out.2.2.2.2.1)) ⟨rfl,rfl,rfl⟩ hb
     have k2:bga=some ⟨bg,0,none⟩:=by
      have h:F.bv=_:=f3;rw[HF.out.2.2.2.2.2.2.2.2] at h
      injection h
     subst k2
     have m:=HI.out.perm (RS':=zd gv (glS T n F.blks i)::(b.rows++(((blS T n F.blks i).eraseIdx r).flatMap BT.rows++RS0))) (by
      refine List.Perm.cons _ ?_;rw[<-Nv]
      exact(ad4 BT.rows e4).append_right RS0)
     obtain⟨pa,f4,f2⟩:=m.formI (v:=b.pv) (xs:=b.params) (.tail _ (.head _));obtain⟨oa,oc,g3⟩:=zG (m.rows.own (yo b.ov b.ops) (.tail _ (.tail _ (.head _))));obtain⟨ta,tc,g2⟩:=zG (m.rows.own (xg b.tv b.tos) (.tail _ (.tail _ (.tail _ (.head _)))));have b8:b.ov=.slice oa b.ops.length oc:=g3;have b7:b.tv=.slice ta b.tos.length tc:=g2;have c0:G wr bg (r*5) (.slice pa b.params.length f4):=by rw[<-f2];exact a0 0 _ rfl
     have c1:G wr bg (r*5+1) (.slice oa b.ops.length oc):=by rw[<-b8];exact a0 1 _ rfl
     have c2:G wr bg (r*5+2) (A b.kind):=a0 2 _ rfl;have c3:G wr bg (r*5+3) (A b.a):=a0 3 _ rfl;have c4:G wr bg (r*5+4) (.slice ta b.tos.length tc):=by rw[<-b7];exact a0 4 _ rfl
     have a3:zz b=[.slice pa b.params.length f4,.slice oa b.ops.length oc,A b.kind,A b.a,.slice ta b.tos.length tc]:=by unfold zz;rw[f2,b8,b7]
     have d5:=(m.box (zz b) 49).below (Below.refl _ _).drew;rw[a3] at d5;have c7:glS T n F.blks (i+1)=glS T n F.blks i++ [ad0 T n b]:=glS_succ (by rw[hr];exact hb);have d0:(blS T n F.blks i).set r (ad0 T n b)=blS T n F.blks (i+1):=by rw[<-hr];exact blS_set a1 a4 (by rw[hr];exact hb)
     have HB:=Ja (Jb d5 (Jb c7 (Jb d0 (Jb e4 (Jb a3 (HF.out.2.2.2.2.2.2.1 b (Ji hb)))))));clear o d7 a0 m d5 f2 g3 b8 g2 b7 f3 j1 hb e4 a3 c7 d0 hr a1 c;go_upto_region 10 with fail
     rename_i e8
     have h7:=Ja e8;clear e8
     go_region
     all_goals refine h7.out _ _ ?_
     all_goals refine aeq ?_
     all_goals refine rn_block (gl:=glS T n F.blks i) hT hn HB.out.2.2.2.2.2 (by rw[aew];omega) (by rw[HB.out.2.2.2.2.1];exact HB.out.1) _ _ _ _ _ _ _ _ _ _ _ _ _ _ _ _ _ _ _ _ _ _ _ _ _ _ _ _ _ _ _ _ _ _ _ _ _ _ _ _ _ _ _ _ _ _ _ _ _ _ _ _ _ _ _ _ _ _ _ _ _ _ _ _ _ _ _ _ _ _ _ _ _ _ _ _ _ _ _ _ _ _ _ _ _ _ _ _ _ _ _ _ _ _ _ _ _ _ _ _ _ _ _ _ _ _ _ _ _ _ _ _ _ _ _ _ _ _ _ _ _ _ _ _ _ _ _ _ _ _ _ _ _ _ _ _ _ _ _ _ _ _ _ _ _ _ _ _ _ _ _ _ _ _ _ _ _ _ _ _ _ _ _ _ _ _ _ _ _ _ _ _ _ _ _ _ _ _ _ _ _ _ _ _ _ _ _ _ _ _ _ _ _ _ _ _ _ _ _ _ _ _ _ _ _ _ _ _ _ _ _ _ _ _ _ _ _ _ _ _ _ _ _ _ _ ?_
     all_goals intro k0 G7 G6 G5 G4 G3 G2 G1 G0 F9 F8 F7 F6 F5 F4 F3 F2 F1 F0 E9 E8 E7 E6 E5 E4 E3 E2 E1 E0 D9 D8 D7 D6 D5 D4 D3 D2 D1 D0 C9 C8 C7 C6 C5 C4 C3 C2 C1 C0 B9 B8 B7 B6 B5 B4 B3 A6 A5 A4 A3 A2 A1 A0 z6 z5 z4 z3 z2 z1 z0 y7 y6 y5 y4 y3 y2 y1 y0 x9 x8 x7 x6 x5 x4 x3 x2 x1 x0 w9 w8 w7 w6 w5 w4 w3 w1 w0 v9 v6 u9 u8 u6 u5 u4 u3 u2 u1 u0 t8 t7 t6 t5 t4 t3 t2 s8 s7 s6 s5 s4 s3 s2 s1 s0 r6 q9 q8 q7 q6 q5 q4 q3 q2 q1 p6 p5 p4 p3 p2 p0 o9 o6 o4 o3 o2 o1 o0 n9 n8 n7 n6 n5 n4 n3 n2 n1 n0 m7 m6 m5 m4 m3 m2 m1 m0 l9 l8 l7 l6 l5 l4 l3 l2 l1 l0 k9 k7 k6 wy hh
     all_goals have HE:=Ja hh
     all_goals clear hh
     all_goals go_wp2
     all_goals have i5:i+1<=n:=Zo
     all_goals refine⟨⟨i+1,k0,i5,by go_num,Ja ?_⟩,by simp[intOf];omega⟩
     all_goals have h9:=HE.out
     all_goals rw[<-HB.out.2.1] at h9
     all_goals refine h9.perm (List.Perm.cons _ ?_)
     all_goals rw[<-Nv]
     all_goals refine List.Perm.append_right _ ?_
     all_goals rw[<-HB.out.2.2.1]
     all_goals exact(aeb BT.rows (Jh.1 HB.out.2.2.2.1).1 _).symm
    ·obtain rfl:i=n:=by omega
     have H3:¬(i:Int)<(i:Int):=Zo;have e2:=(HI.out.bx _ (.head _)).1;obtain⟨d,gvc,g4⟩:=zG (HI.out.rows.own (zd gv (glS T i F.blks i)) (.head _));have h0:gv=.slice d i gvc:=by have h:=g4;unfold zd at h;simp only[aew] at h;exact h
     subst h0;have q0:G wr e9 0 (.slice d i gvc):=zA (i:=0) e2 rfl;have ql:=lt_of_block e2;have h1:=HI.out.few (B1:=[(e9,[.slice d i gvc],43)]) (B2:=[]) rfl;rw[blS_full a4] at h1
     have h2:=h1.perm (RS':=wY t.fv (ds++F::dr_)::(zd (.slice d i gvc) (glS T i F.blks i)::((F.blks.map (ad0 T i)).flatMap BT.rows++(zd F.bv F.blks::(zP t.av t.args::vK t.dv t.data::v8 t.bv t.banks::(ds.flatMap FT.rows++dr_.flatMap FT.rows)))))) (by
      rw[<-HF.out.2.2.1];unfold aeu
      classical
      refine Jp.2 fun y=>?_
      simp only[Nb,Nf,List.count_nil]
      omega)
     have h3:=h2.putS (f:=fun x:FT=> [x.bv]) (n:=1) (fun _=>rfl) (r:=wY t.fv (ds++F::dr_)) (Uq _) ⟨rfl,rfl,Qh⟩ HF.out.2.2.2.2.2.2.2.1 HF.out.2.2.2.2.2.1 (j:=0) (a:=(⟨glS T i F.blks i,.slice d i gvc⟩:FT)) (u:=.slice d i gvc) Zd rfl
     have eset:(ds++F::dr_).set k (⟨glS T i F.blks i,.slice d i gvc⟩:FT)=(ds++ [(⟨glS T i F.blks i,.slice d i gvc⟩:FT)])++dr_:=by
      rw[Uj _ _ (by rw[HD.out.1];exact Je _),HD.out.1,Qy,Nv];rfl
     rw[eset,Nk,Uk] at h3
     have f1:(⟨(wY t.fv (ds++F::dr_)).v,(wY t.fv (ds++F::dr_)).e,1,((ds++ [(⟨glS T i F.blks i,.slice d i gvc⟩:FT)])++dr_).length,((ds++ [(⟨glS T i F.blks i,.slice d i gvc⟩:FT)])++dr_).flatMap fun x:FT=> [x.bv]⟩:Row)=wY t.fv ((ds++ [(⟨glS T i F.blks i,.slice d i gvc⟩:FT)])++dr_):=by
      exact congrArg (Row.mk t.fv 43 1 _) Qh.symm
     rw[f1] at h3
     have h4:=h3.perm (RS':=[zd F.bv F.blks]++(aeu t ((ds++ [(⟨glS T i F.blks i,.slice d i gvc⟩:FT)])++dr_)++((ds++ [(⟨glS T i F.blks i,.slice d i gvc⟩:FT)])++dr_).flatMap FT.rows)) (by
      have hp:=(glS_perm (T:=T) a4).flatMap_right BT.rows;unfold aeu
      classical
      refine Jp.2 fun y=>?_
      have hc:=Jp.1 hp y;simp only[Nx,Qa,List.flatMap_nil,FT.rows,Nb,Nf,List.count_nil,hc]
      omega)
     have h5:=h4.drop rfl
     have f9:(ds++ [(⟨glS T i F.blks i,.slice d i gvc⟩:FT)]).map FT.fn=(t.funcs.take (k+1)).map (fun F=>abC T F.fn):=by
      rw[Nh,HF.out.1,Js,Js,HD.out.2.1]
      show _++ [(glS T i F.blks i).map BT.blk]=_++ [abC T (F.blks.map BT.blk)]
      rw[glS_fn a4]
     have f7:k+1<=p.funcs.length:=Zo;have HE:=Ja (Jb h5 (Jb f9 f7));clear h1 h2 h3 h4 h5 e2 g4 c o d7 a1 f9 eset f1 f7;go_wp2;refine⟨⟨k+1,ds++ [(⟨glS T i F.blks i,.slice d i gvc⟩:FT)],HE.out.2.2,by go_num,by rw[Jk,HD.out.1];rfl,HE.out.2.1,Ja ?_⟩,by have:=HE.out.2.2;simp[intOf];omega⟩;rw[HD.out.2.2];exact HE.out.1
  ·obtain rfl:k=p.funcs.length:=by omega
   have i3:¬(p.funcs.length:Int)<(p.funcs.length:Int):=Zo;have a2:t.entry=p.entry/\t.handler=p.handler:=by rw[<-HT.out.2.1];exact⟨rfl,rfl⟩
   have i0:zW t=[.slice a6 p.funcs.length a5,.slice aa2 p.args.length ac2,A p.entry,A p.handler,.slice b0 p.data.length a7,.slice ba2 p.banks.length bc2]:=congrArg Array.toList HC.out;have c1:G wr o5 1 (.slice aa2 p.args.length ac2):=zA (i:=1) c rfl;have c2:G wr o5 2 (A p.entry):=zA (i:=2) c rfl;have c3:G wr o5 3 (A p.handler):=zA (i:=3) c rfl;have c4:G wr o5 4 (.slice b0 p.data.length a7):=zA (i:=4) c rfl;have c5:G wr o5 5 (.slice ba2 p.banks.length bc2):=zA (i:=5) c rfl;have l:=HK.out.hr;have r0:G wr (p1+1) 0 (O):=zA (i:=0) l rfl;have r1:G wr (p1+1) 1 (O):=zA (i:=1) l rfl;have r2:G wr (p1+1) 2 (A 0):=zA (i:=2) l rfl;have r3:G wr (p1+1) 3 (A 0):=zA (i:=3) l rfl;have r4:G wr (p1+1) 4 (O):=zA (i:=4) l rfl;have r5:G wr (p1+1) 5 (O):=zA (i:=5) l rfl;have rf:∀i,wr.frozen? ⟨p1+1,i,none⟩=false:=fun i=>zE l
   have rl:=lt_of_block l;have g0:t.funcs.drop p.funcs.length=[]:=List.drop_eq_nil_of_le Zo;have f5:t.funcs.take p.funcs.length=t.funcs:=Oy Zo;have d4:=HK.out;rw[g0,Ua] at d4;rw[f5] at b2
   have k4:=Ja (d4.ret (t:= {t with funcs:=ds }) ⟨[],by rw[Ua];exact Uq _⟩ rfl (v0:=.slice a6 p.funcs.length a5) (v1:=.slice aa2 p.args.length ac2) (v2:=A p.entry) (v3:=A p.handler) (v4:=.slice b0 p.data.length a7) (v5:=.slice ba2 p.banks.length bc2) HC.out (p:=rnF T p) (by
    rw[<-HT.out.2.1];unfold PT.prog rnF;simp only[b2,List.map_map]
    rfl))
   clear d4 c l a2 i0 g0 f5 b2 HK i2;go_wp2;refine bodyPost_ret (v:=.agg (R p a6 a5 aa2 ac2 b0 a7 ba2 bc2)) ?_ rfl ?_
   ·rw[zM rfl];go_simp
   ·exact k4.out
def PtRet2 (w:World)(p:IProg)(e:Ending)(w':World):Prop:=∃(fa:Option Addr) (fc:Nat) (aa:Option Addr) (ac:Nat) (da:Option Addr) (dc:Nat) (ba:Option Addr) (bc:Nat),e=.returned (.agg (R p fa fc aa ac da dc ba bc))/\
 ProgIn w' w'.heap.size ⟨.slice fa p.funcs.length fc,.slice aa p.args.length ac,.slice da p.data.length dc,.slice ba p.banks.length bc⟩ p/\F w w'
theorem pt_open{p:IProg}(h64:P64D p){e:Ending}{w':World}(h:aex w p e w'):PtRet2 w p e w':=by
 obtain⟨t,rfl,d,hr,hb⟩:=h;subst d;obtain⟨fa,fc,h1,_,_⟩:=(PT.inD hr h64).funcs.form;obtain⟨aa,ac,h2,_,_⟩:=(PT.inD hr h64).args.form;obtain⟨da,dc,h3,_,_⟩:=(PT.inD hr h64).data.form;obtain⟨ba,bc,c,_,_⟩:=(PT.inD hr h64).banks.form;refine⟨fa,fc,aa,ac,da,dc,ba,bc,?_,?_,hb⟩
 ·unfold yH;rw[h1,h2,h3,c]
 ·rw[<-h1,<-h2,<-h3,<-c];exact PT.inD hr h64
theorem ren_smb {N:Nat}{T:Int}{n:Nat}{b:IBlk}(h:SmB N b):SmB N (rnB T n b):=by
 refine⟨?_,?_,?_,fun o ho=>?_,fun e he=>?_⟩
 ·show(rnL T b.params).length<=N
  unfold rnL;rw[Nr];exact h.par
 ·show(b.ops.map (abE T)).length<=N
  rw[Nr];exact h.ops
 ·show(b.term.to.map (rnE T n)).length<=N
  rw[Nr];exact h.tos
 ·obtain⟨o',c,rfl⟩:=Nu.1 (show o∈b.ops.map (abE T) from ho)
  show(rnL T o'.args).length<=N
  unfold rnL;rw[Nr];exact h.oarg o' c
 ·obtain⟨e',d,rfl⟩:=Nu.1 (show e∈b.term.to.map (rnE T n) from he)
  show(rnL T e'.args).length<=N
  unfold rnL;rw[Nr];exact h.earg e' d
theorem aet {T:Int}{f:List IBlk}{b:IBlk}(hb:b∈abC T f):∃c∈f,b=rnB T f.length c:=by
 obtain⟨c,d,e⟩:=Nu.1 ((adK T f).mem_iff.1 hb);exact⟨c,d,e.symm⟩
theorem ren_smp {N:Nat}{T:Int}{p:IProg}(h:SmP N p):SmP N (rnF T p):=by
 refine⟨?_,fun g hg=>?_,h.ar,h.da,h.ba⟩
 ·show(p.funcs.map (abC T)).length<=N
  rw[Nr];exact h.fn
 ·obtain⟨f,hf,rfl⟩:=Nu.1 (show g∈p.funcs.map (abC T) from hg);refine⟨?_,fun b hb=>?_⟩
  ·unfold abC;rw[Nr,Un];exact(h.fs f hf).1
  ·obtain⟨c,d,rfl⟩:=aet hb;exact ren_smb ((h.fs f hf).2 c d)
theorem ren_64 {T:Int}(w:0<=T/\T<=65535){p:IProg}(h:P64D p)(hs:∀f∈p.funcs,RwF f):P64D (rnF T p):=by
 have d:∀x,Sm6 x->I64 (T-x):=fun x hx=>by unfold Sm6 at hx;exact⟨by omega,by omega⟩
 have j:∀l:List Int,(∀x∈l,Sm6 x)->∀x∈rnL T l,I64 x:=fun l hl x hx=>by
  obtain⟨y,t,rfl⟩:=acH hx;exact d y (hl y t)
 refine⟨fun g hg b hb=>?_,h.args,h.data,h.banks,h.ent,h.hnd⟩;obtain⟨f,hf,rfl⟩:=Nu.1 (show g∈p.funcs.map (abC T) from hg);obtain⟨c,r,rfl⟩:=aet hb;have hk:=(hs f hf).2 c r;have u:=(hs f hf).1;have k:=h.funcs f hf c r;refine⟨j _ hk.ps.1,fun o ho=>?_,⟨k.term.1,?_⟩,fun e he=>?_⟩
 ·obtain⟨o',i,rfl⟩:=Nu.1 (show o∈c.ops.map (abE T) from ho);obtain⟨h1,h2⟩:=k.ops o' i;obtain⟨k1,k2,k3,k4,k5⟩:=hk.os.1 o' i;refine⟨⟨h1.1,?_,?_,?_,h1.2.2.2.2⟩,j _ k4⟩
  ·show I64 (if 0<=o'.res then T-o'.res else o'.res)
   split
   ·exact d _ k1
   ·exact h1.2.1
  ·show I64 (if(zi o'.code).a then T-o'.a else o'.a)
   split
   ·exact d _ k2
   ·exact h1.2.2.1
  ·show I64 (if(zi o'.code).b then T-o'.b else o'.b)
   split
   ·exact d _ k3
   ·exact h1.2.2.2.1
 ·show I64 (rnA T c.term)
  unfold rnA
  split
  ·exact d _ hk.ta
  ·exact k.term.2
 ·obtain⟨e',m,rfl⟩:=Nu.1 (show e∈c.term.to.map (rnE T f.length) from he);obtain⟨⟨k1,k2⟩,k3,_⟩:=hk.es.1 e' m;refine⟨?_,j _ k3⟩
  show I64 (((f.length:Int)-e'.block).tmod f.length)
  rw[Int.tmod_eq_of_lt Zo Zo];exact i64_nD _ Zo Zo
theorem aem{V:PV}(s:List Int)(hp:ProgIn w w.heap.size V (uR s)){T:Int}(c:0<=T/\T<=65535):
 Y 30 #[yH V (uR s),A T] w (PtRet2 w (rnF T (uR s))):=
 (ael hp ((acK s).small Zd) c (aep s)).mono fun e w' h=>pt_open (ren_64 c hp.p64D (aep s)) h
theorem aeh (s:List Int){T:Int}(c:15000<=T/\T<=65535):mW (rnF T (uR s))/\vC (rnF T (uR s))=0/\∀(I Q:List Nat) (ram:ByteArray) (F:Int),i9 ⟨rnF T (uR s),I,Q⟩ 0 [] ram F=i9 ⟨uR s,I,Q⟩ 0 [] ram F:=by
 have hv:=made_ren_valid s c.1 c.2;refine⟨(ren_smp (acK s)).sized Zd,hv,fun I Q ram F=>?_⟩
 have d:io (rnF T (uR s)) 0 []=io (uR s) 0 []:=by
  unfold io;rw[hv,fm s,show(rnF T (uR s)).funcs.length=(uR s).funcs.length from Nr ..];rfl
 unfold i9
 show(if io (rnF T (uR s)) 0 [] then _ else _)=if io (uR s) 0 [] then _ else _
 rw[d,run_ren I Q (made_rnB s c.1)]
theorem aec (x:SetF):(aaX x).size<=9223372036854775807:=by
 unfold aaX
 split
 ·decide
 ·rw[mG,gT];have:=Qj x.ram (show 0<3 by decide);omega
theorem aen (w:World)(sv:Value)(s:List Int)(xv:Value)(x:SetF)(a0:Nat)(hs:zY w w.heap.size sv s)(hx:SetIn w w.heap.size xv x)(e7:a0<65536):
 Y 8 #[sv,xv,.int .u16 (a0:Int)] w fun e w'=>e=.returned (.bool true)/\Below w.heap.size w w':=by
 obtain⟨sa,sc,rfl,e9,e8⟩:=hs.form;obtain⟨sa3,sc3,d,qc3,rfl,f2,f1⟩:=hx.form;have g4:=hx.fuel;have HS:=Ja hs;have a2:Below w.heap.size w (w.alloc (U #[.slice sa3 x.inn.length sc3,.slice d x.irq.length qc3,.int .u32 (x.ram:Int),.int .u16 (x.fuel:Int)] 41)):=(Below.refl _ _).alloc (Je _) _;have b5:SBx (w.alloc (U #[.slice sa3 x.inn.length sc3,.slice d x.irq.length qc3,.int .u32 (x.ram:Int),.int .u16 (x.fuel:Int)] 41)) w.heap.size x sa3 sc3 d qc3:=⟨zI rfl,(hx.below a2).mono a2.size⟩
 have H0:=Ja (Jb a2 b5);clear hs e9 e8 f2 f1 a2 b5 hx;go_enter Try.func8,Try.ntmps8;go_upto_region 2 with(go_at_call 17;go_must (refine(ln _).mono ?_;rintro e w0 ⟨rfl,c⟩))
 have H1:=Ja (Jb (H0.out.1.trans (c.mono H0.out.1.size)) (H0.out.2.below c));clear c H0;have HM:=Ja (abW ((HS.out.below zO H1.out.1).mono zO H1.out.1.size));have b6:mW (uR (s.take 200)):=(acK (s.take 200)).sized Zd;obtain⟨D,hD⟩:∃D,a0%30000=D:=⟨_,rfl⟩
 have h7:D<30000:=Zo;have f6:(a0:Int).tmod 30000=(D:Int):=by rw[Qc Zo];omega
 obtain⟨a4,a3,y⟩:=aeh (s.take 200) (T:=30000+(D:Int)) ⟨by omega,by omega⟩;have b0:=Ja (fun(W:World) (V:PV) (hp:ProgIn W W.heap.size V (uR (s.take 200)))=>aem (s.take 200) hp (T:=30000+(D:Int)) ⟨by omega,by omega⟩);obtain⟨q,hq⟩:∃q,rnF (30000+(D:Int)) (uR (s.take 200))=q:=⟨_,rfl⟩
 rw[hq] at a4 a3 y b0;generalize uR (s.take 200)=p at *;have HQ:=Ja (Jb a4 (Jb a3 (Jb y b6)));clear a4 a3 y b6 hq hD e7;go_upto_region 3 with(go_at_call 18;go_must (refine HM.out.mono ?_;rintro e w1 ⟨fa,fc,aa,ac,da,dc,ba,bc,rfl,hp,c⟩))
 have a6:=c.alloc c.size (U #[.slice fa p.funcs.length fc,.slice aa p.args.length ac,A p.entry,A p.handler,.slice da p.data.length dc,.slice ba p.banks.length bc] 29);have i:=Ja (Jb (H1.out.1.trans (a6.mono H1.out.1.size)) (Jb (H1.out.2.below a6) (PBxD.new hp)));clear c hp a6 HM H1;generalize w1.alloc (U #[.slice fa p.funcs.length fc,.slice aa p.args.length ac,A p.entry,A p.handler,.slice da p.data.length dc,.slice ba p.banks.length bc] 29)=X at *;generalize w1.heap.size=b8 at *;have HW:=Ja (b0.out X _ i.out.2.2.prog);have c0:G X b8 0 (.slice fa p.funcs.length fc):=i.out.2.2.c0;have c1:G X b8 1 (.slice aa p.args.length ac):=i.out.2.2.c1;have c2:G X b8 2 (A p.entry):=i.out.2.2.c2;have c3:G X b8 3 (A p.handler):=i.out.2.2.c3;have c4:G X b8 4 (.slice da p.data.length dc):=i.out.2.2.c4;have c5:G X b8 5 (.slice ba p.banks.length bc):=i.out.2.2.c5;have e6:IntKind.i64.wrap (D:Int)=(D:Int):=Om _ Zo;have e5:IntKind.i64.wrap (30000+(D:Int))=30000+(D:Int):=Om _ Zo;clear b0;go_upto_region 4 with(go_at_call 30;go_must (refine HW.out.mono ?_;rintro e w2 ⟨o,m,aa2,ac2,t,r,ba2,bc2,rfl,c7,k⟩))
 have u:=k.alloc k.size (U #[.slice o q.funcs.length m,.slice aa2 q.args.length ac2,A q.entry,A q.handler,.slice t q.data.length r,.slice ba2 q.banks.length bc2] 29);have l:=Ja (Jb (i.out.1.trans (u.mono i.out.1.size)) (Jb (i.out.2.1.below u) (Jb (i.out.2.2.below u) (PBxD.new c7))));clear HW k c7 u i c0 c1 c2 c3 c4 c5 e6 e5 f6;generalize w2.alloc (U #[.slice o q.funcs.length m,.slice aa2 q.args.length ac2,A q.entry,A q.handler,.slice t q.data.length r,.slice ba2 q.banks.length bc2] 29)=Z at *;generalize w2.heap.size=b9 at *;obtain⟨I,hI⟩:∃I,x.inn.take 20=I:=⟨_,rfl⟩
 obtain⟨Q,hQ⟩:∃Q,x.irq.take 20=Q:=⟨_,rfl⟩
 obtain⟨F1,d3⟩:∃F,x.fuel%3000=F:=⟨_,rfl⟩
 have f5:F1<3000:=Zo;obtain⟨R,hR⟩:∃R,i9 ⟨p,I,Q⟩ 0 [] (aaX x) (F1:Int)=R:=⟨_,rfl⟩
 have d2:i9 ⟨q,I,Q⟩ 0 [] (aaX x) (F1:Int)=R:=by rw[<-hR];exact HQ.out.2.2.1 I Q (aaX x) (F1:Int)
 have HC:=Ja (show ∀W,Below Z.heap.size Z W->(G W b8 0 (.slice fa p.funcs.length fc)/\G W b8 1 (.slice aa p.args.length ac)/\G W b8 2 (A p.entry)/\G W b8 3 (A p.handler)/\G W b8 4 (.slice da p.data.length dc)/\G W b8 5 (.slice ba p.banks.length bc)/\G W b9 0 (.slice o q.funcs.length m)/\G W b9 1 (.slice aa2 q.args.length ac2)/\G W b9 2 (A q.entry)/\G W b9 3 (A q.handler)/\G W b9 4 (.slice t q.data.length r)/\G W b9 5 (.slice ba2 q.banks.length bc2)/\G W w.heap.size 0 (.slice sa3 x.inn.length sc3)/\G W w.heap.size 1 (.slice d x.irq.length qc3)/\G W w.heap.size 2 (.int .u32 (x.ram:Int))/\G W w.heap.size 3 (.int .u16 (x.fuel:Int))) from fun W hb=>by
  have h1:=l.out.2.2.1.below hb;have h3:=l.out.2.2.2.below hb;have h2:=l.out.2.1.below hb
  exact⟨h1.c0,h1.c1,h1.c2,h1.c3,h1.c4,h1.c5,h3.c0,h3.c1,h3.c2,h3.c3,h3.c4,h3.c5,h2.c0,h2.c1,h2.c2,h2.c3⟩)
 have f9:=Ja (show ∀W,Below Z.heap.size Z W->Y 24 #[.agg #[.slice sa3 x.inn.length sc3,.slice d x.irq.length qc3,.int .u32 (x.ram:Int),.int .u16 (x.fuel:Int)]] W (aap W (aaX x)) from fun W hb=>gC (l.out.2.1.below hb).set)
 have g0:=Ja (show ∀W,Below Z.heap.size Z W->Y 26 #[.agg #[.slice sa3 x.inn.length sc3,.slice d x.irq.length qc3,.int .u32 (x.ram:Int),.int .u16 (x.fuel:Int)]] W (RetIntD W (F1:Int)) from fun W hb=>by
  have:=fq (l.out.2.1.below hb).set;rw[d3] at this
  exact this)
 have f8:=Ja (show ∀W,Below Z.heap.size Z W->Y 25 #[.agg #[.slice sa3 x.inn.length sc3,.slice d x.irq.length qc3,.int .u32 (x.ram:Int),.int .u16 (x.fuel:Int)]] W (fun e w'=>∃ia ic qa qc,e=.returned (.agg #[.slice ia I.length ic,.slice qa Q.length qc])/\wV w' w'.heap.size (.slice ia I.length ic) I/\dL w' w'.heap.size (.slice qa Q.length qc) Q/\Below W.heap.size W w') from fun W hb=>by
  refine(fi (l.out.2.1.below hb).set).mono ?_;rintro e w' ⟨ia,ic,qa,qc,rfl,h1,h2,h3⟩;rw[hI] at h1 ⊢;rw[hQ] at h2 ⊢
  exact⟨ia,ic,qa,qc,rfl,h1.mono zr h3.size,h2.mono xQ h3.size,h3⟩)
 have f7:=Ja (show ∀W,Below Z.heap.size Z W->Y 20 #[.agg #[.slice o q.funcs.length m,.slice aa2 q.args.length ac2,A q.entry,A q.handler,.slice t q.data.length r,.slice ba2 q.banks.length bc2]] W (fun e w'=>e=.returned (A 0)/\Below W.heap.size W w') from fun W hb=>by
  have h:=tu (l.out.2.2.2.below hb).prog (Je _) (fun g hg=>(HQ.out.1 g hg).1);rw[HQ.out.2.1] at h
  exact h)
 have g1:=Ja (show ∀W ia ic qa qc,Below Z.heap.size Z W->wV W W.heap.size (.slice ia I.length ic) I->dL W W.heap.size (.slice qa Q.length qc) Q->
  Y 23 #[.agg #[.slice fa p.funcs.length fc,.slice aa p.args.length ac,A p.entry,A p.handler,.slice da p.data.length dc,.slice ba p.banks.length bc],A 0,O,.string (aaX x),.agg #[.slice ia I.length ic,.slice qa Q.length qc],A F1] W (eM W R) from fun W ia ic qa qc hb hi hq=>by
  rw[<-hR]
  exact(mX (l.out.2.2.1.below hb).prog HQ.out.2.2.2 0 pZ yN.nil (aaX x) (aec x) hi hq (F1:Int) ⟨by omega,by omega⟩ Zo).mono fun e w' h=>h.open)
 have g2:=Ja (show ∀W ia ic qa qc,Below Z.heap.size Z W->wV W W.heap.size (.slice ia I.length ic) I->dL W W.heap.size (.slice qa Q.length qc) Q->
  Y 23 #[.agg #[.slice o q.funcs.length m,.slice aa2 q.args.length ac2,A q.entry,A q.handler,.slice t q.data.length r,.slice ba2 q.banks.length bc2],A 0,O,.string (aaX x),.agg #[.slice ia I.length ic,.slice qa Q.length qc],A F1] W (eM W R) from fun W ia ic qa qc hb hi hq=>by
  rw[<-d2]
  exact(mX (l.out.2.2.2.below hb).prog HQ.out.1 0 pZ yN.nil (aaX x) (aec x) hi hq (F1:Int) ⟨by omega,by omega⟩ Zo).mono fun e w' h=>h.open)
 have HR:=Ja hR;clear hI hQ d3 f5 hR d2 HQ HS
 go_region_held3 (fun w'=>G w' b8 0 (.slice fa p.funcs.length fc)/\G w' b8 1 (.slice aa p.args.length ac)/\G w' b8 2 (A p.entry)/\G w' b8 3 (A p.handler)/\G w' b8 4 (.slice da p.data.length dc)/\G w' b8 5 (.slice ba p.banks.length bc)/\G w' b9 0 (.slice o q.funcs.length m)/\G w' b9 1 (.slice aa2 q.args.length ac2)/\G w' b9 2 (A q.entry)/\G w' b9 3 (A q.handler)/\G w' b9 4 (.slice t q.data.length r)/\G w' b9 5 (.slice ba2 q.banks.length bc2)/\G w' w.heap.size 0 (.slice sa3 x.inn.length sc3)/\G w' w.heap.size 1 (.slice d x.irq.length qc3)/\G w' w.heap.size 2 (.int .u32 (x.ram:Int))/\G w' w.heap.size 3 (.int .u16 (x.fuel:Int)))
  ((refine HC.out _ ?_;repeat' (first|with_reducible exact Below.refl _ _|with_reducible assumption|with_reducible refine Below.drew ?_|with_reducible refine Below.alloc ?_ Zn _|with_reducible refine Below.setCell ?_ Zn _)))
  (first
    |(go_at_call 20
      refine(f7.out _ Zb).mono ?_;rintro e y7 ⟨rfl,c9⟩;have d4:Below Z.heap.size Z y7:=Below.trans Zb (c9.mono Zn);have g5:=d4.size
      clear c9)
    |(go_at_call 24
      refine(f9.out _ Zb).mono ?_;rintro e y1 ⟨rfl,c⟩;have e0:Below Z.heap.size Z y1:=Below.trans Zb (c.mono Zn);have h6:=e0.size
      try (have b4:Below y4.heap.size y4 y1:=Below.trans Zb (c.mono Zn))
      try (have e4:=b4.size)
      clear c)
    |(go_at_call 25
      refine(f8.out _ Zb).mono ?_;rintro e y2 ⟨ia,ic,qa,qc,rfl,f3,f0,k⟩;have d9:Below Z.heap.size Z y2:=Below.trans Zb (k.mono Zn);have h5:=d9.size
      try (have b3:Below y4.heap.size y4 y2:=Below.trans Zb (k.mono Zn))
      try (have e3:=b3.size)
      clear k)
    |(go_at_call 26
      refine(g0.out _ Zb).mono ?_;rintro e y3 ⟨rfl,a1⟩;have j:Below y2.heap.size y2 y3:=Below.trans Zb (a1.mono Zn);have c8:=(f3.below zr j).mono zr j.size;have b7:=(f0.below xQ j).mono xQ j.size;clear j;have d8:Below Z.heap.size Z y3:=Below.trans Zb (a1.mono Zn);have h4:=d8.size
      try (have b2:Below y4.heap.size y4 y3:=Below.trans Zb (a1.mono Zn))
      try (have e2:=b2.size)
      clear a1)
    |(go_at_call 23
      fail_if_success (have g3:=a5)
      refine(g1.out _ _ _ _ _ Zb (yN.mono zr (B:=y3.heap.size) (yN.below zr c8 Zb) Zn) (yN.mono xQ (B:=y3.heap.size) (yN.below xQ b7 Zb) Zn)).mono ?_;rintro e y4 ⟨oa,oc,rfl,a5,d1⟩;have d7:Below Z.heap.size Z y4:=Below.trans Zb (d1.mono Zn);have h0:=d7.size
      clear d1)
    |(go_at_call 23
      refine(g2.out _ _ _ _ _ Zb (yN.mono zr (B:=y3.heap.size) (yN.below zr c8 Zb) Zn) (yN.mono xQ (B:=y3.heap.size) (yN.below xQ b7 Zb) Zn)).mono ?_;rintro e y5 ⟨ob,od,rfl,f4,a7⟩;have d6:Below Z.heap.size Z y5:=Below.trans Zb (a7.mono Zn);have g9:=d6.size
      try (have b1:Below y4.heap.size y4 y5:=Below.trans Zb (a7.mono Zn))
      try (have e1:=b1.size)
      clear a7)
    |(go_at_call 22
      refine(acn rfl (ev_lenD a5) (yN.mono vo (B:=y4.heap.size) (yN.below vo a5 Zb) Zn) (yN.mono vo (B:=y5.heap.size) (yN.below vo f4 Zb) Zn)).mono ?_;rintro e y6 ⟨rfl,d0⟩;have d5:Below Z.heap.size Z y6:=Below.trans Zb (d0.mono Zn);have g6:=d5.size
      clear d0))
 all_goals go_wp2_with fail
 all_goals go_ret
 all_goals exact⟨rfl,l.out.1.trans (Below.mono (by first|with_reducible assumption|with_reducible exact uG Zz) l.out.1.size)⟩
end Go.Proofs.Ytojclalkfhoooaa
