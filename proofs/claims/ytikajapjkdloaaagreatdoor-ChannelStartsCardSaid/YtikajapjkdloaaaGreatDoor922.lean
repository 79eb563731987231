/- Walks of the reference's big numbers, fourteenth part: the quotient, rounded to even. -/
import Derived.Test.YtikajapjkdloaaaGreatDoor921
namespace Go.Proofs.YtikajapjkdloaaaGreatDoor
open Go.RowKit
attribute [local go_sem] CE CA CF CG B_ CB CD CC Be Bc Ba
theorem a7(q:Int):gd (dg q) 0%2=q%2:=by
 rw[aN,Zo];omega
theorem Bx.alloc{W:World}{b:Nat}{u v:Value}(hlt:b<W.heap.size)(h:Bx W b u v)(o:Obj):Bx (W.alloc o) b u v:=
 Bx.low ((Below.refl _ _).alloc (Nat.le_refl _) o) hlt h
theorem RB.alloc{W:World}{A:Option Addr}{c:Nat}{z:Int}(h:RB W A c z)(o:Obj):RB (W.alloc o) A c z:=RS.alloc h o
theorem I8(W:World)(o:Obj):W.heap.size<(W.alloc o).heap.size:=by simp
theorem Zy(W:World)(o o':Obj):W.heap.size+1<((W.alloc o).alloc o').drew.heap.size:=by simp[go_sem]
theorem Bx.newt(W:World):Bx (W.alloc (.cells #[.bool false,.slice none 0 0] 106)) W.heap.size (.bool false) (.slice none 0 0):=by simp[Bx,go_sem]
theorem Bx.newt2(W:World)(o:Obj):Bx ((W.alloc o).alloc (.cells #[.bool false,.slice none 0 0] 106)).drew (W.heap.size+1) (.bool false) (.slice none 0 0):=by simp[Bx,go_sem]
theorem Bx.newv(W:World)(u v:Value):Bx (W.alloc (.cells #[u,v] 106)) W.heap.size u v:=by simp[Bx,go_sem]
theorem cO{w W:World}{t:Nat}(h:Below w.heap.size w W)(ht:w.heap.size<=t)(u v:Value):Below w.heap.size w ((W.setCell ⟨t,0,none⟩ u).setCell ⟨t,1,none⟩ v):=AZ (AZ h ht _) ht _
def bu(q:Int):Bool:=decide (q%2=1)
theorem av:nd 2<=1:=Yu eo
theorem cc:nd 2<=10000:=Nat.le_trans av en
theorem ap{a b:Int}(hb:0<b):(a/b).natAbs<=a.natAbs:=by
 by_cases ha:0<=a
 ·have:=Int.ediv_nonneg ha (show 0<=b by omega);have:=Int.ediv_le_self b ha;omega
 have k:=Sd (-a) b hb
 rw[Int.neg_neg]at k
 have k1:=Int.ediv_nonneg (show 0<= -a by omega) (show 0<=b by omega)
 have k2:=Int.ediv_le_self b (show 0<= -a by omega)
 have k3:=Int.emod_nonneg (-a) (show b≠0 by omega)
 have k4:=Int.mul_ediv_add_emod (-a) b
 rw[k.1]
 split
 ·have:1*((-a)/b)<=b*((-a)/b):=Int.mul_le_mul_of_nonneg_right en k1
  omega
 omega
set_option maxRecDepth 100000 in
set_option maxHeartbeats 8000000 in
theorem Z8(a b:Int)(A B:Option Addr)(c d:Nat)(hb:b≠0)(ha:nd a<=2000)(hnb:nd b<=2000)(w:World)(hA:RB w A c a)(hB:RB w B d b):
 Calls Tryz.prog 50 #[.agg #[.bool (sg a),.slice A (nd a) c],.agg #[.bool (sg b),.slice B (nd b) d]] w (Zg w (ev a b)):=by
 have HA:=Asd.mk hA
 have HB:=Asd.mk hB
 clear hA hB
 obtain⟨a',ha'⟩: ∃a',a'=if b<0 then-a else a:=⟨_,rfl⟩
 obtain⟨b',hb'⟩: ∃b',b'=if b<0 then-b else b:=⟨_,rfl⟩
 have hev:ev a b=Al a' b':=by unfold ev;rw[ha',hb'];split<;>rfl
 have HBP:Asd (0<b'):=⟨by rw[hb'];split<;>omega⟩
 have hna:Asd (nd a'<=2000):=⟨by rw[ha'];split; ·rw[ZF];exact ha
                                 exact ha⟩
 have hnb':Asd (nd b'<=2000):=⟨by rw[hb'];split; ·rw[ZF];exact hnb
                                  exact hnb⟩
 rw[hev]
 have HAE:=Asd.mk ha'
 have HBE:=Asd.mk hb'
 clear hev ha' hb'
 go_enter Tryz.func50,Tryz.ntmps50
 go_upto_if 9 with(fail)
 go_cut [0,1] (λs0 s1 wc=> ∃(A':Option Addr)(c':Nat)(B':Option Addr)(d':Nat),Asd (Below w.heap.size w wc)/\w.heap.size+1+1<wc.heap.size/\Bx wc w.heap.size (.bool (sg a')) (.slice A' (nd a') c')/\Bx wc (w.heap.size+1) (.bool (sg b')) (.slice B' (nd b') d')/\Bx wc (w.heap.size+1+1) (.bool false) (.slice none 0 0)/\Asd (RB wc A' c' a')/\Asd (RB wc B' d' b'))
 case first=>
  cases q:sg b
  ·have hn:=sg_false.1 q
   have e1:=Asd.mk (show a'=a by rw[HAE.out,if_neg hn])
   have e2:=Asd.mk (show b'=b by rw[HBE.out,if_neg hn])
   clear hn
   go_wp2_with fail
   go_meet
   case rel=>
    rw[e1.out,e2.out,q]
    exact⟨A,c,B,d,⟨LC⟩,by simp,by simp[Bx,go_sem],by simp[Bx,go_sem],by simp[Bx,go_sem],⟨RB.below HA.out LC⟩,⟨RB.below HB.out LC⟩⟩
  have hn:=sg_true.1 q
  have e1:=Asd.mk (show a'= -a by rw[HAE.out,if_pos hn])
  have e2:=Asd.mk (show b'= -b by rw[HBE.out,if_pos hn])
  have HT:=Asd.mk (λW h=>Yy b B d W h)
  rw[q]at HT
  clear hn
  go_wp2
  go_region_with (first
   |(go_at_call 116;refine(Yy a A c _ (by exact RB.below HA.out LC)).mono ?_;rintro e w0 ⟨A1,c1,rfl,hr1,hb0⟩;replace hr1:=Asd.mk hr1;have hrB:=Asd.mk (RB.below (RB.below HB.out LC) hb0);obtain⟨x0,x1,x2,x3⟩:Bx w0 (w.heap.size) (.bool (sg a)) (.slice A (nd a) c):=Bx.low hb0 (by first|(simp;done)|(simp;omega)) (by simp(maxDischargeDepth:=9) [Bx,go_sem]);obtain⟨y0,y1,y2,y3⟩:Bx w0 (w.heap.size+1) (.bool true) (.slice B (nd b) d):=Bx.low hb0 (by first|(simp;done)|(simp;omega)) (by simp(maxDischargeDepth:=9) [Bx,go_sem]);obtain⟨p0,p1,p2,p3⟩:Bx w0 (w.heap.size+1+1) (.bool false) (.slice none 0 0):=Bx.low hb0 (by first|(simp;done)|(simp;omega)) (by simp(maxDischargeDepth:=9) [Bx,go_sem]);have hz0_2:w.heap.size+1+1<w0.heap.size:=Nat.lt_of_lt_of_le (by first|(simp;done)|(simp;omega)) hb0.size;have hz0_1:w.heap.size+1<w0.heap.size:=en;have hz0_0:w.heap.size<w0.heap.size:=en)
   |(go_at_call 116;refine(HT.out _ (by exact hrB.out)).mono ?_;rintro e w1 ⟨A2,c2,rfl,hr2,hb1⟩;replace hr2:=Asd.mk hr2;have hr1':=Asd.mk (RB.below hr1.out hb1);obtain⟨x4,x5,x6,x7⟩:=Bx.low hb1 hz0_0 ⟨x0,x1,x2,x3⟩;obtain⟨y4,y5,y6,y7⟩:=Bx.low hb1 hz0_1 ⟨y0,y1,y2,y3⟩;obtain⟨p4,p5,p6,p7⟩:=Bx.low hb1 hz0_2 ⟨p0,p1,p2,p3⟩;have hz1_2:w.heap.size+1+1<w1.heap.size:=Nat.lt_of_lt_of_le hz0_2 hb1.size;have hz1_1:w.heap.size+1<w1.heap.size:=en;have hz1_0:w.heap.size<w1.heap.size:=en))
  all_goals(
   go_wp2_with fail
   go_meet
   case rel=>
    rw[e1.out,e2.out]
    exact⟨A1,c1,A2,c2,⟨LC⟩,by simp;omega,(Bx.set ⟨x4,x5,x6,x7⟩ _ _).other en _ _,(Bx.other ⟨y4,y5,y6,y7⟩ en _ _).set _ _,(Bx.other ⟨p4,p5,p6,p7⟩ en _ _).other en _ _,⟨RB.store2 (RB.store2 hr1'.out x4) ((Bx.other ⟨y4,y5,y6,y7⟩ en _ _).1)⟩,⟨RB.store2 (RB.store2 hr2.out x4) ((Bx.other ⟨y4,y5,y6,y7⟩ en _ _).1)⟩⟩)
 case rest=>
  obtain⟨A',c',B',d',HBc,hz0_p,⟨x0,x1,x2,x3⟩,⟨y0,y1,y2,y3⟩,⟨p0,p1,p2,p3⟩,HRA,HRB⟩:=hcut
  have hz0_x:w.heap.size<wc.heap.size:=by omega
  have hz0_y:w.heap.size+1<wc.heap.size:=by omega
  go_wp2_with fail
  refine(bW a' b' A' B' c' d' HBP.out (by have:=hna.out;omega) (by have:=hnb'.out;omega) _ HRA.out HRB.out).mono ?_
  rintro e w1 ⟨Aq,cq,rfl,hr1,hb1⟩
  obtain⟨q,hq⟩: ∃q,q=a'/b':=⟨_,rfl⟩
  rw[<-hq]at hr1⊢
  have HQE:=Asd.mk hq
  have HRQ:=Asd.mk hr1
  have HRA1:=Asd.mk (RB.below HRA.out hb1)
  have HRB1:=Asd.mk (RB.below HRB.out hb1)
  have HB1:=Asd.mk (Below.trans HBc.out (hb1.mono HBc.out.size))
  obtain⟨x4,x5,x6,x7⟩:=Bx.low hb1 hz0_x ⟨x0,x1,x2,x3⟩;have hz1_x:w.heap.size<w1.heap.size:=Nat.lt_of_lt_of_le hz0_x hb1.size;obtain⟨y4,y5,y6,y7⟩:=Bx.low hb1 hz0_y ⟨y0,y1,y2,y3⟩;have hz1_y:w.heap.size+1<w1.heap.size:=Nat.lt_of_lt_of_le hz0_y hb1.size;obtain⟨p4,p5,p6,p7⟩:=Bx.low hb1 hz0_p ⟨p0,p1,p2,p3⟩;have hz1_p:w.heap.size+1+1<w1.heap.size:=Nat.lt_of_lt_of_le hz0_p hb1.size
  have hnq:Asd (nd q<=2000):=⟨Nat.le_trans (Yw (by rw[hq];exact ap HBP.out)) hna.out⟩
  clear hq hr1 hb1 x0 x1 x2 x3 y0 y1 y2 y3 p0 p1 p2 p3 HRA HRB HBc hz0_x hz0_y hz0_p
  have HN4:Asd (nd (a'-q*b')<=6000):=⟨by have h1:=ah q b';have h2:=Zr a' (-(q*b'));rw[ZF]at h2;have h3:=hnq.out;have h4:=hnb'.out;have h5:=hna.out;rw[show a'-q*b'=a'+ -(q*b')from by omega];omega⟩
  have HN5:Asd (nd (2*(a'-q*b'))<=7000):=⟨by have h1:=ah 2 (a'-q*b');have h2:=HN4.out;have h3:=av;omega⟩
  have HN4b:Asd (nd (a'-q*b')<=10000):=⟨by have:=HN4.out;omega⟩
  have HN3:Asd (nd (q*b')<=10000):=⟨by have:=ah q b';have:=hnq.out;have:=hnb'.out;omega⟩
  have HNQb:Asd (nd q<=10000):=⟨by have:=hnq.out;omega⟩
  have HNAb:Asd (nd a'<=10000):=⟨by have:=hna.out;omega⟩
  have HN5b:Asd (nd (2*(a'-q*b'))<=10000):=⟨by have:=HN5.out;omega⟩
  have HNBb:Asd (nd b'<=10000):=⟨by have:=hnb'.out;omega⟩
  have one:Ai 1:=by unfold Ai;omega
  have two:Ai 2:=by unfold Ai;omega
  go_wp2_with fail
  obtain⟨tw,htw⟩: ∃tw,tw=2*(a'-q*b')-b':=⟨_,rfl⟩
  have HTW:=Asd.mk htw
  clear htw
  go_cut [6] (λs6 wx=> ∃(t:Nat)(A6:Option Addr)(c6:Nat),s6=.pointer (some ⟨t,0,none⟩)/\Asd (Below w.heap.size w wx)/\w.heap.size+1+1<wx.heap.size/\w1.heap.size<wx.heap.size/\Bx wx (w.heap.size+1+1) (.bool false) (.slice none 0 0)/\Bx wx w1.heap.size (.bool (sg q)) (.slice Aq (nd q) cq)/\Bx wx t (.bool (sg tw)) (.slice A6 (nd tw) c6)/\Asd (RB wx Aq cq q))
  case first=>
   go_region_held3 (λw'=>w'.cell? ⟨w.heap.size,0,none⟩=some (.bool (sg a'))/\w'.cell? ⟨w.heap.size,1,none⟩=some (.slice A' (nd a') c')/\w'.cell? ⟨w.heap.size+1,0,none⟩=some (.bool (sg b'))/\w'.cell? ⟨w.heap.size+1,1,none⟩=some (.slice B' (nd b') d')/\w'.cell? ⟨w1.heap.size,0,none⟩=some (.bool (sg q))/\w'.cell? ⟨w1.heap.size,1,none⟩=some (.slice Aq (nd q) cq))
    (first|(simp[go_sem, *];done)|exact⟨x8,x9,y8,y9,q8,q9⟩|exact⟨x12,x13,y12,y13,q12,q13⟩|exact⟨x16,x17,y16,y17,q16,q17⟩|exact⟨x20,x21,y20,y21,q20,q21⟩|exact⟨x24,x25,y24,y25,q24,q25⟩|(simp(maxDischargeDepth:=9) [go_sem, *];done))
    (first
     |(go_at_call 45;refine(ZO 2 two _).mono ?_;rintro e w2 ⟨A2,c2,rfl,hr2,hb2⟩;have RT2:=Asd.mk hr2;have RA2:=Asd.mk (RB.below (by exact RS.below HRA1.out LC) hb2);have RBb2:=Asd.mk (RB.below (by exact RS.below HRB1.out LC) hb2);have RQ2:=Asd.mk (RB.below (by exact RS.below HRQ.out LC) hb2);have HB2:=Asd.mk (AQ (w:=w) (by repeat (first|exact Below.refl _ _|assumption|exact HB1.out|refine AM ?_ _|refine AJ ?_ _|refine AP ?_|refine AZ ?_ (by first|(simp;done)|(simp;omega)|(dsimp only;omega)) _|refine AQ ?_ (by assumption))) hb2);obtain⟨x8,x9,x10,x11⟩:Bx w2 (w.heap.size) (.bool (sg a')) (.slice A' (nd a') c'):=Bx.low hb2 (by first|(simp;done)|(simp;omega)|(simp[go_sem];done)|(simp[go_sem];omega)) (by simp(maxDischargeDepth:=9) [Bx,go_sem, *]);have hz2_x:w.heap.size<w2.heap.size:=Nat.lt_of_lt_of_le (by first|(simp;done)|(simp;omega)|(simp[go_sem];done)|(simp[go_sem];omega)) hb2.size;obtain⟨y8,y9,y10,y11⟩:Bx w2 (w.heap.size+1) (.bool (sg b')) (.slice B' (nd b') d'):=Bx.low hb2 (by first|(simp;done)|(simp;omega)|(simp[go_sem];done)|(simp[go_sem];omega)) (by simp(maxDischargeDepth:=9) [Bx,go_sem, *]);have hz2_y:w.heap.size+1<w2.heap.size:=Nat.lt_of_lt_of_le (by first|(simp;done)|(simp;omega)|(simp[go_sem];done)|(simp[go_sem];omega)) hb2.size;obtain⟨p8,p9,p10,p11⟩:Bx w2 (w.heap.size+1+1) (.bool false) (.slice none 0 0):=Bx.low hb2 (by first|(simp;done)|(simp;omega)|(simp[go_sem];done)|(simp[go_sem];omega)) (by simp(maxDischargeDepth:=9) [Bx,go_sem, *]);have hz2_p:w.heap.size+1+1<w2.heap.size:=Nat.lt_of_lt_of_le (by first|(simp;done)|(simp;omega)|(simp[go_sem];done)|(simp[go_sem];omega)) hb2.size;obtain⟨q8,q9,q10,q11⟩:Bx w2 (w1.heap.size) (.bool (sg q)) (.slice Aq (nd q) cq):=Bx.low hb2 (by first|(simp;done)|(simp;omega)|(simp[go_sem];done)|(simp[go_sem];omega)) (by simp(maxDischargeDepth:=9) [Bx,go_sem, *]);have hz2_q:w1.heap.size<w2.heap.size:=Nat.lt_of_lt_of_le (by first|(simp;done)|(simp;omega)|(simp[go_sem];done)|(simp[go_sem];omega)) hb2.size;first|(obtain⟨t8,t9,t10,t11⟩:=Bx.low hb2 (Zy w1 _ _) (Bx.newt2 w1 _);have hz2_t:=Nat.lt_of_lt_of_le (Zy w1 _ _) hb2.size)|skip;clear hr2 hb2)
     |(go_at_call 44;(with_reducible refine(aq q b' Aq B' cq d' HNQb.out HNBb.out _ (by first|exact RQ2.out|exact RB.alloc RQ2.out _) (by first|exact RBb2.out|exact RB.alloc RBb2.out _)).mono ?_);rintro e w3 ⟨A3,c3,rfl,hr3,hb3⟩;have RM3:=Asd.mk hr3;have RT3:=Asd.mk (RB.below (by first|exact RT2.out|exact RB.alloc RT2.out _) hb3);have RA3:=Asd.mk (RB.below (by first|exact RA2.out|exact RB.alloc RA2.out _) hb3);have RBb3:=Asd.mk (RB.below (by first|exact RBb2.out|exact RB.alloc RBb2.out _) hb3);have RQ3:=Asd.mk (RB.below (by first|exact RQ2.out|exact RB.alloc RQ2.out _) hb3);have HB3:=Asd.mk (AQ (by first|exact HB2.out|exact AM HB2.out _) hb3);obtain⟨x12,x13,x14,x15⟩:=Bx.low hb3 (by first|exact hz2_x|exact Nat.lt_trans hz2_x (I8 _ _)) (by first|exact⟨x8,x9,x10,x11⟩|exact Bx.alloc hz2_x ⟨x8,x9,x10,x11⟩ _);have hz3_x:w.heap.size<w3.heap.size:=Nat.lt_of_lt_of_le (by first|exact hz2_x|exact Nat.lt_trans hz2_x (I8 _ _)) hb3.size;obtain⟨y12,y13,y14,y15⟩:=Bx.low hb3 (by first|exact hz2_y|exact Nat.lt_trans hz2_y (I8 _ _)) (by first|exact⟨y8,y9,y10,y11⟩|exact Bx.alloc hz2_y ⟨y8,y9,y10,y11⟩ _);have hz3_y:w.heap.size+1<w3.heap.size:=Nat.lt_of_lt_of_le (by first|exact hz2_y|exact Nat.lt_trans hz2_y (I8 _ _)) hb3.size;obtain⟨p12,p13,p14,p15⟩:=Bx.low hb3 (by first|exact hz2_p|exact Nat.lt_trans hz2_p (I8 _ _)) (by first|exact⟨p8,p9,p10,p11⟩|exact Bx.alloc hz2_p ⟨p8,p9,p10,p11⟩ _);have hz3_p:w.heap.size+1+1<w3.heap.size:=Nat.lt_of_lt_of_le (by first|exact hz2_p|exact Nat.lt_trans hz2_p (I8 _ _)) hb3.size;obtain⟨q12,q13,q14,q15⟩:=Bx.low hb3 (by first|exact hz2_q|exact Nat.lt_trans hz2_q (I8 _ _)) (by first|exact⟨q8,q9,q10,q11⟩|exact Bx.alloc hz2_q ⟨q8,q9,q10,q11⟩ _);have hz3_q:w1.heap.size<w3.heap.size:=Nat.lt_of_lt_of_le (by first|exact hz2_q|exact Nat.lt_trans hz2_q (I8 _ _)) hb3.size;first|(obtain⟨t12,t13,t14,t15⟩:=Bx.low hb3 hz2_t ⟨t8,t9,t10,t11⟩;have hz3_t:=Nat.lt_of_lt_of_le hz2_t hb3.size)|(obtain⟨t12,t13,t14,t15⟩:=Bx.low hb3 (I8 w2 _) (Bx.newt w2);have hz3_t:=Nat.lt_of_lt_of_le (I8 w2 _) hb3.size)|skip;clear hr3 hb3)
     |(go_at_call 118;(with_reducible refine(ZG a' (q*b') A' A3 c' c3 HNAb.out HN3.out _ (by first|exact RA3.out|exact RB.alloc RA3.out _) (by first|exact RM3.out|exact RB.alloc RM3.out _)).mono ?_);rintro e w4 ⟨A4,c4,rfl,hr4,hb4⟩;have RS4:=Asd.mk hr4;have RT4:=Asd.mk (RB.below (by first|exact RT3.out|exact RB.alloc RT3.out _) hb4);have RBb4:=Asd.mk (RB.below (by first|exact RBb3.out|exact RB.alloc RBb3.out _) hb4);have RQ4:=Asd.mk (RB.below (by first|exact RQ3.out|exact RB.alloc RQ3.out _) hb4);have HB4:=Asd.mk (AQ (by first|exact HB3.out|exact AM HB3.out _) hb4);obtain⟨x16,x17,x18,x19⟩:=Bx.low hb4 (by first|exact hz3_x|exact Nat.lt_trans hz3_x (I8 _ _)) (by first|exact⟨x12,x13,x14,x15⟩|exact Bx.alloc hz3_x ⟨x12,x13,x14,x15⟩ _);have hz4_x:w.heap.size<w4.heap.size:=Nat.lt_of_lt_of_le (by first|exact hz3_x|exact Nat.lt_trans hz3_x (I8 _ _)) hb4.size;obtain⟨y16,y17,y18,y19⟩:=Bx.low hb4 (by first|exact hz3_y|exact Nat.lt_trans hz3_y (I8 _ _)) (by first|exact⟨y12,y13,y14,y15⟩|exact Bx.alloc hz3_y ⟨y12,y13,y14,y15⟩ _);have hz4_y:w.heap.size+1<w4.heap.size:=Nat.lt_of_lt_of_le (by first|exact hz3_y|exact Nat.lt_trans hz3_y (I8 _ _)) hb4.size;obtain⟨p16,p17,p18,p19⟩:=Bx.low hb4 (by first|exact hz3_p|exact Nat.lt_trans hz3_p (I8 _ _)) (by first|exact⟨p12,p13,p14,p15⟩|exact Bx.alloc hz3_p ⟨p12,p13,p14,p15⟩ _);have hz4_p:w.heap.size+1+1<w4.heap.size:=Nat.lt_of_lt_of_le (by first|exact hz3_p|exact Nat.lt_trans hz3_p (I8 _ _)) hb4.size;obtain⟨q16,q17,q18,q19⟩:=Bx.low hb4 (by first|exact hz3_q|exact Nat.lt_trans hz3_q (I8 _ _)) (by first|exact⟨q12,q13,q14,q15⟩|exact Bx.alloc hz3_q ⟨q12,q13,q14,q15⟩ _);have hz4_q:w1.heap.size<w4.heap.size:=Nat.lt_of_lt_of_le (by first|exact hz3_q|exact Nat.lt_trans hz3_q (I8 _ _)) hb4.size;first|(obtain⟨t16,t17,t18,t19⟩:=Bx.low hb4 hz3_t ⟨t12,t13,t14,t15⟩;have hz4_t:=Nat.lt_of_lt_of_le hz3_t hb4.size)|(obtain⟨t16,t17,t18,t19⟩:=Bx.low hb4 (I8 w3 _) (Bx.newt w3);have hz4_t:=Nat.lt_of_lt_of_le (I8 w3 _) hb4.size)|skip;clear hr4 hb4)
     |(go_at_call 44;(with_reducible refine(aq 2 (a'-q*b') A2 A4 c2 c4 cc HN4b.out _ (by first|exact RT4.out|exact RB.alloc RT4.out _) (by first|exact RS4.out|exact RB.alloc RS4.out _)).mono ?_);rintro e w5 ⟨A5,c5,rfl,hr5,hb5⟩;have RM5:=Asd.mk hr5;have RBb5:=Asd.mk (RB.below (by first|exact RBb4.out|exact RB.alloc RBb4.out _) hb5);have RQ5:=Asd.mk (RB.below (by first|exact RQ4.out|exact RB.alloc RQ4.out _) hb5);have HB5:=Asd.mk (AQ (by first|exact HB4.out|exact AM HB4.out _) hb5);obtain⟨x20,x21,x22,x23⟩:=Bx.low hb5 (by first|exact hz4_x|exact Nat.lt_trans hz4_x (I8 _ _)) (by first|exact⟨x16,x17,x18,x19⟩|exact Bx.alloc hz4_x ⟨x16,x17,x18,x19⟩ _);have hz5_x:w.heap.size<w5.heap.size:=Nat.lt_of_lt_of_le (by first|exact hz4_x|exact Nat.lt_trans hz4_x (I8 _ _)) hb5.size;obtain⟨y20,y21,y22,y23⟩:=Bx.low hb5 (by first|exact hz4_y|exact Nat.lt_trans hz4_y (I8 _ _)) (by first|exact⟨y16,y17,y18,y19⟩|exact Bx.alloc hz4_y ⟨y16,y17,y18,y19⟩ _);have hz5_y:w.heap.size+1<w5.heap.size:=Nat.lt_of_lt_of_le (by first|exact hz4_y|exact Nat.lt_trans hz4_y (I8 _ _)) hb5.size;obtain⟨p20,p21,p22,p23⟩:=Bx.low hb5 (by first|exact hz4_p|exact Nat.lt_trans hz4_p (I8 _ _)) (by first|exact⟨p16,p17,p18,p19⟩|exact Bx.alloc hz4_p ⟨p16,p17,p18,p19⟩ _);have hz5_p:w.heap.size+1+1<w5.heap.size:=Nat.lt_of_lt_of_le (by first|exact hz4_p|exact Nat.lt_trans hz4_p (I8 _ _)) hb5.size;obtain⟨q20,q21,q22,q23⟩:=Bx.low hb5 (by first|exact hz4_q|exact Nat.lt_trans hz4_q (I8 _ _)) (by first|exact⟨q16,q17,q18,q19⟩|exact Bx.alloc hz4_q ⟨q16,q17,q18,q19⟩ _);have hz5_q:w1.heap.size<w5.heap.size:=Nat.lt_of_lt_of_le (by first|exact hz4_q|exact Nat.lt_trans hz4_q (I8 _ _)) hb5.size;first|(obtain⟨t20,t21,t22,t23⟩:=Bx.low hb5 hz4_t ⟨t16,t17,t18,t19⟩;have hz5_t:=Nat.lt_of_lt_of_le hz4_t hb5.size)|(obtain⟨t20,t21,t22,t23⟩:=Bx.low hb5 (I8 w4 _) (Bx.newt w4);have hz5_t:=Nat.lt_of_lt_of_le (I8 w4 _) hb5.size)|skip;clear hr5 hb5)
     |(go_at_call 118;(with_reducible refine(ZG (2*(a'-q*b')) b' A5 B' c5 d' HN5b.out HNBb.out _ (by first|exact RM5.out|exact RB.alloc RM5.out _) (by first|exact RBb5.out|exact RB.alloc RBb5.out _)).mono ?_);rintro e w6 ⟨A6,c6,rfl,hr6,hb6⟩;have RW6:=Asd.mk hr6;have RQ6:=Asd.mk (RB.below (by first|exact RQ5.out|exact RB.alloc RQ5.out _) hb6);have HB6:=Asd.mk (AQ (by first|exact HB5.out|exact AM HB5.out _) hb6);obtain⟨x24,x25,x26,x27⟩:=Bx.low hb6 (by first|exact hz5_x|exact Nat.lt_trans hz5_x (I8 _ _)) (by first|exact⟨x20,x21,x22,x23⟩|exact Bx.alloc hz5_x ⟨x20,x21,x22,x23⟩ _);have hz6_x:w.heap.size<w6.heap.size:=Nat.lt_of_lt_of_le (by first|exact hz5_x|exact Nat.lt_trans hz5_x (I8 _ _)) hb6.size;obtain⟨y24,y25,y26,y27⟩:=Bx.low hb6 (by first|exact hz5_y|exact Nat.lt_trans hz5_y (I8 _ _)) (by first|exact⟨y20,y21,y22,y23⟩|exact Bx.alloc hz5_y ⟨y20,y21,y22,y23⟩ _);have hz6_y:w.heap.size+1<w6.heap.size:=Nat.lt_of_lt_of_le (by first|exact hz5_y|exact Nat.lt_trans hz5_y (I8 _ _)) hb6.size;obtain⟨p24,p25,p26,p27⟩:=Bx.low hb6 (by first|exact hz5_p|exact Nat.lt_trans hz5_p (I8 _ _)) (by first|exact⟨p20,p21,p22,p23⟩|exact Bx.alloc hz5_p ⟨p20,p21,p22,p23⟩ _);have hz6_p:w.heap.size+1+1<w6.heap.size:=Nat.lt_of_lt_of_le (by first|exact hz5_p|exact Nat.lt_trans hz5_p (I8 _ _)) hb6.size;obtain⟨q24,q25,q26,q27⟩:=Bx.low hb6 (by first|exact hz5_q|exact Nat.lt_trans hz5_q (I8 _ _)) (by first|exact⟨q20,q21,q22,q23⟩|exact Bx.alloc hz5_q ⟨q20,q21,q22,q23⟩ _);have hz6_q:w1.heap.size<w6.heap.size:=Nat.lt_of_lt_of_le (by first|exact hz5_q|exact Nat.lt_trans hz5_q (I8 _ _)) hb6.size;first|(obtain⟨t24,t25,t26,t27⟩:=Bx.low hb6 hz5_t ⟨t20,t21,t22,t23⟩;have hz6_t:=Nat.lt_of_lt_of_le hz5_t hb6.size)|(obtain⟨t24,t25,t26,t27⟩:=Bx.low hb6 (I8 w5 _) (Bx.newt w5);have hz6_t:=Nat.lt_of_lt_of_le (I8 w5 _) hb6.size)|skip;clear hr6 hb6))
   all_goals(
    go_wp2_with fail
    go_meet
    case rel=>
     rw[HTW.out]
     first
      |exact⟨_,A6,c6,rfl,⟨AM HB6.out _⟩,Nat.lt_trans hz6_p (I8 _ _),Nat.lt_trans hz6_q (I8 _ _),Bx.alloc hz6_p ⟨p24,p25,p26,p27⟩ _,Bx.alloc hz6_q ⟨q24,q25,q26,q27⟩ _,Bx.newv _ _ _,⟨RB.alloc RQ6.out _⟩⟩
      |exact⟨_,A6,c6,rfl,⟨cO HB6.out en _ _⟩,by rw[ZK];exact hz6_p,by rw[ZK];exact hz6_q,Bx.other ⟨p24,p25,p26,p27⟩ en _ _,Bx.other ⟨q24,q25,q26,q27⟩ en _ _,Bx.set ⟨t24,t25,t26,t27⟩ _ _,⟨RB.store2 RQ6.out t24⟩⟩)
  case rest=>
   obtain⟨t,A6,c6,rfl,HBx,hzp,hzq,⟨p8,p9,p10,p11⟩,⟨q8,q9,q10,q11⟩,⟨t8,t9,t10,t11⟩,HRQx⟩:=hcut
   obtain⟨wx,rfl⟩: ∃W:World,W=wc:=⟨_,rfl⟩
   have h0:=HQE.out
   have hr:=Asd.mk (show tw=2*(a'%b')-b' by have:=Int.mul_ediv_add_emod a' b';rw[HTW.out,h0];rw[Int.mul_comm (a'/b')];omega)
   clear h0
   go_upto_region 5 with(fail)
   go_cut [7] (λs7 wz=>s7=.bool (bu q)/\wz=wx)
   case first=>
    by_cases hq0:nd q=0
    ·have e:=Asd.mk (show bu q=false by have:=(LM q).1 hq0;rw[this];rfl)
     go_wp2_with fail
     go_meet
     case rel=>exact⟨by rw[e.out],rfl⟩
    have hq1:0<nd q:=by omega
    obtain⟨bq,rfl,hbq,hcq⟩:=RS.at HRQx.out 0 (by show 0<nd q;exact hq1)
    have hodt:=Asd.mk (show((gd (dg q) 0).tmod 2==1)=bu q by
     rw[Int.tmod_eq_emod_of_nonneg (Ys (Yp q) 0).1,a7];unfold bu;rw[Bool.eq_iff_iff];simp)
    go_wp2_with fail
    go_meet
    case rel=>exact⟨by rw[hodt.out],rfl⟩
   case rest=>
    obtain⟨rfl,rfl⟩:=hcut
    have one:Ai 1:=by unfold Ai;omega
    have hzt:w.heap.size+1+1<wc.heap.size:=hzp
    cases s1:sg tw
    ·by_cases hz:nd tw=0
     ·cases ho:bu q
      ·have hf:=Asd.mk (show Al a' b'=q by have h1:=(LM tw).1 hz;have h2:=hr.out;have h3:=HQE.out;have h4:=of_decide_eq_false ho;unfold Al;rw[<-h3,if_neg en])
       rw[s1]at t8
       go_wp2
       have HBxx:=HBx.out
       rw[hf.out]
       refine bodyPost_ret (v:=.agg #[.bool (sg q),.slice Aq (nd q) cq]) (by simp(maxDischargeDepth:=9) [results,Tryz.results50,go_sem, *]) rfl ⟨_,_,rfl,RB.store2 HRQx.out p8,LC⟩
      have hf:=Asd.mk (show Al a' b'=q+1 by have h1:=(LM tw).1 hz;have h2:=hr.out;have h3:=HQE.out;have h4:=of_decide_eq_true ho;unfold Al;rw[<-h3,if_pos en])
      rw[s1]at t8
      go_wp2
      go_region_held3 (λw'=>w'.cell? ⟨w1.heap.size,0,none⟩=some (.bool (sg q))/\w'.cell? ⟨w1.heap.size,1,none⟩=some (.slice Aq (nd q) cq)) (first|exact⟨q8,q9⟩|exact⟨q12,q13⟩|exact⟨q16,q17⟩|(simp(maxDischargeDepth:=9) [go_sem, *];done))
       (first
        |(go_at_call 45;refine(ZO 1 one _).mono ?_;rintro e w7 ⟨A7,c7,rfl,hr7,hb7⟩;have HR7:=Asd.mk hr7;have HQ7:=Asd.mk (RB.below (show RB wc.drew _ _ _ from HRQx.out) hb7);have HB7:=Asd.mk (AQ (AP HBx.out) hb7);obtain⟨q12,q13,q14,q15⟩:=Bx.low hb7 hzq ⟨q8,q9,q10,q11⟩;obtain⟨p12,p13,p14,p15⟩:=Bx.low hb7 hzt ⟨p8,p9,p10,p11⟩;have hzq7:=Nat.lt_of_lt_of_le hzq hb7.size;have hzt7:=Nat.lt_of_lt_of_le hzt hb7.size;clear hr7 hb7)
        |(go_at_call 120;refine(Y6 q 1 Aq A7 cq c7 HNQb.out ZT _ (by exact HQ7.out) (by exact HR7.out)).mono ?_;rintro e w8 ⟨A8,c8,rfl,hr8,hb8⟩;have HR8:=Asd.mk hr8;have HB8:=Asd.mk (AQ HB7.out hb8);obtain⟨q16,q17,q18,q19⟩:=Bx.low hb8 hzq7 ⟨q12,q13,q14,q15⟩;obtain⟨p16,p17,p18,p19⟩:=Bx.low hb8 hzt7 ⟨p12,p13,p14,p15⟩;have hzt8:=Nat.lt_of_lt_of_le hzt7 hb8.size;clear hr8 hb8))
      go_wp2
      have HBxx:=HB8.out
      rw[hf.out]
      refine bodyPost_ret (v:=.agg #[.bool (sg (q+1)),.slice A8 (nd (q+1)) c8]) (by simp(maxDischargeDepth:=9) [results,Tryz.results50,go_sem, *]) rfl ⟨_,_,rfl,RB.store2 HR8.out p16,LC⟩
     have hf:=Asd.mk (show Al a' b'=q+1 by have h1:tw≠0:= λk=>hz ((LM tw).2 k);have h5:=sg_false.1 s1;have h2:=hr.out;have h3:=HQE.out;unfold Al;rw[<-h3,if_pos en])
     have hz':0<nd tw:=by omega
     rw[s1]at t8
     go_wp2
     go_region_held3 (λw'=>w'.cell? ⟨w1.heap.size,0,none⟩=some (.bool (sg q))/\w'.cell? ⟨w1.heap.size,1,none⟩=some (.slice Aq (nd q) cq)) (first|exact⟨q8,q9⟩|exact⟨q12,q13⟩|exact⟨q16,q17⟩|(simp(maxDischargeDepth:=9) [go_sem, *];done))
      (first
       |(go_at_call 45;refine(ZO 1 one _).mono ?_;rintro e w7 ⟨A7,c7,rfl,hr7,hb7⟩;have HR7:=Asd.mk hr7;have HQ7:=Asd.mk (RB.below (show RB wc.drew _ _ _ from HRQx.out) hb7);have HB7:=Asd.mk (AQ (AP HBx.out) hb7);obtain⟨q12,q13,q14,q15⟩:=Bx.low hb7 hzq ⟨q8,q9,q10,q11⟩;obtain⟨p12,p13,p14,p15⟩:=Bx.low hb7 hzt ⟨p8,p9,p10,p11⟩;have hzq7:=Nat.lt_of_lt_of_le hzq hb7.size;have hzt7:=Nat.lt_of_lt_of_le hzt hb7.size;clear hr7 hb7)
       |(go_at_call 120;refine(Y6 q 1 Aq A7 cq c7 HNQb.out ZT _ (by exact HQ7.out) (by exact HR7.out)).mono ?_;rintro e w8 ⟨A8,c8,rfl,hr8,hb8⟩;have HR8:=Asd.mk hr8;have HB8:=Asd.mk (AQ HB7.out hb8);obtain⟨q16,q17,q18,q19⟩:=Bx.low hb8 hzq7 ⟨q12,q13,q14,q15⟩;obtain⟨p16,p17,p18,p19⟩:=Bx.low hb8 hzt7 ⟨p12,p13,p14,p15⟩;have hzt8:=Nat.lt_of_lt_of_le hzt7 hb8.size;clear hr8 hb8))
     go_wp2
     have HBxx:=HB8.out
     rw[hf.out]
     refine bodyPost_ret (v:=.agg #[.bool (sg (q+1)),.slice A8 (nd (q+1)) c8]) (by simp(maxDischargeDepth:=9) [results,Tryz.results50,go_sem, *]) rfl ⟨_,_,rfl,RB.store2 HR8.out p16,LC⟩
    have hf:=Asd.mk (show Al a' b'=q by have h5:=sg_true.1 s1;have h2:=hr.out;have h3:=HQE.out;unfold Al;rw[<-h3,if_neg en])
    rw[s1]at t8
    go_wp2
    have HBxx:=HBx.out
    rw[hf.out]
    refine bodyPost_ret (v:=.agg #[.bool (sg q),.slice Aq (nd q) cq]) (by simp(maxDischargeDepth:=9) [results,Tryz.results50,go_sem, *]) rfl ⟨_,_,rfl,RB.store2 HRQx.out p8,LC⟩
end Go.Proofs.YtikajapjkdloaaaGreatDoor
