/- Walks of the reference's big numbers, thirteenth part: the quotient by any number but 0, rounded down. -/
import Derived.Deep.DeepCutAuto
import Derived.Test.YtikajapjkdloaaaGreatDoor920
namespace Go.Proofs.YtikajapjkdloaaaGreatDoor
set_option linter.unusedVariables false
set_option linter.unusedSimpArgs false
open Go.RowKit
section
attribute [local go_sem] CE CA CF CG B_ CB CD CC Be Bc Ba
set_option maxRecDepth 100000 in
set_option maxHeartbeats 8000000 in
theorem eU(a b:Int)(A B:Option Addr)(c d:Nat)(hb:b≠0)(ha:nd a<=5000)(hnb:nd b<=5000)(w:World)(hA:RB w A c a)(hB:RB w B d b):
 Calls Tryz.prog 48 #[.agg #[.bool (sg a),.slice A (nd a) c],.agg #[.bool (sg b),.slice B (nd b) d]] w (Zg w (fl a b)):=by
 have HA:=Asd.mk hA
 have HB:=Asd.mk hB
 clear hA hB
 cases q:sg b
 ·have hn:=sg_false.1 q
  have hE:fl a b=a/b:=by unfold fl;rw[if_neg hn]
  have hp:0<b:=by omega
  have HC:=Asd.mk (λW h1 h2=>bW a b A B c d hp ha hnb W h1 h2)
  rw[hE]
  rw[q]at HC
  clear hE hn hp
  go_enter Tryz.func48,Tryz.ntmps48
  go_wp2_with (go_at_call 119;refine(HC.out _ (by exact RB.below HA.out LC) (by exact RB.below HB.out LC)).mono ?_;rintro e w0 ⟨A1,c1,rfl,hr1,hb0⟩;replace hr1:=Asd.mk hr1;obtain⟨x0,x1,x2,x3⟩:Bx w0 (w.heap.size) (.bool (sg a)) (.slice A (nd a) c):=Bx.low hb0 (by first|(simp;done)|(simp;omega)) (by simp(maxDischargeDepth:=9) [Bx,go_sem]);obtain⟨y0,y1,y2,y3⟩:Bx w0 (w.heap.size+1) (.bool false) (.slice B (nd b) d):=Bx.low hb0 (by first|(simp;done)|(simp;omega)) (by simp(maxDischargeDepth:=9) [Bx,go_sem]);obtain⟨p0,p1,p2,p3⟩:Bx w0 (w.heap.size+1+1) (.bool false) (.slice none 0 0):=Bx.low hb0 (by first|(simp;done)|(simp;omega)) (by simp(maxDischargeDepth:=9) [Bx,go_sem]);have hz0_2:w.heap.size+1+1<w0.heap.size:=Nat.lt_of_lt_of_le (by first|(simp;done)|(simp;omega)) hb0.size;have hz0_1:w.heap.size+1<w0.heap.size:=en;have hz0_0:w.heap.size<w0.heap.size:=en)
  refine bodyPost_ret (v:=.agg #[.bool (sg (a/b)),.slice A1 (nd (a/b)) c1]) (by simp(maxDischargeDepth:=9) [results,Tryz.results48,go_sem, *]) rfl ⟨_,_,rfl,RB.store2 hr1.out p0,LC⟩
 have hn:=sg_true.1 q
 have hE:fl a b=(-a)/(-b):=by unfold fl;rw[if_pos hn]
 have HP:Asd (0< -b):=⟨by omega⟩
 have HT:=Asd.mk (λW h=>Yy b B d W h)
 rw[q]at HT
 rw[hE]
 have hna:Asd (nd (-a)<=5000):=⟨by rw[ZF];exact ha⟩
 have hnbb:Asd (nd (-b)<=5000):=⟨by rw[ZF];exact hnb⟩
 clear hE hn
 go_enter Tryz.func48,Tryz.ntmps48
 go_wp2
 go_region_held3 (λw'=>w'.cell? ⟨w.heap.size,0,none⟩=some (.bool (sg a))/\w'.cell? ⟨w.heap.size,1,none⟩=some (.slice A (nd a) c)/\w'.cell? ⟨w.heap.size+1,0,none⟩=some (.bool true)/\w'.cell? ⟨w.heap.size+1,1,none⟩=some (.slice B (nd b) d))
  (first|(simp[go_sem];done)|exact⟨x0,x1,y0,y1⟩|exact⟨x4,x5,y4,y5⟩|exact⟨x8,x9,y8,y9⟩|(simp(maxDischargeDepth:=9) [go_sem, *];done))
  (first
   |(go_at_call 116;refine(Yy a A c _ (by exact RB.below HA.out LC)).mono ?_;rintro e w0 ⟨A1,c1,rfl,hr1,hb0⟩;replace hr1:=Asd.mk hr1;have hrB:=Asd.mk (RB.below (RB.below HB.out LC) hb0);obtain⟨x0,x1,x2,x3⟩:Bx w0 (w.heap.size) (.bool (sg a)) (.slice A (nd a) c):=Bx.low hb0 (by first|(simp;done)|(simp;omega)) (by simp(maxDischargeDepth:=9) [Bx,go_sem]);obtain⟨y0,y1,y2,y3⟩:Bx w0 (w.heap.size+1) (.bool true) (.slice B (nd b) d):=Bx.low hb0 (by first|(simp;done)|(simp;omega)) (by simp(maxDischargeDepth:=9) [Bx,go_sem]);obtain⟨p0,p1,p2,p3⟩:Bx w0 (w.heap.size+1+1) (.bool false) (.slice none 0 0):=Bx.low hb0 (by first|(simp;done)|(simp;omega)) (by simp(maxDischargeDepth:=9) [Bx,go_sem]);have hz0_2:w.heap.size+1+1<w0.heap.size:=Nat.lt_of_lt_of_le (by first|(simp;done)|(simp;omega)) hb0.size;have hz0_1:w.heap.size+1<w0.heap.size:=en;have hz0_0:w.heap.size<w0.heap.size:=en)
   |(go_at_call 116;refine(HT.out _ (by exact hrB.out)).mono ?_;rintro e w1 ⟨A2,c2,rfl,hr2,hb1⟩;replace hr2:=Asd.mk hr2;have hr1':=Asd.mk (RB.below hr1.out hb1);obtain⟨x4,x5,x6,x7⟩:=Bx.low hb1 hz0_0 ⟨x0,x1,x2,x3⟩;obtain⟨y4,y5,y6,y7⟩:=Bx.low hb1 hz0_1 ⟨y0,y1,y2,y3⟩;obtain⟨p4,p5,p6,p7⟩:=Bx.low hb1 hz0_2 ⟨p0,p1,p2,p3⟩;have hz1_2:w.heap.size+1+1<w1.heap.size:=Nat.lt_of_lt_of_le hz0_2 hb1.size;have hz1_1:w.heap.size+1<w1.heap.size:=en;have hz1_0:w.heap.size<w1.heap.size:=en)
   |(go_at_call 119;refine(bW (-a) (-b) A1 A2 c1 c2 HP.out hna.out hnbb.out _ (by exact hr1'.out) (by exact hr2.out)).mono ?_;rintro e w2 ⟨A3,c3,rfl,hr3,hb2⟩;replace hr3:=Asd.mk hr3;obtain⟨x8,x9,x10,x11⟩:=Bx.low hb2 hz1_0 ⟨x4,x5,x6,x7⟩;obtain⟨y8,y9,y10,y11⟩:=Bx.low hb2 hz1_1 ⟨y4,y5,y6,y7⟩;obtain⟨p8,p9,p10,p11⟩:=Bx.low hb2 hz1_2 ⟨p4,p5,p6,p7⟩;have hz2_2:w.heap.size+1+1<w2.heap.size:=Nat.lt_of_lt_of_le hz1_2 hb2.size;have hz2_1:w.heap.size+1<w2.heap.size:=en;have hz2_0:w.heap.size<w2.heap.size:=en))
 go_wp2
 refine bodyPost_ret (v:=.agg #[.bool (sg ((-a)/(-b))),.slice A3 (nd ((-a)/(-b))) c3]) (by simp(maxDischargeDepth:=9) [results,Tryz.results48,go_sem, *]) rfl ⟨_,_,rfl,RB.store2 hr3.out p8,LC⟩
end
section
attribute [local go_sem] CE CA CF CG B_ CB CD CC Be Bc Ba
theorem cW{x:Int}(h:Ai x):nd x<=4:=by
 have e:pB 4=18446744073709551616:=by decide
 exact Yu (by rw[e];unfold Ai at h;omega)
theorem cX{x:Int}(h:V7 x):nd x<=4:=by
 have e:pB 4=18446744073709551616:=by decide
 exact Yu (by rw[e];unfold V7 at h;omega)
theorem Y9(n:Nat):nd (AI n)=n/16+1:=by unfold nd;rw[Zc];simp
end
section
attribute [local go_sem] CE CA CF CG B_ CB CD CC Be Bc Ba
theorem bT{xs:List Int}(h:Dg xs){k:Nat}{n:Int}(hv:I5 (xs.take 4)=I5 (xs.take (k+1))+pB (k+1)*n)(h0:0<=n)(hb:n<pB (3-k))(hk:k<=3):
 I5 (xs.take 4)=I5 (xs.take k)+pB k*(65536*n+gd xs k)/\0<=65536*n+gd xs k/\65536*n+gd xs k<pB (4-k)/\65536*n+gd xs k<18446744073709551616:=by
 have hg:=Ys h k
 have e:pB (4-k)=65536*pB (3-k):=by rw[<-Yr];congr 1;omega
 have e4:pB 4=18446744073709551616:=by decide
 have hm:pB (4-k)<=pB 4:=Z_ en
 refine⟨?_,by omega,by omega,by omega⟩
 rw[hv,ZD,Yr,Int.mul_add,Int.mul_left_comm (pB k),Int.mul_assoc]
 omega
set_option maxRecDepth 100000 in
set_option maxHeartbeats 2000000 in
theorem cR(A:Option Addr)(c:Nat)(xs:List Int)(hd:Dg xs)(w:World)(h:RS w A c xs):
 Calls Tryz.prog 117 #[.slice A xs.length c] w λe w'=>e=.returned (.int .u64 (I5 (xs.take 4)))/\w=w':=by
 have HA:=Asd.mk h
 clear h
 go_enter Tryz.func117,Tryz.ntmps117
 go_wp2
 go_loop [3,4] (λv3 v4=> ∃(k:Nat)(n:Int),k<=4/\v4=.int .i64 (k-1)/\v3=.int .u64 n/\0<=n/\Asd (n<pB (4-k)/\I5 (xs.take 4)=I5 (xs.take k)+pB k*n)) (λ_ v4=>(intOf v4+1).toNat)
 case atStart=>exact⟨4,0,by omega,rfl,rfl,by omega,⟨by decide,by omega⟩⟩
 case round=>
  obtain⟨k,n,hk,rfl,rfl,hn,HV⟩:=hrel
  by_cases hgo:0<k
  ·obtain⟨m,rfl⟩: ∃m,k=m+1:=⟨k-1,by omega⟩
   rw[show(((m+1:Nat):Int)-1)=(m:Int)from by omega]
   have hs:=bT hd HV.out.2 hn (by have:=HV.out.1;rw[show 4-(m+1)=3-m from by omega]at this;exact this) en
   have HS:=Asd.mk hs
   have e1:IntKind.u64.wrap (65536*n)=65536*n:=by have:=Ys hd m;rw[IntKind.wrap_u64];omega
   have e2:IntKind.u64.wrap (65536*n+gd xs m)=65536*n+gd xs m:=by rw[IntKind.wrap_u64];omega
   clear hs
   go_wp2_with (go_at_call 111;refine(ZJ A c xs m _ (by exact HA.out)).mono ?_;rintro e w' ⟨rfl,rfl⟩)
   go_round
   case rel=>exact⟨m,_,by omega,rfl,rfl,HS.out.2.1,⟨HS.out.2.2.1,HS.out.1⟩⟩
   case measure=>simp[intOf]
  obtain rfl:k=0:=by omega
  rw[show(((0:Nat):Int)-1)= -1 from by omega]
  have HF:=Asd.mk (show n=I5 (xs.take 4) by have:=HV.out.2;simp[I5,pB]at this;omega)
  go_wp2
  go_ret
  exact⟨Gv HF.out,rfl⟩
end
-- Rp
section
attribute [local go_sem] CE CA CF CG B_ CB CD CC Be Bc Ba
theorem Zj{a b:Int}(h:a<b):ZC a b= -1:=by unfold ZC;rw[if_pos h]
set_option maxRecDepth 100000 in
set_option maxHeartbeats 4000000 in
theorem Z9(a:Int)(A:Option Addr)(c:Nat)(ha:nd a<=5000)(h:AI 63<=a)(w:World)(hA:RB w A c a):
 Calls Tryz.prog 47 #[.agg #[.bool (sg a),.slice A (nd a) c]] w λe w'=>e=.returned (.tuple #[.int .i64 0,.int .i64 3])/\Below w.heap.size w w':=by
 have HA:=Asd.mk hA
 obtain⟨z,hc,hz⟩: ∃z,ZC a (AI 63)=z/\(z=0∨z=1):=⟨_,rfl,by unfold ZC;rw[if_neg en];split<;>simp⟩
 have HC:=Asd.mk hc
 clear hc
 have n1:Asd (nd a<=10000):=⟨by omega⟩
 have n2:Asd (nd (AI 63)<=10000):=⟨by rw[Y9];omega⟩
 clear hA h
 rcases hz with rfl|rfl
 all_goals(
 go_enter Tryz.func47,Tryz.ntmps47
 go_wp2
 go_region_with
  (first
   |(go_at_call 46;refine(Yq 63 en _).mono ?_;rintro e w1 ⟨A1,c1,rfl,hr1,hb1⟩;have RP1:=Asd.mk hr1;have RA1:=Asd.mk (RB.below (by exact RS.below HA.out LC) hb1);obtain⟨x4,x5,x6,x7⟩:Bx w1 (w.heap.size) (.bool (sg a)) (.slice A (nd a) c):=Bx.low hb1 ZB (by simp(maxDischargeDepth:=9) [Bx,go_sem, *]);have hz1_x:w.heap.size<w1.heap.size:=Nat.lt_of_lt_of_le (by first|(simp;done)|(simp;omega)|(simp[go_sem];done)|(simp[go_sem];omega)) hb1.size;have HB1:=Asd.mk (AQ (w:=w) LC hb1);clear hr1 hb1)
   |(go_at_call 115;refine(Y8 a (AI 63) A A1 c c1 n1.out n2.out _ (by exact RA1.out) (by exact RP1.out)).mono ?_;rintro e w2 ⟨rfl,hb2⟩;rw[HC.out];obtain⟨x8,x9,x10,x11⟩:=Bx.low hb2 hz1_x ⟨x4,x5,x6,x7⟩;have hz2_x:w.heap.size<w2.heap.size:=Nat.lt_of_lt_of_le hz1_x hb2.size;have HB2:=Asd.mk (AQ HB1.out hb2);clear hb2))
 all_goals go_wp2
 all_goals go_ret2
 all_goals
 exact⟨rfl,(by repeat (first|exact Below.refl _ _|assumption|exact HB2.out|refine AM ?_ _|refine AJ ?_ _|refine AP ?_|refine AZ ?_ (by first|(simp;done)|(simp;omega)|(dsimp only;omega)) _|refine AQ ?_ (by assumption)))⟩)
set_option maxRecDepth 100000 in
set_option maxHeartbeats 4000000 in
theorem aW(a:Int)(A:Option Addr)(c:Nat)(ha:nd a<=5000)(h:a< -AI 63)(w:World)(hA:RB w A c a):
 Calls Tryz.prog 47 #[.agg #[.bool (sg a),.slice A (nd a) c]] w λe w'=>e=.returned (.tuple #[.int .i64 0,.int .i64 3])/\Below w.heap.size w w':=by
 have HA:=Asd.mk hA
 have HC:=Asd.mk (Zj (a:=a) (b:=AI 63) (by have:=FB 63;omega))
 have HC2:=Asd.mk (Zj (a:=a) (b:= -AI 63) h)
 have n1:Asd (nd a<=10000):=⟨by omega⟩
 have n2:Asd (nd (AI 63)<=10000):=⟨by rw[Y9];omega⟩
 have n3:Asd (nd (-AI 63)<=10000):=⟨by rw[ZF,Y9];omega⟩
 clear hA h
 go_enter Tryz.func47,Tryz.ntmps47
 go_wp2
 go_region_held3 (λw'=>w'.cell? ⟨w.heap.size,0,none⟩=some (.bool (sg a))/\w'.cell? ⟨w.heap.size,1,none⟩=some (.slice A (nd a) c))
  (first|(simp[go_sem];done)|exact⟨x4,x5⟩|exact⟨x8,x9⟩|exact⟨x12,x13⟩|exact⟨x16,x17⟩|exact⟨x20,x21⟩|(simp(maxDischargeDepth:=9) [go_sem, *];done))
  (first
   |(go_at_call 115;(with_reducible refine(Y8 a (AI 63) A A1 c c1 n1.out n2.out _ RA1.out RP1.out).mono ?_);rintro e w2 ⟨rfl,hb2⟩;rw[HC.out];have RA2:=Asd.mk (RB.below RA1.out hb2);obtain⟨x8,x9,x10,x11⟩:=Bx.low hb2 hz1_x ⟨x4,x5,x6,x7⟩;have hz2_x:w.heap.size<w2.heap.size:=Nat.lt_of_lt_of_le hz1_x hb2.size;have HB2:=Asd.mk (AQ HB1.out hb2);clear hb2)
   |(go_at_call 115;(with_reducible refine(Y8 a (-AI 63) A A4 c c4 n1.out n3.out _ RA4.out RT4.out).mono ?_);rintro e w5 ⟨rfl,hb5⟩;rw[HC2.out];obtain⟨x20,x21,x22,x23⟩:=Bx.low hb5 hz4_x ⟨x16,x17,x18,x19⟩;have hz5_x:w.heap.size<w5.heap.size:=Nat.lt_of_lt_of_le hz4_x hb5.size;have RA5:=Asd.mk (RB.below RA4.out hb5);have HB5:=Asd.mk (AQ HB4.out hb5);clear hb5)
   |(go_at_call 116;refine(Yy (AI 63) A3 c3 _ (by exact RP3.out)).mono ?_;rintro e w4 ⟨A4,c4,rfl,hr4,hb4⟩;have RT4:=Asd.mk hr4;have RA4:=Asd.mk (RB.below RA3.out hb4);obtain⟨x16,x17,x18,x19⟩:=Bx.low hb4 hz3_x ⟨x12,x13,x14,x15⟩;have hz4_x:w.heap.size<w4.heap.size:=Nat.lt_of_lt_of_le hz3_x hb4.size;have HB4:=Asd.mk (AQ HB3.out hb4);clear hr4 hb4)
   |(go_at_call 46;refine(Yq 63 en _).mono ?_;rintro e w3 ⟨A3,c3,rfl,hr3,hb3⟩;have RP3:=Asd.mk hr3;have RA3:=Asd.mk (RB.below RA2.out hb3);obtain⟨x12,x13,x14,x15⟩:=Bx.low hb3 hz2_x ⟨x8,x9,x10,x11⟩;have hz3_x:w.heap.size<w3.heap.size:=Nat.lt_of_lt_of_le hz2_x hb3.size;have HB3:=Asd.mk (AQ HB2.out hb3);clear hr3 hb3)
   |(go_at_call 46;refine(Yq 63 en _).mono ?_;rintro e w1 ⟨A1,c1,rfl,hr1,hb1⟩;have RP1:=Asd.mk hr1;have RA1:=Asd.mk (RB.below (by exact RS.below HA.out LC) hb1);obtain⟨x4,x5,x6,x7⟩:Bx w1 (w.heap.size) (.bool (sg a)) (.slice A (nd a) c):=Bx.low hb1 ZB (by simp(maxDischargeDepth:=9) [Bx,go_sem, *]);have hz1_x:w.heap.size<w1.heap.size:=Nat.lt_of_lt_of_le (by first|(simp;done)|(simp;omega)|(simp[go_sem];done)|(simp[go_sem];omega)) hb1.size;have HB1:=Asd.mk (AQ (w:=w) LC hb1);clear hr1 hb1))
 go_wp2
 go_ret2
 exact⟨rfl,(by repeat (first|exact Below.refl _ _|assumption|exact HB5.out|refine AM ?_ _|refine AJ ?_ _|refine AP ?_|refine AZ ?_ (by first|(simp;done)|(simp;omega)|(dsimp only;omega)) _|refine AQ ?_ (by assumption)))⟩
theorem cK{z:Int}(h:V7 z):I5 ((dg z).take 4)=z:=by
 rw[List.take_of_length_le (by have:=cX h;exact this),S7];unfold V7 at h;omega
theorem Zx(z:Int)(hz:V7 z)(A:Option Addr)(c:Nat)(w:World)(h:RB w A c z):
 Calls Tryz.prog 117 #[.slice A (nd z) c] w λe w'=>e=.returned (.int .u64 z)/\w=w':=by
 have k:=cR A c (dg z) (Yp z) w h
 rw[cK hz]at k;exact k
theorem aP{k l:IntKind}{x y a b:Int}(h:x=a)(h2:y=b):Ending.returned (.tuple #[.int k x,.int l y])=.returned (.tuple #[.int k a,.int l b]):=by rw[h,h2]
theorem Gq(s:Bool)(A:Option Addr)(n c:Nat)(w:World):(Instr.field 106 (.agg #[.bool s,.slice A n c]) 1).run Tryz.prog w=.ok (.slice A n c) w:=by kernel_rfl
attribute [local go_sem] Gq
set_option maxRecDepth 100000 in
set_option maxHeartbeats 8000000 in
theorem aM(a:Int)(A:Option Addr)(c:Nat)(ha:nd a<=5000)(h: -AI 63<=a)(h0:a<0)(w:World)(hA:RB w A c a):
 Calls Tryz.prog 47 #[.agg #[.bool (sg a),.slice A (nd a) c]] w λe w'=>e=.returned (.tuple #[.int .i64 a,.int .i64 0])/\Below w.heap.size w w':=by
 have Ra_0:=Asd.mk hA
 have HC:=Asd.mk (Zj (a:=a) (b:=AI 63) (by have:=FB 63;omega))
 obtain⟨z,hc,hz⟩: ∃z,ZC a (-AI 63)=z/\(z=0∨z=1):=⟨_,rfl,by unfold ZC;rw[if_neg en];split<;>simp⟩
 have HC2:=Asd.mk hc
 have n1:Asd (nd a<=10000):=⟨by omega⟩
 have n2:Asd (nd (AI 63)<=10000):=⟨by rw[Y9];omega⟩
 have n3:Asd (nd (-AI 63)<=10000):=⟨by rw[ZF,Y9];omega⟩
 have n4:Asd (nd (-a)<=10000):=⟨by rw[ZF];omega⟩
 have n5:Asd (nd 1<=10000):=⟨ZT⟩
 have e63:AI 63=9223372036854775808:=by decide
 have I1:Asd (Ai 1):=⟨by decide⟩
 have HQ:=Asd.mk (sg_true.2 h0)
 have HU:Asd (V7 (-a-1)):=⟨by unfold V7;omega⟩
 have HS:Asd (-9223372036854775808<=a/\a<0):=⟨by omega⟩
 have HT:=Asd.mk (λW h=>Yy a A c W h)
 rw[HQ.out]at HT
 clear hA h h0 hc e63
 rcases hz with rfl|rfl
 all_goals(
 go_enter Tryz.func47,Tryz.ntmps47
 go_wp2
 go_region_held3 (λw'=>w'.cell? ⟨w.heap.size,0,none⟩=some (.bool (sg a))/\w'.cell? ⟨w.heap.size,1,none⟩=some (.slice A (nd a) c))
  (first|exact⟨x1_0,x1_1⟩|exact⟨x2_0,x2_1⟩|exact⟨x3_0,x3_1⟩|exact⟨x4_0,x4_1⟩|exact⟨x5_0,x5_1⟩|(simp[go_sem];done)|(simp(maxDischargeDepth:=9) [go_sem, *];done))
  (first
   |(go_at_call 115;refine(Y8 a (-AI 63) A A4 c c4 n1.out n3.out _ (by exact Ra_4.out) (by exact Rt_4.out)).mono ?_;rintro e w5 ⟨rfl,hb5⟩;rw[HC2.out];have Ra_5:=Asd.mk (RB.below (by exact Ra_4.out) hb5);have Rt_5:=Asd.mk (RB.below (by exact Rt_4.out) hb5);obtain⟨x5_0,x5_1,x5_2,x5_3⟩:=Bx.low hb5 hz4_x ⟨x4_0,x4_1,x4_2,x4_3⟩;have hz5_x:w.heap.size<w5.heap.size:=Nat.lt_of_lt_of_le hz4_x hb5.size;have HB5:=Asd.mk (AQ (w:=w) (by repeat (first|exact Below.refl _ _|assumption|exact HB4.out|refine AM ?_ _|refine AJ ?_ _|refine AP ?_|refine AZ ?_ (by first|(simp;done)|(simp;omega)|(dsimp only;omega)) _|refine AQ ?_ (by assumption))) hb5);clear hb5)
   |(go_at_call 116;refine(Yy (AI 63) A3 c3 _ (by exact Rq_3.out)).mono ?_;rintro e w4 ⟨A4,c4,rfl,hr4,hb4⟩;have Rt_4:=Asd.mk hr4;have Ra_4:=Asd.mk (RB.below (by exact Ra_3.out) hb4);have Rq_4:=Asd.mk (RB.below (by exact Rq_3.out) hb4);obtain⟨x4_0,x4_1,x4_2,x4_3⟩:=Bx.low hb4 hz3_x ⟨x3_0,x3_1,x3_2,x3_3⟩;have hz4_x:w.heap.size<w4.heap.size:=Nat.lt_of_lt_of_le hz3_x hb4.size;have HB4:=Asd.mk (AQ (w:=w) (by repeat (first|exact Below.refl _ _|assumption|exact HB3.out|refine AM ?_ _|refine AJ ?_ _|refine AP ?_|refine AZ ?_ (by first|(simp;done)|(simp;omega)|(dsimp only;omega)) _|refine AQ ?_ (by assumption))) hb4);clear hr4 hb4)
   |(go_at_call 46;refine(Yq 63 en _).mono ?_;rintro e w3 ⟨A3,c3,rfl,hr3,hb3⟩;have Rq_3:=Asd.mk hr3;have Ra_3:=Asd.mk (RB.below (by exact Ra_2.out) hb3);obtain⟨x3_0,x3_1,x3_2,x3_3⟩:=Bx.low hb3 hz2_x ⟨x2_0,x2_1,x2_2,x2_3⟩;have hz3_x:w.heap.size<w3.heap.size:=Nat.lt_of_lt_of_le hz2_x hb3.size;have HB3:=Asd.mk (AQ (w:=w) (by repeat (first|exact Below.refl _ _|assumption|exact HB2.out|refine AM ?_ _|refine AJ ?_ _|refine AP ?_|refine AZ ?_ (by first|(simp;done)|(simp;omega)|(dsimp only;omega)) _|refine AQ ?_ (by assumption))) hb3);clear hr3 hb3)
   |(go_at_call 115;refine(Y8 a (AI 63) A A1 c c1 n1.out n2.out _ (by exact Ra_1.out) (by exact Rp_1.out)).mono ?_;rintro e w2 ⟨rfl,hb2⟩;rw[HC.out];have Ra_2:=Asd.mk (RB.below (by exact Ra_1.out) hb2);have Rp_2:=Asd.mk (RB.below (by exact Rp_1.out) hb2);obtain⟨x2_0,x2_1,x2_2,x2_3⟩:=Bx.low hb2 hz1_x ⟨x1_0,x1_1,x1_2,x1_3⟩;have hz2_x:w.heap.size<w2.heap.size:=Nat.lt_of_lt_of_le hz1_x hb2.size;have HB2:=Asd.mk (AQ (w:=w) (by repeat (first|exact Below.refl _ _|assumption|exact HB1.out|refine AM ?_ _|refine AJ ?_ _|refine AP ?_|refine AZ ?_ (by first|(simp;done)|(simp;omega)|(dsimp only;omega)) _|refine AQ ?_ (by assumption))) hb2);clear hb2)
   |(go_at_call 46;refine(Yq 63 en _).mono ?_;rintro e w1 ⟨A1,c1,rfl,hr1,hb1⟩;have Rp_1:=Asd.mk hr1;have Ra_1:=Asd.mk (RB.below (by exact RB.below Ra_0.out LC) hb1);obtain⟨x1_0,x1_1,x1_2,x1_3⟩:Bx w1 (w.heap.size) (.bool (sg a)) (.slice A (nd a) c):=Bx.low hb1 ZB (by simp(maxDischargeDepth:=9) [Bx,go_sem, *]);have hz1_x:w.heap.size<w1.heap.size:=Nat.lt_of_lt_of_le ZB hb1.size;have HB1:=Asd.mk (AQ (w:=w) LC hb1);clear hr1 hb1))
 have q:=HQ.out
 go_wp2_with (first
  |(go_at_call 117;refine(Zx (-a-1) HU.out A8 c8 _ (by exact Rs_8.out)).mono ?_;rintro e w' ⟨rfl,rfl⟩)
  |(go_at_call 118;refine(ZG (-a) 1 A6 A7 c6 c7 n4.out n5.out _ (by exact Rt_7.out) (by exact Ro_7.out)).mono ?_;rintro e w8 ⟨A8,c8,rfl,hr8,hb8⟩;have Rs_8:=Asd.mk hr8;have Rt_8:=Asd.mk (RB.below (by exact Rt_7.out) hb8);have Ro_8:=Asd.mk (RB.below (by exact Ro_7.out) hb8);obtain⟨x8_0,x8_1,x8_2,x8_3⟩:=Bx.low hb8 hz7_x ⟨x7_0,x7_1,x7_2,x7_3⟩;have hz8_x:w.heap.size<w8.heap.size:=Nat.lt_of_lt_of_le hz7_x hb8.size;have HB8:=Asd.mk (AQ (w:=w) (by repeat (first|exact Below.refl _ _|assumption|exact HB7.out|refine AM ?_ _|refine AJ ?_ _|refine AP ?_|refine AZ ?_ (by first|(simp;done)|(simp;omega)|(dsimp only;omega)) _|refine AQ ?_ (by assumption))) hb8);clear hr8 hb8)
  |(go_at_call 45;refine(ZO 1 I1.out _).mono ?_;rintro e w7 ⟨A7,c7,rfl,hr7,hb7⟩;have Ro_7:=Asd.mk hr7;have Rt_7:=Asd.mk (RB.below (by exact Rt_6.out) hb7);obtain⟨x7_0,x7_1,x7_2,x7_3⟩:=Bx.low hb7 hz6_x ⟨x6_0,x6_1,x6_2,x6_3⟩;have hz7_x:w.heap.size<w7.heap.size:=Nat.lt_of_lt_of_le hz6_x hb7.size;have HB7:=Asd.mk (AQ (w:=w) (by repeat (first|exact Below.refl _ _|assumption|exact HB6.out|refine AM ?_ _|refine AJ ?_ _|refine AP ?_|refine AZ ?_ (by first|(simp;done)|(simp;omega)|(dsimp only;omega)) _|refine AQ ?_ (by assumption))) hb7);clear hr7 hb7)
  |(go_at_call 116;refine(HT.out _ (by exact Ra_5.out)).mono ?_;rintro e w6 ⟨A6,c6,rfl,hr6,hb6⟩;have Rt_6:=Asd.mk hr6;have Ra_6:=Asd.mk (RB.below (by exact Ra_5.out) hb6);obtain⟨x6_0,x6_1,x6_2,x6_3⟩:=Bx.low hb6 hz5_x ⟨x5_0,x5_1,x5_2,x5_3⟩;have hz6_x:w.heap.size<w6.heap.size:=Nat.lt_of_lt_of_le hz5_x hb6.size;have HB6:=Asd.mk (AQ (w:=w) (by repeat (first|exact Below.refl _ _|assumption|exact HB5.out|refine AM ?_ _|refine AJ ?_ _|refine AP ?_|refine AZ ?_ (by first|(simp;done)|(simp;omega)|(dsimp only;omega)) _|refine AQ ?_ (by assumption))) hb6);clear hr6 hb6))
 have HBf:=HB8.out
 go_ret2
 exact⟨aP (by have k:=HS.out;simp only[wrap64];omega) rfl,LC⟩)
set_option maxRecDepth 100000 in
set_option maxHeartbeats 8000000 in
theorem aY(a:Int)(A:Option Addr)(c:Nat)(ha:nd a<=5000)(h:a<AI 63)(h0:0<=a)(w:World)(hA:RB w A c a):
 Calls Tryz.prog 47 #[.agg #[.bool (sg a),.slice A (nd a) c]] w λe w'=>e=.returned (.tuple #[.int .i64 a,.int .i64 0])/\Below w.heap.size w w':=by
 have hmin: -AI 63<=a:=by have:=FB 63;omega
 have Ra_0:=Asd.mk hA
 have HC:=Asd.mk (Zj (a:=a) (b:=AI 63) (by have:=FB 63;omega))
 obtain⟨z,hc,hz⟩: ∃z,ZC a (-AI 63)=z/\(z=0∨z=1):=⟨_,rfl,by unfold ZC;rw[if_neg en];split<;>simp⟩
 have HC2:=Asd.mk hc
 have n1:Asd (nd a<=10000):=⟨by omega⟩
 have n2:Asd (nd (AI 63)<=10000):=⟨by rw[Y9];omega⟩
 have n3:Asd (nd (-AI 63)<=10000):=⟨by rw[ZF,Y9];omega⟩
 have n4:Asd (nd (-a)<=10000):=⟨by rw[ZF];omega⟩
 have n5:Asd (nd 1<=10000):=⟨ZT⟩
 have e63:AI 63=9223372036854775808:=by decide
 have I1:Asd (Ai 1):=⟨by decide⟩
 have HQ:=Asd.mk (sg_false.2 (show¬a<0 by omega))
 have HU:Asd (V7 a):=⟨by unfold V7;omega⟩
 have E1:Asd (wrap64 a=a):=⟨by unfold wrap64;omega⟩
 clear hA h h0 hc e63 hmin
 rcases hz with rfl|rfl
 all_goals(
 go_enter Tryz.func47,Tryz.ntmps47
 go_wp2
 go_region_held3 (λw'=>w'.cell? ⟨w.heap.size,0,none⟩=some (.bool (sg a))/\w'.cell? ⟨w.heap.size,1,none⟩=some (.slice A (nd a) c))
  (first|exact⟨x1_0,x1_1⟩|exact⟨x2_0,x2_1⟩|exact⟨x3_0,x3_1⟩|exact⟨x4_0,x4_1⟩|exact⟨x5_0,x5_1⟩|(simp[go_sem];done)|(simp(maxDischargeDepth:=9) [go_sem, *];done))
  (first
   |(go_at_call 115;refine(Y8 a (-AI 63) A A4 c c4 n1.out n3.out _ (by exact Ra_4.out) (by exact Rt_4.out)).mono ?_;rintro e w5 ⟨rfl,hb5⟩;rw[HC2.out];have Ra_5:=Asd.mk (RB.below (by exact Ra_4.out) hb5);have Rt_5:=Asd.mk (RB.below (by exact Rt_4.out) hb5);obtain⟨x5_0,x5_1,x5_2,x5_3⟩:=Bx.low hb5 hz4_x ⟨x4_0,x4_1,x4_2,x4_3⟩;have hz5_x:w.heap.size<w5.heap.size:=Nat.lt_of_lt_of_le hz4_x hb5.size;have HB5:=Asd.mk (AQ (w:=w) (by repeat (first|exact Below.refl _ _|assumption|exact HB4.out|refine AM ?_ _|refine AJ ?_ _|refine AP ?_|refine AZ ?_ (by first|(simp;done)|(simp;omega)|(dsimp only;omega)) _|refine AQ ?_ (by assumption))) hb5);clear hb5)
   |(go_at_call 116;refine(Yy (AI 63) A3 c3 _ (by exact Rq_3.out)).mono ?_;rintro e w4 ⟨A4,c4,rfl,hr4,hb4⟩;have Rt_4:=Asd.mk hr4;have Ra_4:=Asd.mk (RB.below (by exact Ra_3.out) hb4);have Rq_4:=Asd.mk (RB.below (by exact Rq_3.out) hb4);obtain⟨x4_0,x4_1,x4_2,x4_3⟩:=Bx.low hb4 hz3_x ⟨x3_0,x3_1,x3_2,x3_3⟩;have hz4_x:w.heap.size<w4.heap.size:=Nat.lt_of_lt_of_le hz3_x hb4.size;have HB4:=Asd.mk (AQ (w:=w) (by repeat (first|exact Below.refl _ _|assumption|exact HB3.out|refine AM ?_ _|refine AJ ?_ _|refine AP ?_|refine AZ ?_ (by first|(simp;done)|(simp;omega)|(dsimp only;omega)) _|refine AQ ?_ (by assumption))) hb4);clear hr4 hb4)
   |(go_at_call 46;refine(Yq 63 en _).mono ?_;rintro e w3 ⟨A3,c3,rfl,hr3,hb3⟩;have Rq_3:=Asd.mk hr3;have Ra_3:=Asd.mk (RB.below (by exact Ra_2.out) hb3);obtain⟨x3_0,x3_1,x3_2,x3_3⟩:=Bx.low hb3 hz2_x ⟨x2_0,x2_1,x2_2,x2_3⟩;have hz3_x:w.heap.size<w3.heap.size:=Nat.lt_of_lt_of_le hz2_x hb3.size;have HB3:=Asd.mk (AQ (w:=w) (by repeat (first|exact Below.refl _ _|assumption|exact HB2.out|refine AM ?_ _|refine AJ ?_ _|refine AP ?_|refine AZ ?_ (by first|(simp;done)|(simp;omega)|(dsimp only;omega)) _|refine AQ ?_ (by assumption))) hb3);clear hr3 hb3)
   |(go_at_call 115;refine(Y8 a (AI 63) A A1 c c1 n1.out n2.out _ (by exact Ra_1.out) (by exact Rp_1.out)).mono ?_;rintro e w2 ⟨rfl,hb2⟩;rw[HC.out];have Ra_2:=Asd.mk (RB.below (by exact Ra_1.out) hb2);have Rp_2:=Asd.mk (RB.below (by exact Rp_1.out) hb2);obtain⟨x2_0,x2_1,x2_2,x2_3⟩:=Bx.low hb2 hz1_x ⟨x1_0,x1_1,x1_2,x1_3⟩;have hz2_x:w.heap.size<w2.heap.size:=Nat.lt_of_lt_of_le hz1_x hb2.size;have HB2:=Asd.mk (AQ (w:=w) (by repeat (first|exact Below.refl _ _|assumption|exact HB1.out|refine AM ?_ _|refine AJ ?_ _|refine AP ?_|refine AZ ?_ (by first|(simp;done)|(simp;omega)|(dsimp only;omega)) _|refine AQ ?_ (by assumption))) hb2);clear hb2)
   |(go_at_call 46;refine(Yq 63 en _).mono ?_;rintro e w1 ⟨A1,c1,rfl,hr1,hb1⟩;have Rp_1:=Asd.mk hr1;have Ra_1:=Asd.mk (RB.below (by exact RB.below Ra_0.out LC) hb1);obtain⟨x1_0,x1_1,x1_2,x1_3⟩:Bx w1 (w.heap.size) (.bool (sg a)) (.slice A (nd a) c):=Bx.low hb1 ZB (by simp(maxDischargeDepth:=9) [Bx,go_sem, *]);have hz1_x:w.heap.size<w1.heap.size:=Nat.lt_of_lt_of_le ZB hb1.size;have HB1:=Asd.mk (AQ (w:=w) LC hb1);clear hr1 hb1))
 have q:=HQ.out
 go_wp2_with (go_at_call 117;refine(Zx a HU.out A c _ (by exact Ra_5.out)).mono ?_;rintro e w' ⟨rfl,rfl⟩)
 have HBf:=HB5.out
 go_ret2
 exact⟨aP E1.out rfl,LC⟩)
end
section
attribute [local go_sem] CE CA CF CG B_ CB CD CC Be Bc Ba
attribute [local go_sem] Gq
theorem cJ(a:Int)(A:Option Addr)(c:Nat)(ha:nd a<=5000)(w:World)(hA:RB w A c a):
 Calls Tryz.prog 47 #[.agg #[.bool (sg a),.slice A (nd a) c]] w λe w'=>e=.returned (.tuple #[.int .i64 (Ae a),.int .i64 (CN a)])/\Below w.heap.size w w':=by
 have e63:AI 63=9223372036854775808:=by decide
 by_cases h1:AI 63<=a
 ·have h: ¬Ai a:=by unfold Ai;omega
  have e:Ae a=0/\CN a=3:=by simp[Ae,CN,h]
  rw[e.1,e.2];exact Z9 a A c ha h1 w hA
 by_cases h2:a< -AI 63
 ·have h: ¬Ai a:=by unfold Ai;omega
  have e:Ae a=0/\CN a=3:=by simp[Ae,CN,h]
  rw[e.1,e.2];exact aW a A c ha h2 w hA
 have h:Ai a:=by unfold Ai;omega
 have e:Ae a=a/\CN a=0:=by simp[Ae,CN,h]
 rw[e.1,e.2]
 by_cases h0:a<0
 ·exact aM a A c ha en h0 w hA
 exact aY a A c ha en en w hA
end
end Go.Proofs.YtikajapjkdloaaaGreatDoor
