/- Walks of the reference's big numbers, ninth part: of a number; powers of 2. -/
import Derived.Test.YtikajapjkdloaaaGreatDoor919
import Derived.Test.YtikajapjkdloaaaGreatDoor904
namespace Go.Proofs.YtikajapjkdloaaaGreatDoor
section
open Go.RowKit
attribute [local go_sem] CE CA CF CG B_ CB CD CC Be Bc Ba
theorem cd{x y:Int}(h:x.natAbs=y.natAbs):dg x=dg y:=by unfold dg;rw[h]
set_option maxRecDepth 100000 in
set_option maxHeartbeats 2000000 in
theorem ZO(x:Int)(hx:Ai x)(w:World):
 Calls Tryz.prog 45 #[.int .i64 x] w (Zg w x):=by
 have HX:=Asd.mk hx
 clear hx
 by_cases h:x<0
 ·have hs:sg x=true:=sg_true.2 h
  have HU:=Asd.mk (show V7 (x.natAbs:Int) by have:=HX.out;unfold Ai at this;unfold V7;omega)
  have e:IntKind.u64.wrap (IntKind.u64.wrap (wrap64 (-wrap64 (x+1)))+1)=(x.natAbs:Int):=by
   have:=HX.out;unfold Ai at this;simp only[IntKind.wrap_u64,wrap64];omega
  have HD:=Asd.mk (cd (x:=(x.natAbs:Int)) (y:=x) en)
  have HN:Asd (nd (x.natAbs:Int)=nd x):=⟨by unfold nd;rw[HD.out]⟩
  go_enter Tryz.func45,Tryz.ntmps45
  go_wp2_with (go_at_call 114;refine(aE (x.natAbs:Int) HU.out _).mono ?_;rintro e w1 ⟨A1,c1,rfl,hr1,hb1⟩;replace hr1:=Asd.mk hr1;obtain⟨p0,p1,p2,p3⟩:Bx w1 (w.heap.size) (.bool false) (.slice none 0 0):=Bx.low hb1 ZB (by simp(maxDischargeDepth:=9) [Bx,go_sem, *]);obtain⟨hc1,hf1⟩:=Bz hb1;have hz1_0:w.heap.size<w1.heap.size:=Nat.lt_of_lt_of_le ZB hb1.size)
  have HR:RB w1 A1 c1 x:=by have:=hr1.out;unfold RB at this⊢;rwa[HD.out]at this
  rw[HN.out]
  refine bodyPost_ret (v:=.agg #[.bool (sg x),.slice A1 (nd x) c1]) (by simp(maxDischargeDepth:=9) [results,Tryz.results45,go_sem, *]) rfl ⟨_,_,rfl,?_,LC⟩
  exact RS.alloc (RB.store2 HR p0) _
 have HU:=Asd.mk (show V7 x by have:=HX.out;unfold Ai at this;unfold V7;omega)
 have e:IntKind.u64.wrap x=x:=by have:=HU.out;unfold V7 at this;rw[IntKind.wrap_u64];omega
 go_enter Tryz.func45,Tryz.ntmps45
 go_wp2_with (go_at_call 114;refine(aE x HU.out _).mono ?_;rintro e w1 ⟨A1,c1,rfl,hr1,hb1⟩;replace hr1:=Asd.mk hr1;obtain⟨p0,p1,p2,p3⟩:Bx w1 (w.heap.size) (.bool false) (.slice none 0 0):=Bx.low hb1 ZB (by simp(maxDischargeDepth:=9) [Bx,go_sem, *]);obtain⟨hc1,hf1⟩:=Bz hb1;have hz1_0:w.heap.size<w1.heap.size:=Nat.lt_of_lt_of_le ZB hb1.size)
 refine bodyPost_ret (v:=.agg #[.bool (sg x),.slice A1 (nd x) c1]) (by simp(maxDischargeDepth:=9) [results,Tryz.results45,go_sem, *]) rfl ⟨_,_,rfl,RB.store2 hr1.out p0,LC⟩
theorem bR{ds:List Int}{d:Int}(h:Dg (ds++[d]))(hd:d≠0):Vo (I5 (ds++[d])).toNat=ds++[d]:=by
 obtain⟨t1,t2,t3,t4⟩:=Z4 h
 have hl:(Vo (I5 (ds++[d])).toNat).length=(ds++[d]).length:=by
  by_cases hh:(Vo (I5 (ds++[d])).toNat).length<=ds.length
  ·have:=t3 ds.length hh
   rw[List.getD_eq_getElem?_getD,List.getElem?_append_right (Nat.le_refl _)]at this
   simp at this
   exact absurd this hd
  simp only[List.length_append,List.length_cons,List.length_nil]at t2⊢;omega
 rw[hl,List.take_of_length_le (Nat.le_refl _)]at t1
 exact t1.symm
theorem ae(k:Nat):Dg (List.replicate k 0):= λd hd=>by rw[(List.mem_replicate.1 hd).2];omega
theorem Zn(k:Nat):I5 (List.replicate k 0)=0:=by
 induction k with
 |zero=>rfl
 |succ k ih=>rw[List.replicate_succ];show 0+65536*I5 (List.replicate k 0)=0;omega
theorem Zs(k:Nat):List.replicate k (0:Int)++[0]=List.replicate (k+1) 0:=by rw[List.replicate_succ']
theorem cD(k:Nat):AI (16*k)=pB k:=by unfold AI pB;rw[Int.pow_mul];rfl
theorem aQ(i j:Nat):AI (i+j)=AI i*AI j:=Int.pow_add ..
theorem ZP{j:Nat}(h:j<16):1<=AI j/\AI j<65536:=by
 have:=FB j
 have h2:AI 16=AI j*AI (16-j):=by rw[<-aQ];congr 1;omega
 have h3:AI (16-j)=2*AI (15-j):=by rw[<-E9];congr 1;omega
 have h4:=FB (15-j)
 have e:AI 16=65536:=by decide
 have h5:AI j*2<=AI j*AI (16-j):=Int.mul_le_mul_of_nonneg_left en en
 omega
theorem Zc(n:Nat):dg (AI n)=List.replicate (n/16) 0++[AI (n%16)]:=by
 have hs:=ZP (j:=n%16) en
 have hD:Dg (List.replicate (n/16) 0++[AI (n%16)]):=Dg.snoc (ae _) en en
 have hv:I5 (List.replicate (n/16) 0++[AI (n%16)])=AI n:=by
  rw[Yx,Zn,List.length_replicate,<-cD,<-aQ,show 16*(n/16)+n%16=n from by omega];omega
 have h:=bR hD en
 rw[hv]at h
 unfold dg
 have:=FB n
 rw[show(AI n).natAbs=(AI n).toNat from by omega]
 exact h
set_option maxRecDepth 100000 in
set_option maxHeartbeats 4000000 in
theorem Yq(n:Nat)(hn:n<=2000)(w:World):
 Calls Tryz.prog 46 #[.int .i64 n] w (Zg w (AI n)):=by
 have hs:sg (AI n)=false:=sg_false.2 (by have:=FB n;omega)
 have HE:=Asd.mk (Zc n)
 go_enter Tryz.func46,Tryz.ntmps46
 go_wp2
 go_loopw [3,4] (λv3 v4 wr=> ∃k:Nat,k<=n/16/\v4=.int .i64 k/\Asd (OW wr (w.heap.size+1) v3 (List.replicate k 0))/\Asd (Below (w.heap.size+1) (w.alloc (.cells #[.bool false,.slice none 0 0] 106)) wr)) (λ_ v4 _=>n/16-(intOf v4).toNat)
 case atStart=>exact⟨0,by omega,rfl,⟨OW.empty (by simp) (Nat.le_refl _)⟩,⟨(Below.refl _ _).alloc (by simp) _⟩⟩
 case round=>
  obtain⟨k,hk,rfl,HO,HB⟩:=hrel
  have HS:w.heap.size+1<=wr.heap.size:=by simpa using HB.out.size
  have HL:(List.replicate k (0:Int)).length<=1000000:=by rw[List.length_replicate];omega
  by_cases hlt:k<n/16
  ·go_wp2_with (at_builtin;refine ZE (w0:=w.alloc (.cells #[.bool false,.slice none 0 0] 106)) (w.heap.size+1) rfl (.tmp 14) (.tmp 15) rfl Tryz.underlying104 Y5 (u3) (List.replicate k 0) (0) rfl rfl HO.out HB.out HS HL ?_;intro v1 w1 HO1 HB1 _)
   go_roundw
   case rel=>exact⟨k+1,by omega,by go_num,⟨by rw[<-Zs];exact HO1⟩,⟨HB1⟩⟩
   case measure=>simp[intOf];omega
  obtain rfl:k=n/16:=by omega
  go_wp2
  go_loop [5,6] (λv5 v6=> ∃(j:Nat)(x:Int),j<=n%16/\v6=.int .i64 j/\v5=.int .u64 x/\Asd (x=AI j)) (λ_ v6=>n%16-(intOf v6).toNat)
  case atStart=>exact⟨0,1,by omega,rfl,rfl,⟨rfl⟩⟩
  case round=>
   obtain⟨j,x,hj,rfl,rfl,HX⟩:=hrel
   have p1:0<=x:=by rw[HX.out];have:=ZP (j:=j) en;omega
   have p2:x<65536:=by rw[HX.out];have:=ZP (j:=j) en;omega
   by_cases hlt2:j<n%16
   ·go_wp2
    go_round
    case rel=>exact⟨j+1,2*x,by omega,by go_num,rfl,⟨by rw[E9,HX.out]⟩⟩
    case measure=>simp[intOf];omega
   obtain rfl:j=n%16:=by omega
   have hz0:w.heap.size<wr.heap.size:=by omega
   have HBw:Below w.heap.size w wr:=((Below.refl _ _).alloc (Nat.le_refl _) _).trans (HB.out.mono (by simp))
   have HBW:=Asd.mk HBw
   clear HBw
   go_wp2_with (at_builtin;refine ZE (w0:=w.alloc (.cells #[.bool false,.slice none 0 0] 106)) (w.heap.size+1) rfl (.tmp 25) (.tmp 27) rfl Tryz.underlying104 Y5 (u3) (List.replicate (n/16) 0) (x) rfl rfl HO.out HB.out HS HL ?_;intro v1 w1 HO1 HB1 _;obtain⟨A1,c1,rfl,hr1⟩:=OW.reads HO1;have HR1:=Asd.mk hr1;clear hr1;obtain⟨q0,q1,q2,q3⟩:Bx w1 w.heap.size (.bool false) (.slice none 0 0):=Bx.low HB1 (by simp) (by simp[Bx,go_sem]))
   have HBw1:Below w.heap.size w w1:=((Below.refl _ _).alloc (Nat.le_refl _) _).trans (HB1.mono (by simp))
   have HD:Asd (dg (AI n)=List.replicate (n/16) 0++[x]):=⟨by rw[HE.out,HX.out]⟩
   have HL1:n/16+1=nd (AI n):=by unfold nd;rw[HD.out];simp
   have HR2:RB w1 A1 c1 (AI n):=by unfold RB;rw[HD.out];exact HR1.out
   have HL2:=Asd.mk HL1
   clear HL1
   rw[HL2.out]
   have hs2:=Asd.mk hs
   clear hs
   refine bodyPost_ret (v:=.agg #[.bool false,.slice A1 (nd (AI n)) c1]) (by simp(maxDischargeDepth:=9) [results,Tryz.results46,go_sem, *]) rfl ⟨A1,c1,by rw[hs2.out],RB.store2 HR2 q0,LC⟩
end
section
open Go.RowKit
attribute [local go_sem] CE CA CF CG B_ CB CD CC Be Bc Ba
theorem bO{x y:Int}(hx:0<=x/\x<65536)(hy:0<=y/\y<65536):0<=x*y/\x*y<=4294836225:=
 ⟨Int.mul_nonneg hx.1 hy.1,by have:=Int.mul_le_mul (show x<=65535 by omega) (show y<=65535 by omega) hy.1 en;omega⟩
theorem bz{ys row:List Int}{i k:Nat}{g cy:Int}(hg:0<=g/\g<65536)(hy:Dg ys)(h:I5 row+pB (i+k)*cy=pB i*g*I5 (ys.take k))(hl:row.length=i+k)(hd:Dg row)(hc:0<=cy/\cy<65536):
 Dg (row++[(g*gd ys k+cy)%65536])/\(row++[(g*gd ys k+cy)%65536]).length=i+(k+1)/\
 I5 (row++[(g*gd ys k+cy)%65536])+pB (i+(k+1))*((g*gd ys k+cy)/65536)=pB i*g*I5 (ys.take (k+1))/\0<=(g*gd ys k+cy)/65536/\(g*gd ys k+cy)/65536<65536:=by
 have b1:=bO hg (Ys hy k)
 refine⟨Dg.snoc hd en en,by simp[hl];omega,?_,by omega,by omega⟩
 rw[Yx,hl,<-Nat.add_assoc,Yr,ZD]
 generalize hT:g*gd ys k+cy=T
 have e:pB (i+k)*T=pB (i+k)*(T%65536)+65536*pB (i+k)*(T/65536):=by
  have h1:T=T%65536+65536*(T/65536):=by omega
  have h2:pB (i+k)*T=pB (i+k)*(T%65536+65536*(T/65536)):=congrArg _ h1
  rw[h2,Int.mul_add,Int.mul_left_comm,Int.mul_assoc]
 have e2:pB (i+k)*T=pB (i+k)*(g*gd ys k)+pB (i+k)*cy:=by rw[<-hT,Int.mul_add]
 have e3:pB i*g*(I5 (ys.take k)+pB k*gd ys k)=pB i*g*I5 (ys.take k)+pB (i+k)*(g*gd ys k):=by
  rw[Int.mul_add,bo]
  congr 1
  rw[Int.mul_assoc,Int.mul_assoc,Int.mul_left_comm g]
 rw[e3]
 omega
theorem cI{xs ys out row s:List Int}{i:Nat}(h:I5 out=I5 (xs.take i)*I5 ys)(hr:I5 row=pB i*gd xs i*I5 ys)(hs:I5 s=I5 out+I5 row):I5 s=I5 (xs.take (i+1))*I5 ys:=by
 rw[hs,h,hr,ZD,Int.add_mul]
theorem bY{a b s:Int}(h:s=I5 (dg a)*I5 (dg b)):a*b=if(sg a !=sg b)then-s else s:=by
 rw[S7,S7,<-Int.natCast_mul,<-Int.natAbs_mul]at h
 cases h1:sg a<;>cases h2:sg b
 ·have k1:=sg_false.1 h1;have k2:=sg_false.1 h2
  have:0<=a*b:=Int.mul_nonneg en en
  simp;omega
 ·have k1:=sg_false.1 h1;have k2:=sg_true.1 h2
  have:a*b<=0:=Int.mul_nonpos_of_nonneg_of_nonpos en en
  simp;omega
 ·have k1:=sg_true.1 h1;have k2:=sg_false.1 h2
  have:a*b<=0:=Int.mul_nonpos_of_nonpos_of_nonneg en en
  simp;omega
 have k1:=sg_true.1 h1;have k2:=sg_true.1 h2
 have:0<=a*b:=Int.mul_nonneg_of_nonpos_of_nonpos en en
 simp;omega
set_option maxRecDepth 100000 in
set_option maxHeartbeats 8000000 in
theorem aq(a b:Int)(A B:Option Addr)(c d:Nat)(ha:nd a<=10000)(hb:nd b<=10000)(w:World)(hA:RB w A c a)(hB:RB w B d b):
 Calls Tryz.prog 44 #[.agg #[.bool (sg a),.slice A (nd a) c],.agg #[.bool (sg b),.slice B (nd b) d]] w (Zg w (a*b)):=by
 have HA:=Asd.mk hA
 have HB:=Asd.mk hB
 clear hA hB
 go_enter Tryz.func44,Tryz.ntmps44
 go_wp2
 go_loopw [5,6] (λv5 v6 wr=> ∃(i:Nat)(out:List Int)(Ao:Option Addr)(co:Nat),i<=nd a/\v6=.int .i64 i/\v5=.slice Ao out.length co/\Asd (Dg out/\I5 out=I5 ((dg a).take i)*I5 (dg b)/\out.length<=nd a+nd b+2+i)/\Asd (RS wr Ao co out)/\Asd (Below w.heap.size w wr)/\Bx wr w.heap.size (.bool (sg a)) (.slice A (nd a) c)/\Bx wr (w.heap.size+1) (.bool (sg b)) (.slice B (nd b) d)/\Bx wr (w.heap.size+1+1) (.bool false) (.slice none 0 0)/\w.heap.size+1+1<wr.heap.size) (λ_ v6 _=>nd a-(intOf v6).toNat)
 case atStart=>
  refine⟨0,[],_,_,by omega,rfl,rfl,⟨Dg.nil,by simp[I5],by simp⟩,⟨?_⟩,⟨LC⟩,by simp[Bx,go_sem],by simp[Bx,go_sem],by simp[Bx,go_sem],by simp⟩
  exact⟨by simp,by omega,(λe=>by cases e),λh=>absurd h (by simp)⟩
 case round=>
  obtain⟨i,out,Ao,co,hi,rfl,rfl,HV,HO,HBw,⟨x0,x1,x2,x3⟩,⟨y0,y1,y2,y3⟩,⟨p0,p1,p2,p3⟩,hz2⟩:=hrel
  obtain⟨wo,rfl⟩: ∃wo:World,wo=wr:=⟨_,rfl⟩
  have hz1:w.heap.size+1<wo.heap.size:=by omega
  have hz0:w.heap.size<wo.heap.size:=by omega
  by_cases hlt:i<nd a
  ·go_wp2
   go_loopw [7,8] (λv7 v8 wr=> ∃k:Nat,k<=i/\v8=.int .i64 k/\Asd (OW wr wo.heap.size v7 (List.replicate k 0))/\Asd (Below wo.heap.size wo wr)) (λ_ v8 _=>i-(intOf v8).toNat)
   case atStart=>exact⟨0,by omega,rfl,⟨OW.empty rfl (Nat.le_refl _)⟩,⟨(Below.refl _ _).alloc (Nat.le_refl _) _⟩⟩
   case round=>
    obtain⟨k,hk,rfl,HR,HBr⟩:=hrel
    have HS:=HBr.out.size
    have HL:(List.replicate k (0:Int)).length<=1000000:=by rw[List.length_replicate];omega
    by_cases hlt2:k<i
    ·go_wp2_with (at_builtin;refine ZE (w0:=wo) (wo.heap.size) rfl (.tmp 26) (.tmp 27) rfl Tryz.underlying104 Y5 (u7) (List.replicate k 0) (0) rfl rfl HR.out HBr.out HS HL ?_;intro v1 w1 HO1 HB1 _)
     go_roundw
     case rel=>exact⟨k+1,by omega,by go_num,⟨by rw[<-Zs];exact HO1⟩,⟨HB1⟩⟩
     case measure=>simp[intOf];omega
    obtain rfl:k=i:=by omega
    go_wp2
    go_loopw [7,9,10] (λv7 v9 v10 wq=> ∃(m:Nat)(row:List Int)(cy:Int),m<=nd b+1/\v10=.int .i64 m/\v9=.int .u64 cy/\Asd ((nd b<m->cy=0)/\Dg row/\row.length=k+m/\I5 row+pB (k+m)*cy=pB k*gd (dg a) k*I5 ((dg b).take m))/\0<=cy/\cy<65536/\Asd (OW wq wo.heap.size v7 row)/\Asd (Below wo.heap.size wo wq)) (λ_ _ v10 _=>nd b+1-(intOf v10).toNat)
    case atStart=>exact⟨0,List.replicate k 0,0,by omega,rfl,rfl,⟨λh=>by omega,ae _,by simp,by simp[Zn,I5]⟩,by omega,by omega,HR,HBr⟩
    case round=>
     clear HS HL HR HBr hlt2
     obtain⟨m,row,cy,hm,rfl,rfl,HP,hc0,hc1,HR,HBr⟩:=hrel
     have HS:=HBr.out.size
     have HL:row.length<=1000000:=by have:=HP.out.2.2.1;omega
     obtain⟨ga0,ga1⟩:=Ys (Yp a) k
     obtain⟨gb0,gb1⟩:=Ys (Yp b) m
     obtain⟨x4,x5,x6,x7⟩:=Bx.low HBr.out hz0 ⟨x0,x1,x2,x3⟩
     obtain⟨y4,y5,y6,y7⟩:=Bx.low HBr.out hz1 ⟨y0,y1,y2,y3⟩
     obtain⟨p4,p5,p6,p7⟩:=Bx.low HBr.out hz2 ⟨p0,p1,p2,p3⟩
     have hb0:m<nd b+1->True:= λ_=>trivial
     clear hb0
     by_cases hgo:m<nd b∨0<cy
     ·have hkm:m<=nd b:=by
       have:=HP.out.1
       rcases hgo with h|h
       ·omega
       by_cases hh:nd b<m
       ·have:=this hh;omega
       omega
      have HK:=Asd.mk hkm
      have hkb:(m:Int)<=20000:=by omega
      clear hkm
      obtain⟨P,hP⟩: ∃P,P=gd (dg a) k*gd (dg b) m:=⟨_,rfl⟩
      have hPb:=bO (Ys (Yp a) k) (Ys (Yp b) m)
      rw[<-hP]at hPb
      obtain⟨P0,P1⟩:=hPb
      have e0:IntKind.u64.wrap (gd (dg a) k*gd (dg b) m)=P:=by rw[<-hP,IntKind.wrap_u64];omega
      have e1:IntKind.u64.wrap (P+cy)=P+cy:=by rw[IntKind.wrap_u64];omega
      have HPP:=Asd.mk hP
      clear hP
      obtain⟨ba,rfl,hba,hca⟩:=(RS.below (RB.below HA.out HBw.out) (HBr.out.mono (Nat.le_refl _))).at k (by show k<nd a;omega)
      have hk0:(0:Int)<=k:=by omega
      have hk1:(k:Int)<nd a:=by omega
      by_cases h1:m<nd b
      all_goals by_cases h3:0<cy
      all_goals first
       |(exfalso;omega)
       |skip
      all_goals clear hgo
      all_goals go_wp2_with fail
      all_goals(
       go_region_held3 (λw'=>w'.cell? ⟨w.heap.size,1,none⟩=some (.slice (some ⟨ba,0,none⟩) (nd a) c)/\w'.cell? ⟨ba,k,none⟩=some (.int .u64 (gd (dg a) k))/\w'.cell? ⟨w.heap.size+1,1,none⟩=some (.slice B (nd b) d)) (first|(simp[go_sem];done)|exact⟨x5,hca,y5⟩)
        (first|(go_at_call 111;refine(ZJ B d (dg b) m _ (by exact RS.drew (RS.below (RB.below HB.out HBw.out) HBr.out))).mono ?_;rintro e w' ⟨rfl,rfl⟩))
       clear e0 e1 hca
       have HR2:Asd (OW wr.drew wo.heap.size u7 row):=⟨HR.out⟩
       have HBr2:Asd (Below wo.heap.size wo wr.drew):=⟨AP HBr.out⟩
       have HS2:wo.heap.size<=wr.drew.heap.size:=HS
       clear x4 x5 x6 x7 y4 y5 y6 y7 p4 p5 p6 p7
       generalize wr.drew=w2 at HR2 HBr2 HS2⊢
       go_wp2_with (at_builtin;refine ZE (w0:=wo) (wo.heap.size) rfl (.tmp 52) (.tmp 55) rfl Tryz.underlying104 Y5 (u7) (row) ((P+cy)%65536) rfl rfl HR2.out HBr2.out HS2 HL ?_;intro v1 w1 HO1 HB1 _)
       go_roundw
       case rel=>
        obtain⟨q0,hd,hl,hv⟩:=HP.out
        have hg:=Ys (Yp a) k
        obtain⟨s1,s2,s3,s4,s5⟩:=bz hg (Yp b) hv hl hd ⟨hc0,hc1⟩
        rw[<-HPP.out]at s1 s2 s3 s4 s5
        have hk:=HK.out
        refine⟨m+1,_,_,by omega,by go_num,rfl,⟨λhmax=> ?_,s1,s2,s3⟩,s4,s5,⟨HO1⟩,⟨HB1⟩⟩
        have e1:gd (dg b) m=0:=ZL (by show nd b<=m;omega)
        have e2:=HPP.out
        rw[e1,Int.mul_zero]at e2
        omega
       case measure=>have hk:=HK.out;simp[intOf];omega)
     have n1: ¬m<nd b:= λh=>hgo (.inl h)
     obtain rfl:cy=0:=by have: ¬0<cy:= λh=>hgo (.inr h);omega
     clear hgo
     obtain⟨A',c',rfl,hrs⟩:=OW.reads HR.out
     obtain⟨_,hd,hl,hv⟩:=HP.out
     have HF:=Asd.mk (show I5 row=pB k*gd (dg a) k*I5 (dg b) by rw[L1 (by show nd b<=m;omega)]at hv;omega)
     have HN:=Asd.mk (show row.length<=k+(nd b+1) by omega)
     have HRs:=Asd.mk hrs
     have HD:=Asd.mk hd
     clear hl hv hrs hd
     have HO2:=Asd.mk (RS.below HO.out (HBr.out.mono (Nat.le_refl _)))
     have hzq:wo.heap.size<=wr.heap.size:=HS
     go_wp2_with (go_at_call 112;refine(ax Ao A' co c' out row HV.out.1 HD.out (by have:=HV.out.2.2;omega) (by have:=HN.out;omega) _ (by exact HO2.out) (by exact HRs.out)).mono ?_;rintro e w1 ⟨s,A1,c1,rfl,hr1,hd1,hv1,hl1,hb1⟩;replace hr1:=Asd.mk hr1;replace hv1:=Asd.mk hv1;replace hl1:=Asd.mk hl1)
     go_roundw
     case rel=>
      have hk1:k+1<=nd a:=by omega
      have hl:=HN.out
      have hb1':=hb1
      obtain⟨x8,x9,x10,x11⟩:=Bx.low hb1 (Nat.lt_of_lt_of_le hz0 hzq) ⟨x4,x5,x6,x7⟩
      obtain⟨y8,y9,y10,y11⟩:=Bx.low hb1 (Nat.lt_of_lt_of_le hz1 hzq) ⟨y4,y5,y6,y7⟩
      obtain⟨p8,p9,p10,p11⟩:=Bx.low hb1 (Nat.lt_of_lt_of_le hz2 hzq) ⟨p4,p5,p6,p7⟩
      have HBf:Below w.heap.size w w1:=(HBw.out.trans (HBr.out.mono HBw.out.size)).trans (hb1.mono (Nat.le_trans HBw.out.size hzq))
      refine⟨k+1,s,A1,c1,hk1,by go_num,rfl,⟨hd1,cI HV.out.2.1 HF.out hv1.out,by have:=hl1.out;have:=HV.out.2.2;omega⟩,hr1,⟨HBf⟩,⟨x8,x9,x10,x11⟩,⟨y8,y9,y10,y11⟩,⟨p8,p9,p10,p11⟩,Nat.lt_of_lt_of_le (Nat.lt_of_lt_of_le hz2 hzq) hb1.size⟩
     case measure=>simp[intOf];omega
  obtain rfl:i=nd a:=by omega
  obtain⟨hd,hv,hl⟩:=HV.out
  have HM:=Asd.mk (bY (a:=a) (b:=b) (s:=I5 out) (by rw[hv,L1 (xs:=dg a) (i:=nd a) (Nat.le_refl _)]))
  clear hv hl
  cases q1:sg a
  all_goals cases q2:sg b
  all_goals rw[q1]at x0
  all_goals rw[q2]at y0
  all_goals rw[q1,q2]at HM
  all_goals(
   go_wp2_with (go_at_call 113;refine(Yt _ Ao co out (a*b) hd HM.out _ (by exact HO.out)).mono ?_;rintro e w1 ⟨rfl,hr1,hb1⟩;replace hr1:=Asd.mk hr1;obtain⟨p4,p5,p6,p7⟩:=Bx.low hb1 hz2 ⟨p0,p1,p2,p3⟩)
   have HBq:=HBw.out
   have hz3:w.heap.size+1+1<w1.heap.size:=Nat.lt_of_lt_of_le hz2 hb1.size
   refine bodyPost_ret (v:=.agg #[.bool (sg (a*b)),.slice Ao (nd (a*b)) co]) (by simp(maxDischargeDepth:=9) [results,Tryz.results44,go_sem, *]) rfl ⟨_,_,rfl,RB.store2 hr1.out p4,LC⟩)
end
section
open Go.RowKit
attribute [local go_sem] CE CA CF CG B_ CB CD CC Be Bc Ba
def V5(w W:World)(u0 v0 u1 v1 u2 v2 u3 v3 u4 v4:Value):Prop:=
 Below w.heap.size w W/\w.heap.size+1+1+1+1<W.heap.size/\Bx W w.heap.size u0 v0/\Bx W (w.heap.size+1) u1 v1/\Bx W (w.heap.size+1+1) u2 v2/\Bx W (w.heap.size+1+1+1) u3 v3/\Bx W (w.heap.size+1+1+1+1) u4 v4
theorem Bx.set{W:World}{b:Nat}{u v:Value}(h:Bx W b u v)(u' v':Value):Bx ((W.setCell ⟨b,0,none⟩ u').setCell ⟨b,1,none⟩ v') b u' v':=by
 obtain⟨h0,h1,h2,h3⟩:=h
 refine⟨?_,?_,?_,?_⟩<;>simp(maxDischargeDepth:=9) [go_sem, *]
theorem Bx.other{W:World}{b b':Nat}{u v:Value}(h:Bx W b u v)(hne:b≠b')(u' v':Value):Bx ((W.setCell ⟨b',0,none⟩ u').setCell ⟨b',1,none⟩ v') b u v:=by
 obtain⟨h0,h1,h2,h3⟩:=h
 have e: ∀i j,(⟨b',i,none⟩:Addr)≠⟨b,j,none⟩:= λi j k=>hne (congrArg Addr.block k).symm
 refine⟨?_,?_,?_,?_⟩
 ·exact Eq.trans (World.cell?_setCell_other _ _ _ _ (e 1 0)) (Eq.trans (World.cell?_setCell_other _ _ _ _ (e 0 0)) h0)
 ·exact Eq.trans (World.cell?_setCell_other _ _ _ _ (e 1 1)) (Eq.trans (World.cell?_setCell_other _ _ _ _ (e 0 1)) h1)
 ·exact Eq.trans (World.frozen?_setCell _ _ _ _) (Eq.trans (World.frozen?_setCell _ _ _ _) h2)
 exact Eq.trans (World.frozen?_setCell _ _ _ _) (Eq.trans (World.frozen?_setCell _ _ _ _) h3)
theorem ZK(W:World)(a a':Addr)(u v:Value):((W.setCell a u).setCell a' v).heap.size=W.heap.size:=by simp
section
variable {w W W1:World} {u0 v0 u1 v1 u2 v2 u3 v3 u4 v4:Value}
theorem V5.call(h:V5 w W u0 v0 u1 v1 u2 v2 u3 v3 u4 v4)(hb:Below W.heap.size W W1):V5 w W1 u0 v0 u1 v1 u2 v2 u3 v3 u4 v4:=by
 obtain⟨h1,h2,k0,k1,k2,k3,k4⟩:=h
 exact⟨h1.trans (hb.mono h1.size),Nat.lt_of_lt_of_le h2 hb.size,k0.low hb en,k1.low hb en,k2.low hb en,k3.low hb en,k4.low hb en⟩
theorem V5.set3(h:V5 w W u0 v0 u1 v1 u2 v2 u3 v3 u4 v4)(u v:Value):V5 w ((W.setCell ⟨w.heap.size+1+1+1,0,none⟩ u).setCell ⟨w.heap.size+1+1+1,1,none⟩ v) u0 v0 u1 v1 u2 v2 u v u4 v4:=by
 obtain⟨h1,h2,k0,k1,k2,k3,k4⟩:=h
 exact⟨AZ (AZ h1 (by simp;omega) _) (by simp;omega) _,by rw[ZK];exact h2,k0.other en _ _,k1.other en _ _,k2.other en _ _,k3.set _ _,k4.other en _ _⟩
theorem V5.set4(h:V5 w W u0 v0 u1 v1 u2 v2 u3 v3 u4 v4)(u v:Value):V5 w ((W.setCell ⟨w.heap.size+1+1+1+1,0,none⟩ u).setCell ⟨w.heap.size+1+1+1+1,1,none⟩ v) u0 v0 u1 v1 u2 v2 u3 v3 u v:=by
 obtain⟨h1,h2,k0,k1,k2,k3,k4⟩:=h
 exact⟨AZ (AZ h1 (by simp;omega) _) (by simp;omega) _,by rw[ZK];exact h2,k0.other en _ _,k1.other en _ _,k2.other en _ _,k3.other en _ _,k4.set _ _⟩
end
end
section
open Go.RowKit
def Zi(a:Int)(k:Nat):Int:=(a.natAbs:Int)/AI k
theorem ab(k:Nat):AI k=((2^k:Nat):Int):=by
 induction k with
 |zero=>rfl
 |succ k ih=>rw[E9,ih,Nat.pow_succ,Int.natCast_mul,Int.mul_comm];rfl
theorem Zk(a:Int)(k:Nat):Zi a k=((a.natAbs/2^k:Nat):Int):=by unfold Zi;rw[ab];rfl
theorem aV(a:Int):Zi a 0=a.natAbs:=by simp[Zi,AI]
theorem Zl(a:Int)(k:Nat):0<=Zi a k:=by rw[Zk];exact Int.natCast_nonneg _
theorem aw(a:Int):Zi a (16*nd a)=0:=by
 have h:=aL a
 have e:AI (16*nd a)=pB (nd a):=by unfold AI pB;rw[Int.pow_mul];rfl
 unfold Zi;rw[e]
 exact Int.ediv_eq_zero_of_lt en h
theorem a8(a:Int)(m:Nat):((Vo a.natAbs).getD (m/16) 0)/AI (m%16)%2=Zi a m%2:=by
 rw[Zu,ab,Zk]
 have h1:a.natAbs/2^m=a.natAbs/65536^(m/16)/2^(m%16):=by
  rw[Nat.div_div_eq_div_mul]
  congr 1
  rw[show(65536:Nat)=2^16 from rfl,<-Nat.pow_mul,<-Nat.pow_add]
  congr 1;omega
 have h2:(a.natAbs/65536^(m/16)%65536)/2^(m%16)%2=a.natAbs/65536^(m/16)/2^(m%16)%2:=by
  have e:(65536:Nat)=2^(m%16)*2^(16-m%16):=by
   rw[<-Nat.pow_add,show m%16+(16-m%16)=16 from by omega]
  generalize a.natAbs/65536^(m/16)=X
  rw[e,Nat.mod_mul_right_div_self]
  exact Nat.mod_mod_of_dvd _ ⟨2^(15-m%16),by rw[<-Nat.pow_succ'];congr 1;omega⟩
 rw[h1]
 exact(congrArg (λn:Nat=>(n:Int)) h2:)
theorem bV(a:Int)(m:Nat):Zi a m=2*Zi a (m+1)+Zi a m%2:=by
 have:Zi a (m+1)=Zi a m/2:=by
  rw[Zk,Zk,Nat.pow_succ,<-Nat.div_div_eq_div_mul];rfl
 omega
theorem bA{X Y bit b:Int}(hb:0<b)(h:X=2*Y+bit)(hbit:bit=0∨bit=1):
 (2*(Y%b)+bit<b->X%b=2*(Y%b)+bit/\X/b=2*(Y/b))/\(¬2*(Y%b)+bit<b->X%b=2*(Y%b)+bit-b/\X/b=2*(Y/b)+1):=by
 have h1:=Int.mul_ediv_add_emod Y b
 have h2:=Int.emod_nonneg Y (show b≠0 by omega)
 have h3:=Int.emod_lt_of_pos Y hb
 have e:b*(2*(Y/b))=2*(b*(Y/b)):=Int.mul_left_comm ..
 refine⟨λhl=> ?_,λhl=> ?_⟩
 ·have:=(Int.ediv_emod_unique hb (a:=X) (r:=2*(Y%b)+bit) (q:=2*(Y/b))).2 ⟨by rw[e];omega,by omega,by omega⟩
  exact⟨this.2,this.1⟩
 have e2:b*(2*(Y/b)+1)=2*(b*(Y/b))+b:=by rw[Int.mul_add,e,Int.mul_one]
 have:=(Int.ediv_emod_unique hb (a:=X) (r:=2*(Y%b)+bit-b) (q:=2*(Y/b)+1)).2 ⟨by rw[e2];omega,by omega,by omega⟩
 exact⟨this.2,this.1⟩
end
section
open Go.RowKit
attribute [local go_sem] CE CA CF CG B_ CB CD CC Be Bc Ba
theorem V5.drew{w W:World}{u0 v0 u1 v1 u2 v2 u3 v3 u4 v4:Value}(h:V5 w W u0 v0 u1 v1 u2 v2 u3 v3 u4 v4):V5 w W.drew u0 v0 u1 v1 u2 v2 u3 v3 u4 v4:=⟨AP h.1,h.2⟩
theorem ZT:nd 1<=10000:=Nat.le_trans (Yu (k:=1) eo) en
theorem ca{L Y b:Int}(h:L=Y%b)(hb:0<b)(_hY:0<=Y):0<=L/\L<b:=by
 rw[h];exact⟨Int.emod_nonneg _ en,Int.emod_lt_of_pos _ hb⟩
theorem ai{a Q b:Int}(k:Nat)(h:Q=Zi a k/b)(hb:0<b):0<=Q/\Q<=a.natAbs:=by
 have h0:=Zl a k
 have h1:Zi a k<=a.natAbs:=Int.ediv_le_self _ en
 rw[h]
 exact⟨Int.ediv_nonneg h0 en,Int.le_trans (Int.ediv_le_self _ h0) h1⟩
set_option maxRecDepth 100000 in
set_option maxHeartbeats 8000000 in
theorem bW(a b:Int)(A B:Option Addr)(c d:Nat)(hb:0<b)(ha:nd a<=5000)(hnb:nd b<=5000)(w:World)(hA:RB w A c a)(hB:RB w B d b):
 Calls Tryz.prog 119 #[.agg #[.bool (sg a),.slice A (nd a) c],.agg #[.bool (sg b),.slice B (nd b) d]] w (Zg w (a/b)):=by
 have HA:=Asd.mk hA
 have HB:=Asd.mk hB
 clear hA hB
 go_enter Tryz.func119,Tryz.ntmps119
 go_wp2
 go_loopw [7] (λv7 wr=> ∃(k:Nat)(Q L:Int)(Aq Al:Option Addr)(cq cl:Nat),k<=16*nd a/\v7=.int .i64 (k-1)/\Asd (Q=Zi a k/b/\L=Zi a k%b)/\
  V5 w wr (.bool (sg a)) (.slice A (nd a) c) (.bool (sg b)) (.slice B (nd b) d) (.bool false) (.slice none 0 0) (.bool (sg Q)) (.slice Aq (nd Q) cq) (.bool (sg L)) (.slice Al (nd L) cl)/\Asd (RB wr Aq cq Q)/\Asd (RB wr Al cl L)) (λv7 _=>(intOf v7+1).toNat)
 case atStart=>
  have e0:RB w none 0 0:=⟨by simp[dg,Yl],by omega,λ_=>rfl,λh=>by simp[dg,Yl]at h⟩
  refine⟨16*nd a,0,0,none,none,0,0,Nat.le_refl _,by go_num,⟨by rw[aw];simp,by rw[aw];simp⟩,⟨LC,by simp,by simp[Bx,go_sem],by simp[Bx,go_sem],by simp[Bx,go_sem],?_,?_⟩,⟨e0.below LC⟩,⟨e0.below LC⟩⟩
  all_goals(rw[show sg 0=false from rfl,show nd 0=0 by simp[nd,dg,Yl]];simp[Bx,go_sem])
 case round=>
  obtain⟨k,Q,L,Aq,Al,cq,cl,hk,rfl,HE,HV,HQ,HLl⟩:=hrel
  obtain⟨HBw,hz,⟨x0,x1,x2,x3⟩,⟨y0,y1,y2,y3⟩,⟨p0,p1,p2,p3⟩,⟨q0,q1,q2,q3⟩,⟨l0,l1,l2,l3⟩⟩:=id HV
  have HVV:=Asd.mk HV
  clear HV
  by_cases hgo:0<k
  ·obtain⟨m,rfl⟩: ∃m,k=m+1:=⟨k-1,by omega⟩
   rw[show(((m+1:Nat):Int)-1)=(m:Int)from by omega]
   obtain⟨ba,rfl,hba,hca⟩:=(RB.below HA.out HBw).at (m/16) (by show m/16<nd a;omega)
   have hm0:(0:Int)<=(m:Int)/16:=by omega
   have hm1:(m:Int)/16<nd a:=by omega
   have hm2:(m:Int)<=1000000:=by omega
   go_wp2
   go_loop [8,9] (λv8 v9=> ∃(j:Nat)(x:Int),j<=m%16/\v9=.int .i64 j/\v8=.int .u64 x/\0<=x/\Asd (x<65536/\x=gd (dg a) (m/16)/AI j)) (λ_ v9=>m%16-(intOf v9).toNat)
   case atStart=>
    have hg:=Ys (Yp a) (m/16)
    exact⟨0,_,by omega,rfl,rfl,hg.1,⟨hg.2,by simp[AI]⟩⟩
   case round=>
    obtain⟨j,x,hj,rfl,rfl,hx0,HX⟩:=hrel
    by_cases hlt:j<m%16
    ·go_wp2
     go_round
     case rel=>
      obtain⟨hx1,hx2⟩:=HX.out
      refine⟨j+1,x/2,by omega,by go_num,?_,by omega,⟨by omega,?_⟩⟩
      ·congr 1;rw[Int.tdiv_eq_ediv_of_nonneg hx0,IntKind.wrap_u64];omega
      rw[hx2];exact(F0 _ _).symm
     case measure=>simp[intOf];omega
    obtain rfl:j=m%16:=by omega
    obtain⟨t,ht⟩: ∃t,t=Zi a m%2:=⟨_,rfl⟩
    have hxt:x%2=t:=by rw[HX.out.2,ht];exact a8 a m
    have ht01:t=0∨t=1:=by omega
    have HT:=Asd.mk ht
    have HT01:=Asd.mk ht01
    have HU:Asd (V7 t):=⟨by unfold V7;omega⟩
    clear ht ht01 hlt hm0 hm1 hca hba
    have HV0:=HVV.out
    have hnL:Asd (nd L<=6000):=⟨Nat.le_trans (Yw (by have:=ca HE.out.2 hb (Zl a (m+1));omega)) (Nat.le_trans hnb en)⟩
    have hnQ:Asd (nd Q<=6000):=⟨Nat.le_trans (Yw (by have:=ai (a:=a) (m+1) HE.out.1 hb;omega)) (Nat.le_trans ha en)⟩
    have ndt:Asd (nd t<=1):=⟨Yu (by have:=HT01.out;show(t.natAbs:Int)<65536^1;omega)⟩
    have HRB0:=Asd.mk (RB.below HB.out HBw)
    go_wp2_with fail
    refine(Y6 L L Al Al cl cl (by have:=hnL.out;omega) (by have:=hnL.out;omega) _ HLl.out HLl.out).mono ?_
    rintro e w1 ⟨A1,c1,rfl,hr1,hb1⟩
    have HR1:=Asd.mk hr1
    have HQ1:=Asd.mk (RB.below HQ.out hb1)
    have HRB1:=Asd.mk (RB.below HRB0.out hb1)
    have V1:=Asd.mk (V5.call HV0 hb1)
    clear x0 x1 x2 x3 y0 y1 y2 y3 p0 p1 p2 p3 q0 q1 q2 q3 l0 l1 l2 l3 HBw hz
    clear hr1 hb1 HV0 HVV
    obtain⟨HBw,hz,⟨x0,x1,x2,x3⟩,⟨y0,y1,y2,y3⟩,⟨p0,p1,p2,p3⟩,⟨q0,q1,q2,q3⟩,⟨l0,l1,l2,l3⟩⟩:=id V1.out
    go_wp2_with fail
    refine(aE t HU.out _).mono ?_
    rintro e w2 ⟨A2,c2,rfl,hr2,hb2⟩
    have HR2:=Asd.mk hr2
    have HR1':=Asd.mk (RB.below HR1.out hb2)
    have HQ2:=Asd.mk (RB.below HQ1.out hb2)
    have HRB2:=Asd.mk (RB.below HRB1.out hb2)
    have V2:=Asd.mk (V5.call V1.out hb2)
    clear x0 x1 x2 x3 y0 y1 y2 y3 p0 p1 p2 p3 q0 q1 q2 q3 l0 l1 l2 l3 HBw hz
    clear hr2 hb2
    obtain⟨HBw,hz,⟨x0,x1,x2,x3⟩,⟨y0,y1,y2,y3⟩,⟨p0,p1,p2,p3⟩,⟨q0,q1,q2,q3⟩,⟨l0,l1,l2,l3⟩⟩:=id V2.out
    have hn1:Asd (nd (L+L)<=7000):=⟨by have:=Zr L L;have:=hnL.out;omega⟩
    go_wp2_with fail
    refine(Y6 (L+L) t A1 A2 c1 c2 (by have:=hn1.out;omega) (by have:=ndt.out;omega) _ HR1'.out HR2.out).mono ?_
    rintro e w3 ⟨A3,c3,rfl,hr3,hb3⟩
    obtain⟨T,hTT⟩: ∃T,T=L+L+t:=⟨_,rfl⟩
    rw[<-hTT]at hr3⊢
    have HTT:=Asd.mk hTT
    have hn3:Asd (nd T<=8000):=⟨by have:=Zr (L+L) t;have:=hn1.out;have:=ndt.out;rw[hTT];omega⟩
    clear hTT
    have HR3:=Asd.mk hr3
    have HQ3:=Asd.mk (RB.below HQ2.out hb3)
    have HRB3:=Asd.mk (RB.below HRB2.out hb3)
    have V3:=Asd.mk (V5.call V2.out hb3)
    clear x0 x1 x2 x3 y0 y1 y2 y3 p0 p1 p2 p3 q0 q1 q2 q3 l0 l1 l2 l3 HBw hz
    clear hr3 hb3
    obtain⟨HBw,hz,⟨x0,x1,x2,x3⟩,⟨y0,y1,y2,y3⟩,⟨p0,p1,p2,p3⟩,⟨q0,q1,q2,q3⟩,⟨l0,l1,l2,l3⟩⟩:=id V3.out
    go_wp2_with fail
    have V4:=Asd.mk (V5.set4 V3.out (.bool (sg T)) (.slice A3 (nd T) c3))
    have HT4:Asd (RB ((w3.setCell ⟨w.heap.size+1+1+1+1,0,none⟩ (.bool (sg T))).setCell ⟨w.heap.size+1+1+1+1,1,none⟩ (.slice A3 (nd T) c3)) A3 c3 T):=⟨RB.store2 HR3.out l0⟩
    have HQ4:Asd (RB ((w3.setCell ⟨w.heap.size+1+1+1+1,0,none⟩ (.bool (sg T))).setCell ⟨w.heap.size+1+1+1+1,1,none⟩ (.slice A3 (nd T) c3)) Aq cq Q):=⟨RB.store2 HQ3.out l0⟩
    have HRB4:Asd (RB ((w3.setCell ⟨w.heap.size+1+1+1+1,0,none⟩ (.bool (sg T))).setCell ⟨w.heap.size+1+1+1+1,1,none⟩ (.slice A3 (nd T) c3)) B d b):=⟨RB.store2 HRB3.out l0⟩
    clear x0 x1 x2 x3 y0 y1 y2 y3 p0 p1 p2 p3 q0 q1 q2 q3 l0 l1 l2 l3 HBw hz
    generalize((w3.setCell ⟨w.heap.size+1+1+1+1,0,none⟩ (.bool (sg T))).setCell ⟨w.heap.size+1+1+1+1,1,none⟩ (.slice A3 (nd T) c3))=w4 at V4 HT4 HQ4 HRB4⊢
    refine(Y6 Q Q Aq Aq cq cq (by have:=hnQ.out;omega) (by have:=hnQ.out;omega) _ HQ4.out HQ4.out).mono ?_
    rintro e w5 ⟨A5,c5,rfl,hr5,hb5⟩
    have HR5:=Asd.mk hr5
    have HT5:=Asd.mk (RB.below HT4.out hb5)
    have HRB5:=Asd.mk (RB.below HRB4.out hb5)
    have VV5:=Asd.mk (V5.call V4.out hb5)
    clear hr5 hb5
    obtain⟨HBw,hz,⟨x0,x1,x2,x3⟩,⟨y0,y1,y2,y3⟩,⟨p0,p1,p2,p3⟩,⟨q0,q1,q2,q3⟩,⟨l0,l1,l2,l3⟩⟩:=id VV5.out
    have hn5:Asd (nd (Q+Q)<=7000):=⟨by have:=Zr Q Q;have:=hnQ.out;omega⟩
    go_wp2_with fail
    have V6:=Asd.mk (V5.set3 VV5.out (.bool (sg (Q+Q))) (.slice A5 (nd (Q+Q)) c5))
    have HR6:Asd (RB ((w5.setCell ⟨w.heap.size+1+1+1,0,none⟩ (.bool (sg (Q+Q)))).setCell ⟨w.heap.size+1+1+1,1,none⟩ (.slice A5 (nd (Q+Q)) c5)) A5 c5 (Q+Q)):=⟨RB.store2 HR5.out q0⟩
    have HT6:Asd (RB ((w5.setCell ⟨w.heap.size+1+1+1,0,none⟩ (.bool (sg (Q+Q)))).setCell ⟨w.heap.size+1+1+1,1,none⟩ (.slice A5 (nd (Q+Q)) c5)) A3 c3 T):=⟨RB.store2 HT5.out q0⟩
    have HRB6:Asd (RB ((w5.setCell ⟨w.heap.size+1+1+1,0,none⟩ (.bool (sg (Q+Q)))).setCell ⟨w.heap.size+1+1+1,1,none⟩ (.slice A5 (nd (Q+Q)) c5)) B d b):=⟨RB.store2 HRB5.out q0⟩
    clear x0 x1 x2 x3 y0 y1 y2 y3 p0 p1 p2 p3 q0 q1 q2 q3 l0 l1 l2 l3 HBw hz
    generalize((w5.setCell ⟨w.heap.size+1+1+1,0,none⟩ (.bool (sg (Q+Q)))).setCell ⟨w.heap.size+1+1+1,1,none⟩ (.slice A5 (nd (Q+Q)) c5))=w6 at V6 HR6 HT6 HRB6⊢
    refine(Y8 T b A3 B c3 d (by have:=hn3.out;omega) en _ HT6.out HRB6.out).mono ?_
    rintro e w7 ⟨rfl,hb7⟩
    have HR7:=Asd.mk (RB.below HR6.out hb7)
    have HT7:=Asd.mk (RB.below HT6.out hb7)
    have HRB7:=Asd.mk (RB.below HRB6.out hb7)
    have V7:=Asd.mk (V5.call V6.out hb7)
    clear hb7
    obtain⟨HBw,hz,⟨x0,x1,x2,x3⟩,⟨y0,y1,y2,y3⟩,⟨p0,p1,p2,p3⟩,⟨q0,q1,q2,q3⟩,⟨l0,l1,l2,l3⟩⟩:=id V7.out
    have hup:=bV a m
    have hds:=bA (X:=Zi a m) (Y:=Zi a (m+1)) (bit:=Zi a m%2) hb hup (by have:=HT01.out;rw[HT.out]at this;exact this)
    have hTv:T=2*(Zi a (m+1)%b)+Zi a m%2:=by rw[HTT.out,HE.out.2,HT.out];omega
    rw[<-hTv,<-HE.out.1]at hds
    have HDS:=Asd.mk hds
    clear hup hds hTv
    by_cases hlt:T<b
    ·have hc:ZC T b= -1:=by unfold ZC;rw[if_pos hlt]
     obtain⟨hd1,hd2⟩:=HDS.out.1 hlt
     have hd1:=Asd.mk hd1
     have hd2:=Asd.mk hd2
     rw[hc]
     clear hc hlt
     go_wp2
     go_roundw
     case rel=>
      refine⟨m,Q+Q,T,A5,A3,c5,c3,by omega,rfl,⟨?_,?_⟩,V7.out,HR7,HT7⟩
      ·have:=hd2.out;omega
      exact hd1.out.symm
     case measure=>simp[intOf]
    have hc:Asd (0<=ZC T b):=⟨by unfold ZC;rw[if_neg hlt];split<;>omega⟩
    have hc':=hc.out
    obtain⟨hd1,hd2⟩:=HDS.out.2 hlt
    have hd1:=Asd.mk hd1
    have hd2:=Asd.mk hd2
    clear hlt
    go_wp2_with fail
    refine(ZG T b A3 B c3 d (by have:=hn3.out;omega) en _ HT7.out HRB7.out).mono ?_
    rintro e w8 ⟨A8,c8,rfl,hr8,hb8⟩
    have HR8:=Asd.mk hr8
    have HQ8:=Asd.mk (RB.below HR7.out hb8)
    have V8:=Asd.mk (V5.call V7.out hb8)
    clear x0 x1 x2 x3 y0 y1 y2 y3 p0 p1 p2 p3 q0 q1 q2 q3 l0 l1 l2 l3 HBw hz
    clear hr8 hb8
    obtain⟨HBw,hz,⟨x0,x1,x2,x3⟩,⟨y0,y1,y2,y3⟩,⟨p0,p1,p2,p3⟩,⟨q0,q1,q2,q3⟩,⟨l0,l1,l2,l3⟩⟩:=id V8.out
    go_wp2
    have V9:=Asd.mk (V5.set4 V8.out (.bool (sg (T-b))) (.slice A8 (nd (T-b)) c8))
    have HR9:Asd (RB ((w8.setCell ⟨w.heap.size+1+1+1+1,0,none⟩ (.bool (sg (T-b)))).setCell ⟨w.heap.size+1+1+1+1,1,none⟩ (.slice A8 (nd (T-b)) c8)) A8 c8 (T-b)):=⟨RB.store2 HR8.out l0⟩
    have HQ9:Asd (RB ((w8.setCell ⟨w.heap.size+1+1+1+1,0,none⟩ (.bool (sg (T-b)))).setCell ⟨w.heap.size+1+1+1+1,1,none⟩ (.slice A8 (nd (T-b)) c8)) A5 c5 (Q+Q)):=⟨RB.store2 HQ8.out l0⟩
    clear x0 x1 x2 x3 y0 y1 y2 y3 p0 p1 p2 p3 q0 q1 q2 q3 l0 l1 l2 l3 HBw hz
    generalize((w8.setCell ⟨w.heap.size+1+1+1+1,0,none⟩ (.bool (sg (T-b)))).setCell ⟨w.heap.size+1+1+1+1,1,none⟩ (.slice A8 (nd (T-b)) c8))=w9 at V9 HR9 HQ9⊢
    obtain⟨HBw,hz,⟨x0,x1,x2,x3⟩,⟨y0,y1,y2,y3⟩,⟨p0,p1,p2,p3⟩,⟨q0,q1,q2,q3⟩,⟨l0,l1,l2,l3⟩⟩:=id V9.out
    have one:Ai 1:=by unfold Ai;omega
    have hq2:Asd (Q+Q+1=Zi a m/b):=⟨by have:=hd2.out;omega⟩
    go_region_with (first
     |(go_at_call 45;refine(ZO 1 one _).mono ?_;rintro e w10 ⟨A10,c10,rfl,hr10,hb10⟩;have HR10:=Asd.mk hr10;have HQ10:=Asd.mk (RB.below (show RB w9.drew _ _ _ from HQ9.out) hb10);have HL10:=Asd.mk (RB.below (show RB w9.drew _ _ _ from HR9.out) hb10);have V10:=Asd.mk (V5.call (V5.drew V9.out) hb10);clear hr10 hb10;clear x0 x1 x2 x3 y0 y1 y2 y3 p0 p1 p2 p3 q0 q1 q2 q3 l0 l1 l2 l3 HBw hz;obtain⟨HBw,hz,⟨x0,x1,x2,x3⟩,⟨y0,y1,y2,y3⟩,⟨p0,p1,p2,p3⟩,⟨q0,q1,q2,q3⟩,⟨l0,l1,l2,l3⟩⟩:=id V10.out)
     |(go_at_call 120;refine(Y6 (Q+Q) 1 A5 A10 c5 c10 (by have:=hn5.out;omega) (by exact ZT) _ (by exact HQ10.out) (by exact HR10.out)).mono ?_;rintro e w11 ⟨A11,c11,rfl,hr11,hb11⟩;have HR11:=Asd.mk hr11;have HL11:=Asd.mk (RB.below HL10.out hb11);have V11:=Asd.mk (V5.call V10.out hb11);clear hr11 hb11;clear x0 x1 x2 x3 y0 y1 y2 y3 p0 p1 p2 p3 q0 q1 q2 q3 l0 l1 l2 l3 HBw hz;obtain⟨HBw,hz,⟨x0,x1,x2,x3⟩,⟨y0,y1,y2,y3⟩,⟨p0,p1,p2,p3⟩,⟨q0,q1,q2,q3⟩,⟨l0,l1,l2,l3⟩⟩:=id V11.out))
    all_goals go_wp2
    all_goals(
     go_roundw
     case rel=>exact⟨m,Q+Q+1,T-b,A11,A8,c11,c8,by omega,rfl,⟨hq2.out,hd1.out.symm⟩,V5.set3 V11.out _ _,⟨RB.store2 HR11.out q0⟩,⟨RB.store2 HL11.out q0⟩⟩
     case measure=>simp[intOf])
  obtain rfl:k=0:=by omega
  rw[show(((0:Nat):Int)-1)= -1 from by omega]
  have HE1:=Asd.mk (show Q=(a.natAbs:Int)/b by rw[HE.out.1,aV])
  have HE2:=Asd.mk (show L=(a.natAbs:Int)%b by rw[HE.out.2,aV])
  have hq0:Asd (0<=Q):=⟨(ai 0 HE.out.1 hb).1⟩
  clear hgo hk
  cases hs:sg a
  ·have hz1:a/b=if false=true then-I5 (dg Q)else I5 (dg Q):=by
    have h1:=sg_false.1 hs;have h2:=HE1.out;have h3:=hq0.out
    rw[S7];simp;rw[show a=(a.natAbs:Int)from by omega,<-h2];omega
   have HC:=Asd.mk (λW h=>Yt false Aq cq (dg Q) (a/b) (Yp Q) hz1 W h)
   rw[hs]at x0
   clear hz1
   go_wp2_with (go_at_call 113;refine(HC.out _ (by exact HQ.out)).mono ?_;rintro e w1 ⟨rfl,hr1,hb1⟩;have HR1:=Asd.mk hr1;have V1:=Asd.mk (V5.call HVV.out hb1);clear hr1 hb1;clear x0 x1 x2 x3 y0 y1 y2 y3 p0 p1 p2 p3 q0 q1 q2 q3 l0 l1 l2 l3 HBw hz;obtain⟨HBw,hz,⟨x0,x1,x2,x3⟩,⟨y0,y1,y2,y3⟩,⟨p0,p1,p2,p3⟩,⟨q0,q1,q2,q3⟩,⟨l0,l1,l2,l3⟩⟩:=id V1.out)
   refine bodyPost_ret (v:=.agg #[.bool (sg (a/b)),.slice Aq (nd (a/b)) cq]) (by simp(maxDischargeDepth:=9) [results,Tryz.results119,go_sem, *]) rfl ⟨_,_,rfl,RB.store2 HR1.out p0,LC⟩
  rw[hs]at x0
  have ha0:=sg_true.1 hs
  have hnd:=Sd (a.natAbs:Int) b hb
  rw[show-(a.natAbs:Int)=a from by omega,<-HE1.out,<-HE2.out]at hnd
  have hL0:Asd (0<=L):=⟨by rw[HE2.out];exact Int.emod_nonneg _ en⟩
  by_cases hl0:nd L=0
  ·have hz1:a/b=if true=true then-I5 (dg Q)else I5 (dg Q):=by
    have h1:=(LM L).1 hl0;have h3:=hq0.out
    rw[h1]at hnd
    rw[S7,hnd.1];simp;omega
   have HC:=Asd.mk (λW h=>Yt true Aq cq (dg Q) (a/b) (Yp Q) hz1 W h)
   clear hz1 hnd
   go_wp2_with (go_at_call 113;refine(HC.out _ (by exact HQ.out)).mono ?_;rintro e w1 ⟨rfl,hr1,hb1⟩;have HR1:=Asd.mk hr1;have V1:=Asd.mk (V5.call HVV.out hb1);clear hr1 hb1;clear x0 x1 x2 x3 y0 y1 y2 y3 p0 p1 p2 p3 q0 q1 q2 q3 l0 l1 l2 l3 HBw hz;obtain⟨HBw,hz,⟨x0,x1,x2,x3⟩,⟨y0,y1,y2,y3⟩,⟨p0,p1,p2,p3⟩,⟨q0,q1,q2,q3⟩,⟨l0,l1,l2,l3⟩⟩:=id V1.out)
   refine bodyPost_ret (v:=.agg #[.bool (sg (a/b)),.slice Aq (nd (a/b)) cq]) (by simp(maxDischargeDepth:=9) [results,Tryz.results119,go_sem, *]) rfl ⟨_,_,rfl,RB.store2 HR1.out p0,LC⟩
  have hlp:0<nd L:=by omega
  have hz1:a/b=if true=true then-I5 (dg (Q+1))else I5 (dg (Q+1)):=by
   have h1:L≠0:= λk=>hl0 ((LM L).2 k)
   have h3:=hq0.out;have h4:=hL0.out
   rw[S7,hnd.1,if_pos en];simp;omega
  have HC:=Asd.mk (λA' c' W h=>Yt true A' c' (dg (Q+1)) (a/b) (Yp (Q+1)) hz1 W h)
  have hnQ:Asd (nd Q<=6000):=⟨Nat.le_trans (Yw (by have:=ai (a:=a) 0 HE.out.1 hb;omega)) (Nat.le_trans ha en)⟩
  have one:Ai 1:=by unfold Ai;omega
  clear hz1 hnd hl0
  go_wp2
  go_region_with (first
   |(go_at_call 45;refine(ZO 1 one _).mono ?_;rintro e w10 ⟨A10,c10,rfl,hr10,hb10⟩;have HR10:=Asd.mk hr10;have HQ10:=Asd.mk (RB.below (show RB wr.drew _ _ _ from HQ.out) hb10);have V10:=Asd.mk (V5.call (V5.drew HVV.out) hb10);clear hr10 hb10;clear x0 x1 x2 x3 y0 y1 y2 y3 p0 p1 p2 p3 q0 q1 q2 q3 l0 l1 l2 l3 HBw hz;obtain⟨HBw,hz,⟨x0,x1,x2,x3⟩,⟨y0,y1,y2,y3⟩,⟨p0,p1,p2,p3⟩,⟨q0,q1,q2,q3⟩,⟨l0,l1,l2,l3⟩⟩:=id V10.out)
   |(go_at_call 120;refine(Y6 Q 1 Aq A10 cq c10 (by have:=hnQ.out;omega) (by exact ZT) _ (by exact HQ10.out) (by exact HR10.out)).mono ?_;rintro e w11 ⟨A11,c11,rfl,hr11,hb11⟩;have HR11:=Asd.mk hr11;have V11:=Asd.mk (V5.call V10.out hb11);clear hr11 hb11;clear x0 x1 x2 x3 y0 y1 y2 y3 p0 p1 p2 p3 q0 q1 q2 q3 l0 l1 l2 l3 HBw hz;obtain⟨HBw,hz,⟨x0,x1,x2,x3⟩,⟨y0,y1,y2,y3⟩,⟨p0,p1,p2,p3⟩,⟨q0,q1,q2,q3⟩,⟨l0,l1,l2,l3⟩⟩:=id V11.out))
  all_goals(
   rw[hs]at x0
   go_wp2_with fail
   have V12:=Asd.mk (V5.set3 V11.out (.bool (sg (Q+1))) (.slice A11 (nd (Q+1)) c11))
   have HR12:Asd (RB ((w11.setCell ⟨w.heap.size+1+1+1,0,none⟩ (.bool (sg (Q+1)))).setCell ⟨w.heap.size+1+1+1,1,none⟩ (.slice A11 (nd (Q+1)) c11)) A11 c11 (Q+1)):=⟨RB.store2 HR11.out q0⟩
   clear x0 x1 x2 x3 y0 y1 y2 y3 p0 p1 p2 p3 q0 q1 q2 q3 l0 l1 l2 l3 HBw hz
   generalize((w11.setCell ⟨w.heap.size+1+1+1,0,none⟩ (.bool (sg (Q+1)))).setCell ⟨w.heap.size+1+1+1,1,none⟩ (.slice A11 (nd (Q+1)) c11))=w12 at V12 HR12⊢
   refine(HC.out A11 c11 _ HR12.out).mono ?_
   rintro e w13 ⟨rfl,hr13,hb13⟩
   have HR13:=Asd.mk hr13
   have V13:=Asd.mk (V5.call V12.out hb13)
   clear hr13 hb13
   obtain⟨HBw,hz,⟨x0,x1,x2,x3⟩,⟨y0,y1,y2,y3⟩,⟨p0,p1,p2,p3⟩,⟨q0,q1,q2,q3⟩,⟨l0,l1,l2,l3⟩⟩:=id V13.out
   go_wp2
   refine bodyPost_ret (v:=.agg #[.bool (sg (a/b)),.slice A11 (nd (a/b)) c11]) (by simp(maxDischargeDepth:=9) [results,Tryz.results119,go_sem, *]) rfl ⟨_,_,rfl,RB.store2 HR13.out p0,LC⟩)
end
end Go.Proofs.YtikajapjkdloaaaGreatDoor
