/- Walks of the layer 'wide', seventh part: the quotient, bit by bit. -/
import Derived.Test.YtikajapjkdloaaaGreatDoor905
import Derived.ScopeJumps
import Derived.Deep.DeepCutAuto
namespace Go.Proofs.YtikajapjkdloaaaGreatDoor
open Go.RowKit
section
attribute [local go_sem] CE CA CF CG B_ CB CD CC Be Bc Ba
theorem Pb{l:Nat}{J J':Act->World->Prop}{Q:Exit->Act->World->Prop}(h: ∀a w,J' a w->J a w): ∀e a w,Exit.jump l J' Q e a w->Exit.jump l J Q e a w:=by
 intro e a w hh
 cases e<;>first|exact hh|exact⟨hh.1,h _ _ hh.2⟩
theorem I9(a:Int)(w:World):
 Calls Tryz.prog 196 #[.agg #[.int .i64 0,.int .u64 0],.agg #[.int .i64 (AW a),.int .u64 (AY a)]] w λe w'=>e=.returned (.agg #[.int .i64 (AW (Aj (-a))),.int .u64 (AY (Aj (-a)))])/\Below w.heap.size w w':=by
 have h:=H7 0 a w
 rw[R6,Ry,Int.zero_sub]at h
 exact h
theorem QZ{P:Program}{y:Code}{Q:Exit->Act->World->Prop}{a:Act}{w:World}(h:y.wp P Q a w):(Code.seq .skip y).wp P Q a w:=wp_seq (wp_skip h)
theorem NE{P:Program}{c y:Code}{Q:Exit->Act->World->Prop}{a:Act}{w:World}(l:Nat)(J:Act->World->Prop)(μ:Act->World->Nat)(hf:findLabel c l=some (.seq .skip y))
 (first:(∀a w,J a w->y.wp P (Exit.jump l J Q) a w)->c.wp P (Exit.jump l J Q) a w)
 (pass: ∀a w,J a w->y.wp P (Exit.jump l (λa' w'=>J a' w'/\μ a' w'<μ a w) Q) a w):(Code.scope c).wp P Q a w:=
 wp_scope_jumps l J μ hf (first (λa w h=>Code.wp_mono (Pb (λ_ _ k=>k.1)) (pass a w h))) (λa w h=>QZ (pass a w h))
set_option maxRecDepth 1000000 in
set_option maxHeartbeats 4000000 in
theorem Gk(a b:Int)(ha:AS a)(hb:0<b)(hb2:b<=9223372036854775808)(w:World)(hg:GN w):
 Calls Tryz.prog 219 #[.agg #[.int .i64 (AW a),.int .u64 (AY a)],.int .u64 b] w λe w'=>e=.returned (.tuple #[.agg #[.int .i64 (AW (Aj (a.natAbs/b))),.int .u64 (AY (Aj (a.natAbs/b)))],.int .u64 (a.natAbs%b)])/\Below w.heap.size w w':=by
 have hlt:=World.block_lt_of_cell? w _ hg.1
 obtain⟨hlo,hlo',hlol⟩:=DS hlt
 obtain⟨g0,g1⟩:=hg
 obtain⟨A,hAe⟩: ∃A:Int,A=a.natAbs:=⟨_,rfl⟩
 have hA:SA A:=by unfold AS at ha;unfold SA;omega
 rw[<-hAe]
 have HAe:=Lib.hid hAe
 clear hAe
 obtain⟨HE1,HE2⟩:=UX hA hb
 have HE1:=Lib.hid HE1
 have HE2:=Lib.hid HE2
 have hb2':b<=9223372036854775808:=hb2
 have HB2:=Lib.hid hb2'
 clear hb2 hb2'
 go_enter Tryz.func219,Tryz.ntmps219
 go_wp2
 refine NE 0 (λa' w'=> ∃(k:Nat)(u0 u2 u3 u8 u10 u11 u12 u13 u14 u15 u16 u17 u18 u19 u20 u21 u22 u23 u24 u25 u26 u27 u28 u29 u30 u31 u32 u33 u34 u35 u36 u37 u38 u39 u40 u41 u42 u43 u44 u45 u46 u47 u48 u49 u50 u51 u52 u53 u54 u55:Value),k<=128/\a'=({tmps:=#[u0,.int .u64 b,u2,u3,.pointer (some ⟨w.heap.size+1,0,none⟩),.int .u64 (rs A b k),.int .u64 (OZ A k),.int .u64 (R8 A k),u8,.int .i64 (128-k),u10,u11,u12,u13,u14,u15,u16,u17,u18,u19,u20,u21,u22,u23,u24,u25,u26,u27,u28,u29,u30,u31,u32,u33,u34,u35,u36,u37,u38,u39,u40,u41,u42,u43,u44,u45,u46,u47,u48,u49,u50,u51,u52,u53,u54,u55],defers:=[]}:Act)/\Blk w' (w.heap.size+1) (AW (Aj (qs A b k))) (AY (Aj (qs A b k)))/\Hid (Below w.heap.size w w')/\w.heap.size+1<w'.heap.size) (λa' _=>(intOf (a'.tmps.getD 9 undef)).toNat) rfl ?first ?pass
 case first=>
  intro again
  by_cases h:a<0
  ·have hs:decide (AW a<0)=true:=by rw[decide_eq_true_iff,F9];exact h
   obtain⟨_,hhi,hlo⟩:=RL ha h
   have Hhi:=Lib.hid hhi
   have Hlo:=Lib.hid hlo
   clear hhi hlo
   go_wp2
   go_region_held3 (λw'=>w'.cell? ⟨w.heap.size,0,none⟩=some (.int .i64 (AW a))/\w'.cell? ⟨w.heap.size,1,none⟩=some (.int .u64 (AY a))) (first|(simp[go_sem];done)|(simp[go_sem, *];done)) (fail)
   go_wp2_with (go_at_call 196;refine(I9 a _).mono ?_;rintro e w1 ⟨rfl,hb1⟩;obtain⟨hc1,hf1⟩:=Bz hb1;have hz1_0:w.heap.size<w1.heap.size:=Nat.lt_of_lt_of_le ZB hb1.size;have hz1_1:w.heap.size+1<w1.heap.size:=Nat.lt_of_lt_of_le ZB hb1.size;have hg11:1<w1.heap.size:=Nat.lt_of_lt_of_le ZB hb1.size)
   go_region_held3 (λw'=>w'.cell? ⟨w1.heap.size,0,none⟩=some (.int .i64 (AW (Aj (-a))))/\w'.cell? ⟨w1.heap.size,1,none⟩=some (.int .u64 (AY (Aj (-a))))) (first|(simp[go_sem];done)|(simp[go_sem, *];done)) (fail)
   go_wp2
   go_step3
   rename_i aK
   refine aK _ _ ?_
   refine again _ _ ?_
   rw[Hhi.out,Hlo.out,<-HAe.out]
   refine⟨0,_,_,_,_,_,_,_,_,_,_,_,_,_,_,_,_,_,_,_,_,_,_,_,_,_,_,_,_,_,_,_,_,_,_,_,_,_,_,_,_,_,_,_,_,_,_,_,_,_,_,by omega,rfl,?_,?_,?_⟩
   ·simp[Blk,go_sem, *];exact⟨rfl,rfl⟩
   ·exact LC
   simp;omega
  obtain⟨_,hhi,hlo⟩:=R_ ha h
  have hs:decide (AW a<0)=false:=by rw[decide_eq_false_iff_not,F9];exact h
  have Hhi:=Lib.hid hhi
  have Hlo:=Lib.hid hlo
  clear hhi hlo
  go_wp2
  go_region_held3 (λw'=>w'.cell? ⟨w.heap.size,0,none⟩=some (.int .i64 (AW a))/\w'.cell? ⟨w.heap.size,1,none⟩=some (.int .u64 (AY a))) (first|(simp[go_sem];done)|(simp[go_sem, *];done)) (fail)
  go_wp2
  go_step3
  rename_i aK
  refine aK _ _ ?_
  refine again _ _ ?_
  rw[Hhi.out,Hlo.out,<-HAe.out]
  refine⟨0,_,_,_,_,_,_,_,_,_,_,_,_,_,_,_,_,_,_,_,_,_,_,_,_,_,_,_,_,_,_,_,_,_,_,_,_,_,_,_,_,_,_,_,_,_,_,_,_,_,_,by omega,rfl,?_,?_,?_⟩
  ·simp[Blk,go_sem];exact⟨rfl,rfl⟩
  ·exact LC
  simp
 case pass=>
  intro a1 w1 hJ
  obtain⟨k,u0,u2,u3,u8,u10,u11,u12,u13,u14,u15,u16,u17,u18,u19,u20,u21,u22,u23,u24,u25,u26,u27,u28,u29,u30,u31,u32,u33,u34,u35,u36,u37,u38,u39,u40,u41,u42,u43,u44,u45,u46,u47,u48,u49,u50,u51,u52,u53,u54,u55,hk,rfl,⟨b0,b1,f0,f1⟩,HB,hz⟩:=hJ
  by_cases hk2:k=128
  ·subst hk2
   have HB':=HB.out
   go_wp2
   simp only[Exit.jump]
   refine bodyPost_ret (v:=.tuple #[.agg #[.int .i64 (AW (Aj (qs A b 128))),.int .u64 (AY (Aj (qs A b 128)))],.int .u64 (rs A b 128)]) (by simp(maxDischargeDepth:=9) [results,Tryz.results219,go_sem, *]) rfl ⟨by rw[HE1.out,HE2.out],LC⟩
  have hk3:k<128:=by omega
  have hi0:((128:Int)-k==0)=false:=by rw[beq_eq_false_iff_ne];omega
  clear hk2
  have e5:Hid ((128:Int)-k-1=128-((k+1:Nat):Int)):=by show _=_;omega
  obtain⟨T,hT⟩: ∃T,T=2*rs A b k+bt A k:=⟨_,rfl⟩
  have E1:bits .or .u64 (IntKind.u64.wrap (rs A b k*2)) (OZ A k/9223372036854775808)=T:=(Tp hA hb HB2.out k).trans hT.symm
  have E2:=Lib.hid (VX hA k)
  have E3:=Lib.hid (Vu A k)
  have hr:=RG hA hb k
  have ht:=Ru hA k
  have T0:0<=T:=by omega
  have T1:Hid (T<18446744073709551616):=by have:=HB2.out;show T<_;omega
  have HT:=Lib.hid hT
  clear hT hr ht
  have one:Ai 1:=by unfold Ai;omega
  by_cases hge:b<=T
  ·have ER:rs A b (k+1)=T-b:=by rw[HT.out];exact if_pos (by rw[<-HT.out];exact hge)
   have EQ:qs A b (k+1)=2*qs A b k+1:=if_pos (by rw[<-HT.out];exact hge)
   have WT:=Lib.hid (show IntKind.u64.wrap (T-b)=rs A b (k+1) by have:=T1.out;rw[ER,IntKind.wrap_u64];omega)
   have ZZ:=Lib.hid (show Aj (Aj (Aj (qs A b k)+Aj (qs A b k))+1)=Aj (2*qs A b k+1) by rw[Kj,No];congr 1;omega)
   clear ER
   have EQ:=Lib.hid EQ
   go_wp2_with (go_at_call 170;refine(DU _ _ _).mono ?_;rintro e w2 ⟨rfl,hb2⟩;obtain⟨b2,b3,f2,f3⟩:=Blk.below hb2 hz ⟨b0,b1,f0,f1⟩;have hz2:w.heap.size+1<w2.heap.size:=Nat.lt_of_lt_of_le hz hb2.size)
   go_region_with (first|(go_at_call 109;refine(Cg 1 one _).mono ?_;rintro e w3 ⟨rfl,hb3⟩;obtain⟨b4,b5,f4,f5⟩:Blk w3 (w.heap.size+1) (AW (Aj (Aj (qs A b k)+Aj (qs A b k)))) (AY (Aj (Aj (qs A b k)+Aj (qs A b k)))):=Blk.below hb3 (by simp;omega) (by simp[Blk,go_sem, *]);have hz3:w.heap.size+1<w3.heap.size:=Nat.lt_of_lt_of_le (by simp;omega) hb3.size)|(go_at_call 170;refine(DU _ 1 _).mono ?_;rintro e w4 ⟨rfl,hb4⟩;obtain⟨b6,b7,f6,f7⟩:=Blk.below hb4 hz3 ⟨b4,b5,f4,f5⟩;have hz4:w.heap.size+1<w4.heap.size:=Nat.lt_of_lt_of_le hz3 hb4.size))
   all_goals go_wp2
   all_goals go_step3
   all_goals rw[E2.out,E3.out,e5.out,WT.out]
   all_goals have HB':=HB.out
   all_goals refine⟨rfl,⟨k+1,_,_,_,_,_,_,_,_,_,_,_,_,_,_,_,_,_,_,_,_,_,_,_,_,_,_,_,_,_,_,_,_,_,_,_,_,_,_,_,_,_,_,_,_,_,_,_,_,_,_,by omega,rfl,?_,LC,by simp;omega⟩,?_⟩
   all_goals first|(rw[EQ.out,<-ZZ.out];simp[Blk,go_sem, *];done)|(simp[intOf];omega)
  have ER:rs A b (k+1)=T:=by rw[HT.out];exact if_neg (by rw[<-HT.out];exact hge)
  have EQ:qs A b (k+1)=2*qs A b k:=if_neg (by rw[<-HT.out];exact hge)
  have ZZ:=Lib.hid (show Aj (Aj (qs A b k)+Aj (qs A b k))=Aj (2*qs A b k) by rw[Kj];congr 1;omega)
  have ER:=Lib.hid ER
  have EQ:=Lib.hid EQ
  go_wp2_with (go_at_call 170;refine(DU _ _ _).mono ?_;rintro e w2 ⟨rfl,hb2⟩;obtain⟨b2,b3,f2,f3⟩:=Blk.below hb2 hz ⟨b0,b1,f0,f1⟩;have hz2:w.heap.size+1<w2.heap.size:=Nat.lt_of_lt_of_le hz hb2.size)
  go_step3
  rw[E2.out,E3.out,e5.out,<-ER.out]
  have HB':=HB.out
  refine⟨rfl,⟨k+1,_,_,_,_,_,_,_,_,_,_,_,_,_,_,_,_,_,_,_,_,_,_,_,_,_,_,_,_,_,_,_,_,_,_,_,_,_,_,_,_,_,_,_,_,_,_,_,_,_,_,by omega,rfl,?_,LC,by simp;omega⟩,?_⟩
  ·rw[EQ.out,<-ZZ.out];simp[Blk,go_sem, *]
  simp[intOf];omega
end
section
attribute [local go_sem] CE CA CF CG B_ CB CD CC Be Bc Ba
def WH:Int:= -9223372036854775808
def LW:Int:= -170141183460469231731687303715884105728
theorem VW:AW LW=WH:=by decide
theorem Vk:AY LW=0:=by decide
theorem FI{a:Int}(ha:AS a):(AW a==WH&&AY a==0)=decide (a=LW):=MV ha
def GL(w:World):Prop:=w.cell? ⟨4,0,none⟩=some (.int .i64 WH)/\w.cell? ⟨4,1,none⟩=some (.int .u64 0)
theorem GL.below{w w':World}(h:GL w)(hb:Below w.heap.size w w'):GL w':=by
 have hlt:=World.block_lt_of_cell? w _ h.1
 exact⟨((Bz hb).1 _ _ hlt).trans h.1,((Bz hb).1 _ _ hlt).trans h.2⟩
set_option maxHeartbeats 1000000 in
theorem Id(a:Int)(w:World)(hg:GN w):
 Calls Tryz.prog 218 #[.agg #[.int .i64 (AW a),.int .u64 (AY a)],.int .i64 0] w λe w'=>e=.returned (.tuple #[.agg #[.int .i64 0,.int .u64 0],.int .u64 0,.int .i64 4])/\Below w.heap.size w w':=by
 have hlt:=World.block_lt_of_cell? w _ hg.1
 obtain⟨hlo,hlo',hlol⟩:=DS hlt
 obtain⟨g0,g1⟩:=hg
 go_enter Tryz.func218,Tryz.ntmps218
 go_wp2
 refine bodyPost_ret (v:=.tuple #[.agg #[.int .i64 0,.int .u64 0],.int .u64 0,.int .i64 4]) (by simp(maxDischargeDepth:=9) [results,Tryz.results218,go_sem, *]) rfl ⟨rfl,LC⟩
set_option maxRecDepth 100000 in
set_option maxHeartbeats 1000000 in
theorem HZ(w:World)(hg:GN w)(hl:GL w):
 Calls Tryz.prog 218 #[.agg #[.int .i64 (AW LW),.int .u64 (AY LW)],.int .i64 (-1)] w λe w'=>e=.returned (.tuple #[.agg #[.int .i64 0,.int .u64 0],.int .u64 0,.int .i64 3])/\Below w.heap.size w w':=by
 have hlt:=World.block_lt_of_cell? w _ hg.1
 obtain⟨hlo,hlo',hlol⟩:=DS hlt
 have hlt2:=World.block_lt_of_cell? w _ hl.1
 obtain⟨hlo2,hlo2',hlo2l⟩:=DS hlt2
 obtain⟨g0,g1⟩:=hg
 obtain⟨l0,l1⟩:=hl
 rw[VW,Vk]
 go_enter Tryz.func218,Tryz.ntmps218
 go_wp2
 refine bodyPost_ret (v:=.tuple #[.agg #[.int .i64 0,.int .u64 0],.int .u64 0,.int .i64 3]) (by simp(maxDischargeDepth:=9) [results,Tryz.results218,go_sem, *]) rfl ⟨rfl,LC⟩
set_option maxRecDepth 100000 in
set_option maxHeartbeats 2000000 in
theorem IZ(a b:Int)(ha:AS a)(hi:Ai b)(hb:b≠0)(hx: ¬(a=LW/\b= -1))(d:(decide (a<0)!=decide (b<0))=false)(w:World)(hg:GN w)(hl:GL w):
 Calls Tryz.prog 218 #[.agg #[.int .i64 (AW a),.int .u64 (AY a)],.int .i64 b] w λe w'=>e=.returned (.tuple #[.agg #[.int .i64 (AW (fl a b)),.int .u64 (AY (fl a b))],.int .u64 (rm a b),.int .i64 0])/\Below w.heap.size w w':=by
 have HG:=Asd.mk hg
 have hlt:=World.block_lt_of_cell? w _ hg.1
 obtain⟨hlo,hlo',hlol⟩:=DS hlt
 have hlt2:=World.block_lt_of_cell? w _ hl.1
 obtain⟨hlo2,hlo2',hlo2l⟩:=DS hlt2
 obtain⟨g0,g1⟩:=hg
 obtain⟨l0,l1⟩:=hl
 have hb0:(b==0)=false:=beq_eq_false_iff_ne.2 hb
 have hwords:=FI ha
 have hB1:(0:Int)<b.natAbs:=by omega
 have hB2:(b.natAbs:Int)<=9223372036854775808:=(Dv hi).2
 have HB1:=Asd.mk hB1
 have HB2:=Asd.mk hB2
 clear hB1 hB2
 have hone:Ai 1:=by unfold Ai;omega
 have dw:decide (AW a<0)=decide (a<0):=by simp only[F9]
 have HX:=Asd.mk hx
 have HW:=Asd.mk hwords
 clear hx hwords
 obtain⟨e1,e2⟩:=K4 hb d
 have QF:=Asd.mk (Di (MQ ha hb d HX.out))
 have E1:=Asd.mk e1
 have E2:=Asd.mk e2
 clear e1 e2
 cases d1:decide (a<0)
 all_goals cases d2:decide (b<0)
 all_goals rw[d1]at dw
 all_goals first
  |(exfalso;rw[d1,d2]at d;cases d;done)
  |skip
 all_goals clear d d1
 all_goals(
  go_enter Tryz.func218,Tryz.ntmps218
  go_upto_region 3 with fail
  go_cut [0,16] (λs0 s16 wc=>s16=.bool false/\Blk wc w.heap.size (AW a) (AY a)/\Blk wc (w.heap.size+1) 0 0/\GN wc/\Asd (Below w.heap.size w wc)/\w.heap.size+1<wc.heap.size)
  case first=>
   go_wp2_with fail
   all_goals go_meet
   all_goals refine⟨?_,by simp[Blk,go_sem, *],by simp[Blk,go_sem, *],HG.out.below LC,⟨LC⟩,by simp⟩
   all_goals first|rfl|(congr 1;rw[beq_eq_false_iff_ne];intro hb1;exact HX.out ⟨of_decide_eq_true (HW.out.symm.trans (by simp[*])),hb1⟩)
  case rest=>
   clear hlt hlt2 g0 g1 l0 l1
   obtain⟨rfl,⟨b0,b1,f0,f1⟩,⟨r0,r1,s0,s1⟩,HGc,HB,hz⟩:=hcut
   have hz0:w.heap.size<wc.heap.size:=by omega
   have HGC:=Asd.mk HGc
   clear HGc
   go_wp2
   go_region_held3 (λw'=>w'.cell? ⟨w.heap.size,0,none⟩=some (.int .i64 (AW a))/\w'.cell? ⟨w.heap.size,1,none⟩=some (.int .u64 (AY a))) (first|(simp[go_sem];done)|(simp[go_sem, *];done)|exact⟨b2,b3⟩)
    (first
     |(go_at_call 195;refine(Co b hi _).mono ?_;rintro e w' ⟨rfl,rfl⟩)
     |(go_at_call 219;refine(Gk a b.natAbs ha HB1.out HB2.out _ (by exact HGC.out)).mono ?_;rintro e w1 ⟨rfl,hb1⟩;obtain⟨b2,b3,f2,f3⟩:=Blk.below hb1 hz0 ⟨b0,b1,f0,f1⟩;obtain⟨r2,r3,s2,s3⟩:=Blk.below hb1 hz ⟨r0,r1,s0,s1⟩;have hz1:w.heap.size+1<w1.heap.size:=Nat.lt_of_lt_of_le hz hb1.size))
   go_wp2
   have HB':=HB.out
   refine bodyPost_ret (v:=.tuple #[.agg #[.int .i64 (AW (Aj (a.natAbs/b.natAbs))),.int .u64 (AY (Aj (a.natAbs/b.natAbs)))],.int .u64 (a.natAbs%b.natAbs),.int .i64 0]) (by simp(maxDischargeDepth:=9) [results,Tryz.results218,go_sem, *]) rfl ⟨by rw[E1.out,E2.out,QF.out],LC⟩)
end
section
attribute [local go_sem] CE CA CF CG B_ CB CD CC Be Bc Ba
theorem Ma(q:Int):Aj (Aj (-Aj q)-1)=Aj (-q-1):=by unfold Aj;omega
set_option maxRecDepth 100000 in
set_option maxHeartbeats 8000000 in
theorem It(a b:Int)(ha:AS a)(hi:Ai b)(hb:b≠0)(hx: ¬(a=LW/\b= -1))(d:(decide (a<0)!=decide (b<0))=true)(hr:0<(a.natAbs:Int)%b.natAbs)(w:World)(hg:GN w)(hl:GL w):
 Calls Tryz.prog 218 #[.agg #[.int .i64 (AW a),.int .u64 (AY a)],.int .i64 b] w λe w'=>e=.returned (.tuple #[.agg #[.int .i64 (AW (fl a b)),.int .u64 (AY (fl a b))],.int .u64 (rm a b),.int .i64 0])/\Below w.heap.size w w':=by
 have HG:=Asd.mk hg
 have hlt:=World.block_lt_of_cell? w _ hg.1
 obtain⟨hlo,hlo',hlol⟩:=DS hlt
 have hlt2:=World.block_lt_of_cell? w _ hl.1
 obtain⟨hlo2,hlo2',hlo2l⟩:=DS hlt2
 obtain⟨g0,g1⟩:=hg
 obtain⟨l0,l1⟩:=hl
 have hb0:(b==0)=false:=beq_eq_false_iff_ne.2 hb
 have hwords:=FI ha
 have hB1:(0:Int)<b.natAbs:=by omega
 have hB2:(b.natAbs:Int)<=9223372036854775808:=(Dv hi).2
 have HB1:=Asd.mk hB1
 have HB2:=Asd.mk hB2
 clear hB1 hB2
 have hone:Ai 1:=by unfold Ai;omega
 have dw:decide (AW a<0)=decide (a<0):=by simp only[F9]
 have HX:=Asd.mk hx
 have HW:=Asd.mk hwords
 clear hx hwords
 obtain⟨e1,e2⟩:=G9 hb d
 have RB:=Asd.mk (Nx (a:=a) hb)
 rw[if_pos hr]at e1 e2
 have WZ:=Asd.mk (Di (GJ ha hb d hr))
 have ZZ:Asd (Aj (Aj (-Aj ((a.natAbs:Int)/b.natAbs))-1)= -((a.natAbs:Int)/b.natAbs)-1):=⟨by rw[Ma];exact WZ.out⟩
 have WR:Asd (IntKind.u64.wrap ((b.natAbs:Int)-(a.natAbs:Int)%b.natAbs)=(b.natAbs:Int)-(a.natAbs:Int)%b.natAbs):=⟨by have:=RB.out;have:=HB2.out;rw[IntKind.wrap_u64];omega⟩
 have E1:=Asd.mk e1
 have E2:=Asd.mk e2
 clear e1 e2
 cases d1:decide (a<0)
 all_goals cases d2:decide (b<0)
 all_goals rw[d1]at dw
 all_goals first
  |(exfalso;rw[d1,d2]at d;cases d;done)
  |skip
 all_goals clear d d1
 all_goals(
  go_enter Tryz.func218,Tryz.ntmps218
  go_upto_region 3 with fail
  go_cut [0,16] (λs0 s16 wc=>s16=.bool false/\Blk wc w.heap.size (AW a) (AY a)/\Blk wc (w.heap.size+1) 0 0/\GN wc/\Asd (Below w.heap.size w wc)/\w.heap.size+1<wc.heap.size)
  case first=>
   go_wp2_with fail
   all_goals go_meet
   all_goals refine⟨?_,by simp[Blk,go_sem, *],by simp[Blk,go_sem, *],HG.out.below LC,⟨LC⟩,by simp⟩
   all_goals first|rfl|(congr 1;rw[beq_eq_false_iff_ne];intro hb1;exact HX.out ⟨of_decide_eq_true (HW.out.symm.trans (by simp[*])),hb1⟩)
  case rest=>
   clear hlt hlt2 g0 g1 l0 l1
   obtain⟨rfl,⟨b0,b1,f0,f1⟩,⟨r0,r1,s0,s1⟩,HGc,HB,hz⟩:=hcut
   have hz0:w.heap.size<wc.heap.size:=by omega
   have HGC:=Asd.mk HGc
   clear HGc
   go_wp2
   go_region_held3 (λw'=>w'.cell? ⟨w.heap.size,0,none⟩=some (.int .i64 (AW a))/\w'.cell? ⟨w.heap.size,1,none⟩=some (.int .u64 (AY a))) (first|(simp[go_sem];done)|(simp[go_sem, *];done)|exact⟨b2,b3⟩)
    (first
     |(go_at_call 195;refine(Co b hi _).mono ?_;rintro e w' ⟨rfl,rfl⟩)
     |(go_at_call 219;refine(Gk a b.natAbs ha HB1.out HB2.out _ (by exact HGC.out)).mono ?_;rintro e w1 ⟨rfl,hb1⟩;obtain⟨b2,b3,f2,f3⟩:=Blk.below hb1 hz0 ⟨b0,b1,f0,f1⟩;obtain⟨r2,r3,s2,s3⟩:=Blk.below hb1 hz ⟨r0,r1,s0,s1⟩;have hz1:w.heap.size+1<w1.heap.size:=Nat.lt_of_lt_of_le hz hb1.size))
   have HG1:=(GN.below (by exact HGC.out) hb1)
   have hlt1:=World.block_lt_of_cell? w1 _ HG1.1
   obtain⟨hlo1,hlo1',hlo1l⟩:=DS hlt1
   obtain⟨g0,g1⟩:=HG1
   go_wp2_with (go_at_call 196;refine(I9 (Aj (a.natAbs/b.natAbs)) _).mono ?_;rintro e w2 ⟨rfl,hb2⟩;obtain⟨b4,b5,f4,f5⟩:Blk w2 w.heap.size (AW a) (AY a):=Blk.below hb2 (by simp;omega) (by simp[Blk,go_sem, *]);obtain⟨r4,r5,s4,s5⟩:Blk w2 (w.heap.size+1) (AW (Aj (a.natAbs/b.natAbs))) (AY (Aj (a.natAbs/b.natAbs))):=Blk.below hb2 (by simp;omega) (by simp[Blk,go_sem, *]);have hz2:w.heap.size+1<w2.heap.size:=Nat.lt_of_lt_of_le (by simp;omega) hb2.size)
   go_region_with (first
    |(go_at_call 195;refine(Co b hi _).mono ?_;rintro e w' ⟨rfl,rfl⟩)
    |(go_at_call 109;refine(Cg 1 hone _).mono ?_;rintro e w3 ⟨rfl,hb3⟩;obtain⟨r6,r7,s6,s7⟩:Blk w3 (w.heap.size+1) (AW (Aj (-Aj (a.natAbs/b.natAbs)))) (AY (Aj (-Aj (a.natAbs/b.natAbs)))):=Blk.below hb3 (by simp;omega) (by simp[Blk,go_sem, *]);have hz3:w.heap.size+1<w3.heap.size:=Nat.lt_of_lt_of_le (by simp;omega) hb3.size)
    |(go_at_call 196;refine(H7 _ 1 _).mono ?_;rintro e w4 ⟨rfl,hb4⟩;obtain⟨r8,r9,s8,s9⟩:=Blk.below hb4 hz3 ⟨r6,r7,s6,s7⟩;have hz4:w.heap.size+1<w4.heap.size:=Nat.lt_of_lt_of_le hz3 hb4.size))
   all_goals go_wp2
   all_goals have HB':=HB.out
   all_goals refine bodyPost_ret (v:=.tuple #[.agg #[.int .i64 (AW (Aj (Aj (-Aj ((a.natAbs:Int)/b.natAbs))-1))),.int .u64 (AY (Aj (Aj (-Aj ((a.natAbs:Int)/b.natAbs))-1)))],.int .u64 (IntKind.u64.wrap ((b.natAbs:Int)-(a.natAbs:Int)%b.natAbs)),.int .i64 0]) (by simp(maxDischargeDepth:=9) [results,Tryz.results218,go_sem, *]) rfl ⟨by rw[ZZ.out,WR.out,E1.out,E2.out],LC⟩)
set_option maxRecDepth 100000 in
set_option maxHeartbeats 8000000 in
theorem Ia(a b:Int)(ha:AS a)(hi:Ai b)(hb:b≠0)(hx: ¬(a=LW/\b= -1))(d:(decide (a<0)!=decide (b<0))=true)(hr: ¬0<(a.natAbs:Int)%b.natAbs)(w:World)(hg:GN w)(hl:GL w):
 Calls Tryz.prog 218 #[.agg #[.int .i64 (AW a),.int .u64 (AY a)],.int .i64 b] w λe w'=>e=.returned (.tuple #[.agg #[.int .i64 (AW (fl a b)),.int .u64 (AY (fl a b))],.int .u64 (rm a b),.int .i64 0])/\Below w.heap.size w w':=by
 have HG:=Asd.mk hg
 have hlt:=World.block_lt_of_cell? w _ hg.1
 obtain⟨hlo,hlo',hlol⟩:=DS hlt
 have hlt2:=World.block_lt_of_cell? w _ hl.1
 obtain⟨hlo2,hlo2',hlo2l⟩:=DS hlt2
 obtain⟨g0,g1⟩:=hg
 obtain⟨l0,l1⟩:=hl
 have hb0:(b==0)=false:=beq_eq_false_iff_ne.2 hb
 have hwords:=FI ha
 have hB1:(0:Int)<b.natAbs:=by omega
 have hB2:(b.natAbs:Int)<=9223372036854775808:=(Dv hi).2
 have HB1:=Asd.mk hB1
 have HB2:=Asd.mk hB2
 clear hB1 hB2
 have hone:Ai 1:=by unfold Ai;omega
 have dw:decide (AW a<0)=decide (a<0):=by simp only[F9]
 have HX:=Asd.mk hx
 have HW:=Asd.mk hwords
 clear hx hwords
 obtain⟨e1,e2⟩:=G9 hb d
 rw[if_neg hr]at e1 e2
 have WZ:=Asd.mk (Di (M_ ha hb))
 have ZZ:Asd (Aj (-Aj ((a.natAbs:Int)/b.natAbs))= -((a.natAbs:Int)/b.natAbs)):=⟨by rw[<-Int.zero_sub,NQ,Int.zero_sub];exact WZ.out⟩
 have E1:=Asd.mk e1
 have E2:=Asd.mk e2
 clear e1 e2
 cases d1:decide (a<0)
 all_goals cases d2:decide (b<0)
 all_goals rw[d1]at dw
 all_goals first
  |(exfalso;rw[d1,d2]at d;cases d;done)
  |skip
 all_goals clear d d1
 all_goals(
  go_enter Tryz.func218,Tryz.ntmps218
  go_upto_region 3 with fail
  go_cut [0,16] (λs0 s16 wc=>s16=.bool false/\Blk wc w.heap.size (AW a) (AY a)/\Blk wc (w.heap.size+1) 0 0/\GN wc/\Asd (Below w.heap.size w wc)/\w.heap.size+1<wc.heap.size)
  case first=>
   go_wp2_with fail
   all_goals go_meet
   all_goals refine⟨?_,by simp[Blk,go_sem, *],by simp[Blk,go_sem, *],HG.out.below LC,⟨LC⟩,by simp⟩
   all_goals first|rfl|(congr 1;rw[beq_eq_false_iff_ne];intro hb1;exact HX.out ⟨of_decide_eq_true (HW.out.symm.trans (by simp[*])),hb1⟩)
  case rest=>
   clear hlt hlt2 g0 g1 l0 l1
   obtain⟨rfl,⟨b0,b1,f0,f1⟩,⟨r0,r1,s0,s1⟩,HGc,HB,hz⟩:=hcut
   have hz0:w.heap.size<wc.heap.size:=by omega
   have HGC:=Asd.mk HGc
   clear HGc
   go_wp2
   go_region_held3 (λw'=>w'.cell? ⟨w.heap.size,0,none⟩=some (.int .i64 (AW a))/\w'.cell? ⟨w.heap.size,1,none⟩=some (.int .u64 (AY a))) (first|(simp[go_sem];done)|(simp[go_sem, *];done)|exact⟨b2,b3⟩)
    (first
     |(go_at_call 195;refine(Co b hi _).mono ?_;rintro e w' ⟨rfl,rfl⟩)
     |(go_at_call 219;refine(Gk a b.natAbs ha HB1.out HB2.out _ (by exact HGC.out)).mono ?_;rintro e w1 ⟨rfl,hb1⟩;obtain⟨b2,b3,f2,f3⟩:=Blk.below hb1 hz0 ⟨b0,b1,f0,f1⟩;obtain⟨r2,r3,s2,s3⟩:=Blk.below hb1 hz ⟨r0,r1,s0,s1⟩;have hz1:w.heap.size+1<w1.heap.size:=Nat.lt_of_lt_of_le hz hb1.size))
   have HG1:=(GN.below (by exact HGC.out) hb1)
   have hlt1:=World.block_lt_of_cell? w1 _ HG1.1
   obtain⟨hlo1,hlo1',hlo1l⟩:=DS hlt1
   obtain⟨g0,g1⟩:=HG1
   go_wp2_with (go_at_call 196;refine(I9 (Aj (a.natAbs/b.natAbs)) _).mono ?_;rintro e w2 ⟨rfl,hb2⟩;obtain⟨b4,b5,f4,f5⟩:Blk w2 w.heap.size (AW a) (AY a):=Blk.below hb2 (by simp;omega) (by simp[Blk,go_sem, *]);obtain⟨r4,r5,s4,s5⟩:Blk w2 (w.heap.size+1) (AW (Aj (a.natAbs/b.natAbs))) (AY (Aj (a.natAbs/b.natAbs))):=Blk.below hb2 (by simp;omega) (by simp[Blk,go_sem, *]);have hz2:w.heap.size+1<w2.heap.size:=Nat.lt_of_lt_of_le (by simp;omega) hb2.size)
   have HB':=HB.out
   refine bodyPost_ret (v:=.tuple #[.agg #[.int .i64 (AW (Aj (-Aj ((a.natAbs:Int)/b.natAbs)))),.int .u64 (AY (Aj (-Aj ((a.natAbs:Int)/b.natAbs))))],.int .u64 ((a.natAbs:Int)%b.natAbs),.int .i64 0]) (by simp(maxDischargeDepth:=9) [results,Tryz.results218,go_sem, *]) rfl ⟨by rw[ZZ.out,E1.out,E2.out],LC⟩)
theorem EZ(a b:Int)(ha:AS a)(hi:Ai b)(hb:b≠0)(hx: ¬(a=LW/\b= -1))(w:World)(hg:GN w)(hl:GL w):
 Calls Tryz.prog 218 #[.agg #[.int .i64 (AW a),.int .u64 (AY a)],.int .i64 b] w λe w'=>e=.returned (.tuple #[.agg #[.int .i64 (AW (fl a b)),.int .u64 (AY (fl a b))],.int .u64 (rm a b),.int .i64 0])/\Below w.heap.size w w':=by
 cases d:(decide (a<0)!=decide (b<0))
 ·exact IZ a b ha hi hb hx d w hg hl
 by_cases hr:0<(a.natAbs:Int)%b.natAbs
 ·exact It a b ha hi hb hx d hr w hg hl
 exact Ia a b ha hi hb hx d hr w hg hl
end
end Go.Proofs.YtikajapjkdloaaaGreatDoor
