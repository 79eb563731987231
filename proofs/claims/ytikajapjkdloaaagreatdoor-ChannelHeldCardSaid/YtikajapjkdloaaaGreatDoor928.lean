/- Walks of the layer 'wide', tenth part: Div and Even. -/
import Derived.Test.YtikajapjkdloaaaGreatDoor927
import Derived.Test.YtikajapjkdloaaaGreatDoor920
namespace Go.Proofs.YtikajapjkdloaaaGreatDoor
open Go.RowKit
attribute [local go_sem] CE CA CF CG B_ CB CD CC Be Bc Ba
def Ht(q a b:Int):Int:=if b=0 then 0 else if a=LW/\b= -1 then 0 else q
def JH(a b:Int):Int:=if b=0 then 4 else if a=LW/\b= -1 then 3 else 0
theorem PG(a b:Int)(ha:AS a)(hi:Ai b)(w:World)(hg:GN w)(hl:GL w):
 Calls Tryz.prog 218 #[.agg #[.int .i64 (AW a),.int .u64 (AY a)],.int .i64 b] w λe w'=>e=.returned (.tuple #[.agg #[.int .i64 (AW (Ht (fl a b) a b)),.int .u64 (AY (Ht (fl a b) a b))],.int .u64 (Ht (rm a b) a b),.int .i64 (JH a b)])/\Below w.heap.size w w':=by
 unfold Ht JH
 by_cases hb:b=0
 ·subst hb
  simp only[if_true,R6,Ry]
  exact Id a w hg
 simp only[if_neg hb]
 by_cases hx:a=LW/\b= -1
 ·simp only[if_pos hx,R6,Ry]
  obtain⟨rfl,rfl⟩:=hx
  exact HZ w hg hl
 simp only[if_neg hx]
 exact EZ a b ha hi hb hx w hg hl
theorem Vj{a b:Int}(ha:AS a)(hb:b≠0)(h:0<rm a b):fl a b<=85070591730234615865843651857942052864:=by
 have k:=Lv ha hb
 have hr:=Nx (a:=a) hb
 have e:=Int.mul_ediv_add_emod (a.natAbs:Int) b.natAbs
 have hB:(b.natAbs:Int)≠1:=by
  intro e1
  have:=Qs (a:=a) hb
  omega
 have hb2:(2:Int)<=b.natAbs:=by omega
 have:=Int.mul_le_mul_of_nonneg_right hb2 k.1
 cases d:(decide (a<0)!=decide (b<0))
 ·rw[(K4 hb d).1];unfold AS at ha;omega
 rw[(G9 hb d).1];split<;>omega
theorem S8{a b:Int}(ha:AS a)(hb:b≠0)(hx: ¬(a=LW/\b= -1)):AS (ev a b):=by
 have h:=TO ha hb hx
 rw[Ql]
 split
 ·have k:=Vj ha hb (by have:=Qs (a:=a) hb;omega)
  unfold AS at*;omega
 exact h
theorem UH{a b:Int}(h:2*rm a b>(b.natAbs:Int)∨2*rm a b=(b.natAbs:Int)/\fl a b%2=1):ev a b=fl a b+1:=by rw[Ql,if_pos h]
theorem Ob{a b:Int}(h: ¬(2*rm a b>(b.natAbs:Int)∨2*rm a b=(b.natAbs:Int)/\fl a b%2=1)):ev a b=fl a b:=by rw[Ql,if_neg h]
set_option maxRecDepth 100000 in
set_option maxHeartbeats 4000000 in
theorem K3(a b:Int)(ha:AS a)(hi:Ai b)(h:b=0∨a=LW/\b= -1)(w:World)(hg:GN w)(hl:GL w):
 Calls Tryz.prog 217 #[.agg #[.int .i64 (AW a),.int .u64 (AY a)],.int .i64 b] w λe w'=>e=.returned (.tuple #[.agg #[.int .i64 0,.int .u64 0],.int .i64 (JH a b)])/\Below w.heap.size w w':=by
 have HG:=Asd.mk hg
 have HL:=Asd.mk hl
 have hlt:=World.block_lt_of_cell? w _ hg.1
 obtain⟨hlo,hlo',hlol⟩:=DS hlt
 obtain⟨g0,g1⟩:=hg
 clear hl
 have hq:(JH a b !=0)=true:=by
  rcases h with rfl|⟨rfl,rfl⟩
  ·rfl
  rfl
 clear h
 go_enter Tryz.func217,Tryz.ntmps217
 go_wp2_with (go_at_call 218;refine(PG a b ha hi _ (by exact HG.out.below (by repeat (first|exact Below.refl _ _|assumption|refine AM ?_ _|refine AJ ?_ _|refine AP ?_|refine AZ ?_ (by first|(simp;done)|(simp;omega)|(dsimp only;omega)) _|refine AQ ?_ (by assumption)))) (by exact HL.out.below (by repeat (first|exact Below.refl _ _|assumption|refine AM ?_ _|refine AJ ?_ _|refine AP ?_|refine AZ ?_ (by first|(simp;done)|(simp;omega)|(dsimp only;omega)) _|refine AQ ?_ (by assumption))))).mono ?_;rintro e w1 ⟨rfl,hb1⟩;obtain⟨hc1,hf1⟩:=Bz hb1;have hz1_0:w.heap.size<w1.heap.size:=Nat.lt_of_lt_of_le (by first|(simp;done)|(simp;omega)|(simp[go_sem];done)|(simp[go_sem];omega)|omega) hb1.size;have hz1_1:w.heap.size+1<w1.heap.size:=Nat.lt_of_lt_of_le (by first|(simp;done)|(simp;omega)|(simp[go_sem];done)|(simp[go_sem];omega)|omega) hb1.size;have hg11:1<w1.heap.size:=Nat.lt_of_lt_of_le (by first|(simp;done)|(simp;omega)|(simp[go_sem];done)|(simp[go_sem];omega)|omega) hb1.size)
 refine bodyPost_ret (v:=.tuple #[.agg #[.int .i64 0,.int .u64 0],.int .i64 (JH a b)]) (by simp(maxDischargeDepth:=9) [results,Tryz.results217,go_sem, *]) rfl ⟨rfl,(by repeat (first|exact Below.refl _ _|assumption|refine AM ?_ _|refine AJ ?_ _|refine AP ?_|refine AZ ?_ (by first|(simp;done)|(simp;omega)|(dsimp only;omega)) _|refine AQ ?_ (by assumption)))⟩
set_option maxRecDepth 100000 in
set_option maxHeartbeats 8000000 in
theorem Kt(a b:Int)(ha:AS a)(hi:Ai b)(hb:b≠0)(hx: ¬(a=LW/\b= -1))(w:World)(hg:GN w)(hl:GL w):
 Calls Tryz.prog 217 #[.agg #[.int .i64 (AW a),.int .u64 (AY a)],.int .i64 b] w λe w'=>e=.returned (.tuple #[.agg #[.int .i64 (AW (ev a b)),.int .u64 (AY (ev a b))],.int .i64 0])/\Below w.heap.size w w':=by
 have HG:=Asd.mk hg
 have HL:=Asd.mk hl
 have HX:=Asd.mk hx
 have hone:Ai 1:=by unfold Ai;omega
 have HW:=S8 ha hb hx
 have hr:=Qs (a:=a) hb
 have hs:=Dv hi
 have ha1:bits .and .u64 (AY (fl a b)) 1=fl a b%2:=(La _ (Df _).1 (Df _).2).trans (by unfold AY;omega)
 have eL:IntKind.u64.wrap ((b.natAbs:Int)-rm a b)=(b.natAbs:Int)-rm a b:=by rw[IntKind.wrap_u64];omega
 have HH:=Asd.mk (And.intro hr hs)
 clear hg hl hx hr hs
 by_cases c1:(b.natAbs:Int)-rm a b<rm a b
 ·have HE:=UH (a:=a) (b:=b) (.inl (by omega))
  rw[HE]at HW⊢
  have WE:=Asd.mk (Di HW)
  clear HE HW
  go_enter Tryz.func217,Tryz.ntmps217
  go_wp2_with (first
   |(go_at_call 218;refine(EZ a b ha hi hb HX.out _ (by exact HG.out.below (by repeat (first|exact Below.refl _ _|assumption|refine AM ?_ _|refine AJ ?_ _|refine AP ?_|refine AZ ?_ (by first|(simp;done)|(simp;omega)|(dsimp only;omega)) _|refine AQ ?_ (by assumption)))) (by exact HL.out.below (by repeat (first|exact Below.refl _ _|assumption|refine AM ?_ _|refine AJ ?_ _|refine AP ?_|refine AZ ?_ (by first|(simp;done)|(simp;omega)|(dsimp only;omega)) _|refine AQ ?_ (by assumption))))).mono ?_;rintro e w1 ⟨rfl,hb1⟩;obtain⟨hc1,hf1⟩:=Bz hb1;have hz1_0:w.heap.size<w1.heap.size:=Nat.lt_of_lt_of_le (by first|(simp;done)|(simp;omega)|(simp[go_sem];done)|(simp[go_sem];omega)|omega) hb1.size;have hz1_1:w.heap.size+1<w1.heap.size:=Nat.lt_of_lt_of_le (by first|(simp;done)|(simp;omega)|(simp[go_sem];done)|(simp[go_sem];omega)|omega) hb1.size)
   |(go_at_call 195;refine(Co b hi _).mono ?_;rintro e w' ⟨rfl,rfl⟩))
  go_region_held3 (λw'=>w'.cell? ⟨w1.heap.size,0,none⟩=some (.int .i64 (AW (fl a b)))/\w'.cell? ⟨w1.heap.size,1,none⟩=some (.int .u64 (AY (fl a b)))) (first|(simp[go_sem];done)|exact⟨b4,b5⟩|exact⟨b2,b3⟩|(simp[go_sem, *];done))
   (first
    |(go_at_call 109;refine(Cg 1 hone _).mono ?_;rintro e w2 ⟨rfl,hb2⟩;obtain⟨b2,b3,f2,f3⟩:Blk w2 w1.heap.size (AW (fl a b)) (AY (fl a b)):=Blk.below hb2 (by simp) (by simp[Blk,go_sem, *]);obtain⟨r2,r3,s2,s3⟩:Blk w2 (w.heap.size+1) 0 0:=Blk.below hb2 (by simp;omega) (by simp[Blk,go_sem, *]);have hz2:w1.heap.size<w2.heap.size:=Nat.lt_of_lt_of_le (by simp) hb2.size)
    |(go_at_call 170;refine(DU (fl a b) 1 _).mono ?_;rintro e w3 ⟨rfl,hb3⟩;obtain⟨b4,b5,f4,f5⟩:=Blk.below hb3 hz2 ⟨b2,b3,f2,f3⟩;obtain⟨r4,r5,s4,s5⟩:=Blk.below hb3 (Nat.lt_trans hz1_1 hz2) ⟨r2,r3,s2,s3⟩;have hz3:w1.heap.size<w3.heap.size:=Nat.lt_of_lt_of_le hz2 hb3.size))
  go_wp2
  refine bodyPost_ret (v:=.tuple #[.agg #[.int .i64 (AW (Aj (fl a b+1))),.int .u64 (AY (Aj (fl a b+1)))],.int .i64 0]) (by simp(maxDischargeDepth:=9) [results,Tryz.results217,go_sem, *]) rfl ⟨by rw[WE.out],(by repeat (first|exact Below.refl _ _|assumption|refine AM ?_ _|refine AJ ?_ _|refine AP ?_|refine AZ ?_ (by first|(simp;done)|(simp;omega)|(dsimp only;omega)) _|refine AQ ?_ (by assumption)))⟩
 by_cases c2:rm a b=(b.natAbs:Int)-rm a b
 ·by_cases c3:fl a b%2=1
  ·have HE:=UH (a:=a) (b:=b) (.inr ⟨by omega,c3⟩)
   have q2:(rm a b==(b.natAbs:Int)-rm a b)=true:=beq_iff_eq.2 c2
   have C2:=Asd.mk c2
   clear c2
   rw[HE]at HW⊢
   have WE:=Asd.mk (Di HW)
   clear HE HW
   go_enter Tryz.func217,Tryz.ntmps217
   go_wp2_with (first
    |(go_at_call 218;refine(EZ a b ha hi hb HX.out _ (by exact HG.out.below (by repeat (first|exact Below.refl _ _|assumption|refine AM ?_ _|refine AJ ?_ _|refine AP ?_|refine AZ ?_ (by first|(simp;done)|(simp;omega)|(dsimp only;omega)) _|refine AQ ?_ (by assumption)))) (by exact HL.out.below (by repeat (first|exact Below.refl _ _|assumption|refine AM ?_ _|refine AJ ?_ _|refine AP ?_|refine AZ ?_ (by first|(simp;done)|(simp;omega)|(dsimp only;omega)) _|refine AQ ?_ (by assumption))))).mono ?_;rintro e w1 ⟨rfl,hb1⟩;obtain⟨hc1,hf1⟩:=Bz hb1;have hz1_0:w.heap.size<w1.heap.size:=Nat.lt_of_lt_of_le (by first|(simp;done)|(simp;omega)|(simp[go_sem];done)|(simp[go_sem];omega)|omega) hb1.size;have hz1_1:w.heap.size+1<w1.heap.size:=Nat.lt_of_lt_of_le (by first|(simp;done)|(simp;omega)|(simp[go_sem];done)|(simp[go_sem];omega)|omega) hb1.size)
    |(go_at_call 195;refine(Co b hi _).mono ?_;rintro e w' ⟨rfl,rfl⟩))
   go_region_held3 (λw'=>w'.cell? ⟨w1.heap.size,0,none⟩=some (.int .i64 (AW (fl a b)))/\w'.cell? ⟨w1.heap.size,1,none⟩=some (.int .u64 (AY (fl a b)))) (first|(simp[go_sem];done)|exact⟨b4,b5⟩|exact⟨b2,b3⟩|(simp[go_sem, *];done))
    (first
     |(go_at_call 109;refine(Cg 1 hone _).mono ?_;rintro e w2 ⟨rfl,hb2⟩;obtain⟨b2,b3,f2,f3⟩:Blk w2 w1.heap.size (AW (fl a b)) (AY (fl a b)):=Blk.below hb2 (by simp) (by simp[Blk,go_sem, *]);obtain⟨r2,r3,s2,s3⟩:Blk w2 (w.heap.size+1) 0 0:=Blk.below hb2 (by simp;omega) (by simp[Blk,go_sem, *]);have hz2:w1.heap.size<w2.heap.size:=Nat.lt_of_lt_of_le (by simp) hb2.size)
     |(go_at_call 170;refine(DU (fl a b) 1 _).mono ?_;rintro e w3 ⟨rfl,hb3⟩;obtain⟨b4,b5,f4,f5⟩:=Blk.below hb3 hz2 ⟨b2,b3,f2,f3⟩;obtain⟨r4,r5,s4,s5⟩:=Blk.below hb3 (Nat.lt_trans hz1_1 hz2) ⟨r2,r3,s2,s3⟩;have hz3:w1.heap.size<w3.heap.size:=Nat.lt_of_lt_of_le hz2 hb3.size))
   go_wp2
   refine bodyPost_ret (v:=.tuple #[.agg #[.int .i64 (AW (Aj (fl a b+1))),.int .u64 (AY (Aj (fl a b+1)))],.int .i64 0]) (by simp(maxDischargeDepth:=9) [results,Tryz.results217,go_sem, *]) rfl ⟨by rw[WE.out],(by repeat (first|exact Below.refl _ _|assumption|refine AM ?_ _|refine AJ ?_ _|refine AP ?_|refine AZ ?_ (by first|(simp;done)|(simp;omega)|(dsimp only;omega)) _|refine AQ ?_ (by assumption)))⟩
  have HE:=Ob (a:=a) (b:=b) (by omega)
  have q2:(rm a b==(b.natAbs:Int)-rm a b)=true:=beq_iff_eq.2 c2
  have c4:fl a b%2=0:=by omega
  have C2:=Asd.mk c2
  clear c2
  rw[HE]at HW⊢
  clear HE HW
  go_enter Tryz.func217,Tryz.ntmps217
  go_wp2_with (first
   |(go_at_call 218;refine(EZ a b ha hi hb HX.out _ (by exact HG.out.below (by repeat (first|exact Below.refl _ _|assumption|refine AM ?_ _|refine AJ ?_ _|refine AP ?_|refine AZ ?_ (by first|(simp;done)|(simp;omega)|(dsimp only;omega)) _|refine AQ ?_ (by assumption)))) (by exact HL.out.below (by repeat (first|exact Below.refl _ _|assumption|refine AM ?_ _|refine AJ ?_ _|refine AP ?_|refine AZ ?_ (by first|(simp;done)|(simp;omega)|(dsimp only;omega)) _|refine AQ ?_ (by assumption))))).mono ?_;rintro e w1 ⟨rfl,hb1⟩;obtain⟨hc1,hf1⟩:=Bz hb1;have hz1_0:w.heap.size<w1.heap.size:=Nat.lt_of_lt_of_le (by first|(simp;done)|(simp;omega)|(simp[go_sem];done)|(simp[go_sem];omega)|omega) hb1.size;have hz1_1:w.heap.size+1<w1.heap.size:=Nat.lt_of_lt_of_le (by first|(simp;done)|(simp;omega)|(simp[go_sem];done)|(simp[go_sem];omega)|omega) hb1.size)
   |(go_at_call 195;refine(Co b hi _).mono ?_;rintro e w' ⟨rfl,rfl⟩))
  refine bodyPost_ret (v:=.tuple #[.agg #[.int .i64 (AW (fl a b)),.int .u64 (AY (fl a b))],.int .i64 0]) (by simp(maxDischargeDepth:=9) [results,Tryz.results217,go_sem, *]) rfl ⟨rfl,(by repeat (first|exact Below.refl _ _|assumption|refine AM ?_ _|refine AJ ?_ _|refine AP ?_|refine AZ ?_ (by first|(simp;done)|(simp;omega)|(dsimp only;omega)) _|refine AQ ?_ (by assumption)))⟩
 have HE:=Ob (a:=a) (b:=b) (by omega)
 have q2:(rm a b==(b.natAbs:Int)-rm a b)=false:=beq_eq_false_iff_ne.2 c2
 have C2:=Asd.mk c2
 clear c2
 rw[HE]at HW⊢
 clear HE HW
 go_enter Tryz.func217,Tryz.ntmps217
 go_wp2_with (first
  |(go_at_call 218;refine(EZ a b ha hi hb HX.out _ (by exact HG.out.below (by repeat (first|exact Below.refl _ _|assumption|refine AM ?_ _|refine AJ ?_ _|refine AP ?_|refine AZ ?_ (by first|(simp;done)|(simp;omega)|(dsimp only;omega)) _|refine AQ ?_ (by assumption)))) (by exact HL.out.below (by repeat (first|exact Below.refl _ _|assumption|refine AM ?_ _|refine AJ ?_ _|refine AP ?_|refine AZ ?_ (by first|(simp;done)|(simp;omega)|(dsimp only;omega)) _|refine AQ ?_ (by assumption))))).mono ?_;rintro e w1 ⟨rfl,hb1⟩;obtain⟨hc1,hf1⟩:=Bz hb1;have hz1_0:w.heap.size<w1.heap.size:=Nat.lt_of_lt_of_le (by first|(simp;done)|(simp;omega)|(simp[go_sem];done)|(simp[go_sem];omega)|omega) hb1.size;have hz1_1:w.heap.size+1<w1.heap.size:=Nat.lt_of_lt_of_le (by first|(simp;done)|(simp;omega)|(simp[go_sem];done)|(simp[go_sem];omega)|omega) hb1.size)
  |(go_at_call 195;refine(Co b hi _).mono ?_;rintro e w' ⟨rfl,rfl⟩))
 refine bodyPost_ret (v:=.tuple #[.agg #[.int .i64 (AW (fl a b)),.int .u64 (AY (fl a b))],.int .i64 0]) (by simp(maxDischargeDepth:=9) [results,Tryz.results217,go_sem, *]) rfl ⟨rfl,(by repeat (first|exact Below.refl _ _|assumption|refine AM ?_ _|refine AJ ?_ _|refine AP ?_|refine AZ ?_ (by first|(simp;done)|(simp;omega)|(dsimp only;omega)) _|refine AQ ?_ (by assumption)))⟩
theorem KZ(a b:Int)(ha:AS a)(hi:Ai b)(w:World)(hg:GN w)(hl:GL w):
 Calls Tryz.prog 217 #[.agg #[.int .i64 (AW a),.int .u64 (AY a)],.int .i64 b] w λe w'=>e=.returned (.tuple #[.agg #[.int .i64 (AW (Ht (ev a b) a b)),.int .u64 (AY (Ht (ev a b) a b))],.int .i64 (JH a b)])/\Below w.heap.size w w':=by
 by_cases h:b=0∨a=LW/\b= -1
 ·have e:Ht (ev a b) a b=0:=by
   unfold Ht
   by_cases hb:b=0
   ·rw[if_pos hb]
   rw[if_neg hb,if_pos (h.resolve_left hb)]
  rw[e,R6,Ry]
  exact K3 a b ha hi h w hg hl
 have hb:b≠0:= λk=>h (.inl k)
 have hx: ¬(a=LW/\b= -1):= λk=>h (.inr k)
 have e:Ht (ev a b) a b=ev a b/\JH a b=0:=by simp[Ht,JH,hb,hx]
 rw[e.1,e.2]
 exact Kt a b ha hi hb hx w hg hl
end Go.Proofs.YtikajapjkdloaaaGreatDoor
namespace Go.Proofs.YtikajapjkdloaaaGreatDoor
set_option maxRecDepth 1000000
set_option maxHeartbeats 8000000
open Go.RowKit
set_option linter.unusedSimpArgs false
set_option linter.unusedVariables false
theorem Iu(a:Int)(h:AL a=true)(w:World)(hg:GN w):Calls Tryz.prog 156 #[.agg #[.int .i64 (AW a),.int .u64 (AY a)],.int .i64 40] w λe w'=>e=.returned (.tuple #[.agg #[.int .i64 (AW (a*AI 40)),.int .u64 (AY (a*AI 40))],.int .i64 0])/\Below w.heap.size w w':=by
 have k:=Hf a 40 (by decide) (M9 (BX h)) w hg
 have e:up a 40=a*AI 40:=rfl
 rw[e,(C9 (Ol h)).1,(C9 (Ol h)).2]at k;exact k
theorem J0(a b:Int)(h:AL a=true)(hb:Ai b)(h0:b≠0)(w:World)(hg:GN w)(hl:GL w):
 Calls Tryz.prog 217 #[.agg #[.int .i64 (AW (a*AI 40)),.int .u64 (AY (a*AI 40))],.int .i64 b] w λe w'=>e=.returned (.tuple #[.agg #[.int .i64 (AW (Ay a b)),.int .u64 (AY (Ay a b))],.int .i64 0])/\Below w.heap.size w w':=by
 have k:=KZ (a*AI 40) b (Ol h) hb w hg hl
 have hk:=fitB_true.1 h
 have hn: ¬(a*AI 40=LW/\b= -1):=by rw[Lx];unfold LW;omega
 have e:Ht (ev (a*AI 40) b) (a*AI 40) b=Ay a b/\JH (a*AI 40) b=0:=by unfold Ht JH;rw[if_neg h0,if_neg hn,if_neg h0,if_neg hn];exact⟨rfl,rfl⟩
 rw[e.1,e.2]at k;exact k
theorem Jt(a:Int)(h:AL a=true)(w:World)(hg:GN w)(hl:GL w):
 Calls Tryz.prog 217 #[.agg #[.int .i64 (AW (a*AI 40)),.int .u64 (AY (a*AI 40))],.int .i64 0] w λe w'=>e=.returned (.tuple #[.agg #[.int .i64 (AW 0),.int .u64 (AY 0)],.int .i64 4])/\Below w.heap.size w w':=by
 have k:=KZ (a*AI 40) 0 (Ol h) (by decide) w hg hl
 simp only[Ht,JH,if_true]at k;exact k
theorem Qq(a b:Int)(h:AL a=true)(hb:Ai b)(h0:b≠0)(w:World)(hg:GN w)(hl:GL w):Calls Tryz.prog 216 #[.int .i64 a,.int .i64 b] w (λe w'=>e=.returned (.tuple #[.agg #[.int .i64 (AW (Ay a b)),.int .u64 (AY (Ay a b))],.int .i64 0])/\Below w.heap.size w w'):=by
 exact(let B:Base:=(⟨w,λ_=>False⟩:Base);let R:Ending->World->Prop:=(λe w'=>e=.returned (.tuple #[.agg #[.int .i64 (AW (Ay a b)),.int .u64 (AY (Ay a b))],.int .i64 0])/\Below w.heap.size w w');AC (f:=216) (B:=B) (R:=R) (es:=[]) (c:=Tryz.f216.body.getD .skip) (tmps:=#[vI a,vI b,vN,vN,vN,vN,vN,vN,vN,vN,vN,vN,vN,vN,vN,vN,vN,vN,vN])
  (.s [.c,.c] (.new (λr1=>.s [.v,.c,.c,.c,.v,.call (.agg #[vI (AW a),vU (AY a)]),.call (.tuple #[.agg #[vI (AW (a*AI 40)),vU (AY (a*AI 40))],vI 0]),.v,.v,.v] (.new (λr5=>.s [.put 1] (.s [.v,.c,.c,.c,.own 1,.v,.call (.tuple #[.agg #[vI (AW (Ay a b)),vU (AY (Ay a b))],vI 0]),.v,.v,.put 0] (.s [.v,.c] (.ret [0]))))))))
  (by kernel_rfl) (Sx.refl w _) ExX.nil Tryz.func216 (by kernel_rfl) (by kernel_rfl) (Eq.mp (by kernel_rfl) (λ(r1:Nat)=>let e3:Nat×List Value:=(r1,[vI 0,vU 0]);let bs2:AD:=[e3];let rs4:Aw:=[(0,165,2)];aI (cv B bs2 [] rs4 [] λW hS=>Cg a (BX h) W) (aI (cv B bs2 [] rs4 [] λW hS=>Iu a h W (hg.below hS.bl)) (λ(r5:Nat)=>let rs8:Aw:=[(0,165,2),(1,165,2)];aI (DR r5) (aI trivial (let e10:Nat×List Value:=(r5,[vI (AW (a*AI 40)),vU (AY (a*AI 40))]);let bs9:AD:=[e3,e10];aI (Eq.refl r5) (aI (cv B bs9 [] rs8 [] λW hS=>J0 a b h hb h0 W (hg.below hS.bl) (hl.below hS.bl)) (aI (DR r1) (aI trivial (let e12:Nat×List Value:=(r1,[vI (AW (Ay a b)),vU (AY (Ay a b))]);let bs11:AD:=[e12,e10];aI (A_ r1) ((show AO B R bs11 [] rs8 [] (.tuple #[.agg #[vI (AW (Ay a b)),vU (AY (Ay a b))],vI 0])from by
      exactλW hS=>⟨rfl,hS.bl⟩)))))))))))))
theorem Pe(a:Int)(h:AL a=true)(w:World)(hg:GN w)(hl:GL w):Calls Tryz.prog 216 #[.int .i64 a,.int .i64 0] w (λe w'=>e=.returned (.tuple #[.agg #[.int .i64 (AW 0),.int .u64 (AY 0)],.int .i64 4])/\Below w.heap.size w w'):=by
 exact(let B:Base:=(⟨w,λ_=>False⟩:Base);let R:Ending->World->Prop:=(λe w'=>e=.returned (.tuple #[.agg #[.int .i64 (AW 0),.int .u64 (AY 0)],.int .i64 4])/\Below w.heap.size w w');AC (f:=216) (B:=B) (R:=R) (es:=[]) (c:=Tryz.f216.body.getD .skip) (tmps:=#[vI a,vI 0,vN,vN,vN,vN,vN,vN,vN,vN,vN,vN,vN,vN,vN,vN,vN,vN,vN])
  (.s [.c,.c] (.new (λr1=>.s [.v,.c,.c,.c,.v,.call (.agg #[vI (AW a),vU (AY a)]),.call (.tuple #[.agg #[vI (AW (a*AI 40)),vU (AY (a*AI 40))],vI 0]),.v,.v,.v] (.new (λr5=>.s [.put 1] (.s [.v,.c,.c,.c,.own 1,.v,.call (.tuple #[.agg #[vI (AW 0),vU (AY 0)],vI 4]),.v,.v,.put 0] (.s [.v,.c] (.ret [0]))))))))
  (by kernel_rfl) (Sx.refl w _) ExX.nil Tryz.func216 (by kernel_rfl) (by kernel_rfl) (Eq.mp (by kernel_rfl) (λ(r1:Nat)=>let e3:Nat×List Value:=(r1,[vI 0,vU 0]);let bs2:AD:=[e3];let rs4:Aw:=[(0,165,2)];aI (cv B bs2 [] rs4 [] λW hS=>Cg a (BX h) W) (aI (cv B bs2 [] rs4 [] λW hS=>Iu a h W (hg.below hS.bl)) (λ(r5:Nat)=>let rs8:Aw:=[(0,165,2),(1,165,2)];aI (DR r5) (aI trivial (let e10:Nat×List Value:=(r5,[vI (AW (a*AI 40)),vU (AY (a*AI 40))]);let bs9:AD:=[e3,e10];aI (Eq.refl r5) (aI (cv B bs9 [] rs8 [] λW hS=>Jt a h W (hg.below hS.bl) (hl.below hS.bl)) (aI (DR r1) (aI trivial (let e12:Nat×List Value:=(r1,[vI (AW 0),vU (AY 0)]);let bs11:AD:=[e12,e10];aI (A_ r1) ((show AO B R bs11 [] rs8 [] (.tuple #[.agg #[vI (AW 0),vU (AY 0)],vI 4])from by
      exactλW hS=>⟨rfl,hS.bl⟩)))))))))))))
theorem Le(a b:Int)(h0:b≠0)(w:World)(hg:GN w)(hl:GL w):Calls Tryz.prog 206 #[.int .i64 a,.int .i64 b,.func (.func 216) #[] #[],.func (.func 110) #[] #[]] w (λe w'=>e=.returned (.tuple #[.int .i64 (DK a b (Ay a b)),.int .i64 (Cz a b (Ay a b))])/\Below w.heap.size w w'):=by
 exact(let B:Base:=(⟨w,λ_=>False⟩:Base);let R:Ending->World->Prop:=(λe w'=>e=.returned (.tuple #[.int .i64 (DK a b (Ay a b)),.int .i64 (Cz a b (Ay a b))])/\Below w.heap.size w w');AC (f:=206) (B:=B) (R:=R) (es:=[]) (c:=Tryz.f206.body.getD .skip) (tmps:=#[vI a,vI b,.func (.func 216) #[] #[],.func (.func 110) #[] #[],vN,vN,vN,vN,vN,vN,vN,vN,vN,vN,vN,vN,vN,vN,vN,vN,vN,vN,vN,vN,vN,vN,vN,vN,vN,vN,vN,vN,vN,vN,vN,vN,vN,vN,vN,vN,vN,vN,vN,vN,vN])
  (.s [.c,.c,.v,.v,.c,.c,.c,.c,.v,.call (.bool (AL a)),.v,.v] (.split 16 (.s [.u,.u,.u,.v,.c,.c,.c,.c,.v,.v,.c] (.ret [])) (.s [.v,.call (.bool (AL b)),.v,.v,.c] (.split 20 (.s [.c,.c,.c,.v,.v,.c] (.ret [])) (.s [.c,.c,.c,.c,.v,.v,.v,.call (.tuple #[.agg #[vI (AW (Ay a b)),vU (AY (Ay a b))],vI 0]),.v,.v,.v] (.new (λr5=>.s [.put 0] (.s [.v,.c,.c,.c,.c,.v,.v,.c,.c,.c,.c,.c,.v,.own 0,.call (.tuple #[vI (Ae (Ay a b)),vI (CN (Ay a b))]),.v,.v,.v,.v,.v,.c,.c,.c,.c,.v,.v,.v] (.split 39 (.s [.u,.u,.u,.v,.c,.c,.c,.c,.v,.v,.c] (.ret [])) (.s [.v,.call (.bool (AL (Ae (Ay a b)))),.v,.v,.c] (.split 43 (.s [.c,.c,.c,.v,.v,.c] (.ret [])) (.s [.c,.c,.c,.c,.v,.v,.v,.c] (.ret [])))))))))))))
  (by kernel_rfl) (Sx.refl w _) ExX.nil Tryz.func206 (by kernel_rfl) (by kernel_rfl) (Eq.mp (by kernel_rfl) (aI (cw B [] [] [] [] λW hS=>As a W) (And.intro (λ(h10:(!(AL a))=true)=>hv (show(AL a)=false from(by simpa using h10)) (λh1=>aI trivial ((show AO B R [] [] [] [] (.tuple #[vI 0,vI 1])from by
      have F:=OQ (b:=b) (z:=(Ay a b)) h1
      exactλW hS=>⟨by rw[F.1,F.2],hS.bl⟩)))) (λ(h20:(!(AL a))=false)=>hv (show(AL a)=true from(by simpa using h20)) (λh2=>aI (cw B [] [] [] [] λW hS=>As b W) (And.intro (λ(h30:(!(AL b))=true)=>hv (show(AL b)=false from(by simpa using h30)) (λh3=>aI trivial ((show AO B R [] [] [] [] (.tuple #[vI 0,vI 1])from by
      have F:=S_ (a:=a) (z:=(Ay a b)) h3
      exactλW hS=>⟨by rw[F.1,F.2],hS.bl⟩)))) (λ(h40:(!(AL b))=false)=>hv (show(AL b)=true from(by simpa using h40)) (λh4=>aI (cv B [] [] [] [] λW hS=>Qq a b h2 (BX h4) h0 W (hg.below hS.bl) (hl.below hS.bl)) (λ(r5:Nat)=>let rs8:Aw:=[(0,165,2)];aI (DR r5) (aI trivial (let e10:Nat×List Value:=(r5,[vI (AW (Ay a b)),vU (AY (Ay a b))]);let bs9:AD:=[e10];aI (Eq.refl r5) (aI (cv B bs9 [] rs8 [] λW hS=>Cn (Ay a b) W) (And.intro (λ(h11:((CN (Ay a b))!=0)=true)=>hv (show¬((CN (Ay a b))=0)from(by simpa using h11)) (λh11p=>aI trivial ((show AO B R bs9 [] rs8 [] (.tuple #[vI 0,vI 3])from by
      have F:=Cf (z:=(Ay a b)) h2 h4 h0
      have G:=VF (z:=(Ay a b)) h11p
      exactλW hS=>⟨by rw[F.1,F.2,G.1,G.2],hS.bl⟩)))) (λ(h12:((CN (Ay a b))!=0)=false)=>hv (show(CN (Ay a b))=0 from(by simpa using h12)) (λh12p=>aI (cw B bs9 [] rs8 [] λW hS=>As (Ae (Ay a b)) W) (And.intro (λ(h130:(!(AL (Ae (Ay a b))))=true)=>hv (show(AL (Ae (Ay a b)))=false from(by simpa using h130)) (λh13=>aI trivial ((show AO B R bs9 [] rs8 [] (.tuple #[vI 0,vI 3])from by
      have F:=Cf (z:=(Ay a b)) h2 h4 h0
      have G:=VO (z:=(Ay a b)) h12p h13
      exactλW hS=>⟨by rw[F.1,F.2,G.1,G.2],hS.bl⟩)))) (λ(h140:(!(AL (Ae (Ay a b))))=false)=>hv (show(AL (Ae (Ay a b)))=true from(by simpa using h140)) (λh14=>aI trivial ((show AO B R bs9 [] rs8 [] (.tuple #[vI (Ae (Ay a b)),vI 0])from by
      have F:=Cf (z:=(Ay a b)) h2 h4 h0
      have G:=Ui (z:=(Ay a b)) h12p h14
      exactλW hS=>⟨by rw[F.1,F.2,G.1,G.2],hS.bl⟩)))))))))))))))))))))
theorem LX(a:Int)(w:World)(hg:GN w)(hl:GL w):Calls Tryz.prog 206 #[.int .i64 a,.int .i64 0,.func (.func 216) #[] #[],.func (.func 110) #[] #[]] w (λe w'=>e=.returned (.tuple #[.int .i64 (DK a 0 (Ay a 0)),.int .i64 (Cz a 0 (Ay a 0))])/\Below w.heap.size w w'):=by
 exact(let B:Base:=(⟨w,λ_=>False⟩:Base);let R:Ending->World->Prop:=(λe w'=>e=.returned (.tuple #[.int .i64 (DK a 0 (Ay a 0)),.int .i64 (Cz a 0 (Ay a 0))])/\Below w.heap.size w w');AC (f:=206) (B:=B) (R:=R) (es:=[]) (c:=Tryz.f206.body.getD .skip) (tmps:=#[vI a,vI 0,.func (.func 216) #[] #[],.func (.func 110) #[] #[],vN,vN,vN,vN,vN,vN,vN,vN,vN,vN,vN,vN,vN,vN,vN,vN,vN,vN,vN,vN,vN,vN,vN,vN,vN,vN,vN,vN,vN,vN,vN,vN,vN,vN,vN,vN,vN,vN,vN,vN,vN])
  (.s [.c,.c,.v,.v,.c,.c,.c,.c,.v,.call (.bool (AL a)),.v,.v] (.split 16 (.s [.u,.u,.u,.v,.c,.c,.c,.c,.v,.v,.c] (.ret [])) (.s [.v,.call (.bool (AL 0)),.v,.v,.c,.setv 20 (vF),.c,.c,.c,.c,.v,.v,.v,.call (.tuple #[.agg #[vI (AW 0),vU (AY 0)],vI 4]),.v,.v,.v] (.new (λr3=>.s [.put 0] (.s [.v,.c,.c,.c,.c,.v,.v,.c,.c,.c,.c,.v,.v,.v,.c] (.ret [])))))))
  (by kernel_rfl) (Sx.refl w _) ExX.nil Tryz.func206 (by kernel_rfl) (by kernel_rfl) (Eq.mp (by kernel_rfl) (aI (cw B [] [] [] [] λW hS=>As a W) (And.intro (λ(h10:(!(AL a))=true)=>hv (show(AL a)=false from(by simpa using h10)) (λh1=>aI trivial ((show AO B R [] [] [] [] (.tuple #[vI 0,vI 1])from by
      have F:=OQ (b:=0) (z:=Ay a 0) h1
      exactλW hS=>⟨by rw[F.1,F.2],hS.bl⟩)))) (λ(h20:(!(AL a))=false)=>hv (show(AL a)=true from(by simpa using h20)) (λh2=>aI (cw B [] [] [] [] λW hS=>As 0 W) (aI (show Value.bool (!(AL 0))=vF from(by rw[((by decide):(AL 0)=true)];rfl)) (aI (cv B [] [] [] [] λW hS=>Pe a h2 W (hg.below hS.bl) (hl.below hS.bl)) (λ(r3:Nat)=>let rs6:Aw:=[(0,165,2)];aI (DR r3) (aI trivial (let e8:Nat×List Value:=(r3,[vI (AW 0),vU (AY 0)]);let bs7:AD:=[e8];aI trivial ((show AO B R bs7 [] rs6 [] (.tuple #[vI 0,vI 4])from by
      have F:=SG (z:=Ay a 0) h2
      exactλW hS=>⟨by rw[F.1,F.2],hS.bl⟩)))))))))))))
theorem L8(a b:Int)(w:World)(hg:GN w)(hl:GL w):Calls Tryz.prog 206 #[.int .i64 a,.int .i64 b,.func (.func 216) #[] #[],.func (.func 110) #[] #[]] w λe w'=>e=.returned (.tuple #[.int .i64 (DK a b (Ay a b)),.int .i64 (Cz a b (Ay a b))])/\Below w.heap.size w w':=by
 by_cases h0:b=0
 ·subst h0;exact LX a w hg hl
 exact Le a b h0 w hg hl
theorem Ks(a b:Int)(w:World)(hg:GN w)(hl:GL w):Calls Tryz.prog 204 #[.int .i64 a,.int .i64 b] w (λe w'=>e=.returned (.tuple #[.int .i64 (DK a b (Ay a b)),.int .i64 (Cz a b (Ay a b))])/\Below w.heap.size w w'):=by
 exact(let B:Base:=(⟨w,λ_=>False⟩:Base);let R:Ending->World->Prop:=(λe w'=>e=.returned (.tuple #[.int .i64 (DK a b (Ay a b)),.int .i64 (Cz a b (Ay a b))])/\Below w.heap.size w w');AC (f:=204) (B:=B) (R:=R) (es:=[]) (c:=Tryz.f204.body.getD .skip) (tmps:=#[vI a,vI b,vN,vN,vN,vN,vN,vN,vN,vN,vN])
  (.s [.c,.c,.v,.v,.c,.c,.c,.v,.v,.call (.tuple #[vI (DK a b (Ay a b)),vI (Cz a b (Ay a b))]),.v,.v,.v,.v,.c] (.ret []))
  (by kernel_rfl) (Sx.refl w _) ExX.nil Tryz.func204 (by kernel_rfl) (by kernel_rfl) (Eq.mp (by kernel_rfl) (aI (cv B [] [] [] [] λW hS=>L8 a b W (hg.below hS.bl) (hl.below hS.bl)) (aI trivial ((show AO B R [] [] [] [] (.tuple #[vI (DK a b (Ay a b)),vI (Cz a b (Ay a b))])from by
      exactλW hS=>⟨rfl,hS.bl⟩))))))
end Go.Proofs.YtikajapjkdloaaaGreatDoor
