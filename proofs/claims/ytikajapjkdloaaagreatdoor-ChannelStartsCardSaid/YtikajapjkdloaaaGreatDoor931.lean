/- Walks of the layer 'wide', tenth part: Div and Even. -/
import Derived.Test.YtikajapjkdloaaaGreatDoor930
import Derived.Test.YtikajapjkdloaaaGreatDoor926
namespace Go.Proofs.YtikajapjkdloaaaGreatDoor
set_option linter.unusedVariables false
set_option linter.unusedSimpArgs false
section
open Go.RowKit
attribute [local go_sem] CE CA CF CG B_ CB CD CC Be Bc Ba
def Ht(q a b:Int):Int:=if b=0 then 0 else if a=LW/\b= -1 then 0 else q
def JH(a b:Int):Int:=if b=0 then 4 else if a=LW/\b= -1 then 3 else 0
theorem PG(a b:Int)(ha:AS a)(hi:Ai b)(w:World)(hg:GN w)(hl:GL w):
 Calls Tryz.prog 218 #[.agg #[.int .i64 (AW a),.int .u64 (AY a)],.int .i64 b] w λe w'=>e=.returned (.tuple #[.agg #[.int .i64 (AW (Ht (fl a b) a b)),.int .u64 (AY (Ht (fl a b) a b))],.int .u64 (Ht (rm a b) a b),.int .i64 (JH a b)])/\Below w.heap.size w w':=by
 unfold Ht JH
 by_cases hb:b=0
 ·subst hb
  simp only[if_true,R6,Ry]
  exact Id a w hg
 simp only[if_neg hb]
 by_cases hx:a=LW/\b= -1
 ·simp only[if_pos hx,R6,Ry]
  obtain⟨rfl,rfl⟩:=hx
  exact HZ w hg hl
 simp only[if_neg hx]
 exact EZ a b ha hi hb hx w hg hl
theorem Vj{a b:Int}(ha:AS a)(hb:b≠0)(h:0<rm a b):fl a b<=85070591730234615865843651857942052864:=by
 have k:=Lv ha hb
 have hr:=Nx (a:=a) hb
 have e:=Int.mul_ediv_add_emod (a.natAbs:Int) b.natAbs
 have hB:(b.natAbs:Int)≠1:=by
  intro e1
  have:=Qs (a:=a) hb
  omega
 have hb2:(2:Int)<=b.natAbs:=by omega
 have:=Int.mul_le_mul_of_nonneg_right hb2 k.1
 cases d:(decide (a<0)!=decide (b<0))
 ·rw[(K4 hb d).1];unfold AS at ha;omega
 rw[(G9 hb d).1];split<;>omega
theorem S8{a b:Int}(ha:AS a)(hb:b≠0)(hx: ¬(a=LW/\b= -1)):AS (ev a b):=by
 have h:=TO ha hb hx
 rw[Ql]
 split
 ·have k:=Vj ha hb (by have:=Qs (a:=a) hb;omega)
  unfold AS at*;omega
 exact h
theorem UH{a b:Int}(h:2*rm a b>(b.natAbs:Int)∨2*rm a b=(b.natAbs:Int)/\fl a b%2=1):ev a b=fl a b+1:=by rw[Ql,if_pos h]
theorem Ob{a b:Int}(h: ¬(2*rm a b>(b.natAbs:Int)∨2*rm a b=(b.natAbs:Int)/\fl a b%2=1)):ev a b=fl a b:=by rw[Ql,if_neg h]
set_option maxRecDepth 100000 in
set_option maxHeartbeats 4000000 in
theorem K3(a b:Int)(ha:AS a)(hi:Ai b)(h:b=0∨a=LW/\b= -1)(w:World)(hg:GN w)(hl:GL w):
 Calls Tryz.prog 217 #[.agg #[.int .i64 (AW a),.int .u64 (AY a)],.int .i64 b] w λe w'=>e=.returned (.tuple #[.agg #[.int .i64 0,.int .u64 0],.int .i64 (JH a b)])/\Below w.heap.size w w':=by
 have HG:=Asd.mk hg
 have HL:=Asd.mk hl
 have hlt:=World.block_lt_of_cell? w _ hg.1
 obtain⟨hlo,hlo',hlol⟩:=DS hlt
 obtain⟨g0,g1⟩:=hg
 clear hl
 have hq:(JH a b !=0)=true:=by
  rcases h with rfl|⟨rfl,rfl⟩
  ·rfl
  rfl
 clear h
 go_enter Tryz.func217,Tryz.ntmps217
 go_wp2_with (go_at_call 218;refine(PG a b ha hi _ (by exact HG.out.below LC) (by exact HL.out.below LC)).mono ?_;rintro e w1 ⟨rfl,hb1⟩;obtain⟨hc1,hf1⟩:=Bz hb1;have hz1_0:w.heap.size<w1.heap.size:=Nat.lt_of_lt_of_le ZB hb1.size;have hz1_1:w.heap.size+1<w1.heap.size:=Nat.lt_of_lt_of_le ZB hb1.size;have hg11:1<w1.heap.size:=Nat.lt_of_lt_of_le ZB hb1.size)
 refine bodyPost_ret (v:=.tuple #[.agg #[.int .i64 0,.int .u64 0],.int .i64 (JH a b)]) (by simp(maxDischargeDepth:=9) [results,Tryz.results217,go_sem, *]) rfl ⟨rfl,LC⟩
set_option maxRecDepth 100000 in
set_option maxHeartbeats 8000000 in
theorem Kt(a b:Int)(ha:AS a)(hi:Ai b)(hb:b≠0)(hx: ¬(a=LW/\b= -1))(w:World)(hg:GN w)(hl:GL w):
 Calls Tryz.prog 217 #[.agg #[.int .i64 (AW a),.int .u64 (AY a)],.int .i64 b] w λe w'=>e=.returned (.tuple #[.agg #[.int .i64 (AW (ev a b)),.int .u64 (AY (ev a b))],.int .i64 0])/\Below w.heap.size w w':=by
 have HG:=Asd.mk hg
 have HL:=Asd.mk hl
 have HX:=Asd.mk hx
 have hone:Ai 1:=by unfold Ai;omega
 have HW:=S8 ha hb hx
 have hr:=Qs (a:=a) hb
 have hs:=Dv hi
 have ha1:bits .and .u64 (AY (fl a b)) 1=fl a b%2:=(La _ (Df _).1 (Df _).2).trans (by unfold AY;omega)
 have eL:IntKind.u64.wrap ((b.natAbs:Int)-rm a b)=(b.natAbs:Int)-rm a b:=by rw[IntKind.wrap_u64];omega
 have HH:=Asd.mk (And.intro hr hs)
 clear hg hl hx hr hs
 by_cases c1:(b.natAbs:Int)-rm a b<rm a b
 ·have HE:=UH (a:=a) (b:=b) (.inl en)
  rw[HE]at HW⊢
  have WE:=Asd.mk (Di HW)
  clear HE HW
  go_enter Tryz.func217,Tryz.ntmps217
  go_wp2_with (first
   |(go_at_call 218;refine(EZ a b ha hi hb HX.out _ (by exact HG.out.below LC) (by exact HL.out.below LC)).mono ?_;rintro e w1 ⟨rfl,hb1⟩;obtain⟨hc1,hf1⟩:=Bz hb1;have hz1_0:w.heap.size<w1.heap.size:=Nat.lt_of_lt_of_le ZB hb1.size;have hz1_1:w.heap.size+1<w1.heap.size:=Nat.lt_of_lt_of_le ZB hb1.size)
   |(go_at_call 195;refine(Co b hi _).mono ?_;rintro e w' ⟨rfl,rfl⟩))
  go_region_held3 (λw'=>w'.cell? ⟨w1.heap.size,0,none⟩=some (.int .i64 (AW (fl a b)))/\w'.cell? ⟨w1.heap.size,1,none⟩=some (.int .u64 (AY (fl a b)))) (first|(simp[go_sem];done)|exact⟨b4,b5⟩|exact⟨b2,b3⟩|(simp[go_sem, *];done))
   (first
    |(go_at_call 109;refine(Cg 1 hone _).mono ?_;rintro e w2 ⟨rfl,hb2⟩;obtain⟨b2,b3,f2,f3⟩:Blk w2 w1.heap.size (AW (fl a b)) (AY (fl a b)):=Blk.below hb2 (by simp) (by simp[Blk,go_sem, *]);obtain⟨r2,r3,s2,s3⟩:Blk w2 (w.heap.size+1) 0 0:=Blk.below hb2 (by simp;omega) (by simp[Blk,go_sem, *]);have hz2:w1.heap.size<w2.heap.size:=Nat.lt_of_lt_of_le (by simp) hb2.size)
    |(go_at_call 170;refine(DU (fl a b) 1 _).mono ?_;rintro e w3 ⟨rfl,hb3⟩;obtain⟨b4,b5,f4,f5⟩:=Blk.below hb3 hz2 ⟨b2,b3,f2,f3⟩;obtain⟨r4,r5,s4,s5⟩:=Blk.below hb3 (Nat.lt_trans hz1_1 hz2) ⟨r2,r3,s2,s3⟩;have hz3:w1.heap.size<w3.heap.size:=Nat.lt_of_lt_of_le hz2 hb3.size))
  go_wp2
  refine bodyPost_ret (v:=.tuple #[.agg #[.int .i64 (AW (Aj (fl a b+1))),.int .u64 (AY (Aj (fl a b+1)))],.int .i64 0]) (by simp(maxDischargeDepth:=9) [results,Tryz.results217,go_sem, *]) rfl ⟨by rw[WE.out],LC⟩
 by_cases c2:rm a b=(b.natAbs:Int)-rm a b
 ·by_cases c3:fl a b%2=1
  ·have HE:=UH (a:=a) (b:=b) (.inr ⟨by omega,c3⟩)
   have q2:(rm a b==(b.natAbs:Int)-rm a b)=true:=beq_iff_eq.2 c2
   have C2:=Asd.mk c2
   clear c2
   rw[HE]at HW⊢
   have WE:=Asd.mk (Di HW)
   clear HE HW
   go_enter Tryz.func217,Tryz.ntmps217
   go_wp2_with (first
    |(go_at_call 218;refine(EZ a b ha hi hb HX.out _ (by exact HG.out.below LC) (by exact HL.out.below LC)).mono ?_;rintro e w1 ⟨rfl,hb1⟩;obtain⟨hc1,hf1⟩:=Bz hb1;have hz1_0:w.heap.size<w1.heap.size:=Nat.lt_of_lt_of_le ZB hb1.size;have hz1_1:w.heap.size+1<w1.heap.size:=Nat.lt_of_lt_of_le ZB hb1.size)
    |(go_at_call 195;refine(Co b hi _).mono ?_;rintro e w' ⟨rfl,rfl⟩))
   go_region_held3 (λw'=>w'.cell? ⟨w1.heap.size,0,none⟩=some (.int .i64 (AW (fl a b)))/\w'.cell? ⟨w1.heap.size,1,none⟩=some (.int .u64 (AY (fl a b)))) (first|(simp[go_sem];done)|exact⟨b4,b5⟩|exact⟨b2,b3⟩|(simp[go_sem, *];done))
    (first
     |(go_at_call 109;refine(Cg 1 hone _).mono ?_;rintro e w2 ⟨rfl,hb2⟩;obtain⟨b2,b3,f2,f3⟩:Blk w2 w1.heap.size (AW (fl a b)) (AY (fl a b)):=Blk.below hb2 (by simp) (by simp[Blk,go_sem, *]);obtain⟨r2,r3,s2,s3⟩:Blk w2 (w.heap.size+1) 0 0:=Blk.below hb2 (by simp;omega) (by simp[Blk,go_sem, *]);have hz2:w1.heap.size<w2.heap.size:=Nat.lt_of_lt_of_le (by simp) hb2.size)
     |(go_at_call 170;refine(DU (fl a b) 1 _).mono ?_;rintro e w3 ⟨rfl,hb3⟩;obtain⟨b4,b5,f4,f5⟩:=Blk.below hb3 hz2 ⟨b2,b3,f2,f3⟩;obtain⟨r4,r5,s4,s5⟩:=Blk.below hb3 (Nat.lt_trans hz1_1 hz2) ⟨r2,r3,s2,s3⟩;have hz3:w1.heap.size<w3.heap.size:=Nat.lt_of_lt_of_le hz2 hb3.size))
   go_wp2
   refine bodyPost_ret (v:=.tuple #[.agg #[.int .i64 (AW (Aj (fl a b+1))),.int .u64 (AY (Aj (fl a b+1)))],.int .i64 0]) (by simp(maxDischargeDepth:=9) [results,Tryz.results217,go_sem, *]) rfl ⟨by rw[WE.out],LC⟩
  have HE:=Ob (a:=a) (b:=b) en
  have q2:(rm a b==(b.natAbs:Int)-rm a b)=true:=beq_iff_eq.2 c2
  have c4:fl a b%2=0:=by omega
  have C2:=Asd.mk c2
  clear c2
  rw[HE]at HW⊢
  clear HE HW
  go_enter Tryz.func217,Tryz.ntmps217
  go_wp2_with (first
   |(go_at_call 218;refine(EZ a b ha hi hb HX.out _ (by exact HG.out.below LC) (by exact HL.out.below LC)).mono ?_;rintro e w1 ⟨rfl,hb1⟩;obtain⟨hc1,hf1⟩:=Bz hb1;have hz1_0:w.heap.size<w1.heap.size:=Nat.lt_of_lt_of_le ZB hb1.size;have hz1_1:w.heap.size+1<w1.heap.size:=Nat.lt_of_lt_of_le ZB hb1.size)
   |(go_at_call 195;refine(Co b hi _).mono ?_;rintro e w' ⟨rfl,rfl⟩))
  refine bodyPost_ret (v:=.tuple #[.agg #[.int .i64 (AW (fl a b)),.int .u64 (AY (fl a b))],.int .i64 0]) (by simp(maxDischargeDepth:=9) [results,Tryz.results217,go_sem, *]) rfl ⟨rfl,LC⟩
 have HE:=Ob (a:=a) (b:=b) en
 have q2:(rm a b==(b.natAbs:Int)-rm a b)=false:=beq_eq_false_iff_ne.2 c2
 have C2:=Asd.mk c2
 clear c2
 rw[HE]at HW⊢
 clear HE HW
 go_enter Tryz.func217,Tryz.ntmps217
 go_wp2_with (first
  |(go_at_call 218;refine(EZ a b ha hi hb HX.out _ (by exact HG.out.below LC) (by exact HL.out.below LC)).mono ?_;rintro e w1 ⟨rfl,hb1⟩;obtain⟨hc1,hf1⟩:=Bz hb1;have hz1_0:w.heap.size<w1.heap.size:=Nat.lt_of_lt_of_le ZB hb1.size;have hz1_1:w.heap.size+1<w1.heap.size:=Nat.lt_of_lt_of_le ZB hb1.size)
  |(go_at_call 195;refine(Co b hi _).mono ?_;rintro e w' ⟨rfl,rfl⟩))
 refine bodyPost_ret (v:=.tuple #[.agg #[.int .i64 (AW (fl a b)),.int .u64 (AY (fl a b))],.int .i64 0]) (by simp(maxDischargeDepth:=9) [results,Tryz.results217,go_sem, *]) rfl ⟨rfl,LC⟩
theorem KZ(a b:Int)(ha:AS a)(hi:Ai b)(w:World)(hg:GN w)(hl:GL w):
 Calls Tryz.prog 217 #[.agg #[.int .i64 (AW a),.int .u64 (AY a)],.int .i64 b] w λe w'=>e=.returned (.tuple #[.agg #[.int .i64 (AW (Ht (ev a b) a b)),.int .u64 (AY (Ht (ev a b) a b))],.int .i64 (JH a b)])/\Below w.heap.size w w':=by
 by_cases h:b=0∨a=LW/\b= -1
 ·have e:Ht (ev a b) a b=0:=by
   unfold Ht
   by_cases hb:b=0
   ·rw[if_pos hb]
   rw[if_neg hb,if_pos (h.resolve_left hb)]
  rw[e,R6,Ry]
  exact K3 a b ha hi h w hg hl
 have hb:b≠0:= λk=>h (.inl k)
 have hx: ¬(a=LW/\b= -1):= λk=>h (.inr k)
 have e:Ht (ev a b) a b=ev a b/\JH a b=0:=by simp[Ht,JH,hb,hx]
 rw[e.1,e.2]
 exact Kt a b ha hi hb hx w hg hl
end
section
set_option maxRecDepth 1000000
set_option maxHeartbeats 8000000
open Go.RowKit
theorem Iu(a:Int)(h:AL a=true)(w:World)(hg:GN w):Calls Tryz.prog 156 #[.agg #[.int .i64 (AW a),.int .u64 (AY a)],.int .i64 40] w λe w'=>e=.returned (.tuple #[.agg #[.int .i64 (AW (a*AI 40)),.int .u64 (AY (a*AI 40))],.int .i64 0])/\Below w.heap.size w w':=by
 have k:=Hf a 40 eo (M9 (BX h)) w hg
 have e:up a 40=a*AI 40:=rfl
 rw[e,(C9 (Ol h)).1,(C9 (Ol h)).2]at k;exact k
theorem J0(a b:Int)(h:AL a=true)(hb:Ai b)(h0:b≠0)(w:World)(hg:GN w)(hl:GL w):
 Calls Tryz.prog 217 #[.agg #[.int .i64 (AW (a*AI 40)),.int .u64 (AY (a*AI 40))],.int .i64 b] w λe w'=>e=.returned (.tuple #[.agg #[.int .i64 (AW (Ay a b)),.int .u64 (AY (Ay a b))],.int .i64 0])/\Below w.heap.size w w':=by
 have k:=KZ (a*AI 40) b (Ol h) hb w hg hl
 have hk:=fitB_true.1 h
 have hn: ¬(a*AI 40=LW/\b= -1):=by rw[Lx];unfold LW;omega
 have e:Ht (ev (a*AI 40) b) (a*AI 40) b=Ay a b/\JH (a*AI 40) b=0:=by unfold Ht JH;rw[if_neg h0,if_neg hn,if_neg h0,if_neg hn];exact⟨rfl,rfl⟩
 rw[e.1,e.2]at k;exact k
theorem Jt(a:Int)(h:AL a=true)(w:World)(hg:GN w)(hl:GL w):
 Calls Tryz.prog 217 #[.agg #[.int .i64 (AW (a*AI 40)),.int .u64 (AY (a*AI 40))],.int .i64 0] w λe w'=>e=.returned (.tuple #[.agg #[.int .i64 (AW 0),.int .u64 (AY 0)],.int .i64 4])/\Below w.heap.size w w':=by
 have k:=KZ (a*AI 40) 0 (Ol h) eo w hg hl
 simp only[Ht,JH,if_true]at k;exact k
theorem Qq(a b:Int)(h:AL a=true)(hb:Ai b)(h0:b≠0)(w:World)(hg:GN w)(hl:GL w):Calls Tryz.prog 216 #[.int .i64 a,.int .i64 b] w (λe w'=>e=.returned (.tuple #[.agg #[.int .i64 (AW (Ay a b)),.int .u64 (AY (Ay a b))],.int .i64 0])/\Below w.heap.size w w'):=by
 exact(let B:Base:=(⟨w,λ_=>False⟩:Base);let R:Ending->World->Prop:=(λe w'=>e=.returned (.tuple #[.agg #[.int .i64 (AW (Ay a b)),.int .u64 (AY (Ay a b))],.int .i64 0])/\Below w.heap.size w w');AC (f:=216) (B:=B) (R:=R) (es:=[]) (c:=Tryz.f216.body.getD .skip) (tmps:=#[vI a,vI b,vN,vN,vN,vN,vN,vN,vN,vN,vN,vN,vN,vN,vN,vN,vN,vN,vN])
  (.s [.c,.c] (.new (λr1=>.s [.v,.c,.c,.c,.v,.call (.agg #[vI (AW a),vU (AY a)]),.call (.tuple #[.agg #[vI (AW (a*AI 40)),vU (AY (a*AI 40))],vI 0]),.v,.v,.v] (.new (λr5=>.s [.put 1] (.s [.v,.c,.c,.c,.own 1,.v,.call (.tuple #[.agg #[vI (AW (Ay a b)),vU (AY (Ay a b))],vI 0]),.v,.v,.put 0] (.s [.v,.c] (.ret [0]))))))))
  el (Sx.refl w _) ExX.nil Tryz.func216 el el (Eq.mp el (λ(r1:Nat)=>let e3:Nat×List Value:=(r1,[vI 0,vU 0]);let bs2:AD:=[e3];let rs4:Aw:=[(0,165,2)];aI (cv B bs2 [] rs4 [] λW hS=>Cg a (BX h) W) (aI (cv B bs2 [] rs4 [] λW hS=>Iu a h W (hg.below hS.bl)) (λ(r5:Nat)=>let rs8:Aw:=[(0,165,2),(1,165,2)];aI (DR r5) (aI trivial (let e10:Nat×List Value:=(r5,[vI (AW (a*AI 40)),vU (AY (a*AI 40))]);let bs9:AD:=[e3,e10];aI (Eq.refl r5) (aI (cv B bs9 [] rs8 [] λW hS=>J0 a b h hb h0 W (hg.below hS.bl) (hl.below hS.bl)) (aI (DR r1) (aI trivial (let e12:Nat×List Value:=(r1,[vI (AW (Ay a b)),vU (AY (Ay a b))]);let bs11:AD:=[e12,e10];aI (A_ r1) ((show AO B R bs11 [] rs8 [] (.tuple #[.agg #[vI (AW (Ay a b)),vU (AY (Ay a b))],vI 0])from by
     exactλW hS=>⟨rfl,hS.bl⟩)))))))))))))
theorem Pe(a:Int)(h:AL a=true)(w:World)(hg:GN w)(hl:GL w):Calls Tryz.prog 216 #[.int .i64 a,.int .i64 0] w (λe w'=>e=.returned (.tuple #[.agg #[.int .i64 (AW 0),.int .u64 (AY 0)],.int .i64 4])/\Below w.heap.size w w'):=by
 exact(let B:Base:=(⟨w,λ_=>False⟩:Base);let R:Ending->World->Prop:=(λe w'=>e=.returned (.tuple #[.agg #[.int .i64 (AW 0),.int .u64 (AY 0)],.int .i64 4])/\Below w.heap.size w w');AC (f:=216) (B:=B) (R:=R) (es:=[]) (c:=Tryz.f216.body.getD .skip) (tmps:=#[vI a,vI 0,vN,vN,vN,vN,vN,vN,vN,vN,vN,vN,vN,vN,vN,vN,vN,vN,vN])
  (.s [.c,.c] (.new (λr1=>.s [.v,.c,.c,.c,.v,.call (.agg #[vI (AW a),vU (AY a)]),.call (.tuple #[.agg #[vI (AW (a*AI 40)),vU (AY (a*AI 40))],vI 0]),.v,.v,.v] (.new (λr5=>.s [.put 1] (.s [.v,.c,.c,.c,.own 1,.v,.call (.tuple #[.agg #[vI (AW 0),vU (AY 0)],vI 4]),.v,.v,.put 0] (.s [.v,.c] (.ret [0]))))))))
  el (Sx.refl w _) ExX.nil Tryz.func216 el el (Eq.mp el (λ(r1:Nat)=>let e3:Nat×List Value:=(r1,[vI 0,vU 0]);let bs2:AD:=[e3];let rs4:Aw:=[(0,165,2)];aI (cv B bs2 [] rs4 [] λW hS=>Cg a (BX h) W) (aI (cv B bs2 [] rs4 [] λW hS=>Iu a h W (hg.below hS.bl)) (λ(r5:Nat)=>let rs8:Aw:=[(0,165,2),(1,165,2)];aI (DR r5) (aI trivial (let e10:Nat×List Value:=(r5,[vI (AW (a*AI 40)),vU (AY (a*AI 40))]);let bs9:AD:=[e3,e10];aI (Eq.refl r5) (aI (cv B bs9 [] rs8 [] λW hS=>Jt a h W (hg.below hS.bl) (hl.below hS.bl)) (aI (DR r1) (aI trivial (let e12:Nat×List Value:=(r1,[vI (AW 0),vU (AY 0)]);let bs11:AD:=[e12,e10];aI (A_ r1) ((show AO B R bs11 [] rs8 [] (.tuple #[.agg #[vI (AW 0),vU (AY 0)],vI 4])from by
     exactλW hS=>⟨rfl,hS.bl⟩)))))))))))))
theorem Le(a b:Int)(h0:b≠0)(w:World)(hg:GN w)(hl:GL w):Calls Tryz.prog 206 #[.int .i64 a,.int .i64 b,.func (.func 216) #[] #[],.func (.func 110) #[] #[]] w (λe w'=>e=.returned (.tuple #[.int .i64 (DK a b (Ay a b)),.int .i64 (Cz a b (Ay a b))])/\Below w.heap.size w w'):=by
 exact(let B:Base:=(⟨w,λ_=>False⟩:Base);let R:Ending->World->Prop:=(λe w'=>e=.returned (.tuple #[.int .i64 (DK a b (Ay a b)),.int .i64 (Cz a b (Ay a b))])/\Below w.heap.size w w');AC (f:=206) (B:=B) (R:=R) (es:=[]) (c:=Tryz.f206.body.getD .skip) (tmps:=#[vI a,vI b,.func (.func 216) #[] #[],.func (.func 110) #[] #[],vN,vN,vN,vN,vN,vN,vN,vN,vN,vN,vN,vN,vN,vN,vN,vN,vN,vN,vN,vN,vN,vN,vN,vN,vN,vN,vN,vN,vN,vN,vN,vN,vN,vN,vN,vN,vN,vN,vN,vN,vN])
  (.s [.c,.c,.v,.v,.c,.c,.c,.c,.v,.call (.bool (AL a)),.v,.v] (.split 16 (.s [.u,.u,.u,.v,.c,.c,.c,.c,.v,.v,.c] (.ret [])) (.s [.v,.call (.bool (AL b)),.v,.v,.c] (.split 20 (.s [.c,.c,.c,.v,.v,.c] (.ret [])) (.s [.c,.c,.c,.c,.v,.v,.v,.call (.tuple #[.agg #[vI (AW (Ay a b)),vU (AY (Ay a b))],vI 0]),.v,.v,.v] (.new (λr5=>.s [.put 0] (.s [.v,.c,.c,.c,.c,.v,.v,.c,.c,.c,.c,.c,.v,.own 0,.call (.tuple #[vI (Ae (Ay a b)),vI (CN (Ay a b))]),.v,.v,.v,.v,.v,.c,.c,.c,.c,.v,.v,.v] (.split 39 (.s [.u,.u,.u,.v,.c,.c,.c,.c,.v,.v,.c] (.ret [])) (.s [.v,.call (.bool (AL (Ae (Ay a b)))),.v,.v,.c] (.split 43 (.s [.c,.c,.c,.v,.v,.c] (.ret [])) (.s [.c,.c,.c,.c,.v,.v,.v,.c] (.ret [])))))))))))))
  el (Sx.refl w _) ExX.nil Tryz.func206 el el (Eq.mp el (aI (cw B [] [] [] [] λW hS=>As a W) (And.intro (λ(h10:(!(AL a))=true)=>hv (show(AL a)=false from(by simpa using h10)) (λh1=>aI trivial ((show AO B R [] [] [] [] (.tuple #[vI 0,vI 1])from by
     have F:=OQ (b:=b) (z:=(Ay a b)) h1
     exactλW hS=>⟨by rw[F.1,F.2],hS.bl⟩)))) (λ(h20:(!(AL a))=false)=>hv (show(AL a)=true from(by simpa using h20)) (λh2=>aI (cw B [] [] [] [] λW hS=>As b W) (And.intro (λ(h30:(!(AL b))=true)=>hv (show(AL b)=false from(by simpa using h30)) (λh3=>aI trivial ((show AO B R [] [] [] [] (.tuple #[vI 0,vI 1])from by
     have F:=S_ (a:=a) (z:=(Ay a b)) h3
     exactλW hS=>⟨by rw[F.1,F.2],hS.bl⟩)))) (λ(h40:(!(AL b))=false)=>hv (show(AL b)=true from(by simpa using h40)) (λh4=>aI (cv B [] [] [] [] λW hS=>Qq a b h2 (BX h4) h0 W (hg.below hS.bl) (hl.below hS.bl)) (λ(r5:Nat)=>let rs8:Aw:=[(0,165,2)];aI (DR r5) (aI trivial (let e10:Nat×List Value:=(r5,[vI (AW (Ay a b)),vU (AY (Ay a b))]);let bs9:AD:=[e10];aI (Eq.refl r5) (aI (cv B bs9 [] rs8 [] λW hS=>Cn (Ay a b) W) (And.intro (λ(h11:((CN (Ay a b))!=0)=true)=>hv (show¬((CN (Ay a b))=0)from(by simpa using h11)) (λh11p=>aI trivial ((show AO B R bs9 [] rs8 [] (.tuple #[vI 0,vI 3])from by
     have F:=Cf (z:=(Ay a b)) h2 h4 h0
     have G:=VF (z:=(Ay a b)) h11p
     exactλW hS=>⟨by rw[F.1,F.2,G.1,G.2],hS.bl⟩)))) (λ(h12:((CN (Ay a b))!=0)=false)=>hv (show(CN (Ay a b))=0 from(by simpa using h12)) (λh12p=>aI (cw B bs9 [] rs8 [] λW hS=>As (Ae (Ay a b)) W) (And.intro (λ(h130:(!(AL (Ae (Ay a b))))=true)=>hv (show(AL (Ae (Ay a b)))=false from(by simpa using h130)) (λh13=>aI trivial ((show AO B R bs9 [] rs8 [] (.tuple #[vI 0,vI 3])from by
     have F:=Cf (z:=(Ay a b)) h2 h4 h0
     have G:=VO (z:=(Ay a b)) h12p h13
     exactλW hS=>⟨by rw[F.1,F.2,G.1,G.2],hS.bl⟩)))) (λ(h140:(!(AL (Ae (Ay a b))))=false)=>hv (show(AL (Ae (Ay a b)))=true from(by simpa using h140)) (λh14=>aI trivial ((show AO B R bs9 [] rs8 [] (.tuple #[vI (Ae (Ay a b)),vI 0])from by
     have F:=Cf (z:=(Ay a b)) h2 h4 h0
     have G:=Ui (z:=(Ay a b)) h12p h14
     exactλW hS=>⟨by rw[F.1,F.2,G.1,G.2],hS.bl⟩)))))))))))))))))))))
theorem LX(a:Int)(w:World)(hg:GN w)(hl:GL w):Calls Tryz.prog 206 #[.int .i64 a,.int .i64 0,.func (.func 216) #[] #[],.func (.func 110) #[] #[]] w (λe w'=>e=.returned (.tuple #[.int .i64 (DK a 0 (Ay a 0)),.int .i64 (Cz a 0 (Ay a 0))])/\Below w.heap.size w w'):=by
 exact(let B:Base:=(⟨w,λ_=>False⟩:Base);let R:Ending->World->Prop:=(λe w'=>e=.returned (.tuple #[.int .i64 (DK a 0 (Ay a 0)),.int .i64 (Cz a 0 (Ay a 0))])/\Below w.heap.size w w');AC (f:=206) (B:=B) (R:=R) (es:=[]) (c:=Tryz.f206.body.getD .skip) (tmps:=#[vI a,vI 0,.func (.func 216) #[] #[],.func (.func 110) #[] #[],vN,vN,vN,vN,vN,vN,vN,vN,vN,vN,vN,vN,vN,vN,vN,vN,vN,vN,vN,vN,vN,vN,vN,vN,vN,vN,vN,vN,vN,vN,vN,vN,vN,vN,vN,vN,vN,vN,vN,vN,vN])
  (.s [.c,.c,.v,.v,.c,.c,.c,.c,.v,.call (.bool (AL a)),.v,.v] (.split 16 (.s [.u,.u,.u,.v,.c,.c,.c,.c,.v,.v,.c] (.ret [])) (.s [.v,.call (.bool (AL 0)),.v,.v,.c,.setv 20 (vF),.c,.c,.c,.c,.v,.v,.v,.call (.tuple #[.agg #[vI (AW 0),vU (AY 0)],vI 4]),.v,.v,.v] (.new (λr3=>.s [.put 0] (.s [.v,.c,.c,.c,.c,.v,.v,.c,.c,.c,.c,.v,.v,.v,.c] (.ret [])))))))
  el (Sx.refl w _) ExX.nil Tryz.func206 el el (Eq.mp el (aI (cw B [] [] [] [] λW hS=>As a W) (And.intro (λ(h10:(!(AL a))=true)=>hv (show(AL a)=false from(by simpa using h10)) (λh1=>aI trivial ((show AO B R [] [] [] [] (.tuple #[vI 0,vI 1])from by
     have F:=OQ (b:=0) (z:=Ay a 0) h1
     exactλW hS=>⟨by rw[F.1,F.2],hS.bl⟩)))) (λ(h20:(!(AL a))=false)=>hv (show(AL a)=true from(by simpa using h20)) (λh2=>aI (cw B [] [] [] [] λW hS=>As 0 W) (aI (show Value.bool (!(AL 0))=vF from(by rw[(eo:(AL 0)=true)];rfl)) (aI (cv B [] [] [] [] λW hS=>Pe a h2 W (hg.below hS.bl) (hl.below hS.bl)) (λ(r3:Nat)=>let rs6:Aw:=[(0,165,2)];aI (DR r3) (aI trivial (let e8:Nat×List Value:=(r3,[vI (AW 0),vU (AY 0)]);let bs7:AD:=[e8];aI trivial ((show AO B R bs7 [] rs6 [] (.tuple #[vI 0,vI 4])from by
     have F:=SG (z:=Ay a 0) h2
     exactλW hS=>⟨by rw[F.1,F.2],hS.bl⟩)))))))))))))
theorem L8(a b:Int)(w:World)(hg:GN w)(hl:GL w):Calls Tryz.prog 206 #[.int .i64 a,.int .i64 b,.func (.func 216) #[] #[],.func (.func 110) #[] #[]] w λe w'=>e=.returned (.tuple #[.int .i64 (DK a b (Ay a b)),.int .i64 (Cz a b (Ay a b))])/\Below w.heap.size w w':=by
 by_cases h0:b=0
 ·subst h0;exact LX a w hg hl
 exact Le a b h0 w hg hl
theorem Ks(a b:Int)(w:World)(hg:GN w)(hl:GL w):Calls Tryz.prog 204 #[.int .i64 a,.int .i64 b] w (λe w'=>e=.returned (.tuple #[.int .i64 (DK a b (Ay a b)),.int .i64 (Cz a b (Ay a b))])/\Below w.heap.size w w'):=by
 exact(let B:Base:=(⟨w,λ_=>False⟩:Base);let R:Ending->World->Prop:=(λe w'=>e=.returned (.tuple #[.int .i64 (DK a b (Ay a b)),.int .i64 (Cz a b (Ay a b))])/\Below w.heap.size w w');AC (f:=204) (B:=B) (R:=R) (es:=[]) (c:=Tryz.f204.body.getD .skip) (tmps:=#[vI a,vI b,vN,vN,vN,vN,vN,vN,vN,vN,vN])
  (.s [.c,.c,.v,.v,.c,.c,.c,.v,.v,.call (.tuple #[vI (DK a b (Ay a b)),vI (Cz a b (Ay a b))]),.v,.v,.v,.v,.c] (.ret []))
  el (Sx.refl w _) ExX.nil Tryz.func204 el el (Eq.mp el (aI (cv B [] [] [] [] λW hS=>L8 a b W (hg.below hS.bl) (hl.below hS.bl)) (aI trivial ((show AO B R [] [] [] [] (.tuple #[vI (DK a b (Ay a b)),vI (Cz a b (Ay a b))])from by
     exactλW hS=>⟨rfl,hS.bl⟩))))))
end
section
open Go.RowKit
def EY(p:Nat->Int)(s:Int):Bool:=Ap p&&(AL s&&decide (1<=s))
def Eo(p:Nat->Int)(s:Int):Int:=if EY p s then eE (BK (Ay (p 0) s)) (BK (Ay (p 1) s)) (BK (Ay (p 2) s))else 1
def Bw(p:Nat->Int)(s:Int)(i:Nat):Int:=if EY p s then eV (BK (Ay (p 0) s)) (BK (Ay (p 1) s)) (BK (Ay (p 2) s)) (Au (Ay (p i) s))else 0
theorem LQ{p:Nat->Int}{s:Int}(h:EY p s=false):Eo p s=1/\ ∀i,Bw p s i=0:=⟨by unfold Eo;rw[h];rfl,λi=>by unfold Bw;rw[h];rfl⟩
theorem Hh{p:Nat->Int}{s:Int}(h:EY p s=true):Eo p s=eE (BK (Ay (p 0) s)) (BK (Ay (p 1) s)) (BK (Ay (p 2) s))/\ ∀i,Bw p s i=eV (BK (Ay (p 0) s)) (BK (Ay (p 1) s)) (BK (Ay (p 2) s)) (Au (Ay (p i) s)):=
 ⟨by unfold Eo;rw[h];rfl,λi=>by unfold Bw;rw[h];rfl⟩
theorem JV{p:Nat->Int}:BD p (v6 0 0 0 0 0 0)=if Ap p then 0 else 1:=by
 have h0:Ap (v6 0 0 0 0 0 0)=true:=by decide
 unfold BD
 rw[h0,Bool.and_true]
 cases h:Ap p
 ·rfl
 have e:Ap (λj=>p j+v6 0 0 0 0 0 0 j)=true:=by
  rw[<-h];unfold Ap;simp only[Fl,v6,Int.add_zero]
 rw[e];rfl
theorem Sj{p:Nat->Int}(h:BD p (v6 0 0 0 0 0 0)=0):Ap p=true:=by
 rw[JV]at h
 cases q:Ap p
 ·rw[q]at h;cases h
 rfl
theorem So{p:Nat->Int}(h: ¬BD p (v6 0 0 0 0 0 0)=0):Ap p=false:=by
 rw[JV]at h
 cases q:Ap p
 ·rfl
 rw[q]at h;exact absurd rfl h
theorem DP{p:Nat->Int}(h:Ap p=true):AL (p 0)=true/\AL (p 1)=true/\AL (p 2)=true:=by
 unfold Ap at h;simp only[Fl,Bool.true_and,Bool.and_eq_true]at h;simp only[h,and_self]
abbrev Ws:Nat->Int:=(v6 0 0 0 0 0 0)
set_option maxRecDepth 1000000 in
set_option maxHeartbeats 8000000 in
theorem QI(p:Nat->Int)(s:Int)(hp6: ∀i,Ai (p i))(hs:Ai s)(w:World)(hg:GN w)(hl:GL w):Calls Tryz.prog 159 #[.agg #[.int .i64 (p 0),.int .i64 (p 1),.int .i64 (p 2),.int .i64 (p 3),.int .i64 (p 4),.int .i64 (p 5)],.int .i64 s] w (λe w'=>e=.returned (.tuple #[.agg #[.int .i64 (Bw p s 0),.int .i64 (Bw p s 1),.int .i64 (Bw p s 2)],.int .i64 (Eo p s)])/\Below w.heap.size w w'):=by
 exact(let B:Base:=(⟨w,λ_=>False⟩:Base);let R:Ending->World->Prop:=(λe w'=>e=.returned (.tuple #[.agg #[.int .i64 (Bw p s 0),.int .i64 (Bw p s 1),.int .i64 (Bw p s 2)],.int .i64 (Eo p s)])/\Below w.heap.size w w');AC (f:=159) (B:=B) (R:=R) (es:=[]) (c:=Tryz.f159.body.getD .skip) (tmps:=#[.agg #[vI (p 0),vI (p 1),vI (p 2),vI (p 3),vI (p 4),vI (p 5)],vI s,vN,vN,vN,vN,vN,vN,vN,vN,vN,vN,vN,vN,vN,vN,vN,vN,vN,vN,vN,vN,vN,vN,vN,vN,vN,vN,vN,vN,vN,vN,vN,vN,vN,vN,vN,vN,vN,vN,vN,vN,vN,vN,vN,vN,vN])
  (.s [.c,.c] (.new (λr1=>.new (λr5=>.s [.v,.c,.c,.c,.own 0,.v,.call (.tuple #[.agg #[vI (AF p Ws 0),vI (AF p Ws 1),vI (AF p Ws 2),vI (AF p Ws 3),vI (AF p Ws 4),vI (AF p Ws 5)],vI (BD p Ws)]),.v,.v,.v] (.new (λr9=>.s [.put 2] (.s [.v,.c,.c,.c,.c,.v,.v,.v] (.split 18 (.s [.u,.u,.u,.v,.v,.u,.u,.v,.c,.c,.c,.c,.v,.put 1,.v,.c] (.ret [1])) (.s [.v,.call (.bool (AL s)),.v,.v,.v] (.split 23 (.s [.u,.u,.v,.c,.c,.c,.c,.v,.put 1,.v,.c] (.ret [1])) (.s [.v,.v,.v,.c] (.split 26 (.s [.c,.c,.c,.v,.put 1,.v,.c] (.ret [1])) (.s [.c,.c,.c,.c] (.new (λr21=>.s [.c,.c,.c,.c,.v,.c,.c,.c,.c,.c,.v,.c,.c,.c,.c,.c,.c,.c,.c,.v,.v,.c,.c,.c,.v,.v,.v,.own 0,.v,.call (.tuple #[vI (DK (p 0) s (Ay (p 0) s)),vI (Cz (p 0) s (Ay (p 0) s))]),.v,.v,.v,.v,.put 3] (.s [.v,.c,.c,.c,.v,.v,.c] (.split 42 (.s [.c,.c,.c,.v,.v,.put 1,.v,.c] (.ret [1])) (.s [.c,.c,.c,.c,.v,.v,.c,.c,.c,.c,.v,.c,.c,.c,.c,.c,.c,.c,.c,.v,.v,.c,.c,.c,.v,.v,.v,.own 0,.v,.call (.tuple #[vI (DK (p 1) s (Ay (p 1) s)),vI (Cz (p 1) s (Ay (p 1) s))]),.v,.v,.v,.v,.put 3] (.s [.v,.c,.c,.c,.v,.v,.c] (.split 42 (.s [.c,.c,.c,.v,.v,.put 1,.v,.c] (.ret [1])) (.s [.c,.c,.c,.c,.v,.v,.c,.c,.c,.c,.v,.c,.c,.c,.c,.c,.c,.c,.c,.v,.v,.c,.c,.c,.v,.v,.v,.own 0,.v,.call (.tuple #[vI (DK (p 2) s (Ay (p 2) s)),vI (Cz (p 2) s (Ay (p 2) s))]),.v,.v,.v,.v,.put 3] (.s [.v,.c,.c,.c,.v,.v,.c] (.split 42 (.s [.c,.c,.c,.v,.v,.put 1,.v,.c] (.ret [1])) (.s [.c,.c,.c,.c,.v,.v,.c,.c,.c,.c,.v,.c,.c,.c,.c,.c,.c,.own 3,.put 1] (.s [.v,.c] (.ret [1]))))))))))))))))))))))))))
  el (Sx.refl w _) ExX.nil Tryz.func159 el el (Eq.mp el (λ(r1:Nat)=>let e3:Nat×List Value:=(r1,[vI (p 0),vI (p 1),vI (p 2),vI (p 3),vI (p 4),vI (p 5)]); λ(r5:Nat)=>let e7:Nat×List Value:=(r5,[vI 0,vI 0,vI 0]);let bs6:AD:=[e3,e7];let rs8:Aw:=[(0,45,6),(1,23,3)];aI (Eq.refl r1) (aI (cv B bs6 [] rs8 [] λW hS=>HQ p Ws W) (λ(r9:Nat)=>let rs12:Aw:=[(0,45,6),(1,23,3),(2,45,6)];aI (FN r9) (aI trivial (let e14:Nat×List Value:=(r9,[vI (AF p Ws 0),vI (AF p Ws 1),vI (AF p Ws 2),vI (AF p Ws 3),vI (AF p Ws 4),vI (AF p Ws 5)]);let bs13:AD:=[e3,e7,e14];And.intro (λ(h15:((BD p Ws)!=0)=true)=>hv (show¬((BD p Ws)=0)from(by simpa using h15)) (λh15p=>hv (So h15p) (λF6=>aI (Dm r5) (aI trivial (aI (A_ r5) ((show AO B R bs13 [] rs12 [] (.tuple #[.agg #[vI 0,vI 0,vI 0],vI 1])from by
     have F:=LQ (p:=p) (s:=s) (by unfold EY;simp[F6])
     exactλW hS=>⟨by simp only[F.1,F.2],hS.bl⟩))))))) (λ(h16:((BD p Ws)!=0)=false)=>hv (show(BD p Ws)=0 from(by simpa using h16)) (λh16p=>hv (Sj h16p) (λF6=>aI (cw B bs13 [] rs12 [] λW hS=>As s W) (And.intro (λ(h170:(!(AL s))=true)=>hv (show(AL s)=false from(by simpa using h170)) (λh17=>aI (Dm r5) (aI trivial (aI (A_ r5) ((show AO B R bs13 [] rs12 [] (.tuple #[.agg #[vI 0,vI 0,vI 0],vI 1])from by
     have F:=LQ (p:=p) (s:=s) (by unfold EY;simp[h17])
     exactλW hS=>⟨by simp only[F.1,F.2],hS.bl⟩)))))) (λ(h180:(!(AL s))=false)=>hv (show(AL s)=true from(by simpa using h180)) (λh18=>And.intro (λ(h19:(decide (s<1))=true)=>hv (show s<1 from(by simpa using h19)) (λh19p=>aI (Dm r5) (aI trivial (aI (A_ r5) ((show AO B R bs13 [] rs12 [] (.tuple #[.agg #[vI 0,vI 0,vI 0],vI 1])from by
     have z: ¬1<=s:=by omega
     have F:=LQ (p:=p) (s:=s) (by unfold EY;simp[z])
     exactλW hS=>⟨by simp only[F.1,F.2],hS.bl⟩)))))) (λ(h20:(decide (s<1))=false)=>hv (show¬(s<1)from(by simpa using h20)) (λh20p=> λ(r21:Nat)=>let e23:Nat×List Value:=(r21,[vI 0,vI 0,vI 0]);let bs22:AD:=[e3,e7,e14,e23];let rs24:Aw:=[(0,45,6),(1,23,3),(2,45,6),(3,23,3)];aI (Eq.refl r1) (aI (cv B bs22 [] rs24 [] λW hS=>Ks (p 0) s W (hg.below hS.bl) (hl.below hS.bl)) (aI (A_ r21) (aI trivial (let e26:Nat×List Value:=(r21,[vI (DK (p 0) s (Ay (p 0) s)),vI 0,vI 0]);let bs25:AD:=[e3,e7,e14,e26];And.intro (λ(h27:((Cz (p 0) s (Ay (p 0) s))!=0)=true)=>hv (show¬((Cz (p 0) s (Ay (p 0) s))=0)from(by simpa using h27)) (λh27p=>aI (Dm r5) (aI trivial (aI (A_ r5) ((show AO B R bs25 [] rs24 [] (.tuple #[.agg #[vI 0,vI 0,vI 0],vI (Cz (p 0) s (Ay (p 0) s))])from by
     have B:EY p s=true:=by unfold EY;rw[F6,h18,decide_eq_true (show 1<=s by omega)];rfl
     have h0:s≠0:=by omega
     have D0:=Cf (z:=Ay (p 0) s) (DP F6).1 h18 h0
     have D1:=Cf (z:=Ay (p 1) s) (DP F6).2.1 h18 h0
     have D2:=Cf (z:=Ay (p 2) s) (DP F6).2.2 h18 h0
     have q0:=h27p;rw[D0.2]at q0
     have K:=LU (e0:=BK (Ay (p 0) s)) (e1:=BK (Ay (p 1) s)) (e2:=BK (Ay (p 2) s)) q0
     have F:=Hh B
     exactλW hS=>⟨by simp only[F.1,F.2,K.1,K.2,D0.1,D0.2,D1.1,D1.2,D2.1,D2.2],hS.bl⟩)))))) (λ(h28:((Cz (p 0) s (Ay (p 0) s))!=0)=false)=>hv (show(Cz (p 0) s (Ay (p 0) s))=0 from(by simpa using h28)) (λh28p=>aI (Eq.refl r1) (aI (cv B bs25 [] rs24 [] λW hS=>Ks (p 1) s W (hg.below hS.bl) (hl.below hS.bl)) (aI (A_ r21) (aI trivial (let e30:Nat×List Value:=(r21,[vI (DK (p 0) s (Ay (p 0) s)),vI (DK (p 1) s (Ay (p 1) s)),vI 0]);let bs29:AD:=[e3,e7,e14,e30];And.intro (λ(h31:((Cz (p 1) s (Ay (p 1) s))!=0)=true)=>hv (show¬((Cz (p 1) s (Ay (p 1) s))=0)from(by simpa using h31)) (λh31p=>aI (Dm r5) (aI trivial (aI (A_ r5) ((show AO B R bs29 [] rs24 [] (.tuple #[.agg #[vI 0,vI 0,vI 0],vI (Cz (p 1) s (Ay (p 1) s))])from by
     have B:EY p s=true:=by unfold EY;rw[F6,h18,decide_eq_true (show 1<=s by omega)];rfl
     have h0:s≠0:=by omega
     have D0:=Cf (z:=Ay (p 0) s) (DP F6).1 h18 h0
     have D1:=Cf (z:=Ay (p 1) s) (DP F6).2.1 h18 h0
     have D2:=Cf (z:=Ay (p 2) s) (DP F6).2.2 h18 h0
     have q0:=h28p;rw[D0.2]at q0
     have q1:=h31p;rw[D1.2]at q1
     have K:=Lj (e0:=BK (Ay (p 0) s)) (e1:=BK (Ay (p 1) s)) (e2:=BK (Ay (p 2) s)) q0 q1
     have F:=Hh B
     exactλW hS=>⟨by simp only[F.1,F.2,K.1,K.2,D0.1,D0.2,D1.1,D1.2,D2.1,D2.2],hS.bl⟩)))))) (λ(h32:((Cz (p 1) s (Ay (p 1) s))!=0)=false)=>hv (show(Cz (p 1) s (Ay (p 1) s))=0 from(by simpa using h32)) (λh32p=>aI (Eq.refl r1) (aI (cv B bs29 [] rs24 [] λW hS=>Ks (p 2) s W (hg.below hS.bl) (hl.below hS.bl)) (aI (A_ r21) (aI trivial (let e34:Nat×List Value:=(r21,[vI (DK (p 0) s (Ay (p 0) s)),vI (DK (p 1) s (Ay (p 1) s)),vI (DK (p 2) s (Ay (p 2) s))]);let bs33:AD:=[e3,e7,e14,e34];And.intro (λ(h35:((Cz (p 2) s (Ay (p 2) s))!=0)=true)=>hv (show¬((Cz (p 2) s (Ay (p 2) s))=0)from(by simpa using h35)) (λh35p=>aI (Dm r5) (aI trivial (aI (A_ r5) ((show AO B R bs33 [] rs24 [] (.tuple #[.agg #[vI 0,vI 0,vI 0],vI (Cz (p 2) s (Ay (p 2) s))])from by
     have B:EY p s=true:=by unfold EY;rw[F6,h18,decide_eq_true (show 1<=s by omega)];rfl
     have h0:s≠0:=by omega
     have D0:=Cf (z:=Ay (p 0) s) (DP F6).1 h18 h0
     have D1:=Cf (z:=Ay (p 1) s) (DP F6).2.1 h18 h0
     have D2:=Cf (z:=Ay (p 2) s) (DP F6).2.2 h18 h0
     have q0:=h28p;rw[D0.2]at q0
     have q1:=h32p;rw[D1.2]at q1
     have q2:=h35p;rw[D2.2]at q2
     have K:=N1 (e0:=BK (Ay (p 0) s)) (e1:=BK (Ay (p 1) s)) (e2:=BK (Ay (p 2) s)) q0 q1 q2
     have F:=Hh B
     exactλW hS=>⟨by simp only[F.1,F.2,K.1,K.2,D0.1,D0.2,D1.1,D1.2,D2.1,D2.2],hS.bl⟩)))))) (λ(h36:((Cz (p 2) s (Ay (p 2) s))!=0)=false)=>hv (show(Cz (p 2) s (Ay (p 2) s))=0 from(by simpa using h36)) (λh36p=>aI (Eq.refl r21) (aI (Dm r5) (aI trivial (let e38:Nat×List Value:=(r5,[vI (DK (p 0) s (Ay (p 0) s)),vI (DK (p 1) s (Ay (p 1) s)),vI (DK (p 2) s (Ay (p 2) s))]);let bs37:AD:=[e3,e38,e14,e34];aI (A_ r5) ((show AO B R bs37 [] rs24 [] (.tuple #[.agg #[vI (DK (p 0) s (Ay (p 0) s)),vI (DK (p 1) s (Ay (p 1) s)),vI (DK (p 2) s (Ay (p 2) s))],vI 0])from by
     have B:EY p s=true:=by unfold EY;rw[F6,h18,decide_eq_true (show 1<=s by omega)];rfl
     have h0:s≠0:=by omega
     have D0:=Cf (z:=Ay (p 0) s) (DP F6).1 h18 h0
     have D1:=Cf (z:=Ay (p 1) s) (DP F6).2.1 h18 h0
     have D2:=Cf (z:=Ay (p 2) s) (DP F6).2.2 h18 h0
     have q0:=h28p;rw[D0.2]at q0
     have q1:=h32p;rw[D1.2]at q1
     have q2:=h36p;rw[D2.2]at q2
     have K:=Iw (e0:=BK (Ay (p 0) s)) (e1:=BK (Ay (p 1) s)) (e2:=BK (Ay (p 2) s)) q0 q1 q2
     have F:=Hh B
     exactλW hS=>⟨by simp only[F.1,F.2,K.1,K.2,D0.1,D0.2,D1.1,D1.2,D2.1,D2.2],hS.bl⟩))))))))))))))))))))))))))))))))))))))
end
section
set_option maxRecDepth 1000000
set_option maxHeartbeats 8000000
open Go.RowKit
def SQ(p:Nat->Int)(s:Int)(c:Bool)(t:Nat->Int):Int:=if c then(if Ab t then 0 else 1)else Eo p s
def RP(p:Nat->Int)(s:Int)(c:Bool)(t:Nat->Int)(i:Nat):Int:=if c then(if Ab t then t i else 0)else Bw p s i
theorem Qc{p t:Nat->Int}{s:Int}{c:Bool}(h:c=true):SQ p s c t=(if Ab t then 0 else 1)/\ ∀i,RP p s c t i=(if Ab t then t i else 0):=by subst h;exact⟨rfl,λ_=>rfl⟩
theorem SR{p t:Nat->Int}{s:Int}{c:Bool}(h:c=false):SQ p s c t=Eo p s/\ ∀i,RP p s c t i=Bw p s i:=by subst h;exact⟨rfl,λ_=>rfl⟩
theorem OJ(t:Nat->Int):Eb t (v3 0 0 0)=(if Ab t then 0 else 1)/\Bi t (v3 0 0 0) 0=(if Ab t then t 0 else 0)/\Bi t (v3 0 0 0) 1=(if Ab t then t 1 else 0)/\Bi t (v3 0 0 0) 2=(if Ab t then t 2 else 0):=by
 have hz:Ab (v3 0 0 0)=true:=by decide
 cases h:Ab t
 ·obtain⟨a,b⟩:=LZ (a:=t) (b:=v3 0 0 0) (by rw[h];rfl)
  exact⟨a,b 0,b 1,b 2⟩
 obtain⟨f0,f1,f2⟩:=Ch h
 obtain⟨a,b⟩:=Ix h hz
 have k: ∀z,AL z=true->AX z 0 (z+0)=0/\AR z 0 (z+0)=z:= λz q=>by
  have:=B8 (a:=z) (b:=0) (z:=z+0) q eo
  rw[Int.add_zero]at this⊢
  rw[this.1,this.2];exact⟨(Cw q).2,(Cw q).1⟩
 have Y0:A7 t (v3 0 0 0) 0=0:=(k _ f0).1
 have Y1:A7 t (v3 0 0 0) 1=0:=(k _ f1).1
 have Y2:A7 t (v3 0 0 0) 2=0:=(k _ f2).1
 have E:=Iw (e0:=0) (e1:=0) (e2:=0) rfl rfl rfl
 rw[a,b 0,b 1,b 2,Y0,Y1,Y2,E.1,E.2,E.2,E.2]
 exact⟨rfl,(k _ f0).2,(k _ f1).2,(k _ f2).2⟩
theorem Qo(p:Nat->Int)(s:Int)(b1 b2:Nat)(hp6: ∀i,Ai (p i))(hs:Ai s)(w:World)(hg:GN w)(hl:GL w)(cb10:w.cell? ⟨b1,0,none⟩=some (.int .i64 (p 0)))(cb11:w.cell? ⟨b1,1,none⟩=some (.int .i64 (p 1)))(cb12:w.cell? ⟨b1,2,none⟩=some (.int .i64 (p 2)))(cb13:w.cell? ⟨b1,3,none⟩=some (.int .i64 (p 3)))(cb14:w.cell? ⟨b1,4,none⟩=some (.int .i64 (p 4)))(cb15:w.cell? ⟨b1,5,none⟩=some (.int .i64 (p 5)))(cb20:w.cell? ⟨b2,0,none⟩=some (.int .i64 s)):Calls Tryz.prog 158 #[.pointer (some ⟨b1,0,none⟩),.pointer (some ⟨b2,0,none⟩)] w (λe w'=>e=.returned (.tuple #[.agg #[.int .i64 (Bw p s 0),.int .i64 (Bw p s 1),.int .i64 (Bw p s 2)],.int .i64 (Eo p s)])/\Below w.heap.size w w'):=by
 exact(let B:Base:=(⟨w,λ_=>False⟩:Base);let R:Ending->World->Prop:=(λe w'=>e=.returned (.tuple #[.agg #[.int .i64 (Bw p s 0),.int .i64 (Bw p s 1),.int .i64 (Bw p s 2)],.int .i64 (Eo p s)])/\Below w.heap.size w w');AC (f:=158) (B:=B) (R:=R) (es:=[(b1,[.int .i64 (p 0),.int .i64 (p 1),.int .i64 (p 2),.int .i64 (p 3),.int .i64 (p 4),.int .i64 (p 5)]),(b2,[.int .i64 s])]) (c:=Tryz.f158.body.getD .skip) (tmps:=#[vP b1,vP b2,vN,vN,vN,vN,vN,vN,vN])
  (.s [.c,.c] (.new (λr1=>.s [.v,.c,.c,.c,.ext 0,.ext 1,.call (.tuple #[.agg #[vI (Bw p s 0),vI (Bw p s 1),vI (Bw p s 2)],vI (Eo p s)]),.v,.v,.put 0] (.s [.v,.c] (.ret [0])))))
  el (Sx.refl w _) (by exact ExX.cons (Ib (λh=>h) (show Az w b1 0 [.int .i64 (p 0),.int .i64 (p 1),.int .i64 (p 2),.int .i64 (p 3),.int .i64 (p 4),.int .i64 (p 5)]from by exact⟨cb10,cb11,cb12,cb13,cb14,cb15,trivial⟩)) (ExX.cons (Ib (λh=>h) (show Az w b2 0 [.int .i64 s]from by exact⟨cb20,trivial⟩)) (ExX.nil))) Tryz.func158 el el (Eq.mp el (λ(r1:Nat)=>let e3:Nat×List Value:=(r1,[vI 0,vI 0,vI 0]);let bs2:AD:=[e3];let rs4:Aw:=[(0,23,3)];aI (Eq.refl b1) (aI (Eq.refl b2) (aI (cv B bs2 [] rs4 [] λW hS=>QI p s hp6 hs W (hg.below hS.bl) (hl.below hS.bl)) (aI (Dm r1) (aI trivial (let e6:Nat×List Value:=(r1,[vI (Bw p s 0),vI (Bw p s 1),vI (Bw p s 2)]);let bs5:AD:=[e6];aI (A_ r1) ((show AO B R bs5 [] rs4 [] (.tuple #[.agg #[vI (Bw p s 0),vI (Bw p s 1),vI (Bw p s 2)],vI (Eo p s)])from by
     exactλW hS=>⟨rfl,hS.bl⟩))))))))))
theorem Q4(t:Nat->Int)(b1:Nat)(ht: ∀i,Ai (t i))(w:World)(cb10:w.cell? ⟨b1,0,none⟩=some (.int .i64 (t 0)))(cb11:w.cell? ⟨b1,1,none⟩=some (.int .i64 (t 1)))(cb12:w.cell? ⟨b1,2,none⟩=some (.int .i64 (t 2))):Calls Tryz.prog 160 #[.pointer (some ⟨b1,0,none⟩)] w (λe w'=>e=.returned (.tuple #[.agg #[.int .i64 (if Ab t then t 0 else 0),.int .i64 (if Ab t then t 1 else 0),.int .i64 (if Ab t then t 2 else 0)],.int .i64 (if Ab t then 0 else 1)])/\Below w.heap.size w w'):=by
 exact(let B:Base:=(⟨w,λ_=>False⟩:Base);let R:Ending->World->Prop:=(λe w'=>e=.returned (.tuple #[.agg #[.int .i64 (if Ab t then t 0 else 0),.int .i64 (if Ab t then t 1 else 0),.int .i64 (if Ab t then t 2 else 0)],.int .i64 (if Ab t then 0 else 1)])/\Below w.heap.size w w');AC (f:=160) (B:=B) (R:=R) (es:=[(b1,[.int .i64 (t 0),.int .i64 (t 1),.int .i64 (t 2)])]) (c:=Tryz.f160.body.getD .skip) (tmps:=#[vP b1,vN,vN,vN,vN,vN,vN,vN])
  (.s [.c,.c] (.new (λr1=>.s [.v,.c,.c,.c,.ext 0,.v,.call (.tuple #[.agg #[vI (Bi t (v3 0 0 0) 0),vI (Bi t (v3 0 0 0) 1),vI (Bi t (v3 0 0 0) 2)],vI (Eb t (v3 0 0 0))]),.v,.v,.put 0] (.s [.v,.c] (.ret [0])))))
  el (Sx.refl w _) (by exact ExX.cons (Ib (λh=>h) (show Az w b1 0 [.int .i64 (t 0),.int .i64 (t 1),.int .i64 (t 2)]from by exact⟨cb10,cb11,cb12,trivial⟩)) (ExX.nil)) Tryz.func160 el el (Eq.mp el (λ(r1:Nat)=>let e3:Nat×List Value:=(r1,[vI 0,vI 0,vI 0]);let bs2:AD:=[e3];let rs4:Aw:=[(0,23,3)];aI (Eq.refl b1) (aI (cv B bs2 [] rs4 [] λW hS=>LL t (v3 0 0 0) ht (Hj (p:=Ai) eo eo eo) W) (aI (Dm r1) (aI trivial (let e6:Nat×List Value:=(r1,[vI (Bi t (v3 0 0 0) 0),vI (Bi t (v3 0 0 0) 1),vI (Bi t (v3 0 0 0) 2)]);let bs5:AD:=[e6];aI (A_ r1) ((show AO B R bs5 [] rs4 [] (.tuple #[.agg #[vI (Bi t (v3 0 0 0) 0),vI (Bi t (v3 0 0 0) 1),vI (Bi t (v3 0 0 0) 2)],vI (Eb t (v3 0 0 0))])from by
     have F:=OJ t
     exactλW hS=>⟨by rw[F.1,F.2.1,F.2.2.1,F.2.2.2],hS.bl⟩)))))))))
theorem Tq(p:Nat->Int)(s:Int)(c:Bool)(t:Nat->Int)(hp6: ∀i,Ai (p i))(hs:Ai s)(_hc:True)(ht: ∀i,Ai (t i))(w:World)(hg:GN w)(hl:GL w):Calls Tryz.prog 104 #[.agg #[.int .i64 (p 0),.int .i64 (p 1),.int .i64 (p 2),.int .i64 (p 3),.int .i64 (p 4),.int .i64 (p 5)],.int .i64 s,.bool c,.agg #[.int .i64 (t 0),.int .i64 (t 1),.int .i64 (t 2)]] w (λe w'=>e=.returned (.tuple #[.agg #[.int .i64 (RP p s c t 0),.int .i64 (RP p s c t 1),.int .i64 (RP p s c t 2)],.int .i64 (SQ p s c t)])/\Below w.heap.size w w'):=by
 exact(let B:Base:=(⟨w,λ_=>False⟩:Base);let R:Ending->World->Prop:=(λe w'=>e=.returned (.tuple #[.agg #[.int .i64 (RP p s c t 0),.int .i64 (RP p s c t 1),.int .i64 (RP p s c t 2)],.int .i64 (SQ p s c t)])/\Below w.heap.size w w');AC (f:=104) (B:=B) (R:=R) (es:=[]) (c:=Tryz.f104.body.getD .skip) (tmps:=#[.agg #[vI (p 0),vI (p 1),vI (p 2),vI (p 3),vI (p 4),vI (p 5)],vI s,.bool c,.agg #[vI (t 0),vI (t 1),vI (t 2)],vN,vN,vN,vN,vN,vN,vN,vN,vN,vN,vN,vN,vN,vN,vN,vN,vN])
  (.s [.c,.c] (.new (λr1=>.new (λr5=>.new (λr8=>.new (λr12=>.s [.v,.c,.c,.c,.v,.v] (.new (λr16=>.s [.put 4] (.s [.c,.c,.c,.c,.v,.c] (.split 13 (.s [.c,.c,.v,.v,.put 4] (.s [.c,.c,.c,.v,.own 4,.call (.tuple #[.agg #[vI (if Ab t then t 0 else 0),vI (if Ab t then t 1 else 0),vI (if Ab t then t 2 else 0)],vI (if Ab t then 0 else 1)]),.v,.v,.put 3] (.s [.v,.c] (.ret [3])))) (.s [.c,.c,.c,.c,.v,.own 4,.call (.tuple #[.agg #[vI (Bw p s 0),vI (Bw p s 1),vI (Bw p s 2)],vI (Eo p s)]),.v,.v,.put 3] (.s [.v,.c] (.ret [3])))))))))))))
  el (Sx.refl w _) ExX.nil Tryz.func104 el el (Eq.mp el (λ(r1:Nat)=>let e3:Nat×List Value:=(r1,[vI (p 0),vI (p 1),vI (p 2),vI (p 3),vI (p 4),vI (p 5)]); λ(r5:Nat)=> λ(r8:Nat)=>let e10:Nat×List Value:=(r8,[vI (t 0),vI (t 1),vI (t 2)]); λ(r12:Nat)=>let e14:Nat×List Value:=(r12,[vI 0,vI 0,vI 0]); λ(r16:Nat)=>let rs18:Aw:=[(0,45,6),(1,2,1),(2,23,3),(3,23,3),(4,206,1)];aI (A_ r16) (aI trivial (let e20:Nat×List Value:=(r16,[.func (.func 158) #[] #[vP r1,vP r5]]);let bs19:AD:=[e3,(r5,[vI s]),e10,e14,e20];And.intro (λ(h21:c=true)=>aI (A_ r16) (aI trivial (let e23:Nat×List Value:=(r16,[.func (.func 160) #[] #[vP r8]]);let bs22:AD:=[e3,(r5,[vI s]),e10,e14,e23];aI (Eq.refl r16) (aI (cv B bs22 [] rs18 [] λW hS=>Q4 t r8 ht W (hS.cell 2 0 rfl rfl) (hS.cell 2 1 rfl rfl) (hS.cell 2 2 rfl rfl)) (aI (Dm r12) (aI trivial (let e25:Nat×List Value:=(r12,[vI (if Ab t then t 0 else 0),vI (if Ab t then t 1 else 0),vI (if Ab t then t 2 else 0)]);let bs24:AD:=[e3,(r5,[vI s]),e10,e25,e23];aI (A_ r12) ((show AO B R bs24 [] rs18 [] (.tuple #[.agg #[vI (if Ab t then t 0 else 0),vI (if Ab t then t 1 else 0),vI (if Ab t then t 2 else 0)],vI (if Ab t then 0 else 1)])from by
     have F:=Qc (p:=p) (t:=t) (s:=s) h21
     exactλW hS=>⟨by simp only[F.1,F.2],hS.bl⟩))))))))) (λ(h26:c=false)=>aI (Eq.refl r16) (aI (cv B bs19 [] rs18 [] λW hS=>Qo p s r1 r5 hp6 hs W (hg.below hS.bl) (hl.below hS.bl) (hS.cell 0 0 rfl rfl) (hS.cell 0 1 rfl rfl) (hS.cell 0 2 rfl rfl) (hS.cell 0 3 rfl rfl) (hS.cell 0 4 rfl rfl) (hS.cell 0 5 rfl rfl) (hS.cell 1 0 rfl rfl)) (aI (Dm r12) (aI trivial (let e28:Nat×List Value:=(r12,[vI (Bw p s 0),vI (Bw p s 1),vI (Bw p s 2)]);let bs27:AD:=[e3,(r5,[vI s]),e10,e28,e20];aI (A_ r12) ((show AO B R bs27 [] rs18 [] (.tuple #[.agg #[vI (Bw p s 0),vI (Bw p s 1),vI (Bw p s 2)],vI (Eo p s)])from by
     have F:=SR (p:=p) (t:=t) (s:=s) h26
     exactλW hS=>⟨by simp only[F.1,F.2],hS.bl⟩))))))))))))
end
end Go.Proofs.YtikajapjkdloaaaGreatDoor
