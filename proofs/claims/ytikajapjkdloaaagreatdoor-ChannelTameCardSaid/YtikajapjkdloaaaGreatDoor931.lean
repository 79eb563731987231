/- Walks of the layer 'wide', eighth part: quotients. -/
import Derived.Test.YtikajapjkdloaaaGreatDoor930
namespace Go.Proofs.YtikajapjkdloaaaGreatDoor
open Go.RowKit
section
attribute [local go_sem] CE CA CF CG B_ CB CD CC Be Bc Ba
def WH:Int:= -9223372036854775808
def LW:Int:= -170141183460469231731687303715884105728
theorem VW:AW LW=WH:=by decide
theorem Vk:AY LW=0:=by decide
theorem FI{a:Int}(ha:AS a):(AW a==WH&&AY a==0)=decide (a=LW):=MV ha
def GL(w:World):Prop:=w.cell? ⟨4,0,none⟩=some (.int .i64 WH)/\w.cell? ⟨4,1,none⟩=some (.int .u64 0)
theorem GL.below{w w':World}(h:GL w)(hb:Below w.heap.size w w'):GL w':=by
 have hlt:=World.block_lt_of_cell? w _ h.1
 exact⟨((Bz hb).1 _ _ hlt).trans h.1,((Bz hb).1 _ _ hlt).trans h.2⟩
set_option maxHeartbeats 1000000 in
theorem Id(a:Int)(w:World)(hg:GN w):
 Calls Tryz.prog 218 #[.agg #[.int .i64 (AW a),.int .u64 (AY a)],.int .i64 0] w λe w'=>e=.returned (.tuple #[.agg #[.int .i64 0,.int .u64 0],.int .u64 0,.int .i64 4])/\Below w.heap.size w w':=by
 have hlt:=World.block_lt_of_cell? w _ hg.1
 obtain⟨hlo,hlo',hlol⟩:=DS hlt
 obtain⟨g0,g1⟩:=hg
 go_enter Tryz.func218,Tryz.ntmps218
 go_wp2
 refine bodyPost_ret (v:=.tuple #[.agg #[.int .i64 0,.int .u64 0],.int .u64 0,.int .i64 4]) (by simp(maxDischargeDepth:=9) [results,Tryz.results218,go_sem, *]) rfl ⟨rfl,LC⟩
set_option maxRecDepth 100000 in
set_option maxHeartbeats 1000000 in
theorem HZ(w:World)(hg:GN w)(hl:GL w):
 Calls Tryz.prog 218 #[.agg #[.int .i64 (AW LW),.int .u64 (AY LW)],.int .i64 (-1)] w λe w'=>e=.returned (.tuple #[.agg #[.int .i64 0,.int .u64 0],.int .u64 0,.int .i64 3])/\Below w.heap.size w w':=by
 have hlt:=World.block_lt_of_cell? w _ hg.1
 obtain⟨hlo,hlo',hlol⟩:=DS hlt
 have hlt2:=World.block_lt_of_cell? w _ hl.1
 obtain⟨hlo2,hlo2',hlo2l⟩:=DS hlt2
 obtain⟨g0,g1⟩:=hg
 obtain⟨l0,l1⟩:=hl
 rw[VW,Vk]
 go_enter Tryz.func218,Tryz.ntmps218
 go_wp2
 refine bodyPost_ret (v:=.tuple #[.agg #[.int .i64 0,.int .u64 0],.int .u64 0,.int .i64 3]) (by simp(maxDischargeDepth:=9) [results,Tryz.results218,go_sem, *]) rfl ⟨rfl,LC⟩
set_option maxRecDepth 100000 in
set_option maxHeartbeats 2000000 in
theorem IZ(a b:Int)(ha:AS a)(hi:Ai b)(hb:b≠0)(hx: ¬(a=LW/\b= -1))(d:(decide (a<0)!=decide (b<0))=false)(w:World)(hg:GN w)(hl:GL w):
 Calls Tryz.prog 218 #[.agg #[.int .i64 (AW a),.int .u64 (AY a)],.int .i64 b] w λe w'=>e=.returned (.tuple #[.agg #[.int .i64 (AW (fl a b)),.int .u64 (AY (fl a b))],.int .u64 (rm a b),.int .i64 0])/\Below w.heap.size w w':=by
 have HG:=Asd.mk hg
 have hlt:=World.block_lt_of_cell? w _ hg.1
 obtain⟨hlo,hlo',hlol⟩:=DS hlt
 have hlt2:=World.block_lt_of_cell? w _ hl.1
 obtain⟨hlo2,hlo2',hlo2l⟩:=DS hlt2
 obtain⟨g0,g1⟩:=hg
 obtain⟨l0,l1⟩:=hl
 have hb0:(b==0)=false:=beq_eq_false_iff_ne.2 hb
 have hwords:=FI ha
 have hB1:(0:Int)<b.natAbs:=by omega
 have hB2:(b.natAbs:Int)<=9223372036854775808:=(Dv hi).2
 have HB1:=Asd.mk hB1
 have HB2:=Asd.mk hB2
 clear hB1 hB2
 have hone:Ai 1:=by unfold Ai;omega
 have dw:decide (AW a<0)=decide (a<0):=by simp only[F9]
 have HX:=Asd.mk hx
 have HW:=Asd.mk hwords
 clear hx hwords
 obtain⟨e1,e2⟩:=K4 hb d
 have QF:=Asd.mk (Di (MQ ha hb d HX.out))
 have E1:=Asd.mk e1
 have E2:=Asd.mk e2
 clear e1 e2
 cases d1:decide (a<0)
 all_goals cases d2:decide (b<0)
 all_goals rw[d1]at dw
 all_goals first
  |(exfalso;rw[d1,d2]at d;cases d;done)
  |skip
 all_goals clear d d1
 all_goals(
  go_enter Tryz.func218,Tryz.ntmps218
  go_upto_region 3 with fail
  go_cut [0,16] (λs0 s16 wc=>s16=.bool false/\Blk wc w.heap.size (AW a) (AY a)/\Blk wc (w.heap.size+1) 0 0/\GN wc/\Asd (Below w.heap.size w wc)/\w.heap.size+1<wc.heap.size)
  case first=>
   go_wp2_with fail
   all_goals go_meet
   all_goals refine⟨?_,by simp[Blk,go_sem, *],by simp[Blk,go_sem, *],HG.out.below LC,⟨LC⟩,by simp⟩
   all_goals first|rfl|(congr 1;rw[beq_eq_false_iff_ne];intro hb1;exact HX.out ⟨of_decide_eq_true (HW.out.symm.trans (by simp[*])),hb1⟩)
  case rest=>
   clear hlt hlt2 g0 g1 l0 l1
   obtain⟨rfl,⟨b0,b1,f0,f1⟩,⟨r0,r1,s0,s1⟩,HGc,HB,hz⟩:=hcut
   have hz0:w.heap.size<wc.heap.size:=by omega
   have HGC:=Asd.mk HGc
   clear HGc
   go_wp2
   go_region_held3 (λw'=>w'.cell? ⟨w.heap.size,0,none⟩=some (.int .i64 (AW a))/\w'.cell? ⟨w.heap.size,1,none⟩=some (.int .u64 (AY a))) (first|(simp[go_sem];done)|(simp[go_sem, *];done)|exact⟨b2,b3⟩)
    (first
     |(go_at_call 195;refine(Co b hi _).mono ?_;rintro e w' ⟨rfl,rfl⟩)
     |(go_at_call 219;refine(Gk a b.natAbs ha HB1.out HB2.out _ (by exact HGC.out)).mono ?_;rintro e w1 ⟨rfl,hb1⟩;obtain⟨b2,b3,f2,f3⟩:=Blk.below hb1 hz0 ⟨b0,b1,f0,f1⟩;obtain⟨r2,r3,s2,s3⟩:=Blk.below hb1 hz ⟨r0,r1,s0,s1⟩;have hz1:w.heap.size+1<w1.heap.size:=Nat.lt_of_lt_of_le hz hb1.size))
   go_wp2
   have HB':=HB.out
   refine bodyPost_ret (v:=.tuple #[.agg #[.int .i64 (AW (Aj (a.natAbs/b.natAbs))),.int .u64 (AY (Aj (a.natAbs/b.natAbs)))],.int .u64 (a.natAbs%b.natAbs),.int .i64 0]) (by simp(maxDischargeDepth:=9) [results,Tryz.results218,go_sem, *]) rfl ⟨by rw[E1.out,E2.out,QF.out],LC⟩)
end
section
attribute [local go_sem] CE CA CF CG B_ CB CD CC Be Bc Ba
theorem Ma(q:Int):Aj (Aj (-Aj q)-1)=Aj (-q-1):=by unfold Aj;omega
set_option maxRecDepth 100000 in
set_option maxHeartbeats 8000000 in
theorem It(a b:Int)(ha:AS a)(hi:Ai b)(hb:b≠0)(hx: ¬(a=LW/\b= -1))(d:(decide (a<0)!=decide (b<0))=true)(hr:0<(a.natAbs:Int)%b.natAbs)(w:World)(hg:GN w)(hl:GL w):
 Calls Tryz.prog 218 #[.agg #[.int .i64 (AW a),.int .u64 (AY a)],.int .i64 b] w λe w'=>e=.returned (.tuple #[.agg #[.int .i64 (AW (fl a b)),.int .u64 (AY (fl a b))],.int .u64 (rm a b),.int .i64 0])/\Below w.heap.size w w':=by
 have HG:=Asd.mk hg
 have hlt:=World.block_lt_of_cell? w _ hg.1
 obtain⟨hlo,hlo',hlol⟩:=DS hlt
 have hlt2:=World.block_lt_of_cell? w _ hl.1
 obtain⟨hlo2,hlo2',hlo2l⟩:=DS hlt2
 obtain⟨g0,g1⟩:=hg
 obtain⟨l0,l1⟩:=hl
 have hb0:(b==0)=false:=beq_eq_false_iff_ne.2 hb
 have hwords:=FI ha
 have hB1:(0:Int)<b.natAbs:=by omega
 have hB2:(b.natAbs:Int)<=9223372036854775808:=(Dv hi).2
 have HB1:=Asd.mk hB1
 have HB2:=Asd.mk hB2
 clear hB1 hB2
 have hone:Ai 1:=by unfold Ai;omega
 have dw:decide (AW a<0)=decide (a<0):=by simp only[F9]
 have HX:=Asd.mk hx
 have HW:=Asd.mk hwords
 clear hx hwords
 obtain⟨e1,e2⟩:=G9 hb d
 have RB:=Asd.mk (Nx (a:=a) hb)
 rw[if_pos hr]at e1 e2
 have WZ:=Asd.mk (Di (GJ ha hb d hr))
 have ZZ:Asd (Aj (Aj (-Aj ((a.natAbs:Int)/b.natAbs))-1)= -((a.natAbs:Int)/b.natAbs)-1):=⟨by rw[Ma];exact WZ.out⟩
 have WR:Asd (IntKind.u64.wrap ((b.natAbs:Int)-(a.natAbs:Int)%b.natAbs)=(b.natAbs:Int)-(a.natAbs:Int)%b.natAbs):=⟨by have:=RB.out;have:=HB2.out;rw[IntKind.wrap_u64];omega⟩
 have E1:=Asd.mk e1
 have E2:=Asd.mk e2
 clear e1 e2
 cases d1:decide (a<0)
 all_goals cases d2:decide (b<0)
 all_goals rw[d1]at dw
 all_goals first
  |(exfalso;rw[d1,d2]at d;cases d;done)
  |skip
 all_goals clear d d1
 all_goals(
  go_enter Tryz.func218,Tryz.ntmps218
  go_upto_region 3 with fail
  go_cut [0,16] (λs0 s16 wc=>s16=.bool false/\Blk wc w.heap.size (AW a) (AY a)/\Blk wc (w.heap.size+1) 0 0/\GN wc/\Asd (Below w.heap.size w wc)/\w.heap.size+1<wc.heap.size)
  case first=>
   go_wp2_with fail
   all_goals go_meet
   all_goals refine⟨?_,by simp[Blk,go_sem, *],by simp[Blk,go_sem, *],HG.out.below LC,⟨LC⟩,by simp⟩
   all_goals first|rfl|(congr 1;rw[beq_eq_false_iff_ne];intro hb1;exact HX.out ⟨of_decide_eq_true (HW.out.symm.trans (by simp[*])),hb1⟩)
  case rest=>
   clear hlt hlt2 g0 g1 l0 l1
   obtain⟨rfl,⟨b0,b1,f0,f1⟩,⟨r0,r1,s0,s1⟩,HGc,HB,hz⟩:=hcut
   have hz0:w.heap.size<wc.heap.size:=by omega
   have HGC:=Asd.mk HGc
   clear HGc
   go_wp2
   go_region_held3 (λw'=>w'.cell? ⟨w.heap.size,0,none⟩=some (.int .i64 (AW a))/\w'.cell? ⟨w.heap.size,1,none⟩=some (.int .u64 (AY a))) (first|(simp[go_sem];done)|(simp[go_sem, *];done)|exact⟨b2,b3⟩)
    (first
     |(go_at_call 195;refine(Co b hi _).mono ?_;rintro e w' ⟨rfl,rfl⟩)
     |(go_at_call 219;refine(Gk a b.natAbs ha HB1.out HB2.out _ (by exact HGC.out)).mono ?_;rintro e w1 ⟨rfl,hb1⟩;obtain⟨b2,b3,f2,f3⟩:=Blk.below hb1 hz0 ⟨b0,b1,f0,f1⟩;obtain⟨r2,r3,s2,s3⟩:=Blk.below hb1 hz ⟨r0,r1,s0,s1⟩;have hz1:w.heap.size+1<w1.heap.size:=Nat.lt_of_lt_of_le hz hb1.size))
   have HG1:=(GN.below (by exact HGC.out) hb1)
   have hlt1:=World.block_lt_of_cell? w1 _ HG1.1
   obtain⟨hlo1,hlo1',hlo1l⟩:=DS hlt1
   obtain⟨g0,g1⟩:=HG1
   go_wp2_with (go_at_call 196;refine(I9 (Aj (a.natAbs/b.natAbs)) _).mono ?_;rintro e w2 ⟨rfl,hb2⟩;obtain⟨b4,b5,f4,f5⟩:Blk w2 w.heap.size (AW a) (AY a):=Blk.below hb2 (by simp;omega) (by simp[Blk,go_sem, *]);obtain⟨r4,r5,s4,s5⟩:Blk w2 (w.heap.size+1) (AW (Aj (a.natAbs/b.natAbs))) (AY (Aj (a.natAbs/b.natAbs))):=Blk.below hb2 (by simp;omega) (by simp[Blk,go_sem, *]);have hz2:w.heap.size+1<w2.heap.size:=Nat.lt_of_lt_of_le (by simp;omega) hb2.size)
   go_region_with (first
    |(go_at_call 195;refine(Co b hi _).mono ?_;rintro e w' ⟨rfl,rfl⟩)
    |(go_at_call 109;refine(Cg 1 hone _).mono ?_;rintro e w3 ⟨rfl,hb3⟩;obtain⟨r6,r7,s6,s7⟩:Blk w3 (w.heap.size+1) (AW (Aj (-Aj (a.natAbs/b.natAbs)))) (AY (Aj (-Aj (a.natAbs/b.natAbs)))):=Blk.below hb3 (by simp;omega) (by simp[Blk,go_sem, *]);have hz3:w.heap.size+1<w3.heap.size:=Nat.lt_of_lt_of_le (by simp;omega) hb3.size)
    |(go_at_call 196;refine(H7 _ 1 _).mono ?_;rintro e w4 ⟨rfl,hb4⟩;obtain⟨r8,r9,s8,s9⟩:=Blk.below hb4 hz3 ⟨r6,r7,s6,s7⟩;have hz4:w.heap.size+1<w4.heap.size:=Nat.lt_of_lt_of_le hz3 hb4.size))
   all_goals go_wp2
   all_goals have HB':=HB.out
   all_goals refine bodyPost_ret (v:=.tuple #[.agg #[.int .i64 (AW (Aj (Aj (-Aj ((a.natAbs:Int)/b.natAbs))-1))),.int .u64 (AY (Aj (Aj (-Aj ((a.natAbs:Int)/b.natAbs))-1)))],.int .u64 (IntKind.u64.wrap ((b.natAbs:Int)-(a.natAbs:Int)%b.natAbs)),.int .i64 0]) (by simp(maxDischargeDepth:=9) [results,Tryz.results218,go_sem, *]) rfl ⟨by rw[ZZ.out,WR.out,E1.out,E2.out],LC⟩)
set_option maxRecDepth 100000 in
set_option maxHeartbeats 8000000 in
theorem Ia(a b:Int)(ha:AS a)(hi:Ai b)(hb:b≠0)(hx: ¬(a=LW/\b= -1))(d:(decide (a<0)!=decide (b<0))=true)(hr: ¬0<(a.natAbs:Int)%b.natAbs)(w:World)(hg:GN w)(hl:GL w):
 Calls Tryz.prog 218 #[.agg #[.int .i64 (AW a),.int .u64 (AY a)],.int .i64 b] w λe w'=>e=.returned (.tuple #[.agg #[.int .i64 (AW (fl a b)),.int .u64 (AY (fl a b))],.int .u64 (rm a b),.int .i64 0])/\Below w.heap.size w w':=by
 have HG:=Asd.mk hg
 have hlt:=World.block_lt_of_cell? w _ hg.1
 obtain⟨hlo,hlo',hlol⟩:=DS hlt
 have hlt2:=World.block_lt_of_cell? w _ hl.1
 obtain⟨hlo2,hlo2',hlo2l⟩:=DS hlt2
 obtain⟨g0,g1⟩:=hg
 obtain⟨l0,l1⟩:=hl
 have hb0:(b==0)=false:=beq_eq_false_iff_ne.2 hb
 have hwords:=FI ha
 have hB1:(0:Int)<b.natAbs:=by omega
 have hB2:(b.natAbs:Int)<=9223372036854775808:=(Dv hi).2
 have HB1:=Asd.mk hB1
 have HB2:=Asd.mk hB2
 clear hB1 hB2
 have hone:Ai 1:=by unfold Ai;omega
 have dw:decide (AW a<0)=decide (a<0):=by simp only[F9]
 have HX:=Asd.mk hx
 have HW:=Asd.mk hwords
 clear hx hwords
 obtain⟨e1,e2⟩:=G9 hb d
 rw[if_neg hr]at e1 e2
 have WZ:=Asd.mk (Di (M_ ha hb))
 have ZZ:Asd (Aj (-Aj ((a.natAbs:Int)/b.natAbs))= -((a.natAbs:Int)/b.natAbs)):=⟨by rw[<-Int.zero_sub,NQ,Int.zero_sub];exact WZ.out⟩
 have E1:=Asd.mk e1
 have E2:=Asd.mk e2
 clear e1 e2
 cases d1:decide (a<0)
 all_goals cases d2:decide (b<0)
 all_goals rw[d1]at dw
 all_goals first
  |(exfalso;rw[d1,d2]at d;cases d;done)
  |skip
 all_goals clear d d1
 all_goals(
  go_enter Tryz.func218,Tryz.ntmps218
  go_upto_region 3 with fail
  go_cut [0,16] (λs0 s16 wc=>s16=.bool false/\Blk wc w.heap.size (AW a) (AY a)/\Blk wc (w.heap.size+1) 0 0/\GN wc/\Asd (Below w.heap.size w wc)/\w.heap.size+1<wc.heap.size)
  case first=>
   go_wp2_with fail
   all_goals go_meet
   all_goals refine⟨?_,by simp[Blk,go_sem, *],by simp[Blk,go_sem, *],HG.out.below LC,⟨LC⟩,by simp⟩
   all_goals first|rfl|(congr 1;rw[beq_eq_false_iff_ne];intro hb1;exact HX.out ⟨of_decide_eq_true (HW.out.symm.trans (by simp[*])),hb1⟩)
  case rest=>
   clear hlt hlt2 g0 g1 l0 l1
   obtain⟨rfl,⟨b0,b1,f0,f1⟩,⟨r0,r1,s0,s1⟩,HGc,HB,hz⟩:=hcut
   have hz0:w.heap.size<wc.heap.size:=by omega
   have HGC:=Asd.mk HGc
   clear HGc
   go_wp2
   go_region_held3 (λw'=>w'.cell? ⟨w.heap.size,0,none⟩=some (.int .i64 (AW a))/\w'.cell? ⟨w.heap.size,1,none⟩=some (.int .u64 (AY a))) (first|(simp[go_sem];done)|(simp[go_sem, *];done)|exact⟨b2,b3⟩)
    (first
     |(go_at_call 195;refine(Co b hi _).mono ?_;rintro e w' ⟨rfl,rfl⟩)
     |(go_at_call 219;refine(Gk a b.natAbs ha HB1.out HB2.out _ (by exact HGC.out)).mono ?_;rintro e w1 ⟨rfl,hb1⟩;obtain⟨b2,b3,f2,f3⟩:=Blk.below hb1 hz0 ⟨b0,b1,f0,f1⟩;obtain⟨r2,r3,s2,s3⟩:=Blk.below hb1 hz ⟨r0,r1,s0,s1⟩;have hz1:w.heap.size+1<w1.heap.size:=Nat.lt_of_lt_of_le hz hb1.size))
   have HG1:=(GN.below (by exact HGC.out) hb1)
   have hlt1:=World.block_lt_of_cell? w1 _ HG1.1
   obtain⟨hlo1,hlo1',hlo1l⟩:=DS hlt1
   obtain⟨g0,g1⟩:=HG1
   go_wp2_with (go_at_call 196;refine(I9 (Aj (a.natAbs/b.natAbs)) _).mono ?_;rintro e w2 ⟨rfl,hb2⟩;obtain⟨b4,b5,f4,f5⟩:Blk w2 w.heap.size (AW a) (AY a):=Blk.below hb2 (by simp;omega) (by simp[Blk,go_sem, *]);obtain⟨r4,r5,s4,s5⟩:Blk w2 (w.heap.size+1) (AW (Aj (a.natAbs/b.natAbs))) (AY (Aj (a.natAbs/b.natAbs))):=Blk.below hb2 (by simp;omega) (by simp[Blk,go_sem, *]);have hz2:w.heap.size+1<w2.heap.size:=Nat.lt_of_lt_of_le (by simp;omega) hb2.size)
   have HB':=HB.out
   refine bodyPost_ret (v:=.tuple #[.agg #[.int .i64 (AW (Aj (-Aj ((a.natAbs:Int)/b.natAbs)))),.int .u64 (AY (Aj (-Aj ((a.natAbs:Int)/b.natAbs))))],.int .u64 ((a.natAbs:Int)%b.natAbs),.int .i64 0]) (by simp(maxDischargeDepth:=9) [results,Tryz.results218,go_sem, *]) rfl ⟨by rw[ZZ.out,E1.out,E2.out],LC⟩)
theorem EZ(a b:Int)(ha:AS a)(hi:Ai b)(hb:b≠0)(hx: ¬(a=LW/\b= -1))(w:World)(hg:GN w)(hl:GL w):
 Calls Tryz.prog 218 #[.agg #[.int .i64 (AW a),.int .u64 (AY a)],.int .i64 b] w λe w'=>e=.returned (.tuple #[.agg #[.int .i64 (AW (fl a b)),.int .u64 (AY (fl a b))],.int .u64 (rm a b),.int .i64 0])/\Below w.heap.size w w':=by
 cases d:(decide (a<0)!=decide (b<0))
 ·exact IZ a b ha hi hb hx d w hg hl
 by_cases hr:0<(a.natAbs:Int)%b.natAbs
 ·exact It a b ha hi hb hx d hr w hg hl
 exact Ia a b ha hi hb hx d hr w hg hl
end
section
attribute [local go_sem] CE CA CF CG B_ CB CD CC Be Bc Ba
def Ht(q a b:Int):Int:=if b=0 then 0 else if a=LW/\b= -1 then 0 else q
def JH(a b:Int):Int:=if b=0 then 4 else if a=LW/\b= -1 then 3 else 0
theorem PG(a b:Int)(ha:AS a)(hi:Ai b)(w:World)(hg:GN w)(hl:GL w):
 Calls Tryz.prog 218 #[.agg #[.int .i64 (AW a),.int .u64 (AY a)],.int .i64 b] w λe w'=>e=.returned (.tuple #[.agg #[.int .i64 (AW (Ht (fl a b) a b)),.int .u64 (AY (Ht (fl a b) a b))],.int .u64 (Ht (rm a b) a b),.int .i64 (JH a b)])/\Below w.heap.size w w':=by
 unfold Ht JH
 by_cases hb:b=0
 ·subst hb
  simp only[if_true,R6,Ry]
  exact Id a w hg
 simp only[if_neg hb]
 by_cases hx:a=LW/\b= -1
 ·simp only[if_pos hx,R6,Ry]
  obtain⟨rfl,rfl⟩:=hx
  exact HZ w hg hl
 simp only[if_neg hx]
 exact EZ a b ha hi hb hx w hg hl
theorem Vj{a b:Int}(ha:AS a)(hb:b≠0)(h:0<rm a b):fl a b<=85070591730234615865843651857942052864:=by
 have k:=Lv ha hb
 have hr:=Nx (a:=a) hb
 have e:=Int.mul_ediv_add_emod (a.natAbs:Int) b.natAbs
 have hB:(b.natAbs:Int)≠1:=by
  intro e1
  have:=Qs (a:=a) hb
  omega
 have hb2:(2:Int)<=b.natAbs:=by omega
 have:=Int.mul_le_mul_of_nonneg_right hb2 k.1
 cases d:(decide (a<0)!=decide (b<0))
 ·rw[(K4 hb d).1];unfold AS at ha;omega
 rw[(G9 hb d).1];split<;>omega
theorem S8{a b:Int}(ha:AS a)(hb:b≠0)(hx: ¬(a=LW/\b= -1)):AS (ev a b):=by
 have h:=TO ha hb hx
 rw[Ql]
 split
 ·have k:=Vj ha hb (by have:=Qs (a:=a) hb;omega)
  unfold AS at*;omega
 exact h
theorem UH{a b:Int}(h:2*rm a b>(b.natAbs:Int)∨2*rm a b=(b.natAbs:Int)/\fl a b%2=1):ev a b=fl a b+1:=by rw[Ql,if_pos h]
theorem Ob{a b:Int}(h: ¬(2*rm a b>(b.natAbs:Int)∨2*rm a b=(b.natAbs:Int)/\fl a b%2=1)):ev a b=fl a b:=by rw[Ql,if_neg h]
set_option maxRecDepth 100000 in
set_option maxHeartbeats 4000000 in
theorem K3(a b:Int)(ha:AS a)(hi:Ai b)(h:b=0∨a=LW/\b= -1)(w:World)(hg:GN w)(hl:GL w):
 Calls Tryz.prog 217 #[.agg #[.int .i64 (AW a),.int .u64 (AY a)],.int .i64 b] w λe w'=>e=.returned (.tuple #[.agg #[.int .i64 0,.int .u64 0],.int .i64 (JH a b)])/\Below w.heap.size w w':=by
 have HG:=Asd.mk hg
 have HL:=Asd.mk hl
 have hlt:=World.block_lt_of_cell? w _ hg.1
 obtain⟨hlo,hlo',hlol⟩:=DS hlt
 obtain⟨g0,g1⟩:=hg
 clear hl
 have hq:(JH a b !=0)=true:=by
  rcases h with rfl|⟨rfl,rfl⟩
  ·rfl
  rfl
 clear h
 go_enter Tryz.func217,Tryz.ntmps217
 go_wp2_with (go_at_call 218;refine(PG a b ha hi _ (by exact HG.out.below LC) (by exact HL.out.below LC)).mono ?_;rintro e w1 ⟨rfl,hb1⟩;obtain⟨hc1,hf1⟩:=Bz hb1;have hz1_0:w.heap.size<w1.heap.size:=Nat.lt_of_lt_of_le ZB hb1.size;have hz1_1:w.heap.size+1<w1.heap.size:=Nat.lt_of_lt_of_le ZB hb1.size;have hg11:1<w1.heap.size:=Nat.lt_of_lt_of_le ZB hb1.size)
 refine bodyPost_ret (v:=.tuple #[.agg #[.int .i64 0,.int .u64 0],.int .i64 (JH a b)]) (by simp(maxDischargeDepth:=9) [results,Tryz.results217,go_sem, *]) rfl ⟨rfl,LC⟩
set_option maxRecDepth 100000 in
set_option maxHeartbeats 8000000 in
theorem Kt(a b:Int)(ha:AS a)(hi:Ai b)(hb:b≠0)(hx: ¬(a=LW/\b= -1))(w:World)(hg:GN w)(hl:GL w):
 Calls Tryz.prog 217 #[.agg #[.int .i64 (AW a),.int .u64 (AY a)],.int .i64 b] w λe w'=>e=.returned (.tuple #[.agg #[.int .i64 (AW (ev a b)),.int .u64 (AY (ev a b))],.int .i64 0])/\Below w.heap.size w w':=by
 have HG:=Asd.mk hg
 have HL:=Asd.mk hl
 have HX:=Asd.mk hx
 have hone:Ai 1:=by unfold Ai;omega
 have HW:=S8 ha hb hx
 have hr:=Qs (a:=a) hb
 have hs:=Dv hi
 have ha1:bits .and .u64 (AY (fl a b)) 1=fl a b%2:=(La _ (Df _).1 (Df _).2).trans (by unfold AY;omega)
 have eL:IntKind.u64.wrap ((b.natAbs:Int)-rm a b)=(b.natAbs:Int)-rm a b:=by rw[IntKind.wrap_u64];omega
 have HH:=Asd.mk (And.intro hr hs)
 clear hg hl hx hr hs
 by_cases c1:(b.natAbs:Int)-rm a b<rm a b
 ·have HE:=UH (a:=a) (b:=b) (.inl (by omega))
  rw[HE]at HW⊢
  have WE:=Asd.mk (Di HW)
  clear HE HW
  go_enter Tryz.func217,Tryz.ntmps217
  go_wp2_with (first
   |(go_at_call 218;refine(EZ a b ha hi hb HX.out _ (by exact HG.out.below LC) (by exact HL.out.below LC)).mono ?_;rintro e w1 ⟨rfl,hb1⟩;obtain⟨hc1,hf1⟩:=Bz hb1;have hz1_0:w.heap.size<w1.heap.size:=Nat.lt_of_lt_of_le ZB hb1.size;have hz1_1:w.heap.size+1<w1.heap.size:=Nat.lt_of_lt_of_le ZB hb1.size)
   |(go_at_call 195;refine(Co b hi _).mono ?_;rintro e w' ⟨rfl,rfl⟩))
  go_region_held3 (λw'=>w'.cell? ⟨w1.heap.size,0,none⟩=some (.int .i64 (AW (fl a b)))/\w'.cell? ⟨w1.heap.size,1,none⟩=some (.int .u64 (AY (fl a b)))) (first|(simp[go_sem];done)|exact⟨b4,b5⟩|exact⟨b2,b3⟩|(simp[go_sem, *];done))
   (first
    |(go_at_call 109;refine(Cg 1 hone _).mono ?_;rintro e w2 ⟨rfl,hb2⟩;obtain⟨b2,b3,f2,f3⟩:Blk w2 w1.heap.size (AW (fl a b)) (AY (fl a b)):=Blk.below hb2 (by simp) (by simp[Blk,go_sem, *]);obtain⟨r2,r3,s2,s3⟩:Blk w2 (w.heap.size+1) 0 0:=Blk.below hb2 (by simp;omega) (by simp[Blk,go_sem, *]);have hz2:w1.heap.size<w2.heap.size:=Nat.lt_of_lt_of_le (by simp) hb2.size)
    |(go_at_call 170;refine(DU (fl a b) 1 _).mono ?_;rintro e w3 ⟨rfl,hb3⟩;obtain⟨b4,b5,f4,f5⟩:=Blk.below hb3 hz2 ⟨b2,b3,f2,f3⟩;obtain⟨r4,r5,s4,s5⟩:=Blk.below hb3 (Nat.lt_trans hz1_1 hz2) ⟨r2,r3,s2,s3⟩;have hz3:w1.heap.size<w3.heap.size:=Nat.lt_of_lt_of_le hz2 hb3.size))
  go_wp2
  refine bodyPost_ret (v:=.tuple #[.agg #[.int .i64 (AW (Aj (fl a b+1))),.int .u64 (AY (Aj (fl a b+1)))],.int .i64 0]) (by simp(maxDischargeDepth:=9) [results,Tryz.results217,go_sem, *]) rfl ⟨by rw[WE.out],LC⟩
 by_cases c2:rm a b=(b.natAbs:Int)-rm a b
 ·by_cases c3:fl a b%2=1
  ·have HE:=UH (a:=a) (b:=b) (.inr ⟨by omega,c3⟩)
   have q2:(rm a b==(b.natAbs:Int)-rm a b)=true:=beq_iff_eq.2 c2
   have C2:=Asd.mk c2
   clear c2
   rw[HE]at HW⊢
   have WE:=Asd.mk (Di HW)
   clear HE HW
   go_enter Tryz.func217,Tryz.ntmps217
   go_wp2_with (first
    |(go_at_call 218;refine(EZ a b ha hi hb HX.out _ (by exact HG.out.below LC) (by exact HL.out.below LC)).mono ?_;rintro e w1 ⟨rfl,hb1⟩;obtain⟨hc1,hf1⟩:=Bz hb1;have hz1_0:w.heap.size<w1.heap.size:=Nat.lt_of_lt_of_le ZB hb1.size;have hz1_1:w.heap.size+1<w1.heap.size:=Nat.lt_of_lt_of_le ZB hb1.size)
    |(go_at_call 195;refine(Co b hi _).mono ?_;rintro e w' ⟨rfl,rfl⟩))
   go_region_held3 (λw'=>w'.cell? ⟨w1.heap.size,0,none⟩=some (.int .i64 (AW (fl a b)))/\w'.cell? ⟨w1.heap.size,1,none⟩=some (.int .u64 (AY (fl a b)))) (first|(simp[go_sem];done)|exact⟨b4,b5⟩|exact⟨b2,b3⟩|(simp[go_sem, *];done))
    (first
     |(go_at_call 109;refine(Cg 1 hone _).mono ?_;rintro e w2 ⟨rfl,hb2⟩;obtain⟨b2,b3,f2,f3⟩:Blk w2 w1.heap.size (AW (fl a b)) (AY (fl a b)):=Blk.below hb2 (by simp) (by simp[Blk,go_sem, *]);obtain⟨r2,r3,s2,s3⟩:Blk w2 (w.heap.size+1) 0 0:=Blk.below hb2 (by simp;omega) (by simp[Blk,go_sem, *]);have hz2:w1.heap.size<w2.heap.size:=Nat.lt_of_lt_of_le (by simp) hb2.size)
     |(go_at_call 170;refine(DU (fl a b) 1 _).mono ?_;rintro e w3 ⟨rfl,hb3⟩;obtain⟨b4,b5,f4,f5⟩:=Blk.below hb3 hz2 ⟨b2,b3,f2,f3⟩;obtain⟨r4,r5,s4,s5⟩:=Blk.below hb3 (Nat.lt_trans hz1_1 hz2) ⟨r2,r3,s2,s3⟩;have hz3:w1.heap.size<w3.heap.size:=Nat.lt_of_lt_of_le hz2 hb3.size))
   go_wp2
   refine bodyPost_ret (v:=.tuple #[.agg #[.int .i64 (AW (Aj (fl a b+1))),.int .u64 (AY (Aj (fl a b+1)))],.int .i64 0]) (by simp(maxDischargeDepth:=9) [results,Tryz.results217,go_sem, *]) rfl ⟨by rw[WE.out],LC⟩
  have HE:=Ob (a:=a) (b:=b) (by omega)
  have q2:(rm a b==(b.natAbs:Int)-rm a b)=true:=beq_iff_eq.2 c2
  have c4:fl a b%2=0:=by omega
  have C2:=Asd.mk c2
  clear c2
  rw[HE]at HW⊢
  clear HE HW
  go_enter Tryz.func217,Tryz.ntmps217
  go_wp2_with (first
   |(go_at_call 218;refine(EZ a b ha hi hb HX.out _ (by exact HG.out.below LC) (by exact HL.out.below LC)).mono ?_;rintro e w1 ⟨rfl,hb1⟩;obtain⟨hc1,hf1⟩:=Bz hb1;have hz1_0:w.heap.size<w1.heap.size:=Nat.lt_of_lt_of_le ZB hb1.size;have hz1_1:w.heap.size+1<w1.heap.size:=Nat.lt_of_lt_of_le ZB hb1.size)
   |(go_at_call 195;refine(Co b hi _).mono ?_;rintro e w' ⟨rfl,rfl⟩))
  refine bodyPost_ret (v:=.tuple #[.agg #[.int .i64 (AW (fl a b)),.int .u64 (AY (fl a b))],.int .i64 0]) (by simp(maxDischargeDepth:=9) [results,Tryz.results217,go_sem, *]) rfl ⟨rfl,LC⟩
 have HE:=Ob (a:=a) (b:=b) (by omega)
 have q2:(rm a b==(b.natAbs:Int)-rm a b)=false:=beq_eq_false_iff_ne.2 c2
 have C2:=Asd.mk c2
 clear c2
 rw[HE]at HW⊢
 clear HE HW
 go_enter Tryz.func217,Tryz.ntmps217
 go_wp2_with (first
  |(go_at_call 218;refine(EZ a b ha hi hb HX.out _ (by exact HG.out.below LC) (by exact HL.out.below LC)).mono ?_;rintro e w1 ⟨rfl,hb1⟩;obtain⟨hc1,hf1⟩:=Bz hb1;have hz1_0:w.heap.size<w1.heap.size:=Nat.lt_of_lt_of_le ZB hb1.size;have hz1_1:w.heap.size+1<w1.heap.size:=Nat.lt_of_lt_of_le ZB hb1.size)
  |(go_at_call 195;refine(Co b hi _).mono ?_;rintro e w' ⟨rfl,rfl⟩))
 refine bodyPost_ret (v:=.tuple #[.agg #[.int .i64 (AW (fl a b)),.int .u64 (AY (fl a b))],.int .i64 0]) (by simp(maxDischargeDepth:=9) [results,Tryz.results217,go_sem, *]) rfl ⟨rfl,LC⟩
theorem KZ(a b:Int)(ha:AS a)(hi:Ai b)(w:World)(hg:GN w)(hl:GL w):
 Calls Tryz.prog 217 #[.agg #[.int .i64 (AW a),.int .u64 (AY a)],.int .i64 b] w λe w'=>e=.returned (.tuple #[.agg #[.int .i64 (AW (Ht (ev a b) a b)),.int .u64 (AY (Ht (ev a b) a b))],.int .i64 (JH a b)])/\Below w.heap.size w w':=by
 by_cases h:b=0∨a=LW/\b= -1
 ·have e:Ht (ev a b) a b=0:=by
   unfold Ht
   by_cases hb:b=0
   ·rw[if_pos hb]
   rw[if_neg hb,if_pos (h.resolve_left hb)]
  rw[e,R6,Ry]
  exact K3 a b ha hi h w hg hl
 have hb:b≠0:= λk=>h (.inl k)
 have hx: ¬(a=LW/\b= -1):= λk=>h (.inr k)
 have e:Ht (ev a b) a b=ev a b/\JH a b=0:=by simp[Ht,JH,hb,hx]
 rw[e.1,e.2]
 exact Kt a b ha hi hb hx w hg hl
end
end Go.Proofs.YtikajapjkdloaaaGreatDoor
