/- Walks of layer 5 (sym): where entries stand; entries, rows, the diagonal. -/
import Derived.Test.YtikajapjkdloaaaGreatDoor900
import Derived.WalkMore
namespace Go.Proofs.YtikajapjkdloaaaGreatDoor
set_option linter.unusedVariables false
set_option linter.unusedSimpArgs false
section
open Go.RowKit
attribute [local go_sem] CE CA CF CG B_ CB CD CC Be Bc Ba
def GP(w:World):Prop:=w.cell? ⟨2,0,none⟩=some (.int .i64 0)/\w.cell? ⟨2,1,none⟩=some (.int .i64 1)/\w.cell? ⟨2,2,none⟩=some (.int .i64 2)/\w.cell? ⟨2,3,none⟩=some (.int .i64 1)/\w.cell? ⟨2,4,none⟩=some (.int .i64 3)/\w.cell? ⟨2,5,none⟩=some (.int .i64 4)/\w.cell? ⟨2,6,none⟩=some (.int .i64 2)/\w.cell? ⟨2,7,none⟩=some (.int .i64 4)/\w.cell? ⟨2,8,none⟩=some (.int .i64 5)
theorem GP.below{w w':World}(h:GP w)(hb:Below w.heap.size w w'):GP w':=by
 have hlt:=World.block_lt_of_cell? w _ h.1
 obtain⟨h0,h1,h2,h3,h4,h5,h6,h7,h8⟩:=h
 exact⟨((Bz hb).1 _ _ hlt).trans h0,((Bz hb).1 _ _ hlt).trans h1,((Bz hb).1 _ _ hlt).trans h2,((Bz hb).1 _ _ hlt).trans h3,((Bz hb).1 _ _ hlt).trans h4,((Bz hb).1 _ _ hlt).trans h5,((Bz hb).1 _ _ hlt).trans h6,((Bz hb).1 _ _ hlt).trans h7,((Bz hb).1 _ _ hlt).trans h8⟩
set_option maxHeartbeats 400000 in
theorem Mt(w:World)(hg:GP w):Calls Tryz.prog 173 #[.int .i64 0,.int .i64 0] w λe w'=>e=.returned (.tuple #[.int .i64 0,.int .i64 0])/\w=w':=by
 unfold GP at hg
 go_enter Tryz.func173,Tryz.ntmps173
 go_wp2
 go_ret2
 exact⟨rfl,rfl⟩
set_option maxHeartbeats 400000 in
theorem L7(w:World)(hg:GP w):Calls Tryz.prog 173 #[.int .i64 0,.int .i64 1] w λe w'=>e=.returned (.tuple #[.int .i64 1,.int .i64 0])/\w=w':=by
 unfold GP at hg
 go_enter Tryz.func173,Tryz.ntmps173
 go_wp2
 go_ret2
 exact⟨rfl,rfl⟩
set_option maxHeartbeats 400000 in
theorem Mg(w:World)(hg:GP w):Calls Tryz.prog 173 #[.int .i64 0,.int .i64 2] w λe w'=>e=.returned (.tuple #[.int .i64 2,.int .i64 0])/\w=w':=by
 unfold GP at hg
 go_enter Tryz.func173,Tryz.ntmps173
 go_wp2
 go_ret2
 exact⟨rfl,rfl⟩
set_option maxHeartbeats 400000 in
theorem MS(w:World)(hg:GP w):Calls Tryz.prog 173 #[.int .i64 1,.int .i64 0] w λe w'=>e=.returned (.tuple #[.int .i64 1,.int .i64 0])/\w=w':=by
 unfold GP at hg
 go_enter Tryz.func173,Tryz.ntmps173
 go_wp2
 go_ret2
 exact⟨rfl,rfl⟩
set_option maxHeartbeats 400000 in
theorem L6(w:World)(hg:GP w):Calls Tryz.prog 173 #[.int .i64 1,.int .i64 1] w λe w'=>e=.returned (.tuple #[.int .i64 3,.int .i64 0])/\w=w':=by
 unfold GP at hg
 go_enter Tryz.func173,Tryz.ntmps173
 go_wp2
 go_ret2
 exact⟨rfl,rfl⟩
set_option maxHeartbeats 400000 in
theorem Mi(w:World)(hg:GP w):Calls Tryz.prog 173 #[.int .i64 1,.int .i64 2] w λe w'=>e=.returned (.tuple #[.int .i64 4,.int .i64 0])/\w=w':=by
 unfold GP at hg
 go_enter Tryz.func173,Tryz.ntmps173
 go_wp2
 go_ret2
 exact⟨rfl,rfl⟩
set_option maxHeartbeats 400000 in
theorem MH(w:World)(hg:GP w):Calls Tryz.prog 173 #[.int .i64 2,.int .i64 0] w λe w'=>e=.returned (.tuple #[.int .i64 2,.int .i64 0])/\w=w':=by
 unfold GP at hg
 go_enter Tryz.func173,Tryz.ntmps173
 go_wp2
 go_ret2
 exact⟨rfl,rfl⟩
set_option maxHeartbeats 400000 in
theorem Me(w:World)(hg:GP w):Calls Tryz.prog 173 #[.int .i64 2,.int .i64 1] w λe w'=>e=.returned (.tuple #[.int .i64 4,.int .i64 0])/\w=w':=by
 unfold GP at hg
 go_enter Tryz.func173,Tryz.ntmps173
 go_wp2
 go_ret2
 exact⟨rfl,rfl⟩
set_option maxHeartbeats 400000 in
theorem MA(w:World)(hg:GP w):Calls Tryz.prog 173 #[.int .i64 2,.int .i64 2] w λe w'=>e=.returned (.tuple #[.int .i64 5,.int .i64 0])/\w=w':=by
 unfold GP at hg
 go_enter Tryz.func173,Tryz.ntmps173
 go_wp2
 go_ret2
 exact⟨rfl,rfl⟩
set_option maxHeartbeats 400000 in
theorem JS(m:Nat->Int)(w:World)(hg:GP w):Calls Tryz.prog 124 #[.agg #[.int .i64 (m 0),.int .i64 (m 1),.int .i64 (m 2),.int .i64 (m 3),.int .i64 (m 4),.int .i64 (m 5)],.int .i64 0,.int .i64 0] w λe w'=>e=.returned (.tuple #[.int .i64 (m 0),.int .i64 0])/\Below w.heap.size w w':=by
 have HG:=Asd.mk hg
 clear hg
 go_enter Tryz.func124,Tryz.ntmps124
 go_wp2_with (go_at_call 173;refine(Mt _ (by exact HG.out.below LC)).mono ?_;rintro e w' ⟨rfl,rfl⟩)
 go_ret2
 exact⟨rfl,LC⟩
set_option maxHeartbeats 400000 in
theorem UT(m:Nat->Int)(x:Int)(w:World)(hg:GP w):Calls Tryz.prog 125 #[.agg #[.int .i64 (m 0),.int .i64 (m 1),.int .i64 (m 2),.int .i64 (m 3),.int .i64 (m 4),.int .i64 (m 5)],.int .i64 0,.int .i64 0,.int .i64 x] w λe w'=>e=.returned (.tuple #[.agg #[.int .i64 x,.int .i64 (m 1),.int .i64 (m 2),.int .i64 (m 3),.int .i64 (m 4),.int .i64 (m 5)],.int .i64 0])/\Below w.heap.size w w':=by
 have HG:=Asd.mk hg
 clear hg
 go_enter Tryz.func125,Tryz.ntmps125
 go_wp2_with (go_at_call 173;refine(Mt _ (by exact HG.out.below LC)).mono ?_;rintro e w' ⟨rfl,rfl⟩)
 refine bodyPost_ret (v:=.tuple #[.agg #[.int .i64 x,.int .i64 (m 1),.int .i64 (m 2),.int .i64 (m 3),.int .i64 (m 4),.int .i64 (m 5)],.int .i64 0]) (by simp(maxDischargeDepth:=9) [results,Tryz.results125,go_sem, *]) rfl ⟨rfl,LC⟩
set_option maxHeartbeats 400000 in
theorem Iy(m:Nat->Int)(w:World)(hg:GP w):Calls Tryz.prog 124 #[.agg #[.int .i64 (m 0),.int .i64 (m 1),.int .i64 (m 2),.int .i64 (m 3),.int .i64 (m 4),.int .i64 (m 5)],.int .i64 0,.int .i64 1] w λe w'=>e=.returned (.tuple #[.int .i64 (m 1),.int .i64 0])/\Below w.heap.size w w':=by
 have HG:=Asd.mk hg
 clear hg
 go_enter Tryz.func124,Tryz.ntmps124
 go_wp2_with (go_at_call 173;refine(L7 _ (by exact HG.out.below LC)).mono ?_;rintro e w' ⟨rfl,rfl⟩)
 go_ret2
 exact⟨rfl,LC⟩
set_option maxHeartbeats 400000 in
theorem VB(m:Nat->Int)(x:Int)(w:World)(hg:GP w):Calls Tryz.prog 125 #[.agg #[.int .i64 (m 0),.int .i64 (m 1),.int .i64 (m 2),.int .i64 (m 3),.int .i64 (m 4),.int .i64 (m 5)],.int .i64 0,.int .i64 1,.int .i64 x] w λe w'=>e=.returned (.tuple #[.agg #[.int .i64 (m 0),.int .i64 x,.int .i64 (m 2),.int .i64 (m 3),.int .i64 (m 4),.int .i64 (m 5)],.int .i64 0])/\Below w.heap.size w w':=by
 have HG:=Asd.mk hg
 clear hg
 go_enter Tryz.func125,Tryz.ntmps125
 go_wp2_with (go_at_call 173;refine(L7 _ (by exact HG.out.below LC)).mono ?_;rintro e w' ⟨rfl,rfl⟩)
 refine bodyPost_ret (v:=.tuple #[.agg #[.int .i64 (m 0),.int .i64 x,.int .i64 (m 2),.int .i64 (m 3),.int .i64 (m 4),.int .i64 (m 5)],.int .i64 0]) (by simp(maxDischargeDepth:=9) [results,Tryz.results125,go_sem, *]) rfl ⟨rfl,LC⟩
set_option maxHeartbeats 400000 in
theorem JX(m:Nat->Int)(w:World)(hg:GP w):Calls Tryz.prog 124 #[.agg #[.int .i64 (m 0),.int .i64 (m 1),.int .i64 (m 2),.int .i64 (m 3),.int .i64 (m 4),.int .i64 (m 5)],.int .i64 0,.int .i64 2] w λe w'=>e=.returned (.tuple #[.int .i64 (m 2),.int .i64 0])/\Below w.heap.size w w':=by
 have HG:=Asd.mk hg
 clear hg
 go_enter Tryz.func124,Tryz.ntmps124
 go_wp2_with (go_at_call 173;refine(Mg _ (by exact HG.out.below LC)).mono ?_;rintro e w' ⟨rfl,rfl⟩)
 go_ret2
 exact⟨rfl,LC⟩
set_option maxHeartbeats 400000 in
theorem U6(m:Nat->Int)(x:Int)(w:World)(hg:GP w):Calls Tryz.prog 125 #[.agg #[.int .i64 (m 0),.int .i64 (m 1),.int .i64 (m 2),.int .i64 (m 3),.int .i64 (m 4),.int .i64 (m 5)],.int .i64 0,.int .i64 2,.int .i64 x] w λe w'=>e=.returned (.tuple #[.agg #[.int .i64 (m 0),.int .i64 (m 1),.int .i64 x,.int .i64 (m 3),.int .i64 (m 4),.int .i64 (m 5)],.int .i64 0])/\Below w.heap.size w w':=by
 have HG:=Asd.mk hg
 clear hg
 go_enter Tryz.func125,Tryz.ntmps125
 go_wp2_with (go_at_call 173;refine(Mg _ (by exact HG.out.below LC)).mono ?_;rintro e w' ⟨rfl,rfl⟩)
 refine bodyPost_ret (v:=.tuple #[.agg #[.int .i64 (m 0),.int .i64 (m 1),.int .i64 x,.int .i64 (m 3),.int .i64 (m 4),.int .i64 (m 5)],.int .i64 0]) (by simp(maxDischargeDepth:=9) [results,Tryz.results125,go_sem, *]) rfl ⟨rfl,LC⟩
set_option maxHeartbeats 400000 in
theorem Jo(m:Nat->Int)(w:World)(hg:GP w):Calls Tryz.prog 124 #[.agg #[.int .i64 (m 0),.int .i64 (m 1),.int .i64 (m 2),.int .i64 (m 3),.int .i64 (m 4),.int .i64 (m 5)],.int .i64 1,.int .i64 0] w λe w'=>e=.returned (.tuple #[.int .i64 (m 1),.int .i64 0])/\Below w.heap.size w w':=by
 have HG:=Asd.mk hg
 clear hg
 go_enter Tryz.func124,Tryz.ntmps124
 go_wp2_with (go_at_call 173;refine(MS _ (by exact HG.out.below LC)).mono ?_;rintro e w' ⟨rfl,rfl⟩)
 go_ret2
 exact⟨rfl,LC⟩
set_option maxHeartbeats 400000 in
theorem U4(m:Nat->Int)(x:Int)(w:World)(hg:GP w):Calls Tryz.prog 125 #[.agg #[.int .i64 (m 0),.int .i64 (m 1),.int .i64 (m 2),.int .i64 (m 3),.int .i64 (m 4),.int .i64 (m 5)],.int .i64 1,.int .i64 0,.int .i64 x] w λe w'=>e=.returned (.tuple #[.agg #[.int .i64 (m 0),.int .i64 x,.int .i64 (m 2),.int .i64 (m 3),.int .i64 (m 4),.int .i64 (m 5)],.int .i64 0])/\Below w.heap.size w w':=by
 have HG:=Asd.mk hg
 clear hg
 go_enter Tryz.func125,Tryz.ntmps125
 go_wp2_with (go_at_call 173;refine(MS _ (by exact HG.out.below LC)).mono ?_;rintro e w' ⟨rfl,rfl⟩)
 refine bodyPost_ret (v:=.tuple #[.agg #[.int .i64 (m 0),.int .i64 x,.int .i64 (m 2),.int .i64 (m 3),.int .i64 (m 4),.int .i64 (m 5)],.int .i64 0]) (by simp(maxDischargeDepth:=9) [results,Tryz.results125,go_sem, *]) rfl ⟨rfl,LC⟩
set_option maxHeartbeats 400000 in
theorem JC(m:Nat->Int)(w:World)(hg:GP w):Calls Tryz.prog 124 #[.agg #[.int .i64 (m 0),.int .i64 (m 1),.int .i64 (m 2),.int .i64 (m 3),.int .i64 (m 4),.int .i64 (m 5)],.int .i64 1,.int .i64 1] w λe w'=>e=.returned (.tuple #[.int .i64 (m 3),.int .i64 0])/\Below w.heap.size w w':=by
 have HG:=Asd.mk hg
 clear hg
 go_enter Tryz.func124,Tryz.ntmps124
 go_wp2_with (go_at_call 173;refine(L6 _ (by exact HG.out.below LC)).mono ?_;rintro e w' ⟨rfl,rfl⟩)
 go_ret2
 exact⟨rfl,LC⟩
set_option maxHeartbeats 400000 in
theorem U_(m:Nat->Int)(x:Int)(w:World)(hg:GP w):Calls Tryz.prog 125 #[.agg #[.int .i64 (m 0),.int .i64 (m 1),.int .i64 (m 2),.int .i64 (m 3),.int .i64 (m 4),.int .i64 (m 5)],.int .i64 1,.int .i64 1,.int .i64 x] w λe w'=>e=.returned (.tuple #[.agg #[.int .i64 (m 0),.int .i64 (m 1),.int .i64 (m 2),.int .i64 x,.int .i64 (m 4),.int .i64 (m 5)],.int .i64 0])/\Below w.heap.size w w':=by
 have HG:=Asd.mk hg
 clear hg
 go_enter Tryz.func125,Tryz.ntmps125
 go_wp2_with (go_at_call 173;refine(L6 _ (by exact HG.out.below LC)).mono ?_;rintro e w' ⟨rfl,rfl⟩)
 refine bodyPost_ret (v:=.tuple #[.agg #[.int .i64 (m 0),.int .i64 (m 1),.int .i64 (m 2),.int .i64 x,.int .i64 (m 4),.int .i64 (m 5)],.int .i64 0]) (by simp(maxDischargeDepth:=9) [results,Tryz.results125,go_sem, *]) rfl ⟨rfl,LC⟩
set_option maxHeartbeats 400000 in
theorem Jd(m:Nat->Int)(w:World)(hg:GP w):Calls Tryz.prog 124 #[.agg #[.int .i64 (m 0),.int .i64 (m 1),.int .i64 (m 2),.int .i64 (m 3),.int .i64 (m 4),.int .i64 (m 5)],.int .i64 1,.int .i64 2] w λe w'=>e=.returned (.tuple #[.int .i64 (m 4),.int .i64 0])/\Below w.heap.size w w':=by
 have HG:=Asd.mk hg
 clear hg
 go_enter Tryz.func124,Tryz.ntmps124
 go_wp2_with (go_at_call 173;refine(Mi _ (by exact HG.out.below LC)).mono ?_;rintro e w' ⟨rfl,rfl⟩)
 go_ret2
 exact⟨rfl,LC⟩
set_option maxHeartbeats 400000 in
theorem U8(m:Nat->Int)(x:Int)(w:World)(hg:GP w):Calls Tryz.prog 125 #[.agg #[.int .i64 (m 0),.int .i64 (m 1),.int .i64 (m 2),.int .i64 (m 3),.int .i64 (m 4),.int .i64 (m 5)],.int .i64 1,.int .i64 2,.int .i64 x] w λe w'=>e=.returned (.tuple #[.agg #[.int .i64 (m 0),.int .i64 (m 1),.int .i64 (m 2),.int .i64 (m 3),.int .i64 x,.int .i64 (m 5)],.int .i64 0])/\Below w.heap.size w w':=by
 have HG:=Asd.mk hg
 clear hg
 go_enter Tryz.func125,Tryz.ntmps125
 go_wp2_with (go_at_call 173;refine(Mi _ (by exact HG.out.below LC)).mono ?_;rintro e w' ⟨rfl,rfl⟩)
 refine bodyPost_ret (v:=.tuple #[.agg #[.int .i64 (m 0),.int .i64 (m 1),.int .i64 (m 2),.int .i64 (m 3),.int .i64 x,.int .i64 (m 5)],.int .i64 0]) (by simp(maxDischargeDepth:=9) [results,Tryz.results125,go_sem, *]) rfl ⟨rfl,LC⟩
set_option maxHeartbeats 400000 in
theorem Jh(m:Nat->Int)(w:World)(hg:GP w):Calls Tryz.prog 124 #[.agg #[.int .i64 (m 0),.int .i64 (m 1),.int .i64 (m 2),.int .i64 (m 3),.int .i64 (m 4),.int .i64 (m 5)],.int .i64 2,.int .i64 0] w λe w'=>e=.returned (.tuple #[.int .i64 (m 2),.int .i64 0])/\Below w.heap.size w w':=by
 have HG:=Asd.mk hg
 clear hg
 go_enter Tryz.func124,Tryz.ntmps124
 go_wp2_with (go_at_call 173;refine(MH _ (by exact HG.out.below LC)).mono ?_;rintro e w' ⟨rfl,rfl⟩)
 go_ret2
 exact⟨rfl,LC⟩
set_option maxHeartbeats 400000 in
theorem Uf(m:Nat->Int)(x:Int)(w:World)(hg:GP w):Calls Tryz.prog 125 #[.agg #[.int .i64 (m 0),.int .i64 (m 1),.int .i64 (m 2),.int .i64 (m 3),.int .i64 (m 4),.int .i64 (m 5)],.int .i64 2,.int .i64 0,.int .i64 x] w λe w'=>e=.returned (.tuple #[.agg #[.int .i64 (m 0),.int .i64 (m 1),.int .i64 x,.int .i64 (m 3),.int .i64 (m 4),.int .i64 (m 5)],.int .i64 0])/\Below w.heap.size w w':=by
 have HG:=Asd.mk hg
 clear hg
 go_enter Tryz.func125,Tryz.ntmps125
 go_wp2_with (go_at_call 173;refine(MH _ (by exact HG.out.below LC)).mono ?_;rintro e w' ⟨rfl,rfl⟩)
 refine bodyPost_ret (v:=.tuple #[.agg #[.int .i64 (m 0),.int .i64 (m 1),.int .i64 x,.int .i64 (m 3),.int .i64 (m 4),.int .i64 (m 5)],.int .i64 0]) (by simp(maxDischargeDepth:=9) [results,Tryz.results125,go_sem, *]) rfl ⟨rfl,LC⟩
set_option maxHeartbeats 400000 in
theorem I0(m:Nat->Int)(w:World)(hg:GP w):Calls Tryz.prog 124 #[.agg #[.int .i64 (m 0),.int .i64 (m 1),.int .i64 (m 2),.int .i64 (m 3),.int .i64 (m 4),.int .i64 (m 5)],.int .i64 2,.int .i64 1] w λe w'=>e=.returned (.tuple #[.int .i64 (m 4),.int .i64 0])/\Below w.heap.size w w':=by
 have HG:=Asd.mk hg
 clear hg
 go_enter Tryz.func124,Tryz.ntmps124
 go_wp2_with (go_at_call 173;refine(Me _ (by exact HG.out.below LC)).mono ?_;rintro e w' ⟨rfl,rfl⟩)
 go_ret2
 exact⟨rfl,LC⟩
set_option maxHeartbeats 400000 in
theorem U5(m:Nat->Int)(x:Int)(w:World)(hg:GP w):Calls Tryz.prog 125 #[.agg #[.int .i64 (m 0),.int .i64 (m 1),.int .i64 (m 2),.int .i64 (m 3),.int .i64 (m 4),.int .i64 (m 5)],.int .i64 2,.int .i64 1,.int .i64 x] w λe w'=>e=.returned (.tuple #[.agg #[.int .i64 (m 0),.int .i64 (m 1),.int .i64 (m 2),.int .i64 (m 3),.int .i64 x,.int .i64 (m 5)],.int .i64 0])/\Below w.heap.size w w':=by
 have HG:=Asd.mk hg
 clear hg
 go_enter Tryz.func125,Tryz.ntmps125
 go_wp2_with (go_at_call 173;refine(Me _ (by exact HG.out.below LC)).mono ?_;rintro e w' ⟨rfl,rfl⟩)
 refine bodyPost_ret (v:=.tuple #[.agg #[.int .i64 (m 0),.int .i64 (m 1),.int .i64 (m 2),.int .i64 (m 3),.int .i64 x,.int .i64 (m 5)],.int .i64 0]) (by simp(maxDischargeDepth:=9) [results,Tryz.results125,go_sem, *]) rfl ⟨rfl,LC⟩
set_option maxHeartbeats 400000 in
theorem Jk(m:Nat->Int)(w:World)(hg:GP w):Calls Tryz.prog 124 #[.agg #[.int .i64 (m 0),.int .i64 (m 1),.int .i64 (m 2),.int .i64 (m 3),.int .i64 (m 4),.int .i64 (m 5)],.int .i64 2,.int .i64 2] w λe w'=>e=.returned (.tuple #[.int .i64 (m 5),.int .i64 0])/\Below w.heap.size w w':=by
 have HG:=Asd.mk hg
 clear hg
 go_enter Tryz.func124,Tryz.ntmps124
 go_wp2_with (go_at_call 173;refine(MA _ (by exact HG.out.below LC)).mono ?_;rintro e w' ⟨rfl,rfl⟩)
 go_ret2
 exact⟨rfl,LC⟩
set_option maxHeartbeats 400000 in
theorem UQ(m:Nat->Int)(x:Int)(w:World)(hg:GP w):Calls Tryz.prog 125 #[.agg #[.int .i64 (m 0),.int .i64 (m 1),.int .i64 (m 2),.int .i64 (m 3),.int .i64 (m 4),.int .i64 (m 5)],.int .i64 2,.int .i64 2,.int .i64 x] w λe w'=>e=.returned (.tuple #[.agg #[.int .i64 (m 0),.int .i64 (m 1),.int .i64 (m 2),.int .i64 (m 3),.int .i64 (m 4),.int .i64 x],.int .i64 0])/\Below w.heap.size w w':=by
 have HG:=Asd.mk hg
 clear hg
 go_enter Tryz.func125,Tryz.ntmps125
 go_wp2_with (go_at_call 173;refine(MA _ (by exact HG.out.below LC)).mono ?_;rintro e w' ⟨rfl,rfl⟩)
 refine bodyPost_ret (v:=.tuple #[.agg #[.int .i64 (m 0),.int .i64 (m 1),.int .i64 (m 2),.int .i64 (m 3),.int .i64 (m 4),.int .i64 x],.int .i64 0]) (by simp(maxDischargeDepth:=9) [results,Tryz.results125,go_sem, *]) rfl ⟨rfl,LC⟩
set_option maxHeartbeats 400000 in
theorem Q2(m:Nat->Int)(w:World):Calls Tryz.prog 123 #[.agg #[.int .i64 (m 0),.int .i64 (m 1),.int .i64 (m 2),.int .i64 (m 3),.int .i64 (m 4),.int .i64 (m 5)]] w λe w'=>e=.returned (.agg #[.int .i64 (m 0),.int .i64 (m 3),.int .i64 (m 5)])/\Below w.heap.size w w':=by
 go_enter Tryz.func123,Tryz.ntmps123
 go_wp2
 refine bodyPost_ret (v:=.agg #[.int .i64 (m 0),.int .i64 (m 3),.int .i64 (m 5)]) (by simp(maxDischargeDepth:=9) [results,Tryz.results123,go_sem, *]) rfl ⟨rfl,LC⟩
set_option maxHeartbeats 400000 in
theorem Gy(v:Nat->Int)(w:World):Calls Tryz.prog 95 #[.agg #[.int .i64 (v 0),.int .i64 (v 1),.int .i64 (v 2)]] w λe w'=>e=.returned (.agg #[.int .i64 (v 0),.int .i64 0,.int .i64 0,.int .i64 (v 1),.int .i64 0,.int .i64 (v 2)])/\Below w.heap.size w w':=by
 go_enter Tryz.func95,Tryz.ntmps95
 go_wp2
 refine bodyPost_ret (v:=.agg #[.int .i64 (v 0),.int .i64 0,.int .i64 0,.int .i64 (v 1),.int .i64 0,.int .i64 (v 2)]) (by simp(maxDischargeDepth:=9) [results,Tryz.results95,go_sem, *]) rfl ⟨rfl,LC⟩
end
section
def sg(z:Int):Bool:=decide (z<0)
theorem sg_true{z:Int}:sg z=true<->z<0:=decide_eq_true_iff
theorem sg_false{z:Int}:sg z=false<-> ¬z<0:=decide_eq_false_iff_not
end
end Go.Proofs.YtikajapjkdloaaaGreatDoor
