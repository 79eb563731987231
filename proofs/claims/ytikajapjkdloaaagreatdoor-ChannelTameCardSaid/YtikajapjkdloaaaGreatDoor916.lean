/- Walks of layer 13 (conf): the rules that draw no order. -/
import Derived.Test.YtikajapjkdloaaaGreatDoor915
namespace Go.Proofs.YtikajapjkdloaaaGreatDoor
set_option linter.unusedVariables false
set_option linter.unusedSimpArgs false
open Go.RowKit
section
attribute [local go_sem] CE CA CF CG B_ CB CD CC Be Bc Ba
set_option maxRecDepth 100000 in
set_option maxHeartbeats 2000000 in
theorem SZ(c:Nat->Int)(w:World):Calls Tryz.prog 68 #[.agg #[.int .i64 (c 0),.int .i64 (c 1),.int .i64 (c 2),.int .i64 (c 3),.int .i64 (c 4),.int .i64 (c 5),.int .i64 (c 6),.int .i64 (c 7),.int .i64 (c 8),.int .i64 (c 9),.int .i64 (c 10),.int .i64 (c 11),.int .i64 (c 12),.int .i64 (c 13),.int .i64 (c 14),.int .i64 (c 15),.int .i64 (c 16),.int .i64 (c 17),.int .i64 (c 18),.int .i64 (c 19),.int .i64 (c 20),.int .i64 (c 21),.int .i64 (c 22),.int .i64 (c 23),.int .i64 (c 24),.int .i64 (c 25),.int .i64 (c 26),.int .i64 (c 27),.int .i64 (c 28),.int .i64 (c 29),.int .i64 (c 30)]] w λe w'=>e=.returned (.bool (BS c 1))/\Below w.heap.size w w':=by
 go_enter Tryz.func68,Tryz.ntmps68
 go_wp2_with (first|(go_at_call 69;refine(Ps (λi=>c (0+i)) _).mono ?_;rintro e w1 ⟨rfl,hb1⟩;obtain⟨hc1,hf1⟩:=Bz hb1;have hz1_0:w.heap.size<w1.heap.size:=Nat.lt_of_lt_of_le ZB hb1.size;have hbel:=Asd.mk (AQ (w:=w) LC hb1)))
 all_goals(
 go_ret
 exact⟨by first|rfl|exact Bo (by simp[BS, *]),by first|exact hbel.out|exact LC⟩)
set_option maxRecDepth 100000 in
set_option maxHeartbeats 2000000 in
theorem Sv(c:Nat->Int)(w:World):Calls Tryz.prog 74 #[.agg #[.int .i64 (c 0),.int .i64 (c 1),.int .i64 (c 2),.int .i64 (c 3),.int .i64 (c 4),.int .i64 (c 5),.int .i64 (c 6),.int .i64 (c 7),.int .i64 (c 8),.int .i64 (c 9),.int .i64 (c 10),.int .i64 (c 11),.int .i64 (c 12),.int .i64 (c 13),.int .i64 (c 14),.int .i64 (c 15),.int .i64 (c 16),.int .i64 (c 17),.int .i64 (c 18),.int .i64 (c 19),.int .i64 (c 20),.int .i64 (c 21),.int .i64 (c 22),.int .i64 (c 23),.int .i64 (c 24),.int .i64 (c 25),.int .i64 (c 26),.int .i64 (c 27),.int .i64 (c 28),.int .i64 (c 29),.int .i64 (c 30)]] w λe w'=>e=.returned (.bool (BS c 3))/\Below w.heap.size w w':=by
 go_enter Tryz.func74,Tryz.ntmps74
 go_wp2_with (first|(go_at_call 71;refine(BP _ _ _ _).mono ?_;rintro e w' ⟨rfl,rfl⟩))
 all_goals(
 go_ret
 exact⟨by first|rfl|exact Bo (by simp[BS, *]),by first|exact hbel.out|exact LC⟩)
set_option maxRecDepth 100000 in
set_option maxHeartbeats 2000000 in
theorem Te(c:Nat->Int)(w:World):Calls Tryz.prog 75 #[.agg #[.int .i64 (c 0),.int .i64 (c 1),.int .i64 (c 2),.int .i64 (c 3),.int .i64 (c 4),.int .i64 (c 5),.int .i64 (c 6),.int .i64 (c 7),.int .i64 (c 8),.int .i64 (c 9),.int .i64 (c 10),.int .i64 (c 11),.int .i64 (c 12),.int .i64 (c 13),.int .i64 (c 14),.int .i64 (c 15),.int .i64 (c 16),.int .i64 (c 17),.int .i64 (c 18),.int .i64 (c 19),.int .i64 (c 20),.int .i64 (c 21),.int .i64 (c 22),.int .i64 (c 23),.int .i64 (c 24),.int .i64 (c 25),.int .i64 (c 26),.int .i64 (c 27),.int .i64 (c 28),.int .i64 (c 29),.int .i64 (c 30)]] w λe w'=>e=.returned (.bool (BS c 4))/\Below w.heap.size w w':=by
 go_enter Tryz.func75,Tryz.ntmps75
 go_wp2_with (first|(go_at_call 71;refine(BP _ _ _ _).mono ?_;rintro e w' ⟨rfl,rfl⟩))
 all_goals(
 go_ret
 exact⟨by first|rfl|exact Bo (by simp[BS, *]),by first|exact hbel.out|exact LC⟩)
set_option maxRecDepth 100000 in
set_option maxHeartbeats 2000000 in
theorem Sk(c:Nat->Int)(w:World):Calls Tryz.prog 83 #[.agg #[.int .i64 (c 0),.int .i64 (c 1),.int .i64 (c 2),.int .i64 (c 3),.int .i64 (c 4),.int .i64 (c 5),.int .i64 (c 6),.int .i64 (c 7),.int .i64 (c 8),.int .i64 (c 9),.int .i64 (c 10),.int .i64 (c 11),.int .i64 (c 12),.int .i64 (c 13),.int .i64 (c 14),.int .i64 (c 15),.int .i64 (c 16),.int .i64 (c 17),.int .i64 (c 18),.int .i64 (c 19),.int .i64 (c 20),.int .i64 (c 21),.int .i64 (c 22),.int .i64 (c 23),.int .i64 (c 24),.int .i64 (c 25),.int .i64 (c 26),.int .i64 (c 27),.int .i64 (c 28),.int .i64 (c 29),.int .i64 (c 30)]] w λe w'=>e=.returned (.bool (BS c 8))/\Below w.heap.size w w':=by
 go_enter Tryz.func83,Tryz.ntmps83
 go_wp2_with (first|(go_at_call 71;refine(BP _ _ _ _).mono ?_;rintro e w' ⟨rfl,rfl⟩))
 all_goals(
 go_ret
 exact⟨by first|rfl|exact Bo (by simp[BS, *]),by first|exact hbel.out|exact LC⟩)
set_option maxRecDepth 100000 in
set_option maxHeartbeats 2000000 in
theorem Rz(c:Nat->Int)(w:World):Calls Tryz.prog 86 #[.agg #[.int .i64 (c 0),.int .i64 (c 1),.int .i64 (c 2),.int .i64 (c 3),.int .i64 (c 4),.int .i64 (c 5),.int .i64 (c 6),.int .i64 (c 7),.int .i64 (c 8),.int .i64 (c 9),.int .i64 (c 10),.int .i64 (c 11),.int .i64 (c 12),.int .i64 (c 13),.int .i64 (c 14),.int .i64 (c 15),.int .i64 (c 16),.int .i64 (c 17),.int .i64 (c 18),.int .i64 (c 19),.int .i64 (c 20),.int .i64 (c 21),.int .i64 (c 22),.int .i64 (c 23),.int .i64 (c 24),.int .i64 (c 25),.int .i64 (c 26),.int .i64 (c 27),.int .i64 (c 28),.int .i64 (c 29),.int .i64 (c 30)]] w λe w'=>e=.returned (.bool (BS c 10))/\Below w.heap.size w w':=by
 go_enter Tryz.func86,Tryz.ntmps86
 go_wp2_with (first|(go_at_call 71;refine(BP _ _ _ _).mono ?_;rintro e w' ⟨rfl,rfl⟩))
 all_goals(
 go_ret
 exact⟨by first|rfl|exact Bo (by simp[BS, *]),by first|exact hbel.out|exact LC⟩)
set_option maxRecDepth 100000 in
set_option maxHeartbeats 2000000 in
theorem Rb(c:Nat->Int)(w:World):Calls Tryz.prog 88 #[.agg #[.int .i64 (c 0),.int .i64 (c 1),.int .i64 (c 2),.int .i64 (c 3),.int .i64 (c 4),.int .i64 (c 5),.int .i64 (c 6),.int .i64 (c 7),.int .i64 (c 8),.int .i64 (c 9),.int .i64 (c 10),.int .i64 (c 11),.int .i64 (c 12),.int .i64 (c 13),.int .i64 (c 14),.int .i64 (c 15),.int .i64 (c 16),.int .i64 (c 17),.int .i64 (c 18),.int .i64 (c 19),.int .i64 (c 20),.int .i64 (c 21),.int .i64 (c 22),.int .i64 (c 23),.int .i64 (c 24),.int .i64 (c 25),.int .i64 (c 26),.int .i64 (c 27),.int .i64 (c 28),.int .i64 (c 29),.int .i64 (c 30)]] w λe w'=>e=.returned (.bool (BS c 12))/\Below w.heap.size w w':=by
 go_enter Tryz.func88,Tryz.ntmps88
 go_wp2_with (first|(go_at_call 71;refine(BP _ _ _ _).mono ?_;rintro e w' ⟨rfl,rfl⟩))
 all_goals(
 go_ret
 exact⟨by first|rfl|exact Bo (by simp[BS, *]),by first|exact hbel.out|exact LC⟩)
set_option maxRecDepth 100000 in
set_option maxHeartbeats 2000000 in
theorem RZ(c:Nat->Int)(w:World):Calls Tryz.prog 90 #[.agg #[.int .i64 (c 0),.int .i64 (c 1),.int .i64 (c 2),.int .i64 (c 3),.int .i64 (c 4),.int .i64 (c 5),.int .i64 (c 6),.int .i64 (c 7),.int .i64 (c 8),.int .i64 (c 9),.int .i64 (c 10),.int .i64 (c 11),.int .i64 (c 12),.int .i64 (c 13),.int .i64 (c 14),.int .i64 (c 15),.int .i64 (c 16),.int .i64 (c 17),.int .i64 (c 18),.int .i64 (c 19),.int .i64 (c 20),.int .i64 (c 21),.int .i64 (c 22),.int .i64 (c 23),.int .i64 (c 24),.int .i64 (c 25),.int .i64 (c 26),.int .i64 (c 27),.int .i64 (c 28),.int .i64 (c 29),.int .i64 (c 30)]] w λe w'=>e=.returned (.bool (BS c 14))/\Below w.heap.size w w':=by
 go_enter Tryz.func90,Tryz.ntmps90
 go_wp2_with (first|(go_at_call 71;refine(BP _ _ _ _).mono ?_;rintro e w' ⟨rfl,rfl⟩))
 all_goals(
 go_ret
 exact⟨by first|rfl|exact Bo (by simp[BS, *]),by first|exact hbel.out|exact LC⟩)
set_option maxRecDepth 100000 in
set_option maxHeartbeats 2000000 in
theorem R0(c:Nat->Int)(hc: ∀i,Ai (c i))(w:World):Calls Tryz.prog 89 #[.agg #[.int .i64 (c 0),.int .i64 (c 1),.int .i64 (c 2),.int .i64 (c 3),.int .i64 (c 4),.int .i64 (c 5),.int .i64 (c 6),.int .i64 (c 7),.int .i64 (c 8),.int .i64 (c 9),.int .i64 (c 10),.int .i64 (c 11),.int .i64 (c 12),.int .i64 (c 13),.int .i64 (c 14),.int .i64 (c 15),.int .i64 (c 16),.int .i64 (c 17),.int .i64 (c 18),.int .i64 (c 19),.int .i64 (c 20),.int .i64 (c 21),.int .i64 (c 22),.int .i64 (c 23),.int .i64 (c 24),.int .i64 (c 25),.int .i64 (c 26),.int .i64 (c 27),.int .i64 (c 28),.int .i64 (c 29),.int .i64 (c 30)]] w λe w'=>e=.returned (.bool (BS c 13))/\Below w.heap.size w w':=by
 have E:=Asd.mk (show BS c 13=BS c 13 from rfl)
 cases h:Cd (c 28) 1 (c 29)
 all_goals(
 go_enter Tryz.func89,Tryz.ntmps89
 go_wp2_with (first|(go_at_call 71;refine(BP _ _ _ _).mono ?_;rintro e w' ⟨rfl,rfl⟩))
 all_goals(
 go_ret
 exact⟨by first|(exact Bo (by simp[BS, *];done))|(exact Bo (by simp[BS, *];omega)),by first|exact hbel.out|exact LC⟩))
set_option maxRecDepth 100000 in
set_option maxHeartbeats 2000000 in
theorem R4(c:Nat->Int)(hc: ∀i,Ai (c i))(w:World):Calls Tryz.prog 87 #[.agg #[.int .i64 (c 0),.int .i64 (c 1),.int .i64 (c 2),.int .i64 (c 3),.int .i64 (c 4),.int .i64 (c 5),.int .i64 (c 6),.int .i64 (c 7),.int .i64 (c 8),.int .i64 (c 9),.int .i64 (c 10),.int .i64 (c 11),.int .i64 (c 12),.int .i64 (c 13),.int .i64 (c 14),.int .i64 (c 15),.int .i64 (c 16),.int .i64 (c 17),.int .i64 (c 18),.int .i64 (c 19),.int .i64 (c 20),.int .i64 (c 21),.int .i64 (c 22),.int .i64 (c 23),.int .i64 (c 24),.int .i64 (c 25),.int .i64 (c 26),.int .i64 (c 27),.int .i64 (c 28),.int .i64 (c 29),.int .i64 (c 30)]] w λe w'=>e=.returned (.bool (BS c 11))/\Below w.heap.size w w':=by
 by_cases k1: -c 26<c 25
 all_goals by_cases k2:c 25<c 26
 all_goals cases h:Cd (c 26) 1 131072
 all_goals(try obtain⟨b1,b2⟩:=wiB_true.1 h)
 all_goals(try(exfalso;omega))
 all_goals(
 go_enter Tryz.func87,Tryz.ntmps87
 go_wp2_with (first|(go_at_call 71;refine(BP _ _ _ _).mono ?_;rintro e w' ⟨rfl,rfl⟩))
 all_goals(
 go_ret
 exact⟨by first|(exact Bo (by simp[BS, *];done))|(exact Bo (by simp[BS, *];omega)),by first|exact hbel.out|exact LC⟩))
end
section
attribute [local go_sem] CE CA CF CG B_ CB CD CC Be Bc Ba
set_option maxRecDepth 100000 in
set_option maxHeartbeats 2000000 in
theorem Se(c:Nat->Int)(w:World):Calls Tryz.prog 81 #[.agg #[.int .i64 (c 0),.int .i64 (c 1),.int .i64 (c 2),.int .i64 (c 3),.int .i64 (c 4),.int .i64 (c 5),.int .i64 (c 6),.int .i64 (c 7),.int .i64 (c 8),.int .i64 (c 9),.int .i64 (c 10),.int .i64 (c 11),.int .i64 (c 12),.int .i64 (c 13),.int .i64 (c 14),.int .i64 (c 15),.int .i64 (c 16),.int .i64 (c 17),.int .i64 (c 18),.int .i64 (c 19),.int .i64 (c 20),.int .i64 (c 21),.int .i64 (c 22),.int .i64 (c 23),.int .i64 (c 24),.int .i64 (c 25),.int .i64 (c 26),.int .i64 (c 27),.int .i64 (c 28),.int .i64 (c 29),.int .i64 (c 30)]] w λe w'=>e=.returned (.bool (BS c 7))/\Below w.heap.size w w':=by
 obtain⟨B,hB⟩: ∃B,(Cd (c 17) 0 72057594037927936&&(Cd (c 18) 0 72057594037927936&&Cd (c 19) 0 72057594037927936))=B:=⟨_,rfl⟩
 have HA:Asd (∀W,Calls Tryz.prog 69 #[.agg #[.int .i64 (c 17),.int .i64 (c 18),.int .i64 (c 19)],.func (.func 82) #[] #[]] W λe w'=>e=.returned (.bool B)/\Below W.heap.size W w'):=⟨λW=>by
  have k:=Px (λi=>c (17+i)) W
  rw[<-hB];exact k⟩
 obtain⟨D,hD⟩: ∃D,decide (18014398509481984<=c 17)=D:=⟨_,rfl⟩
 have hr:BS c 7=(B&&D):=by rw[<-hB,<-hD];rfl
 rw[hr]
 clear hr hB
 cases B
 all_goals cases D
 all_goals(
 go_enter Tryz.func81,Tryz.ntmps81
 go_wp2_with (first|(go_at_call 71;refine(BP _ _ _ _).mono ?_;rintro e w' ⟨rfl,rfl⟩)|(go_at_call 69;refine(HA.out _).mono ?_;rintro e w1 ⟨rfl,hb1⟩;obtain⟨hc1,hf1⟩:=Bz hb1;have hz1_0:w.heap.size<w1.heap.size:=Nat.lt_of_lt_of_le ZB hb1.size;have hbel:=Asd.mk (AQ (w:=w) LC hb1);clear hb1))
 all_goals(
 go_ret
 exact⟨by first|rfl|(exact Bo (by simp[*];done)),by first|exact hbel.out|exact LC⟩))
set_option maxRecDepth 100000 in
set_option maxHeartbeats 2000000 in
theorem Sy(c:Nat->Int)(w:World):Calls Tryz.prog 84 #[.agg #[.int .i64 (c 0),.int .i64 (c 1),.int .i64 (c 2),.int .i64 (c 3),.int .i64 (c 4),.int .i64 (c 5),.int .i64 (c 6),.int .i64 (c 7),.int .i64 (c 8),.int .i64 (c 9),.int .i64 (c 10),.int .i64 (c 11),.int .i64 (c 12),.int .i64 (c 13),.int .i64 (c 14),.int .i64 (c 15),.int .i64 (c 16),.int .i64 (c 17),.int .i64 (c 18),.int .i64 (c 19),.int .i64 (c 20),.int .i64 (c 21),.int .i64 (c 22),.int .i64 (c 23),.int .i64 (c 24),.int .i64 (c 25),.int .i64 (c 26),.int .i64 (c 27),.int .i64 (c 28),.int .i64 (c 29),.int .i64 (c 30)]] w λe w'=>e=.returned (.bool (BS c 9))/\Below w.heap.size w w':=by
 obtain⟨B,hB⟩: ∃B,(Cd (c 21) (-4398046511104) 4398046511104&&(Cd (c 22) (-4398046511104) 4398046511104&&Cd (c 23) (-4398046511104) 4398046511104))=B:=⟨_,rfl⟩
 have HA:Asd (∀W,Calls Tryz.prog 69 #[.agg #[.int .i64 (c 21),.int .i64 (c 22),.int .i64 (c 23)],.func (.func 85) #[] #[]] W λe w'=>e=.returned (.bool B)/\Below W.heap.size W w'):=⟨λW=>by
  have k:=Pj (λi=>c (21+i)) W
  rw[<-hB];exact k⟩
 obtain⟨D,hD⟩: ∃D,Cd (c 21) 0 1099511627776=D:=⟨_,rfl⟩
 have hr:BS c 9=(B&&D):=by rw[<-hB,<-hD];rfl
 rw[hr]
 clear hr hB
 cases B
 all_goals cases D
 all_goals(
 go_enter Tryz.func84,Tryz.ntmps84
 go_wp2_with (first|(go_at_call 71;refine(BP _ _ _ _).mono ?_;rintro e w' ⟨rfl,rfl⟩)|(go_at_call 69;refine(HA.out _).mono ?_;rintro e w1 ⟨rfl,hb1⟩;obtain⟨hc1,hf1⟩:=Bz hb1;have hz1_0:w.heap.size<w1.heap.size:=Nat.lt_of_lt_of_le ZB hb1.size;have hbel:=Asd.mk (AQ (w:=w) LC hb1);clear hb1))
 all_goals(
 go_ret
 exact⟨by first|rfl|(exact Bo (by simp[*];done)),by first|exact hbel.out|exact LC⟩))
end
section
attribute [local go_sem] CE CA CF CG B_ CB CD CC Be Bc Ba
attribute [local go_sem] Ig Ih Ip
set_option maxHeartbeats 400000 in
theorem Db(x q:Int)(b:Nat)(w:World)(h:w.cell? ⟨b,0,none⟩=some (.int .i64 q)):Calls Tryz.prog 73 #[.int .i64 0,.int .i64 x,.pointer (some ⟨b,0,none⟩)] w λe w'=>e=.returned (.bool (Cd x q 1125899906842624))/\w=w':=by
 go_enter Tryz.func73,Tryz.ntmps73
 go_wp2_with (go_at_call 71;refine(BP _ _ _ _).mono ?_;rintro e w' ⟨rfl,rfl⟩)
 go_ret
 exact⟨rfl,rfl⟩
set_option maxHeartbeats 400000 in
theorem EV(x q:Int)(b:Nat)(w:World)(h:w.cell? ⟨b,1,none⟩=some (.int .i64 q)):Calls Tryz.prog 73 #[.int .i64 1,.int .i64 x,.pointer (some ⟨b,0,none⟩)] w λe w'=>e=.returned (.bool (Cd x q 1125899906842624))/\w=w':=by
 go_enter Tryz.func73,Tryz.ntmps73
 go_wp2_with (go_at_call 71;refine(BP _ _ _ _).mono ?_;rintro e w' ⟨rfl,rfl⟩)
 go_ret
 exact⟨rfl,rfl⟩
set_option maxHeartbeats 400000 in
theorem Ec(x q:Int)(b:Nat)(w:World)(h:w.cell? ⟨b,2,none⟩=some (.int .i64 q)):Calls Tryz.prog 73 #[.int .i64 2,.int .i64 x,.pointer (some ⟨b,0,none⟩)] w λe w'=>e=.returned (.bool (Cd x q 1125899906842624))/\w=w':=by
 go_enter Tryz.func73,Tryz.ntmps73
 go_wp2_with (go_at_call 71;refine(BP _ _ _ _).mono ?_;rintro e w' ⟨rfl,rfl⟩)
 go_ret
 exact⟨rfl,rfl⟩
set_option maxRecDepth 100000 in
set_option maxHeartbeats 1000000 in
theorem QH(v q:Nat->Int)(b:Nat)(w:World)(c0:w.cell? ⟨b,0,none⟩=some (.int .i64 (q 0)))(c1:w.cell? ⟨b,1,none⟩=some (.int .i64 (q 1)))(c2:w.cell? ⟨b,2,none⟩=some (.int .i64 (q 2))):
 Calls Tryz.prog 69 #[.agg #[.int .i64 (v 0),.int .i64 (v 1),.int .i64 (v 2)],.func (.func 73) #[] #[.pointer (some ⟨b,0,none⟩)]] w λe w'=>e=.returned (.bool (Cd (v 0) (q 0) 1125899906842624&&(Cd (v 1) (q 1) 1125899906842624&&Cd (v 2) (q 2) 1125899906842624)))/\Below w.heap.size w w':=by
 have hlt:=World.block_lt_of_cell? w _ c0
 simp only at hlt
 cases h0:Cd (v 0) (q 0) 1125899906842624
 ·go_enter Tryz.func69,Tryz.ntmps69
  go_wp2
  go_loop [8] (λv8=> ∃k:Int,(k=0)/\v8=.int .i64 k) (λv8=>3-(intOf v8).toNat)
  case atStart=>exact⟨0,by decide,rfl⟩
  case round=>
   obtain⟨k,hk,rfl⟩:=hrel
   obtain rfl:=hk
   go_wp2_with (go_at_call 73;refine(Db _ (q 0) b _ (by simp[go_sem, *])).mono ?_;rintro e w' ⟨rfl,rfl⟩)
   go_ret
   exact⟨by simp[*],LC⟩
 cases h1:Cd (v 1) (q 1) 1125899906842624
 ·go_enter Tryz.func69,Tryz.ntmps69
  go_wp2
  go_loop [8] (λv8=> ∃k:Int,(k=0∨k=1)/\v8=.int .i64 k) (λv8=>3-(intOf v8).toNat)
  case atStart=>exact⟨0,by decide,rfl⟩
  case round=>
   obtain⟨k,hk,rfl⟩:=hrel
   rcases hk with rfl|rfl
   ·go_wp2_with (go_at_call 73;refine(Db _ (q 0) b _ (by simp[go_sem, *])).mono ?_;rintro e w' ⟨rfl,rfl⟩)
    go_round
    case rel=>exact⟨1,by decide,rfl⟩
    case measure=>simp[intOf]
   go_wp2_with (go_at_call 73;refine(EV _ (q 1) b _ (by simp[go_sem, *])).mono ?_;rintro e w' ⟨rfl,rfl⟩)
   go_ret
   exact⟨by simp[*],LC⟩
 cases h2:Cd (v 2) (q 2) 1125899906842624
 ·go_enter Tryz.func69,Tryz.ntmps69
  go_wp2
  go_loop [8] (λv8=> ∃k:Int,(k=0∨k=1∨k=2)/\v8=.int .i64 k) (λv8=>3-(intOf v8).toNat)
  case atStart=>exact⟨0,by decide,rfl⟩
  case round=>
   obtain⟨k,hk,rfl⟩:=hrel
   rcases hk with rfl|rfl|rfl
   ·go_wp2_with (go_at_call 73;refine(Db _ (q 0) b _ (by simp[go_sem, *])).mono ?_;rintro e w' ⟨rfl,rfl⟩)
    go_round
    case rel=>exact⟨1,by decide,rfl⟩
    case measure=>simp[intOf]
   ·go_wp2_with (go_at_call 73;refine(EV _ (q 1) b _ (by simp[go_sem, *])).mono ?_;rintro e w' ⟨rfl,rfl⟩)
    go_round
    case rel=>exact⟨2,by decide,rfl⟩
    case measure=>simp[intOf]
   go_wp2_with (go_at_call 73;refine(Ec _ (q 2) b _ (by simp[go_sem, *])).mono ?_;rintro e w' ⟨rfl,rfl⟩)
   go_ret
   exact⟨by simp[*],LC⟩
 go_enter Tryz.func69,Tryz.ntmps69
 go_wp2
 go_loop [8] (λv8=> ∃k:Int,(k=0∨k=1∨k=2∨k=3)/\v8=.int .i64 k) (λv8=>3-(intOf v8).toNat)
 case atStart=>exact⟨0,by decide,rfl⟩
 case round=>
  obtain⟨k,hk,rfl⟩:=hrel
  rcases hk with rfl|rfl|rfl|rfl
  ·go_wp2_with (go_at_call 73;refine(Db _ (q 0) b _ (by simp[go_sem, *])).mono ?_;rintro e w' ⟨rfl,rfl⟩)
   go_round
   case rel=>exact⟨1,by decide,rfl⟩
   case measure=>simp[intOf]
  ·go_wp2_with (go_at_call 73;refine(EV _ (q 1) b _ (by simp[go_sem, *])).mono ?_;rintro e w' ⟨rfl,rfl⟩)
   go_round
   case rel=>exact⟨2,by decide,rfl⟩
   case measure=>simp[intOf]
  ·go_wp2_with (go_at_call 73;refine(Ec _ (q 2) b _ (by simp[go_sem, *])).mono ?_;rintro e w' ⟨rfl,rfl⟩)
   go_round
   case rel=>exact⟨3,by decide,rfl⟩
   case measure=>simp[intOf]
  go_wp2_with (go_at_call 73;refine(Ec _ (q 2) b _ (by simp[go_sem, *])).mono ?_;rintro e w' ⟨rfl,rfl⟩)
  go_ret
  exact⟨by simp[*],LC⟩
set_option maxRecDepth 100000 in
set_option maxHeartbeats 2000000 in
theorem Tl(c:Nat->Int)(w:World):Calls Tryz.prog 72 #[.agg #[.int .i64 (c 0),.int .i64 (c 1),.int .i64 (c 2),.int .i64 (c 3),.int .i64 (c 4),.int .i64 (c 5),.int .i64 (c 6),.int .i64 (c 7),.int .i64 (c 8),.int .i64 (c 9),.int .i64 (c 10),.int .i64 (c 11),.int .i64 (c 12),.int .i64 (c 13),.int .i64 (c 14),.int .i64 (c 15),.int .i64 (c 16),.int .i64 (c 17),.int .i64 (c 18),.int .i64 (c 19),.int .i64 (c 20),.int .i64 (c 21),.int .i64 (c 22),.int .i64 (c 23),.int .i64 (c 24),.int .i64 (c 25),.int .i64 (c 26),.int .i64 (c 27),.int .i64 (c 28),.int .i64 (c 29),.int .i64 (c 30)]] w λe w'=>e=.returned (.bool (BS c 2))/\Below w.heap.size w w':=by
 go_enter Tryz.func72,Tryz.ntmps72
 go_wp2_with (go_at_call 69;refine(QH (λi=>c (3+i)) c w.heap.size _ (by simp[go_sem]) (by simp[go_sem]) (by simp[go_sem])).mono ?_;rintro e w1 ⟨rfl,hb1⟩;have hbel:=Asd.mk (AQ (w:=w) LC hb1))
 go_ret
 exact⟨rfl,hbel.out⟩
end
section
attribute [local go_sem] CE CA CF CG B_ CB CD CC Be Bc Ba
attribute [local go_sem] Ig Ih Ip
set_option maxHeartbeats 800000 in
theorem Da(x p q:Int)(b:Nat)(w:World)(h:w.cell? ⟨b,11,none⟩=some (.int .i64 p))(h2:w.cell? ⟨b,14,none⟩=some (.int .i64 q)):Calls Tryz.prog 80 #[.int .i64 0,.int .i64 x,.pointer (some ⟨b,0,none⟩)] w λe w'=>e=.returned (.bool (Cd x p q))/\Below w.heap.size w w':=by
 go_enter Tryz.func80,Tryz.ntmps80
 go_wp2
 go_quiet ((go_at_call 71;exact Bu (BP _ _ _ _)))
 go_wp2
 go_ret
 exact⟨rfl,LC⟩
set_option maxHeartbeats 800000 in
theorem Eh(x p q:Int)(b:Nat)(w:World)(h:w.cell? ⟨b,12,none⟩=some (.int .i64 p))(h2:w.cell? ⟨b,15,none⟩=some (.int .i64 q)):Calls Tryz.prog 80 #[.int .i64 1,.int .i64 x,.pointer (some ⟨b,0,none⟩)] w λe w'=>e=.returned (.bool (Cd x p q))/\Below w.heap.size w w':=by
 go_enter Tryz.func80,Tryz.ntmps80
 go_wp2
 go_quiet ((go_at_call 71;exact Bu (BP _ _ _ _)))
 go_wp2
 go_ret
 exact⟨rfl,LC⟩
set_option maxHeartbeats 800000 in
theorem Ei(x p q:Int)(b:Nat)(w:World)(h:w.cell? ⟨b,13,none⟩=some (.int .i64 p))(h2:w.cell? ⟨b,16,none⟩=some (.int .i64 q)):Calls Tryz.prog 80 #[.int .i64 2,.int .i64 x,.pointer (some ⟨b,0,none⟩)] w λe w'=>e=.returned (.bool (Cd x p q))/\Below w.heap.size w w':=by
 go_enter Tryz.func80,Tryz.ntmps80
 go_wp2
 go_quiet ((go_at_call 71;exact Bu (BP _ _ _ _)))
 go_wp2
 go_ret
 exact⟨rfl,LC⟩
set_option maxRecDepth 100000 in
set_option maxHeartbeats 2000000 in
theorem O5(v p q:Nat->Int)(b:Nat)(w:World)(c0:w.cell? ⟨b,11,none⟩=some (.int .i64 (p 0)))(c1:w.cell? ⟨b,12,none⟩=some (.int .i64 (p 1)))(c2:w.cell? ⟨b,13,none⟩=some (.int .i64 (p 2)))(d0:w.cell? ⟨b,14,none⟩=some (.int .i64 (q 0)))(d1:w.cell? ⟨b,15,none⟩=some (.int .i64 (q 1)))(d2:w.cell? ⟨b,16,none⟩=some (.int .i64 (q 2))):
 Calls Tryz.prog 69 #[.agg #[.int .i64 (v 0),.int .i64 (v 1),.int .i64 (v 2)],.func (.func 80) #[] #[.pointer (some ⟨b,0,none⟩)]] w λe w'=>e=.returned (.bool (Cd (v 0) (p 0) (q 0)&&(Cd (v 1) (p 1) (q 1)&&Cd (v 2) (p 2) (q 2))))/\Below w.heap.size w w':=by
 have hlt:=World.block_lt_of_cell? w _ c0
 simp only at hlt
 have S0:=Asd.mk (St.refl w)
 have HC:=Asd.mk (And.intro (And.intro c0 (And.intro c1 c2)) (And.intro d0 (And.intro d1 d2)))
 clear c0 c1 c2 d0 d1 d2
 cases h0:Cd (v 0) (p 0) (q 0)
 ·go_enter Tryz.func69,Tryz.ntmps69
  go_wp2
  go_loopw [8] (λv8 wr=> ∃k:Int,(k=0)/\v8=.int .i64 k/\Asd (St w wr [(w.heap.size,[.int .i64 (v 0),.int .i64 (v 1),.int .i64 (v 2)])] [])) (λv8 _=>3-(intOf v8).toNat)
  case atStart=>exact⟨0,by decide,rfl,⟨St.lay S0.out _ _⟩⟩
  case round=>
   obtain⟨k,hk,rfl,S1⟩:=hrel
   obtain rfl:=hk
   go_wp2_with (go_at_call 80;refine(Da _ (p 0) (q 0) b _ (by exact(S1.out.bl.cell (p:=⟨b,11,none⟩) hlt).trans HC.out.1.1) (by exact(S1.out.bl.cell (p:=⟨b,14,none⟩) hlt).trans HC.out.2.1)).mono ?_;rintro e w1 ⟨rfl,hb1⟩;have S2:=Asd.mk (S1.out.call hb1);clear hb1)
   go_ret
   exact⟨by simp[*],by first|exact S2.out.bl|exact S1.out.bl⟩
 cases h1:Cd (v 1) (p 1) (q 1)
 ·go_enter Tryz.func69,Tryz.ntmps69
  go_wp2
  go_loopw [8] (λv8 wr=> ∃k:Int,(k=0∨k=1)/\v8=.int .i64 k/\Asd (St w wr [(w.heap.size,[.int .i64 (v 0),.int .i64 (v 1),.int .i64 (v 2)])] [])) (λv8 _=>3-(intOf v8).toNat)
  case atStart=>exact⟨0,by decide,rfl,⟨St.lay S0.out _ _⟩⟩
  case round=>
   obtain⟨k,hk,rfl,S1⟩:=hrel
   rcases hk with rfl|rfl
   ·go_wp2_with (go_at_call 80;refine(Da _ (p 0) (q 0) b _ (by exact(S1.out.bl.cell (p:=⟨b,11,none⟩) hlt).trans HC.out.1.1) (by exact(S1.out.bl.cell (p:=⟨b,14,none⟩) hlt).trans HC.out.2.1)).mono ?_;rintro e w1 ⟨rfl,hb1⟩;have S2:=Asd.mk (S1.out.call hb1);clear hb1)
    go_roundw
    case rel=>exact⟨1,by decide,rfl,S2⟩
    case measure=>simp[intOf]
   go_wp2_with (go_at_call 80;refine(Eh _ (p 1) (q 1) b _ (by exact(S1.out.bl.cell (p:=⟨b,12,none⟩) hlt).trans HC.out.1.2.1) (by exact(S1.out.bl.cell (p:=⟨b,15,none⟩) hlt).trans HC.out.2.2.1)).mono ?_;rintro e w1 ⟨rfl,hb1⟩;have S2:=Asd.mk (S1.out.call hb1);clear hb1)
   go_ret
   exact⟨by simp[*],by first|exact S2.out.bl|exact S1.out.bl⟩
 cases h2:Cd (v 2) (p 2) (q 2)
 ·go_enter Tryz.func69,Tryz.ntmps69
  go_wp2
  go_loopw [8] (λv8 wr=> ∃k:Int,(k=0∨k=1∨k=2)/\v8=.int .i64 k/\Asd (St w wr [(w.heap.size,[.int .i64 (v 0),.int .i64 (v 1),.int .i64 (v 2)])] [])) (λv8 _=>3-(intOf v8).toNat)
  case atStart=>exact⟨0,by decide,rfl,⟨St.lay S0.out _ _⟩⟩
  case round=>
   obtain⟨k,hk,rfl,S1⟩:=hrel
   rcases hk with rfl|rfl|rfl
   ·go_wp2_with (go_at_call 80;refine(Da _ (p 0) (q 0) b _ (by exact(S1.out.bl.cell (p:=⟨b,11,none⟩) hlt).trans HC.out.1.1) (by exact(S1.out.bl.cell (p:=⟨b,14,none⟩) hlt).trans HC.out.2.1)).mono ?_;rintro e w1 ⟨rfl,hb1⟩;have S2:=Asd.mk (S1.out.call hb1);clear hb1)
    go_roundw
    case rel=>exact⟨1,by decide,rfl,S2⟩
    case measure=>simp[intOf]
   ·go_wp2_with (go_at_call 80;refine(Eh _ (p 1) (q 1) b _ (by exact(S1.out.bl.cell (p:=⟨b,12,none⟩) hlt).trans HC.out.1.2.1) (by exact(S1.out.bl.cell (p:=⟨b,15,none⟩) hlt).trans HC.out.2.2.1)).mono ?_;rintro e w1 ⟨rfl,hb1⟩;have S2:=Asd.mk (S1.out.call hb1);clear hb1)
    go_roundw
    case rel=>exact⟨2,by decide,rfl,S2⟩
    case measure=>simp[intOf]
   go_wp2_with (go_at_call 80;refine(Ei _ (p 2) (q 2) b _ (by exact(S1.out.bl.cell (p:=⟨b,13,none⟩) hlt).trans HC.out.1.2.2) (by exact(S1.out.bl.cell (p:=⟨b,16,none⟩) hlt).trans HC.out.2.2.2)).mono ?_;rintro e w1 ⟨rfl,hb1⟩;have S2:=Asd.mk (S1.out.call hb1);clear hb1)
   go_ret
   exact⟨by simp[*],by first|exact S2.out.bl|exact S1.out.bl⟩
 go_enter Tryz.func69,Tryz.ntmps69
 go_wp2
 go_loopw [8] (λv8 wr=> ∃k:Int,(k=0∨k=1∨k=2∨k=3)/\v8=.int .i64 k/\Asd (St w wr [(w.heap.size,[.int .i64 (v 0),.int .i64 (v 1),.int .i64 (v 2)])] [])) (λv8 _=>3-(intOf v8).toNat)
 case atStart=>exact⟨0,by decide,rfl,⟨St.lay S0.out _ _⟩⟩
 case round=>
  obtain⟨k,hk,rfl,S1⟩:=hrel
  rcases hk with rfl|rfl|rfl|rfl
  ·go_wp2_with (go_at_call 80;refine(Da _ (p 0) (q 0) b _ (by exact(S1.out.bl.cell (p:=⟨b,11,none⟩) hlt).trans HC.out.1.1) (by exact(S1.out.bl.cell (p:=⟨b,14,none⟩) hlt).trans HC.out.2.1)).mono ?_;rintro e w1 ⟨rfl,hb1⟩;have S2:=Asd.mk (S1.out.call hb1);clear hb1)
   go_roundw
   case rel=>exact⟨1,by decide,rfl,S2⟩
   case measure=>simp[intOf]
  ·go_wp2_with (go_at_call 80;refine(Eh _ (p 1) (q 1) b _ (by exact(S1.out.bl.cell (p:=⟨b,12,none⟩) hlt).trans HC.out.1.2.1) (by exact(S1.out.bl.cell (p:=⟨b,15,none⟩) hlt).trans HC.out.2.2.1)).mono ?_;rintro e w1 ⟨rfl,hb1⟩;have S2:=Asd.mk (S1.out.call hb1);clear hb1)
   go_roundw
   case rel=>exact⟨2,by decide,rfl,S2⟩
   case measure=>simp[intOf]
  ·go_wp2_with (go_at_call 80;refine(Ei _ (p 2) (q 2) b _ (by exact(S1.out.bl.cell (p:=⟨b,13,none⟩) hlt).trans HC.out.1.2.2) (by exact(S1.out.bl.cell (p:=⟨b,16,none⟩) hlt).trans HC.out.2.2.2)).mono ?_;rintro e w1 ⟨rfl,hb1⟩;have S2:=Asd.mk (S1.out.call hb1);clear hb1)
   go_roundw
   case rel=>exact⟨3,by decide,rfl,S2⟩
   case measure=>simp[intOf]
  go_wp2_with (go_at_call 80;refine(Ei _ (p 2) (q 2) b _ (by exact(S1.out.bl.cell (p:=⟨b,13,none⟩) hlt).trans HC.out.1.2.2) (by exact(S1.out.bl.cell (p:=⟨b,16,none⟩) hlt).trans HC.out.2.2.2)).mono ?_;rintro e w1 ⟨rfl,hb1⟩;have S2:=Asd.mk (S1.out.call hb1);clear hb1)
  go_ret
  exact⟨by simp[*],by first|exact S2.out.bl|exact S1.out.bl⟩
set_option maxRecDepth 100000 in
set_option maxHeartbeats 2000000 in
theorem SS(c:Nat->Int)(w:World):Calls Tryz.prog 79 #[.agg #[.int .i64 (c 0),.int .i64 (c 1),.int .i64 (c 2),.int .i64 (c 3),.int .i64 (c 4),.int .i64 (c 5),.int .i64 (c 6),.int .i64 (c 7),.int .i64 (c 8),.int .i64 (c 9),.int .i64 (c 10),.int .i64 (c 11),.int .i64 (c 12),.int .i64 (c 13),.int .i64 (c 14),.int .i64 (c 15),.int .i64 (c 16),.int .i64 (c 17),.int .i64 (c 18),.int .i64 (c 19),.int .i64 (c 20),.int .i64 (c 21),.int .i64 (c 22),.int .i64 (c 23),.int .i64 (c 24),.int .i64 (c 25),.int .i64 (c 26),.int .i64 (c 27),.int .i64 (c 28),.int .i64 (c 29),.int .i64 (c 30)]] w λe w'=>e=.returned (.bool (BS c 6))/\Below w.heap.size w w':=by
 go_enter Tryz.func79,Tryz.ntmps79
 go_wp2_with (go_at_call 69;refine(O5 (λi=>c (8+i)) (λi=>c (11+i)) (λi=>c (14+i)) w.heap.size _ (by simp[go_sem]) (by simp[go_sem]) (by simp[go_sem]) (by simp[go_sem]) (by simp[go_sem]) (by simp[go_sem])).mono ?_;rintro e w1 ⟨rfl,hb1⟩;have hbel:=Asd.mk (AQ (w:=w) LC hb1))
 go_ret
 exact⟨rfl,hbel.out⟩
end
end Go.Proofs.YtikajapjkdloaaaGreatDoor
