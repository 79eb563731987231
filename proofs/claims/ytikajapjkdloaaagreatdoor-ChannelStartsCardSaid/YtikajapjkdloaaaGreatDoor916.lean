/- Walks of layer 13 (conf): the rules of a row and one number more. -/
import Derived.Test.YtikajapjkdloaaaGreatDoor915
namespace Go.Proofs.YtikajapjkdloaaaGreatDoor
set_option linter.unusedVariables false
set_option linter.unusedSimpArgs false
open Go.RowKit
section
attribute [local go_sem] CE CA CF CG B_ CB CD CC Be Bc Ba
set_option maxRecDepth 100000 in
set_option maxHeartbeats 2000000 in
theorem Se(c:Nat->Int)(w:World):Calls Tryz.prog 81 #[.agg #[.int .i64 (c 0),.int .i64 (c 1),.int .i64 (c 2),.int .i64 (c 3),.int .i64 (c 4),.int .i64 (c 5),.int .i64 (c 6),.int .i64 (c 7),.int .i64 (c 8),.int .i64 (c 9),.int .i64 (c 10),.int .i64 (c 11),.int .i64 (c 12),.int .i64 (c 13),.int .i64 (c 14),.int .i64 (c 15),.int .i64 (c 16),.int .i64 (c 17),.int .i64 (c 18),.int .i64 (c 19),.int .i64 (c 20),.int .i64 (c 21),.int .i64 (c 22),.int .i64 (c 23),.int .i64 (c 24),.int .i64 (c 25),.int .i64 (c 26),.int .i64 (c 27),.int .i64 (c 28),.int .i64 (c 29),.int .i64 (c 30)]] w λe w'=>e=.returned (.bool (BS c 7))/\Below w.heap.size w w':=by
 obtain⟨B,hB⟩: ∃B,(Cd (c 17) 0 72057594037927936&&(Cd (c 18) 0 72057594037927936&&Cd (c 19) 0 72057594037927936))=B:=⟨_,rfl⟩
 have HA:Asd (∀W,Calls Tryz.prog 69 #[.agg #[.int .i64 (c 17),.int .i64 (c 18),.int .i64 (c 19)],.func (.func 82) #[] #[]] W λe w'=>e=.returned (.bool B)/\Below W.heap.size W w'):=⟨λW=>by
  have k:=Px (λi=>c (17+i)) W
  rw[<-hB];exact k⟩
 obtain⟨D,hD⟩: ∃D,decide (18014398509481984<=c 17)=D:=⟨_,rfl⟩
 have hr:BS c 7=(B&&D):=by rw[<-hB,<-hD];rfl
 rw[hr]
 clear hr hB
 cases B
 all_goals cases D
 all_goals(
 go_enter Tryz.func81,Tryz.ntmps81
 go_wp2_with (first|(go_at_call 71;refine(BP _ _ _ _).mono ?_;rintro e w' ⟨rfl,rfl⟩)|(go_at_call 69;refine(HA.out _).mono ?_;rintro e w1 ⟨rfl,hb1⟩;obtain⟨hc1,hf1⟩:=Bz hb1;have hz1_0:w.heap.size<w1.heap.size:=Nat.lt_of_lt_of_le ZB hb1.size;have hbel:=Asd.mk (AQ (w:=w) LC hb1);clear hb1))
 all_goals(
 go_ret
 exact⟨by first|rfl|(exact Bo (by simp[*];done)),by first|exact hbel.out|exact LC⟩))
set_option maxRecDepth 100000 in
set_option maxHeartbeats 2000000 in
theorem Sy(c:Nat->Int)(w:World):Calls Tryz.prog 84 #[.agg #[.int .i64 (c 0),.int .i64 (c 1),.int .i64 (c 2),.int .i64 (c 3),.int .i64 (c 4),.int .i64 (c 5),.int .i64 (c 6),.int .i64 (c 7),.int .i64 (c 8),.int .i64 (c 9),.int .i64 (c 10),.int .i64 (c 11),.int .i64 (c 12),.int .i64 (c 13),.int .i64 (c 14),.int .i64 (c 15),.int .i64 (c 16),.int .i64 (c 17),.int .i64 (c 18),.int .i64 (c 19),.int .i64 (c 20),.int .i64 (c 21),.int .i64 (c 22),.int .i64 (c 23),.int .i64 (c 24),.int .i64 (c 25),.int .i64 (c 26),.int .i64 (c 27),.int .i64 (c 28),.int .i64 (c 29),.int .i64 (c 30)]] w λe w'=>e=.returned (.bool (BS c 9))/\Below w.heap.size w w':=by
 obtain⟨B,hB⟩: ∃B,(Cd (c 21) (-4398046511104) 4398046511104&&(Cd (c 22) (-4398046511104) 4398046511104&&Cd (c 23) (-4398046511104) 4398046511104))=B:=⟨_,rfl⟩
 have HA:Asd (∀W,Calls Tryz.prog 69 #[.agg #[.int .i64 (c 21),.int .i64 (c 22),.int .i64 (c 23)],.func (.func 85) #[] #[]] W λe w'=>e=.returned (.bool B)/\Below W.heap.size W w'):=⟨λW=>by
  have k:=Pj (λi=>c (21+i)) W
  rw[<-hB];exact k⟩
 obtain⟨D,hD⟩: ∃D,Cd (c 21) 0 1099511627776=D:=⟨_,rfl⟩
 have hr:BS c 9=(B&&D):=by rw[<-hB,<-hD];rfl
 rw[hr]
 clear hr hB
 cases B
 all_goals cases D
 all_goals(
 go_enter Tryz.func84,Tryz.ntmps84
 go_wp2_with (first|(go_at_call 71;refine(BP _ _ _ _).mono ?_;rintro e w' ⟨rfl,rfl⟩)|(go_at_call 69;refine(HA.out _).mono ?_;rintro e w1 ⟨rfl,hb1⟩;obtain⟨hc1,hf1⟩:=Bz hb1;have hz1_0:w.heap.size<w1.heap.size:=Nat.lt_of_lt_of_le ZB hb1.size;have hbel:=Asd.mk (AQ (w:=w) LC hb1);clear hb1))
 all_goals(
 go_ret
 exact⟨by first|rfl|(exact Bo (by simp[*];done)),by first|exact hbel.out|exact LC⟩))
end
section
attribute [local go_sem] CE CA CF CG B_ CB CD CC Be Bc Ba
attribute [local go_sem] Ig Ih Ip
set_option maxHeartbeats 400000 in
theorem Db(x q:Int)(b:Nat)(w:World)(h:w.cell? ⟨b,0,none⟩=some (.int .i64 q)):Calls Tryz.prog 73 #[.int .i64 0,.int .i64 x,.pointer (some ⟨b,0,none⟩)] w λe w'=>e=.returned (.bool (Cd x q 1125899906842624))/\w=w':=by
 go_enter Tryz.func73,Tryz.ntmps73
 go_wp2_with (go_at_call 71;refine(BP _ _ _ _).mono ?_;rintro e w' ⟨rfl,rfl⟩)
 go_ret
 exact⟨rfl,rfl⟩
set_option maxHeartbeats 400000 in
theorem EV(x q:Int)(b:Nat)(w:World)(h:w.cell? ⟨b,1,none⟩=some (.int .i64 q)):Calls Tryz.prog 73 #[.int .i64 1,.int .i64 x,.pointer (some ⟨b,0,none⟩)] w λe w'=>e=.returned (.bool (Cd x q 1125899906842624))/\w=w':=by
 go_enter Tryz.func73,Tryz.ntmps73
 go_wp2_with (go_at_call 71;refine(BP _ _ _ _).mono ?_;rintro e w' ⟨rfl,rfl⟩)
 go_ret
 exact⟨rfl,rfl⟩
set_option maxHeartbeats 400000 in
theorem Ec(x q:Int)(b:Nat)(w:World)(h:w.cell? ⟨b,2,none⟩=some (.int .i64 q)):Calls Tryz.prog 73 #[.int .i64 2,.int .i64 x,.pointer (some ⟨b,0,none⟩)] w λe w'=>e=.returned (.bool (Cd x q 1125899906842624))/\w=w':=by
 go_enter Tryz.func73,Tryz.ntmps73
 go_wp2_with (go_at_call 71;refine(BP _ _ _ _).mono ?_;rintro e w' ⟨rfl,rfl⟩)
 go_ret
 exact⟨rfl,rfl⟩
set_option maxRecDepth 100000 in
set_option maxHeartbeats 1000000 in
theorem QH(v q:Nat->Int)(b:Nat)(w:World)(c0:w.cell? ⟨b,0,none⟩=some (.int .i64 (q 0)))(c1:w.cell? ⟨b,1,none⟩=some (.int .i64 (q 1)))(c2:w.cell? ⟨b,2,none⟩=some (.int .i64 (q 2))):
 Calls Tryz.prog 69 #[.agg #[.int .i64 (v 0),.int .i64 (v 1),.int .i64 (v 2)],.func (.func 73) #[] #[.pointer (some ⟨b,0,none⟩)]] w λe w'=>e=.returned (.bool (Cd (v 0) (q 0) 1125899906842624&&(Cd (v 1) (q 1) 1125899906842624&&Cd (v 2) (q 2) 1125899906842624)))/\Below w.heap.size w w':=by
 have hlt:=World.block_lt_of_cell? w _ c0
 simp only at hlt
 cases h0:Cd (v 0) (q 0) 1125899906842624
 ·go_enter Tryz.func69,Tryz.ntmps69
  go_wp2
  go_loop [8] (λv8=> ∃k:Int,(k=0)/\v8=.int .i64 k) (λv8=>3-(intOf v8).toNat)
  case atStart=>exact⟨0,by decide,rfl⟩
  case round=>
   obtain⟨k,hk,rfl⟩:=hrel
   obtain rfl:=hk
   go_wp2_with (go_at_call 73;refine(Db _ (q 0) b _ (by simp[go_sem, *])).mono ?_;rintro e w' ⟨rfl,rfl⟩)
   go_ret
   exact⟨by simp[*],LC⟩
 cases h1:Cd (v 1) (q 1) 1125899906842624
 ·go_enter Tryz.func69,Tryz.ntmps69
  go_wp2
  go_loop [8] (λv8=> ∃k:Int,(k=0∨k=1)/\v8=.int .i64 k) (λv8=>3-(intOf v8).toNat)
  case atStart=>exact⟨0,by decide,rfl⟩
  case round=>
   obtain⟨k,hk,rfl⟩:=hrel
   rcases hk with rfl|rfl
   ·go_wp2_with (go_at_call 73;refine(Db _ (q 0) b _ (by simp[go_sem, *])).mono ?_;rintro e w' ⟨rfl,rfl⟩)
    go_round
    case rel=>exact⟨1,by decide,rfl⟩
    case measure=>simp[intOf]
   go_wp2_with (go_at_call 73;refine(EV _ (q 1) b _ (by simp[go_sem, *])).mono ?_;rintro e w' ⟨rfl,rfl⟩)
   go_ret
   exact⟨by simp[*],LC⟩
 cases h2:Cd (v 2) (q 2) 1125899906842624
 ·go_enter Tryz.func69,Tryz.ntmps69
  go_wp2
  go_loop [8] (λv8=> ∃k:Int,(k=0∨k=1∨k=2)/\v8=.int .i64 k) (λv8=>3-(intOf v8).toNat)
  case atStart=>exact⟨0,by decide,rfl⟩
  case round=>
   obtain⟨k,hk,rfl⟩:=hrel
   rcases hk with rfl|rfl|rfl
   ·go_wp2_with (go_at_call 73;refine(Db _ (q 0) b _ (by simp[go_sem, *])).mono ?_;rintro e w' ⟨rfl,rfl⟩)
    go_round
    case rel=>exact⟨1,by decide,rfl⟩
    case measure=>simp[intOf]
   ·go_wp2_with (go_at_call 73;refine(EV _ (q 1) b _ (by simp[go_sem, *])).mono ?_;rintro e w' ⟨rfl,rfl⟩)
    go_round
    case rel=>exact⟨2,by decide,rfl⟩
    case measure=>simp[intOf]
   go_wp2_with (go_at_call 73;refine(Ec _ (q 2) b _ (by simp[go_sem, *])).mono ?_;rintro e w' ⟨rfl,rfl⟩)
   go_ret
   exact⟨by simp[*],LC⟩
 go_enter Tryz.func69,Tryz.ntmps69
 go_wp2
 go_loop [8] (λv8=> ∃k:Int,(k=0∨k=1∨k=2∨k=3)/\v8=.int .i64 k) (λv8=>3-(intOf v8).toNat)
 case atStart=>exact⟨0,by decide,rfl⟩
 case round=>
  obtain⟨k,hk,rfl⟩:=hrel
  rcases hk with rfl|rfl|rfl|rfl
  ·go_wp2_with (go_at_call 73;refine(Db _ (q 0) b _ (by simp[go_sem, *])).mono ?_;rintro e w' ⟨rfl,rfl⟩)
   go_round
   case rel=>exact⟨1,by decide,rfl⟩
   case measure=>simp[intOf]
  ·go_wp2_with (go_at_call 73;refine(EV _ (q 1) b _ (by simp[go_sem, *])).mono ?_;rintro e w' ⟨rfl,rfl⟩)
   go_round
   case rel=>exact⟨2,by decide,rfl⟩
   case measure=>simp[intOf]
  ·go_wp2_with (go_at_call 73;refine(Ec _ (q 2) b _ (by simp[go_sem, *])).mono ?_;rintro e w' ⟨rfl,rfl⟩)
   go_round
   case rel=>exact⟨3,by decide,rfl⟩
   case measure=>simp[intOf]
  go_wp2_with (go_at_call 73;refine(Ec _ (q 2) b _ (by simp[go_sem, *])).mono ?_;rintro e w' ⟨rfl,rfl⟩)
  go_ret
  exact⟨by simp[*],LC⟩
set_option maxRecDepth 100000 in
set_option maxHeartbeats 2000000 in
theorem Tl(c:Nat->Int)(w:World):Calls Tryz.prog 72 #[.agg #[.int .i64 (c 0),.int .i64 (c 1),.int .i64 (c 2),.int .i64 (c 3),.int .i64 (c 4),.int .i64 (c 5),.int .i64 (c 6),.int .i64 (c 7),.int .i64 (c 8),.int .i64 (c 9),.int .i64 (c 10),.int .i64 (c 11),.int .i64 (c 12),.int .i64 (c 13),.int .i64 (c 14),.int .i64 (c 15),.int .i64 (c 16),.int .i64 (c 17),.int .i64 (c 18),.int .i64 (c 19),.int .i64 (c 20),.int .i64 (c 21),.int .i64 (c 22),.int .i64 (c 23),.int .i64 (c 24),.int .i64 (c 25),.int .i64 (c 26),.int .i64 (c 27),.int .i64 (c 28),.int .i64 (c 29),.int .i64 (c 30)]] w λe w'=>e=.returned (.bool (BS c 2))/\Below w.heap.size w w':=by
 go_enter Tryz.func72,Tryz.ntmps72
 go_wp2_with (go_at_call 69;refine(QH (λi=>c (3+i)) c w.heap.size _ (by simp[go_sem]) (by simp[go_sem]) (by simp[go_sem])).mono ?_;rintro e w1 ⟨rfl,hb1⟩;have hbel:=Asd.mk (AQ (w:=w) LC hb1))
 go_ret
 exact⟨rfl,hbel.out⟩
end
section
attribute [local go_sem] CE CA CF CG B_ CB CD CC Be Bc Ba
attribute [local go_sem] Ig Ih Ip
set_option maxHeartbeats 800000 in
theorem Da(x p q:Int)(b:Nat)(w:World)(h:w.cell? ⟨b,11,none⟩=some (.int .i64 p))(h2:w.cell? ⟨b,14,none⟩=some (.int .i64 q)):Calls Tryz.prog 80 #[.int .i64 0,.int .i64 x,.pointer (some ⟨b,0,none⟩)] w λe w'=>e=.returned (.bool (Cd x p q))/\Below w.heap.size w w':=by
 go_enter Tryz.func80,Tryz.ntmps80
 go_wp2
 go_quiet ((go_at_call 71;exact Bu (BP _ _ _ _)))
 go_wp2
 go_ret
 exact⟨rfl,LC⟩
set_option maxHeartbeats 800000 in
theorem Eh(x p q:Int)(b:Nat)(w:World)(h:w.cell? ⟨b,12,none⟩=some (.int .i64 p))(h2:w.cell? ⟨b,15,none⟩=some (.int .i64 q)):Calls Tryz.prog 80 #[.int .i64 1,.int .i64 x,.pointer (some ⟨b,0,none⟩)] w λe w'=>e=.returned (.bool (Cd x p q))/\Below w.heap.size w w':=by
 go_enter Tryz.func80,Tryz.ntmps80
 go_wp2
 go_quiet ((go_at_call 71;exact Bu (BP _ _ _ _)))
 go_wp2
 go_ret
 exact⟨rfl,LC⟩
set_option maxHeartbeats 800000 in
theorem Ei(x p q:Int)(b:Nat)(w:World)(h:w.cell? ⟨b,13,none⟩=some (.int .i64 p))(h2:w.cell? ⟨b,16,none⟩=some (.int .i64 q)):Calls Tryz.prog 80 #[.int .i64 2,.int .i64 x,.pointer (some ⟨b,0,none⟩)] w λe w'=>e=.returned (.bool (Cd x p q))/\Below w.heap.size w w':=by
 go_enter Tryz.func80,Tryz.ntmps80
 go_wp2
 go_quiet ((go_at_call 71;exact Bu (BP _ _ _ _)))
 go_wp2
 go_ret
 exact⟨rfl,LC⟩
set_option maxRecDepth 100000 in
set_option maxHeartbeats 2000000 in
theorem O5(v p q:Nat->Int)(b:Nat)(w:World)(c0:w.cell? ⟨b,11,none⟩=some (.int .i64 (p 0)))(c1:w.cell? ⟨b,12,none⟩=some (.int .i64 (p 1)))(c2:w.cell? ⟨b,13,none⟩=some (.int .i64 (p 2)))(d0:w.cell? ⟨b,14,none⟩=some (.int .i64 (q 0)))(d1:w.cell? ⟨b,15,none⟩=some (.int .i64 (q 1)))(d2:w.cell? ⟨b,16,none⟩=some (.int .i64 (q 2))):
 Calls Tryz.prog 69 #[.agg #[.int .i64 (v 0),.int .i64 (v 1),.int .i64 (v 2)],.func (.func 80) #[] #[.pointer (some ⟨b,0,none⟩)]] w λe w'=>e=.returned (.bool (Cd (v 0) (p 0) (q 0)&&(Cd (v 1) (p 1) (q 1)&&Cd (v 2) (p 2) (q 2))))/\Below w.heap.size w w':=by
 have hlt:=World.block_lt_of_cell? w _ c0
 simp only at hlt
 have S0:=Asd.mk (St.refl w)
 have HC:=Asd.mk (And.intro (And.intro c0 (And.intro c1 c2)) (And.intro d0 (And.intro d1 d2)))
 clear c0 c1 c2 d0 d1 d2
 cases h0:Cd (v 0) (p 0) (q 0)
 ·go_enter Tryz.func69,Tryz.ntmps69
  go_wp2
  go_loopw [8] (λv8 wr=> ∃k:Int,(k=0)/\v8=.int .i64 k/\Asd (St w wr [(w.heap.size,[.int .i64 (v 0),.int .i64 (v 1),.int .i64 (v 2)])] [])) (λv8 _=>3-(intOf v8).toNat)
  case atStart=>exact⟨0,by decide,rfl,⟨St.lay S0.out _ _⟩⟩
  case round=>
   obtain⟨k,hk,rfl,S1⟩:=hrel
   obtain rfl:=hk
   go_wp2_with (go_at_call 80;refine(Da _ (p 0) (q 0) b _ (by exact(S1.out.bl.cell (p:=⟨b,11,none⟩) hlt).trans HC.out.1.1) (by exact(S1.out.bl.cell (p:=⟨b,14,none⟩) hlt).trans HC.out.2.1)).mono ?_;rintro e w1 ⟨rfl,hb1⟩;have S2:=Asd.mk (S1.out.call hb1);clear hb1)
   go_ret
   exact⟨by simp[*],by first|exact S2.out.bl|exact S1.out.bl⟩
 cases h1:Cd (v 1) (p 1) (q 1)
 ·go_enter Tryz.func69,Tryz.ntmps69
  go_wp2
  go_loopw [8] (λv8 wr=> ∃k:Int,(k=0∨k=1)/\v8=.int .i64 k/\Asd (St w wr [(w.heap.size,[.int .i64 (v 0),.int .i64 (v 1),.int .i64 (v 2)])] [])) (λv8 _=>3-(intOf v8).toNat)
  case atStart=>exact⟨0,by decide,rfl,⟨St.lay S0.out _ _⟩⟩
  case round=>
   obtain⟨k,hk,rfl,S1⟩:=hrel
   rcases hk with rfl|rfl
   ·go_wp2_with (go_at_call 80;refine(Da _ (p 0) (q 0) b _ (by exact(S1.out.bl.cell (p:=⟨b,11,none⟩) hlt).trans HC.out.1.1) (by exact(S1.out.bl.cell (p:=⟨b,14,none⟩) hlt).trans HC.out.2.1)).mono ?_;rintro e w1 ⟨rfl,hb1⟩;have S2:=Asd.mk (S1.out.call hb1);clear hb1)
    go_roundw
    case rel=>exact⟨1,by decide,rfl,S2⟩
    case measure=>simp[intOf]
   go_wp2_with (go_at_call 80;refine(Eh _ (p 1) (q 1) b _ (by exact(S1.out.bl.cell (p:=⟨b,12,none⟩) hlt).trans HC.out.1.2.1) (by exact(S1.out.bl.cell (p:=⟨b,15,none⟩) hlt).trans HC.out.2.2.1)).mono ?_;rintro e w1 ⟨rfl,hb1⟩;have S2:=Asd.mk (S1.out.call hb1);clear hb1)
   go_ret
   exact⟨by simp[*],by first|exact S2.out.bl|exact S1.out.bl⟩
 cases h2:Cd (v 2) (p 2) (q 2)
 ·go_enter Tryz.func69,Tryz.ntmps69
  go_wp2
  go_loopw [8] (λv8 wr=> ∃k:Int,(k=0∨k=1∨k=2)/\v8=.int .i64 k/\Asd (St w wr [(w.heap.size,[.int .i64 (v 0),.int .i64 (v 1),.int .i64 (v 2)])] [])) (λv8 _=>3-(intOf v8).toNat)
  case atStart=>exact⟨0,by decide,rfl,⟨St.lay S0.out _ _⟩⟩
  case round=>
   obtain⟨k,hk,rfl,S1⟩:=hrel
   rcases hk with rfl|rfl|rfl
   ·go_wp2_with (go_at_call 80;refine(Da _ (p 0) (q 0) b _ (by exact(S1.out.bl.cell (p:=⟨b,11,none⟩) hlt).trans HC.out.1.1) (by exact(S1.out.bl.cell (p:=⟨b,14,none⟩) hlt).trans HC.out.2.1)).mono ?_;rintro e w1 ⟨rfl,hb1⟩;have S2:=Asd.mk (S1.out.call hb1);clear hb1)
    go_roundw
    case rel=>exact⟨1,by decide,rfl,S2⟩
    case measure=>simp[intOf]
   ·go_wp2_with (go_at_call 80;refine(Eh _ (p 1) (q 1) b _ (by exact(S1.out.bl.cell (p:=⟨b,12,none⟩) hlt).trans HC.out.1.2.1) (by exact(S1.out.bl.cell (p:=⟨b,15,none⟩) hlt).trans HC.out.2.2.1)).mono ?_;rintro e w1 ⟨rfl,hb1⟩;have S2:=Asd.mk (S1.out.call hb1);clear hb1)
    go_roundw
    case rel=>exact⟨2,by decide,rfl,S2⟩
    case measure=>simp[intOf]
   go_wp2_with (go_at_call 80;refine(Ei _ (p 2) (q 2) b _ (by exact(S1.out.bl.cell (p:=⟨b,13,none⟩) hlt).trans HC.out.1.2.2) (by exact(S1.out.bl.cell (p:=⟨b,16,none⟩) hlt).trans HC.out.2.2.2)).mono ?_;rintro e w1 ⟨rfl,hb1⟩;have S2:=Asd.mk (S1.out.call hb1);clear hb1)
   go_ret
   exact⟨by simp[*],by first|exact S2.out.bl|exact S1.out.bl⟩
 go_enter Tryz.func69,Tryz.ntmps69
 go_wp2
 go_loopw [8] (λv8 wr=> ∃k:Int,(k=0∨k=1∨k=2∨k=3)/\v8=.int .i64 k/\Asd (St w wr [(w.heap.size,[.int .i64 (v 0),.int .i64 (v 1),.int .i64 (v 2)])] [])) (λv8 _=>3-(intOf v8).toNat)
 case atStart=>exact⟨0,by decide,rfl,⟨St.lay S0.out _ _⟩⟩
 case round=>
  obtain⟨k,hk,rfl,S1⟩:=hrel
  rcases hk with rfl|rfl|rfl|rfl
  ·go_wp2_with (go_at_call 80;refine(Da _ (p 0) (q 0) b _ (by exact(S1.out.bl.cell (p:=⟨b,11,none⟩) hlt).trans HC.out.1.1) (by exact(S1.out.bl.cell (p:=⟨b,14,none⟩) hlt).trans HC.out.2.1)).mono ?_;rintro e w1 ⟨rfl,hb1⟩;have S2:=Asd.mk (S1.out.call hb1);clear hb1)
   go_roundw
   case rel=>exact⟨1,by decide,rfl,S2⟩
   case measure=>simp[intOf]
  ·go_wp2_with (go_at_call 80;refine(Eh _ (p 1) (q 1) b _ (by exact(S1.out.bl.cell (p:=⟨b,12,none⟩) hlt).trans HC.out.1.2.1) (by exact(S1.out.bl.cell (p:=⟨b,15,none⟩) hlt).trans HC.out.2.2.1)).mono ?_;rintro e w1 ⟨rfl,hb1⟩;have S2:=Asd.mk (S1.out.call hb1);clear hb1)
   go_roundw
   case rel=>exact⟨2,by decide,rfl,S2⟩
   case measure=>simp[intOf]
  ·go_wp2_with (go_at_call 80;refine(Ei _ (p 2) (q 2) b _ (by exact(S1.out.bl.cell (p:=⟨b,13,none⟩) hlt).trans HC.out.1.2.2) (by exact(S1.out.bl.cell (p:=⟨b,16,none⟩) hlt).trans HC.out.2.2.2)).mono ?_;rintro e w1 ⟨rfl,hb1⟩;have S2:=Asd.mk (S1.out.call hb1);clear hb1)
   go_roundw
   case rel=>exact⟨3,by decide,rfl,S2⟩
   case measure=>simp[intOf]
  go_wp2_with (go_at_call 80;refine(Ei _ (p 2) (q 2) b _ (by exact(S1.out.bl.cell (p:=⟨b,13,none⟩) hlt).trans HC.out.1.2.2) (by exact(S1.out.bl.cell (p:=⟨b,16,none⟩) hlt).trans HC.out.2.2.2)).mono ?_;rintro e w1 ⟨rfl,hb1⟩;have S2:=Asd.mk (S1.out.call hb1);clear hb1)
  go_ret
  exact⟨by simp[*],by first|exact S2.out.bl|exact S1.out.bl⟩
set_option maxRecDepth 100000 in
set_option maxHeartbeats 2000000 in
theorem SS(c:Nat->Int)(w:World):Calls Tryz.prog 79 #[.agg #[.int .i64 (c 0),.int .i64 (c 1),.int .i64 (c 2),.int .i64 (c 3),.int .i64 (c 4),.int .i64 (c 5),.int .i64 (c 6),.int .i64 (c 7),.int .i64 (c 8),.int .i64 (c 9),.int .i64 (c 10),.int .i64 (c 11),.int .i64 (c 12),.int .i64 (c 13),.int .i64 (c 14),.int .i64 (c 15),.int .i64 (c 16),.int .i64 (c 17),.int .i64 (c 18),.int .i64 (c 19),.int .i64 (c 20),.int .i64 (c 21),.int .i64 (c 22),.int .i64 (c 23),.int .i64 (c 24),.int .i64 (c 25),.int .i64 (c 26),.int .i64 (c 27),.int .i64 (c 28),.int .i64 (c 29),.int .i64 (c 30)]] w λe w'=>e=.returned (.bool (BS c 6))/\Below w.heap.size w w':=by
 go_enter Tryz.func79,Tryz.ntmps79
 go_wp2_with (go_at_call 69;refine(O5 (λi=>c (8+i)) (λi=>c (11+i)) (λi=>c (14+i)) w.heap.size _ (by simp[go_sem]) (by simp[go_sem]) (by simp[go_sem]) (by simp[go_sem]) (by simp[go_sem]) (by simp[go_sem])).mono ?_;rintro e w1 ⟨rfl,hb1⟩;have hbel:=Asd.mk (AQ (w:=w) LC hb1))
 go_ret
 exact⟨rfl,hbel.out⟩
end
section
attribute [local go_sem] CE CA CF CG B_ CB CD CC Be Bc Ba
theorem ET{f g:Int}(h:LT f g=true):decide (f<0)=false/\decide (g<f)=false/\AL g=true:=by
 have:=of_decide_eq_true h;simp[AL];omega
theorem Gj{f g:Int}(h:LT f g=false):decide (f<0)=true∨(decide (f<0)=false/\decide (g<f)=true)∨(decide (f<0)=false/\decide (g<f)=false/\AL g=false):=by
 have:=of_decide_eq_false h;simp[AL];omega
set_option maxRecDepth 100000 in
set_option maxHeartbeats 4000000 in
theorem ME(f g:Nat->Int)(w:World):Calls Tryz.prog 77 #[.agg #[.int .i64 (f 0),.int .i64 (f 1),.int .i64 (f 2)],.agg #[.int .i64 (g 0),.int .i64 (g 1),.int .i64 (g 2)]] w λe w'=>e=.returned (.bool (E5 f g))/\Below w.heap.size w w':=by
 have S0:=Asd.mk (St.refl w)
 cases h0:LT (f 0) (g 0)
 ·go_enter Tryz.func77,Tryz.ntmps77
  go_wp2
  go_loopw [6] (λv6 wr=> ∃k:Int,(k=0)/\v6=.int .i64 k/\Asd (St w wr [(w.heap.size+1,[.int .i64 (g 0),.int .i64 (g 1),.int .i64 (g 2)]),(w.heap.size,[.int .i64 (f 0),.int .i64 (f 1),.int .i64 (f 2)])] [])) (λv6 _=>3-(intOf v6).toNat)
  case atStart=>exact⟨0,by decide,rfl,⟨by refine St.layAt (by simp;done) ?_;refine St.layAt (by simp;done) ?_;exact S0.out⟩⟩
  case round=>
   obtain⟨k,hk,rfl,S1⟩:=hrel
   have C1:=S1.out.facts
   simp only[facts,apart,Az,Nat.zero_add,Nat.reduceAdd,and_true]at C1
   obtain rfl:=hk
   rcases Gj h0 with a1|⟨a1,a2⟩|⟨a1,a2,a3⟩
   all_goals(go_wp2;go_quiet ((go_at_call 140;exact Bu (As _ _)));go_wp2;go_ret;exact⟨by simp[E5, *],by exact AJ S1.out.bl _⟩)
 cases h1:LT (f 1) (g 1)
 ·go_enter Tryz.func77,Tryz.ntmps77
  go_wp2
  go_loopw [6] (λv6 wr=> ∃k:Int,(k=0∨k=1)/\v6=.int .i64 k/\Asd (St w wr [(w.heap.size+1,[.int .i64 (g 0),.int .i64 (g 1),.int .i64 (g 2)]),(w.heap.size,[.int .i64 (f 0),.int .i64 (f 1),.int .i64 (f 2)])] [])) (λv6 _=>3-(intOf v6).toNat)
  case atStart=>exact⟨0,by decide,rfl,⟨by refine St.layAt (by simp;done) ?_;refine St.layAt (by simp;done) ?_;exact S0.out⟩⟩
  case round=>
   obtain⟨k,hk,rfl,S1⟩:=hrel
   have C1:=S1.out.facts
   simp only[facts,apart,Az,Nat.zero_add,Nat.reduceAdd,and_true]at C1
   rcases hk with rfl|rfl
   ·obtain⟨a1,a2,a3⟩:=ET h0
    go_wp2
    go_quiet ((go_at_call 140;exact Bu (As _ _)))
    go_wp2
    go_roundw
    case rel=>exact⟨1,by decide,rfl,⟨St.drewN S1.out _⟩⟩
    case measure=>simp[intOf]
   rcases Gj h1 with a1|⟨a1,a2⟩|⟨a1,a2,a3⟩
   all_goals(go_wp2;go_quiet ((go_at_call 140;exact Bu (As _ _)));go_wp2;go_ret;exact⟨by simp[E5, *],by exact AJ S1.out.bl _⟩)
 cases h2:LT (f 2) (g 2)
 ·go_enter Tryz.func77,Tryz.ntmps77
  go_wp2
  go_loopw [6] (λv6 wr=> ∃k:Int,(k=0∨k=1∨k=2)/\v6=.int .i64 k/\Asd (St w wr [(w.heap.size+1,[.int .i64 (g 0),.int .i64 (g 1),.int .i64 (g 2)]),(w.heap.size,[.int .i64 (f 0),.int .i64 (f 1),.int .i64 (f 2)])] [])) (λv6 _=>3-(intOf v6).toNat)
  case atStart=>exact⟨0,by decide,rfl,⟨by refine St.layAt (by simp;done) ?_;refine St.layAt (by simp;done) ?_;exact S0.out⟩⟩
  case round=>
   obtain⟨k,hk,rfl,S1⟩:=hrel
   have C1:=S1.out.facts
   simp only[facts,apart,Az,Nat.zero_add,Nat.reduceAdd,and_true]at C1
   rcases hk with rfl|rfl|rfl
   ·obtain⟨a1,a2,a3⟩:=ET h0
    go_wp2
    go_quiet ((go_at_call 140;exact Bu (As _ _)))
    go_wp2
    go_roundw
    case rel=>exact⟨1,by decide,rfl,⟨St.drewN S1.out _⟩⟩
    case measure=>simp[intOf]
   ·obtain⟨a1,a2,a3⟩:=ET h1
    go_wp2
    go_quiet ((go_at_call 140;exact Bu (As _ _)))
    go_wp2
    go_roundw
    case rel=>exact⟨2,by decide,rfl,⟨St.drewN S1.out _⟩⟩
    case measure=>simp[intOf]
   rcases Gj h2 with a1|⟨a1,a2⟩|⟨a1,a2,a3⟩
   all_goals(go_wp2;go_quiet ((go_at_call 140;exact Bu (As _ _)));go_wp2;go_ret;exact⟨by simp[E5, *],by exact AJ S1.out.bl _⟩)
 go_enter Tryz.func77,Tryz.ntmps77
 go_wp2
 go_loopw [6] (λv6 wr=> ∃k:Int,(k=0∨k=1∨k=2∨k=3)/\v6=.int .i64 k/\Asd (St w wr [(w.heap.size+1,[.int .i64 (g 0),.int .i64 (g 1),.int .i64 (g 2)]),(w.heap.size,[.int .i64 (f 0),.int .i64 (f 1),.int .i64 (f 2)])] [])) (λv6 _=>3-(intOf v6).toNat)
 case atStart=>exact⟨0,by decide,rfl,⟨by refine St.layAt (by simp;done) ?_;refine St.layAt (by simp;done) ?_;exact S0.out⟩⟩
 case round=>
  obtain⟨k,hk,rfl,S1⟩:=hrel
  have C1:=S1.out.facts
  simp only[facts,apart,Az,Nat.zero_add,Nat.reduceAdd,and_true]at C1
  rcases hk with rfl|rfl|rfl|rfl
  ·obtain⟨a1,a2,a3⟩:=ET h0
   go_wp2
   go_quiet ((go_at_call 140;exact Bu (As _ _)))
   go_wp2
   go_roundw
   case rel=>exact⟨1,by decide,rfl,⟨St.drewN S1.out _⟩⟩
   case measure=>simp[intOf]
  ·obtain⟨a1,a2,a3⟩:=ET h1
   go_wp2
   go_quiet ((go_at_call 140;exact Bu (As _ _)))
   go_wp2
   go_roundw
   case rel=>exact⟨2,by decide,rfl,⟨St.drewN S1.out _⟩⟩
   case measure=>simp[intOf]
  ·obtain⟨a1,a2,a3⟩:=ET h2
   go_wp2
   go_quiet ((go_at_call 140;exact Bu (As _ _)))
   go_wp2
   go_roundw
   case rel=>exact⟨3,by decide,rfl,⟨St.drewN S1.out _⟩⟩
   case measure=>simp[intOf]
  go_wp2
  go_ret
  exact⟨by simp[E5, *],S1.out.bl⟩
end
section
attribute [local go_sem] CE CA CF CG B_ CB CD CC Be Bc Ba
attribute [local go_sem] Ig Ih Ip
set_option maxHeartbeats 400000 in
theorem B6(i x:Int)(w:World):Calls Tryz.prog 78 #[.int .i64 i,.int .i64 x] w λe w'=>e=.returned (.bool (decide (x<=72057594037927936)))/\w=w':=by
 go_enter Tryz.func78,Tryz.ntmps78
 go_wp2
 go_ret
 exact⟨rfl,rfl⟩
set_option maxRecDepth 100000 in
set_option maxHeartbeats 1000000 in
theorem Pg(v:Nat->Int)(w:World):
 Calls Tryz.prog 69 #[.agg #[.int .i64 (v 0),.int .i64 (v 1),.int .i64 (v 2)],.func (.func 78) #[] #[]] w λe w'=>e=.returned (.bool (decide ((v 0)<=72057594037927936)&&(decide ((v 1)<=72057594037927936)&&decide ((v 2)<=72057594037927936))))/\Below w.heap.size w w':=by
 cases h0:decide ((v 0)<=72057594037927936)
 ·go_enter Tryz.func69,Tryz.ntmps69
  go_wp2
  go_loop [8] (λv8=> ∃k:Int,(k=0)/\v8=.int .i64 k) (λv8=>3-(intOf v8).toNat)
  case atStart=>exact⟨0,by decide,rfl⟩
  case round=>
   obtain⟨k,hk,rfl⟩:=hrel
   obtain rfl:=hk
   go_wp2_with (go_at_call 78;refine(B6 _ _ _).mono ?_;rintro e w' ⟨rfl,rfl⟩)
   go_ret
   exact⟨by simp[*],LC⟩
 cases h1:decide ((v 1)<=72057594037927936)
 ·go_enter Tryz.func69,Tryz.ntmps69
  go_wp2
  go_loop [8] (λv8=> ∃k:Int,(k=0∨k=1)/\v8=.int .i64 k) (λv8=>3-(intOf v8).toNat)
  case atStart=>exact⟨0,by decide,rfl⟩
  case round=>
   obtain⟨k,hk,rfl⟩:=hrel
   rcases hk with rfl|rfl
   ·go_wp2_with (go_at_call 78;refine(B6 _ _ _).mono ?_;rintro e w' ⟨rfl,rfl⟩)
    go_round
    case rel=>exact⟨1,by decide,rfl⟩
    case measure=>simp[intOf]
   go_wp2_with (go_at_call 78;refine(B6 _ _ _).mono ?_;rintro e w' ⟨rfl,rfl⟩)
   go_ret
   exact⟨by simp[*],LC⟩
 cases h2:decide ((v 2)<=72057594037927936)
 ·go_enter Tryz.func69,Tryz.ntmps69
  go_wp2
  go_loop [8] (λv8=> ∃k:Int,(k=0∨k=1∨k=2)/\v8=.int .i64 k) (λv8=>3-(intOf v8).toNat)
  case atStart=>exact⟨0,by decide,rfl⟩
  case round=>
   obtain⟨k,hk,rfl⟩:=hrel
   rcases hk with rfl|rfl|rfl
   ·go_wp2_with (go_at_call 78;refine(B6 _ _ _).mono ?_;rintro e w' ⟨rfl,rfl⟩)
    go_round
    case rel=>exact⟨1,by decide,rfl⟩
    case measure=>simp[intOf]
   ·go_wp2_with (go_at_call 78;refine(B6 _ _ _).mono ?_;rintro e w' ⟨rfl,rfl⟩)
    go_round
    case rel=>exact⟨2,by decide,rfl⟩
    case measure=>simp[intOf]
   go_wp2_with (go_at_call 78;refine(B6 _ _ _).mono ?_;rintro e w' ⟨rfl,rfl⟩)
   go_ret
   exact⟨by simp[*],LC⟩
 go_enter Tryz.func69,Tryz.ntmps69
 go_wp2
 go_loop [8] (λv8=> ∃k:Int,(k=0∨k=1∨k=2∨k=3)/\v8=.int .i64 k) (λv8=>3-(intOf v8).toNat)
 case atStart=>exact⟨0,by decide,rfl⟩
 case round=>
  obtain⟨k,hk,rfl⟩:=hrel
  rcases hk with rfl|rfl|rfl|rfl
  ·go_wp2_with (go_at_call 78;refine(B6 _ _ _).mono ?_;rintro e w' ⟨rfl,rfl⟩)
   go_round
   case rel=>exact⟨1,by decide,rfl⟩
   case measure=>simp[intOf]
  ·go_wp2_with (go_at_call 78;refine(B6 _ _ _).mono ?_;rintro e w' ⟨rfl,rfl⟩)
   go_round
   case rel=>exact⟨2,by decide,rfl⟩
   case measure=>simp[intOf]
  ·go_wp2_with (go_at_call 78;refine(B6 _ _ _).mono ?_;rintro e w' ⟨rfl,rfl⟩)
   go_round
   case rel=>exact⟨3,by decide,rfl⟩
   case measure=>simp[intOf]
  go_wp2_with (go_at_call 78;refine(B6 _ _ _).mono ?_;rintro e w' ⟨rfl,rfl⟩)
  go_ret
  exact⟨by simp[*],LC⟩
set_option maxRecDepth 100000 in
set_option maxHeartbeats 2000000 in
theorem Sc(c:Nat->Int)(w:World):Calls Tryz.prog 76 #[.agg #[.int .i64 (c 0),.int .i64 (c 1),.int .i64 (c 2),.int .i64 (c 3),.int .i64 (c 4),.int .i64 (c 5),.int .i64 (c 6),.int .i64 (c 7),.int .i64 (c 8),.int .i64 (c 9),.int .i64 (c 10),.int .i64 (c 11),.int .i64 (c 12),.int .i64 (c 13),.int .i64 (c 14),.int .i64 (c 15),.int .i64 (c 16),.int .i64 (c 17),.int .i64 (c 18),.int .i64 (c 19),.int .i64 (c 20),.int .i64 (c 21),.int .i64 (c 22),.int .i64 (c 23),.int .i64 (c 24),.int .i64 (c 25),.int .i64 (c 26),.int .i64 (c 27),.int .i64 (c 28),.int .i64 (c 29),.int .i64 (c 30)]] w λe w'=>e=.returned (.bool (BS c 5))/\Below w.heap.size w w':=by
 obtain⟨M,hM⟩: ∃M,E5 (λi=>c (11+i)) (λi=>c (14+i))=M:=⟨_,rfl⟩
 have HM:Asd (∀W,Calls Tryz.prog 77 #[.agg #[.int .i64 (c 11),.int .i64 (c 12),.int .i64 (c 13)],.agg #[.int .i64 (c 14),.int .i64 (c 15),.int .i64 (c 16)]] W λe w'=>e=.returned (.bool M)/\Below W.heap.size W w'):=⟨λW=>by
  have k:=ME (λi=>c (11+i)) (λi=>c (14+i)) W
  rw[<-hM];exact k⟩
 obtain⟨B,hB⟩: ∃B,(decide (c 14<=72057594037927936)&&(decide (c 15<=72057594037927936)&&decide (c 16<=72057594037927936)))=B:=⟨_,rfl⟩
 have HA:Asd (∀W,Calls Tryz.prog 69 #[.agg #[.int .i64 (c 14),.int .i64 (c 15),.int .i64 (c 16)],.func (.func 78) #[] #[]] W λe w'=>e=.returned (.bool B)/\Below W.heap.size W w'):=⟨λW=>by
  have k:=Pg (λi=>c (14+i)) W
  rw[<-hB];exact k⟩
 have hr:BS c 5=(M&&B):=by rw[<-hB,<-hM];rfl
 rw[hr]
 clear hr hB hM
 have S0:=Asd.mk (St.refl w)
 cases M
 all_goals cases B
 all_goals(
 go_enter Tryz.func76,Tryz.ntmps76
 go_wp2_with (first
  |(go_at_call 69;replace S1:=S1;refine(HA.out _).mono ?_;rintro e w2 ⟨rfl,hb2⟩;apply St.step (w0:=w) (hb:=hb2);(focus(with_reducible repeat (first|exact S1.out|apply St.lay|apply St.drew|apply St.drewN)));intro S2;(try simp only[Gs,Ik,Hb]at S2);clear hb2 S1;(try clear C1);have C2:=S2.out.facts;simp only[facts,apart,Az,Nat.zero_add,Nat.reduceAdd,and_true]at C2)
  |(go_at_call 77;replace S0:=S0;refine(HM.out _).mono ?_;rintro e w1 ⟨rfl,hb1⟩;apply St.step (w0:=w) (hb:=hb1);(focus(with_reducible repeat (first|exact S0.out|apply St.lay|apply St.drew|apply St.drewN)));intro S1;(try simp only[Gs,Ik,Hb]at S1);clear hb1 S0;(try clear C0);have C1:=S1.out.facts;simp only[facts,apart,Az,Nat.zero_add,Nat.reduceAdd,and_true]at C1))
 go_ret
 exact⟨by first|rfl|(exact Bo (by simp[*];done)),by first|exact S2.out.bl|exact S1.out.bl⟩)
end
end Go.Proofs.YtikajapjkdloaaaGreatDoor
