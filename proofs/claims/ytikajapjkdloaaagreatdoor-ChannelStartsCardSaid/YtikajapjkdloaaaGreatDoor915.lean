/- Walks of layer 13 (conf): the list of the rules; the default. -/
import Derived.Test.YtikajapjkdloaaaGreatDoor914
import Derived.Great.BuildSlice
import Derived.Great.Walk
namespace Go.Proofs.YtikajapjkdloaaaGreatDoor
set_option linter.unusedVariables false
set_option linter.unusedSimpArgs false
section
open Go.RowKit Go.Great
attribute [local go_sem] CE CA CF CG B_ CB CD CC Be Bc Ba
set_option maxRecDepth 100000 in
set_option maxHeartbeats 4000000 in
theorem Lf(w:World):Calls Tryz.prog 30 #[] w λe w'=>e=.returned (.agg #[.int .i64 1024,.int .i64 65536,.int .i64 256,.int .i64 16384,.int .i64 4194304,.int .i64 4096,.int .i64 274877906944,.int .i64 4398046511104,.int .i64 4398046511104,.int .i64 1099511627776,.int .i64 68719476736,.int .i64 256,.int .i64 256,.int .i64 256,.int .i64 1125899906842624,.int .i64 281474976710656,.int .i64 17592186044416,.int .i64 18014398509481984,.int .i64 562949953421312,.int .i64 8796093022208,.int .i64 9,.int .i64 34359738368,.int .i64 17179869184,.int .i64 (-1073741824),.int .i64 536870912,.int .i64 2048,.int .i64 32768,.int .i64 32,.int .i64 64,.int .i64 1280,.int .i64 240])/\Below w.heap.size w w':=by
 go_enter Tryz.func30,Tryz.ntmps30
 apply wp_seq_k;intro K hK
 apply wp_region_lit
 refine wpList_allocTo rfl (some 0) rfl (.pointer (some ⟨w.heap.size,0,none⟩)) (.cells #[.int .i64 0,.int .i64 0,.int .i64 0,.int .i64 0,.int .i64 0,.int .i64 0,.int .i64 0,.int .i64 0,.int .i64 0,.int .i64 0,.int .i64 0,.int .i64 0,.int .i64 0,.int .i64 0,.int .i64 0,.int .i64 0,.int .i64 0,.int .i64 0,.int .i64 0,.int .i64 0,.int .i64 0,.int .i64 0,.int .i64 0,.int .i64 0,.int .i64 0,.int .i64 0,.int .i64 0,.int .i64 0,.int .i64 0,.int .i64 0,.int .i64 0] 25) el ?_
 apply wpList_nil
 refine hK _ _ ?_
 clear hK K
 apply wp_seq_k;intro K hK
 apply wp_region_lit
 refine wpList_buildTo rfl 23 _ rfl (some 1) rfl #[.int .i64 1024,.int .i64 65536,.int .i64 256] el ?_
 refine wpList_buildTo rfl 23 _ rfl (some 2) rfl #[.int .i64 16384,.int .i64 4194304,.int .i64 4096] el ?_
 refine wpList_buildTo rfl 23 _ rfl (some 3) rfl #[.int .i64 4398046511104,.int .i64 1099511627776,.int .i64 68719476736] el ?_
 refine wpList_buildTo rfl 23 _ rfl (some 4) rfl #[.int .i64 256,.int .i64 256,.int .i64 256] el ?_
 refine wpList_buildTo rfl 23 _ rfl (some 5) rfl #[.int .i64 1125899906842624,.int .i64 281474976710656,.int .i64 17592186044416] el ?_
 refine wpList_buildTo rfl 23 _ rfl (some 6) rfl #[.int .i64 18014398509481984,.int .i64 562949953421312,.int .i64 8796093022208] el ?_
 refine wpList_buildTo rfl 23 _ rfl (some 7) rfl #[.int .i64 34359738368,.int .i64 17179869184,.int .i64 (-1073741824)] el ?_
 refine wpList_buildTo rfl 25 _ rfl (some 8) rfl #[.int .i64 1024,.int .i64 65536,.int .i64 256,.int .i64 16384,.int .i64 4194304,.int .i64 4096,.int .i64 274877906944,.int .i64 4398046511104,.int .i64 4398046511104,.int .i64 1099511627776,.int .i64 68719476736,.int .i64 256,.int .i64 256,.int .i64 256,.int .i64 1125899906842624,.int .i64 281474976710656,.int .i64 17592186044416,.int .i64 18014398509481984,.int .i64 562949953421312,.int .i64 8796093022208,.int .i64 9,.int .i64 34359738368,.int .i64 17179869184,.int .i64 (-1073741824),.int .i64 536870912,.int .i64 2048,.int .i64 32768,.int .i64 32,.int .i64 64,.int .i64 1280,.int .i64 240] el ?_
 refine wpList_store_rowTo rfl 25 _ _ rfl rfl w.heap.size #[.int .i64 1024,.int .i64 65536,.int .i64 256,.int .i64 16384,.int .i64 4194304,.int .i64 4096,.int .i64 274877906944,.int .i64 4398046511104,.int .i64 4398046511104,.int .i64 1099511627776,.int .i64 68719476736,.int .i64 256,.int .i64 256,.int .i64 256,.int .i64 1125899906842624,.int .i64 281474976710656,.int .i64 17592186044416,.int .i64 18014398509481984,.int .i64 562949953421312,.int .i64 8796093022208,.int .i64 9,.int .i64 34359738368,.int .i64 17179869184,.int .i64 (-1073741824),.int .i64 536870912,.int .i64 2048,.int .i64 32768,.int .i64 32,.int .i64 64,.int .i64 1280,.int .i64 240] el el 25 #[.int .i64 0,.int .i64 0,.int .i64 0,.int .i64 0,.int .i64 0,.int .i64 0,.int .i64 0,.int .i64 0,.int .i64 0,.int .i64 0,.int .i64 0,.int .i64 0,.int .i64 0,.int .i64 0,.int .i64 0,.int .i64 0,.int .i64 0,.int .i64 0,.int .i64 0,.int .i64 0,.int .i64 0,.int .i64 0,.int .i64 0,.int .i64 0,.int .i64 0,.int .i64 0,.int .i64 0,.int .i64 0,.int .i64 0,.int .i64 0,.int .i64 0] (heap_alloc_last w _) el rfl el ?_
 apply wpList_nil
 refine hK _ _ ?_
 rw[World.setRow_alloc_new]
 clear hK K
 refine wp_ret (bodyPost_ret (v:=.agg #[.int .i64 1024,.int .i64 65536,.int .i64 256,.int .i64 16384,.int .i64 4194304,.int .i64 4096,.int .i64 274877906944,.int .i64 4398046511104,.int .i64 4398046511104,.int .i64 1099511627776,.int .i64 68719476736,.int .i64 256,.int .i64 256,.int .i64 256,.int .i64 1125899906842624,.int .i64 281474976710656,.int .i64 17592186044416,.int .i64 18014398509481984,.int .i64 562949953421312,.int .i64 8796093022208,.int .i64 9,.int .i64 34359738368,.int .i64 17179869184,.int .i64 (-1073741824),.int .i64 536870912,.int .i64 2048,.int .i64 32768,.int .i64 32,.int .i64 64,.int .i64 1280,.int .i64 240]) (IR (a:=0) (t:=25) rfl (g:=w.heap.size) el (FS (heap_alloc_last w _) el el)) el ⟨rfl,AM (Below.refl _ _) _⟩)
set_option maxRecDepth 100000 in
set_option maxHeartbeats 4000000 in
theorem OI(w:World):Calls Tryz.prog 29 #[] w λe w'=>e=.returned (.agg #[.int .i64 1,.func (.func 68) #[] #[],.int .i64 2,.func (.func 72) #[] #[],.int .i64 3,.func (.func 74) #[] #[],.int .i64 4,.func (.func 75) #[] #[],.int .i64 5,.func (.func 76) #[] #[],.int .i64 6,.func (.func 79) #[] #[],.int .i64 7,.func (.func 81) #[] #[],.int .i64 8,.func (.func 83) #[] #[],.int .i64 9,.func (.func 84) #[] #[],.int .i64 10,.func (.func 86) #[] #[],.int .i64 11,.func (.func 87) #[] #[],.int .i64 12,.func (.func 88) #[] #[],.int .i64 13,.func (.func 89) #[] #[],.int .i64 14,.func (.func 90) #[] #[]])/\Below w.heap.size w w':=by
 go_enter Tryz.func29,Tryz.ntmps29
 apply wp_seq_k;intro K hK
 apply wp_region_lit
 refine wpList_allocTo rfl (some 0) rfl (.pointer (some ⟨w.heap.size,0,none⟩)) (.cells #[.int .i64 0,.nilFunc,.int .i64 0,.nilFunc,.int .i64 0,.nilFunc,.int .i64 0,.nilFunc,.int .i64 0,.nilFunc,.int .i64 0,.nilFunc,.int .i64 0,.nilFunc,.int .i64 0,.nilFunc,.int .i64 0,.nilFunc,.int .i64 0,.nilFunc,.int .i64 0,.nilFunc,.int .i64 0,.nilFunc,.int .i64 0,.nilFunc,.int .i64 0,.nilFunc] 90) el ?_
 apply wpList_nil
 refine hK _ _ ?_
 clear hK K
 apply wp_seq_k;intro K hK
 apply wp_region_lit
 refine wpList_buildTo rfl 89 _ rfl (some 1) rfl #[.int .i64 1,.func (.func 68) #[] #[]] el ?_
 refine wpList_buildTo rfl 89 _ rfl (some 2) rfl #[.int .i64 2,.func (.func 72) #[] #[]] el ?_
 refine wpList_buildTo rfl 89 _ rfl (some 3) rfl #[.int .i64 3,.func (.func 74) #[] #[]] el ?_
 refine wpList_buildTo rfl 89 _ rfl (some 4) rfl #[.int .i64 4,.func (.func 75) #[] #[]] el ?_
 refine wpList_buildTo rfl 89 _ rfl (some 5) rfl #[.int .i64 5,.func (.func 76) #[] #[]] el ?_
 refine wpList_buildTo rfl 89 _ rfl (some 6) rfl #[.int .i64 6,.func (.func 79) #[] #[]] el ?_
 refine wpList_buildTo rfl 89 _ rfl (some 7) rfl #[.int .i64 7,.func (.func 81) #[] #[]] el ?_
 refine wpList_buildTo rfl 89 _ rfl (some 8) rfl #[.int .i64 8,.func (.func 83) #[] #[]] el ?_
 refine wpList_buildTo rfl 89 _ rfl (some 9) rfl #[.int .i64 9,.func (.func 84) #[] #[]] el ?_
 refine wpList_buildTo rfl 89 _ rfl (some 10) rfl #[.int .i64 10,.func (.func 86) #[] #[]] el ?_
 refine wpList_buildTo rfl 89 _ rfl (some 11) rfl #[.int .i64 11,.func (.func 87) #[] #[]] el ?_
 refine wpList_buildTo rfl 89 _ rfl (some 12) rfl #[.int .i64 12,.func (.func 88) #[] #[]] el ?_
 refine wpList_buildTo rfl 89 _ rfl (some 13) rfl #[.int .i64 13,.func (.func 89) #[] #[]] el ?_
 refine wpList_buildTo rfl 89 _ rfl (some 14) rfl #[.int .i64 14,.func (.func 90) #[] #[]] el ?_
 refine wpList_buildTo rfl 90 _ rfl (some 15) rfl #[.int .i64 1,.func (.func 68) #[] #[],.int .i64 2,.func (.func 72) #[] #[],.int .i64 3,.func (.func 74) #[] #[],.int .i64 4,.func (.func 75) #[] #[],.int .i64 5,.func (.func 76) #[] #[],.int .i64 6,.func (.func 79) #[] #[],.int .i64 7,.func (.func 81) #[] #[],.int .i64 8,.func (.func 83) #[] #[],.int .i64 9,.func (.func 84) #[] #[],.int .i64 10,.func (.func 86) #[] #[],.int .i64 11,.func (.func 87) #[] #[],.int .i64 12,.func (.func 88) #[] #[],.int .i64 13,.func (.func 89) #[] #[],.int .i64 14,.func (.func 90) #[] #[]] el ?_
 refine wpList_store_rowTo rfl 90 _ _ rfl rfl w.heap.size #[.int .i64 1,.func (.func 68) #[] #[],.int .i64 2,.func (.func 72) #[] #[],.int .i64 3,.func (.func 74) #[] #[],.int .i64 4,.func (.func 75) #[] #[],.int .i64 5,.func (.func 76) #[] #[],.int .i64 6,.func (.func 79) #[] #[],.int .i64 7,.func (.func 81) #[] #[],.int .i64 8,.func (.func 83) #[] #[],.int .i64 9,.func (.func 84) #[] #[],.int .i64 10,.func (.func 86) #[] #[],.int .i64 11,.func (.func 87) #[] #[],.int .i64 12,.func (.func 88) #[] #[],.int .i64 13,.func (.func 89) #[] #[],.int .i64 14,.func (.func 90) #[] #[]] el el 90 #[.int .i64 0,.nilFunc,.int .i64 0,.nilFunc,.int .i64 0,.nilFunc,.int .i64 0,.nilFunc,.int .i64 0,.nilFunc,.int .i64 0,.nilFunc,.int .i64 0,.nilFunc,.int .i64 0,.nilFunc,.int .i64 0,.nilFunc,.int .i64 0,.nilFunc,.int .i64 0,.nilFunc,.int .i64 0,.nilFunc,.int .i64 0,.nilFunc,.int .i64 0,.nilFunc] (heap_alloc_last w _) el rfl el ?_
 apply wpList_nil
 refine hK _ _ ?_
 rw[World.setRow_alloc_new]
 clear hK K
 refine wp_ret (bodyPost_ret (v:=.agg #[.int .i64 1,.func (.func 68) #[] #[],.int .i64 2,.func (.func 72) #[] #[],.int .i64 3,.func (.func 74) #[] #[],.int .i64 4,.func (.func 75) #[] #[],.int .i64 5,.func (.func 76) #[] #[],.int .i64 6,.func (.func 79) #[] #[],.int .i64 7,.func (.func 81) #[] #[],.int .i64 8,.func (.func 83) #[] #[],.int .i64 9,.func (.func 84) #[] #[],.int .i64 10,.func (.func 86) #[] #[],.int .i64 11,.func (.func 87) #[] #[],.int .i64 12,.func (.func 88) #[] #[],.int .i64 13,.func (.func 89) #[] #[],.int .i64 14,.func (.func 90) #[] #[]]) (IR (a:=0) (t:=90) rfl (g:=w.heap.size) el (FS (heap_alloc_last w _) el el)) el ⟨rfl,AM (Below.refl _ _) _⟩)
end
section
open Go.RowKit
attribute [local go_sem] CE CA CF CG B_ CB CD CC Be Bc Ba
set_option maxHeartbeats 400000 in
theorem As(x:Int)(w:World):Calls Tryz.prog 140 #[.int .i64 x] w λe w'=>e=.returned (.bool (AL x))/\w=w':=by
 cases h:AL x
 ·have k:=fitB_false.1 h
  clear h
  rcases Int.lt_or_le x (-288230376151711744)with k1|k1
  ·clear k
   go_enter Tryz.func140,Tryz.ntmps140
   go_wp2
   go_ret
   exact⟨by first|rfl|exact Bo (by simp;omega),rfl⟩
  have k2:288230376151711744<x:=by omega
  clear k
  go_enter Tryz.func140,Tryz.ntmps140
  go_wp2
  go_ret
  exact⟨by first|rfl|exact Bo (by simp;omega),rfl⟩
 obtain⟨k1,k2⟩:=fitB_true.1 h
 clear h
 go_enter Tryz.func140,Tryz.ntmps140
 go_wp2
 go_ret
 exact⟨by first|rfl|exact Bo (by simp;omega),rfl⟩
theorem Bu{P:Program}{f:FuncId}{args:Array Value}{w:World}{n:Nat}{v:Value}
 (h:Calls P f args (w.drewN n) λe w'=>e=.returned v/\w.drewN n=w'):Calls P f args (w.drewN n) λe w'=>e=.returned v/\ ∃m,w'=w.drewN m:=
 h.mono λ_ _⟨he,hw⟩=>⟨he,n,hw.symm⟩
end
section
open Go.RowKit
attribute [local go_sem] CE CA CF CG B_ CB CD CC Be Bc Ba
attribute [local go_sem] Ig Ih Ip
set_option maxHeartbeats 400000 in
theorem BP(x lo hi:Int)(w:World):Calls Tryz.prog 71 #[.int .i64 x,.int .i64 lo,.int .i64 hi] w λe w'=>e=.returned (.bool (Cd x lo hi))/\w=w':=by
 cases h:Cd x lo hi
 ·have k:=wiB_false.1 h
  clear h
  rcases Int.lt_or_le x lo with k1|k1
  ·clear k
   go_enter Tryz.func71,Tryz.ntmps71
   go_wp2
   go_ret
   exact⟨by first|rfl|exact Bo (by simp;omega),rfl⟩
  have k2:hi<x:=by omega
  clear k
  go_enter Tryz.func71,Tryz.ntmps71
  go_wp2
  go_ret
  exact⟨by first|rfl|exact Bo (by simp;omega),rfl⟩
 obtain⟨k1,k2⟩:=wiB_true.1 h
 clear h
 go_enter Tryz.func71,Tryz.ntmps71
 go_wp2
 go_ret
 exact⟨by first|rfl|exact Bo (by simp;omega),rfl⟩
set_option maxHeartbeats 400000 in
theorem B5(i x:Int)(w:World):Calls Tryz.prog 70 #[.int .i64 i,.int .i64 x] w λe w'=>e=.returned (.bool (Cd x 0 1125899906842624))/\w=w':=by
 go_enter Tryz.func70,Tryz.ntmps70
 go_wp2_with (go_at_call 71;refine(BP _ _ _ _).mono ?_;rintro e w' ⟨rfl,rfl⟩)
 go_ret
 exact⟨rfl,rfl⟩
set_option maxRecDepth 100000 in
set_option maxHeartbeats 1000000 in
theorem Ps(v:Nat->Int)(w:World):
 Calls Tryz.prog 69 #[.agg #[.int .i64 (v 0),.int .i64 (v 1),.int .i64 (v 2)],.func (.func 70) #[] #[]] w λe w'=>e=.returned (.bool (Cd (v 0) 0 1125899906842624&&(Cd (v 1) 0 1125899906842624&&Cd (v 2) 0 1125899906842624)))/\Below w.heap.size w w':=by
 cases h0:Cd (v 0) 0 1125899906842624
 ·go_enter Tryz.func69,Tryz.ntmps69
  go_wp2
  go_loop [8] (λv8=> ∃k:Int,(k=0)/\v8=.int .i64 k) (λv8=>3-(intOf v8).toNat)
  case atStart=>exact⟨0,by decide,rfl⟩
  case round=>
   obtain⟨k,hk,rfl⟩:=hrel
   obtain rfl:=hk
   go_wp2_with (go_at_call 70;refine(B5 _ _ _).mono ?_;rintro e w' ⟨rfl,rfl⟩)
   go_ret
   exact⟨by simp[*],LC⟩
 cases h1:Cd (v 1) 0 1125899906842624
 ·go_enter Tryz.func69,Tryz.ntmps69
  go_wp2
  go_loop [8] (λv8=> ∃k:Int,(k=0∨k=1)/\v8=.int .i64 k) (λv8=>3-(intOf v8).toNat)
  case atStart=>exact⟨0,by decide,rfl⟩
  case round=>
   obtain⟨k,hk,rfl⟩:=hrel
   rcases hk with rfl|rfl
   ·go_wp2_with (go_at_call 70;refine(B5 _ _ _).mono ?_;rintro e w' ⟨rfl,rfl⟩)
    go_round
    case rel=>exact⟨1,by decide,rfl⟩
    case measure=>simp[intOf]
   go_wp2_with (go_at_call 70;refine(B5 _ _ _).mono ?_;rintro e w' ⟨rfl,rfl⟩)
   go_ret
   exact⟨by simp[*],LC⟩
 cases h2:Cd (v 2) 0 1125899906842624
 ·go_enter Tryz.func69,Tryz.ntmps69
  go_wp2
  go_loop [8] (λv8=> ∃k:Int,(k=0∨k=1∨k=2)/\v8=.int .i64 k) (λv8=>3-(intOf v8).toNat)
  case atStart=>exact⟨0,by decide,rfl⟩
  case round=>
   obtain⟨k,hk,rfl⟩:=hrel
   rcases hk with rfl|rfl|rfl
   ·go_wp2_with (go_at_call 70;refine(B5 _ _ _).mono ?_;rintro e w' ⟨rfl,rfl⟩)
    go_round
    case rel=>exact⟨1,by decide,rfl⟩
    case measure=>simp[intOf]
   ·go_wp2_with (go_at_call 70;refine(B5 _ _ _).mono ?_;rintro e w' ⟨rfl,rfl⟩)
    go_round
    case rel=>exact⟨2,by decide,rfl⟩
    case measure=>simp[intOf]
   go_wp2_with (go_at_call 70;refine(B5 _ _ _).mono ?_;rintro e w' ⟨rfl,rfl⟩)
   go_ret
   exact⟨by simp[*],LC⟩
 go_enter Tryz.func69,Tryz.ntmps69
 go_wp2
 go_loop [8] (λv8=> ∃k:Int,(k=0∨k=1∨k=2∨k=3)/\v8=.int .i64 k) (λv8=>3-(intOf v8).toNat)
 case atStart=>exact⟨0,by decide,rfl⟩
 case round=>
  obtain⟨k,hk,rfl⟩:=hrel
  rcases hk with rfl|rfl|rfl|rfl
  ·go_wp2_with (go_at_call 70;refine(B5 _ _ _).mono ?_;rintro e w' ⟨rfl,rfl⟩)
   go_round
   case rel=>exact⟨1,by decide,rfl⟩
   case measure=>simp[intOf]
  ·go_wp2_with (go_at_call 70;refine(B5 _ _ _).mono ?_;rintro e w' ⟨rfl,rfl⟩)
   go_round
   case rel=>exact⟨2,by decide,rfl⟩
   case measure=>simp[intOf]
  ·go_wp2_with (go_at_call 70;refine(B5 _ _ _).mono ?_;rintro e w' ⟨rfl,rfl⟩)
   go_round
   case rel=>exact⟨3,by decide,rfl⟩
   case measure=>simp[intOf]
  go_wp2_with (go_at_call 70;refine(B5 _ _ _).mono ?_;rintro e w' ⟨rfl,rfl⟩)
  go_ret
  exact⟨by simp[*],LC⟩
set_option maxHeartbeats 400000 in
theorem B4(i x:Int)(w:World):Calls Tryz.prog 82 #[.int .i64 i,.int .i64 x] w λe w'=>e=.returned (.bool (Cd x 0 72057594037927936))/\w=w':=by
 go_enter Tryz.func82,Tryz.ntmps82
 go_wp2_with (go_at_call 71;refine(BP _ _ _ _).mono ?_;rintro e w' ⟨rfl,rfl⟩)
 go_ret
 exact⟨rfl,rfl⟩
set_option maxRecDepth 100000 in
set_option maxHeartbeats 1000000 in
theorem Px(v:Nat->Int)(w:World):
 Calls Tryz.prog 69 #[.agg #[.int .i64 (v 0),.int .i64 (v 1),.int .i64 (v 2)],.func (.func 82) #[] #[]] w λe w'=>e=.returned (.bool (Cd (v 0) 0 72057594037927936&&(Cd (v 1) 0 72057594037927936&&Cd (v 2) 0 72057594037927936)))/\Below w.heap.size w w':=by
 cases h0:Cd (v 0) 0 72057594037927936
 ·go_enter Tryz.func69,Tryz.ntmps69
  go_wp2
  go_loop [8] (λv8=> ∃k:Int,(k=0)/\v8=.int .i64 k) (λv8=>3-(intOf v8).toNat)
  case atStart=>exact⟨0,by decide,rfl⟩
  case round=>
   obtain⟨k,hk,rfl⟩:=hrel
   obtain rfl:=hk
   go_wp2_with (go_at_call 82;refine(B4 _ _ _).mono ?_;rintro e w' ⟨rfl,rfl⟩)
   go_ret
   exact⟨by simp[*],LC⟩
 cases h1:Cd (v 1) 0 72057594037927936
 ·go_enter Tryz.func69,Tryz.ntmps69
  go_wp2
  go_loop [8] (λv8=> ∃k:Int,(k=0∨k=1)/\v8=.int .i64 k) (λv8=>3-(intOf v8).toNat)
  case atStart=>exact⟨0,by decide,rfl⟩
  case round=>
   obtain⟨k,hk,rfl⟩:=hrel
   rcases hk with rfl|rfl
   ·go_wp2_with (go_at_call 82;refine(B4 _ _ _).mono ?_;rintro e w' ⟨rfl,rfl⟩)
    go_round
    case rel=>exact⟨1,by decide,rfl⟩
    case measure=>simp[intOf]
   go_wp2_with (go_at_call 82;refine(B4 _ _ _).mono ?_;rintro e w' ⟨rfl,rfl⟩)
   go_ret
   exact⟨by simp[*],LC⟩
 cases h2:Cd (v 2) 0 72057594037927936
 ·go_enter Tryz.func69,Tryz.ntmps69
  go_wp2
  go_loop [8] (λv8=> ∃k:Int,(k=0∨k=1∨k=2)/\v8=.int .i64 k) (λv8=>3-(intOf v8).toNat)
  case atStart=>exact⟨0,by decide,rfl⟩
  case round=>
   obtain⟨k,hk,rfl⟩:=hrel
   rcases hk with rfl|rfl|rfl
   ·go_wp2_with (go_at_call 82;refine(B4 _ _ _).mono ?_;rintro e w' ⟨rfl,rfl⟩)
    go_round
    case rel=>exact⟨1,by decide,rfl⟩
    case measure=>simp[intOf]
   ·go_wp2_with (go_at_call 82;refine(B4 _ _ _).mono ?_;rintro e w' ⟨rfl,rfl⟩)
    go_round
    case rel=>exact⟨2,by decide,rfl⟩
    case measure=>simp[intOf]
   go_wp2_with (go_at_call 82;refine(B4 _ _ _).mono ?_;rintro e w' ⟨rfl,rfl⟩)
   go_ret
   exact⟨by simp[*],LC⟩
 go_enter Tryz.func69,Tryz.ntmps69
 go_wp2
 go_loop [8] (λv8=> ∃k:Int,(k=0∨k=1∨k=2∨k=3)/\v8=.int .i64 k) (λv8=>3-(intOf v8).toNat)
 case atStart=>exact⟨0,by decide,rfl⟩
 case round=>
  obtain⟨k,hk,rfl⟩:=hrel
  rcases hk with rfl|rfl|rfl|rfl
  ·go_wp2_with (go_at_call 82;refine(B4 _ _ _).mono ?_;rintro e w' ⟨rfl,rfl⟩)
   go_round
   case rel=>exact⟨1,by decide,rfl⟩
   case measure=>simp[intOf]
  ·go_wp2_with (go_at_call 82;refine(B4 _ _ _).mono ?_;rintro e w' ⟨rfl,rfl⟩)
   go_round
   case rel=>exact⟨2,by decide,rfl⟩
   case measure=>simp[intOf]
  ·go_wp2_with (go_at_call 82;refine(B4 _ _ _).mono ?_;rintro e w' ⟨rfl,rfl⟩)
   go_round
   case rel=>exact⟨3,by decide,rfl⟩
   case measure=>simp[intOf]
  go_wp2_with (go_at_call 82;refine(B4 _ _ _).mono ?_;rintro e w' ⟨rfl,rfl⟩)
  go_ret
  exact⟨by simp[*],LC⟩
set_option maxHeartbeats 400000 in
theorem B3(i x:Int)(w:World):Calls Tryz.prog 85 #[.int .i64 i,.int .i64 x] w λe w'=>e=.returned (.bool (Cd x (-4398046511104) 4398046511104))/\w=w':=by
 go_enter Tryz.func85,Tryz.ntmps85
 go_wp2_with (go_at_call 71;refine(BP _ _ _ _).mono ?_;rintro e w' ⟨rfl,rfl⟩)
 go_ret
 exact⟨rfl,rfl⟩
set_option maxRecDepth 100000 in
set_option maxHeartbeats 1000000 in
theorem Pj(v:Nat->Int)(w:World):
 Calls Tryz.prog 69 #[.agg #[.int .i64 (v 0),.int .i64 (v 1),.int .i64 (v 2)],.func (.func 85) #[] #[]] w λe w'=>e=.returned (.bool (Cd (v 0) (-4398046511104) 4398046511104&&(Cd (v 1) (-4398046511104) 4398046511104&&Cd (v 2) (-4398046511104) 4398046511104)))/\Below w.heap.size w w':=by
 cases h0:Cd (v 0) (-4398046511104) 4398046511104
 ·go_enter Tryz.func69,Tryz.ntmps69
  go_wp2
  go_loop [8] (λv8=> ∃k:Int,(k=0)/\v8=.int .i64 k) (λv8=>3-(intOf v8).toNat)
  case atStart=>exact⟨0,by decide,rfl⟩
  case round=>
   obtain⟨k,hk,rfl⟩:=hrel
   obtain rfl:=hk
   go_wp2_with (go_at_call 85;refine(B3 _ _ _).mono ?_;rintro e w' ⟨rfl,rfl⟩)
   go_ret
   exact⟨by simp[*],LC⟩
 cases h1:Cd (v 1) (-4398046511104) 4398046511104
 ·go_enter Tryz.func69,Tryz.ntmps69
  go_wp2
  go_loop [8] (λv8=> ∃k:Int,(k=0∨k=1)/\v8=.int .i64 k) (λv8=>3-(intOf v8).toNat)
  case atStart=>exact⟨0,by decide,rfl⟩
  case round=>
   obtain⟨k,hk,rfl⟩:=hrel
   rcases hk with rfl|rfl
   ·go_wp2_with (go_at_call 85;refine(B3 _ _ _).mono ?_;rintro e w' ⟨rfl,rfl⟩)
    go_round
    case rel=>exact⟨1,by decide,rfl⟩
    case measure=>simp[intOf]
   go_wp2_with (go_at_call 85;refine(B3 _ _ _).mono ?_;rintro e w' ⟨rfl,rfl⟩)
   go_ret
   exact⟨by simp[*],LC⟩
 cases h2:Cd (v 2) (-4398046511104) 4398046511104
 ·go_enter Tryz.func69,Tryz.ntmps69
  go_wp2
  go_loop [8] (λv8=> ∃k:Int,(k=0∨k=1∨k=2)/\v8=.int .i64 k) (λv8=>3-(intOf v8).toNat)
  case atStart=>exact⟨0,by decide,rfl⟩
  case round=>
   obtain⟨k,hk,rfl⟩:=hrel
   rcases hk with rfl|rfl|rfl
   ·go_wp2_with (go_at_call 85;refine(B3 _ _ _).mono ?_;rintro e w' ⟨rfl,rfl⟩)
    go_round
    case rel=>exact⟨1,by decide,rfl⟩
    case measure=>simp[intOf]
   ·go_wp2_with (go_at_call 85;refine(B3 _ _ _).mono ?_;rintro e w' ⟨rfl,rfl⟩)
    go_round
    case rel=>exact⟨2,by decide,rfl⟩
    case measure=>simp[intOf]
   go_wp2_with (go_at_call 85;refine(B3 _ _ _).mono ?_;rintro e w' ⟨rfl,rfl⟩)
   go_ret
   exact⟨by simp[*],LC⟩
 go_enter Tryz.func69,Tryz.ntmps69
 go_wp2
 go_loop [8] (λv8=> ∃k:Int,(k=0∨k=1∨k=2∨k=3)/\v8=.int .i64 k) (λv8=>3-(intOf v8).toNat)
 case atStart=>exact⟨0,by decide,rfl⟩
 case round=>
  obtain⟨k,hk,rfl⟩:=hrel
  rcases hk with rfl|rfl|rfl|rfl
  ·go_wp2_with (go_at_call 85;refine(B3 _ _ _).mono ?_;rintro e w' ⟨rfl,rfl⟩)
   go_round
   case rel=>exact⟨1,by decide,rfl⟩
   case measure=>simp[intOf]
  ·go_wp2_with (go_at_call 85;refine(B3 _ _ _).mono ?_;rintro e w' ⟨rfl,rfl⟩)
   go_round
   case rel=>exact⟨2,by decide,rfl⟩
   case measure=>simp[intOf]
  ·go_wp2_with (go_at_call 85;refine(B3 _ _ _).mono ?_;rintro e w' ⟨rfl,rfl⟩)
   go_round
   case rel=>exact⟨3,by decide,rfl⟩
   case measure=>simp[intOf]
  go_wp2_with (go_at_call 85;refine(B3 _ _ _).mono ?_;rintro e w' ⟨rfl,rfl⟩)
  go_ret
  exact⟨by simp[*],LC⟩
end
section
open Go.RowKit
attribute [local go_sem] CE CA CF CG B_ CB CD CC Be Bc Ba
set_option maxRecDepth 100000 in
set_option maxHeartbeats 2000000 in
theorem SZ(c:Nat->Int)(w:World):Calls Tryz.prog 68 #[.agg #[.int .i64 (c 0),.int .i64 (c 1),.int .i64 (c 2),.int .i64 (c 3),.int .i64 (c 4),.int .i64 (c 5),.int .i64 (c 6),.int .i64 (c 7),.int .i64 (c 8),.int .i64 (c 9),.int .i64 (c 10),.int .i64 (c 11),.int .i64 (c 12),.int .i64 (c 13),.int .i64 (c 14),.int .i64 (c 15),.int .i64 (c 16),.int .i64 (c 17),.int .i64 (c 18),.int .i64 (c 19),.int .i64 (c 20),.int .i64 (c 21),.int .i64 (c 22),.int .i64 (c 23),.int .i64 (c 24),.int .i64 (c 25),.int .i64 (c 26),.int .i64 (c 27),.int .i64 (c 28),.int .i64 (c 29),.int .i64 (c 30)]] w λe w'=>e=.returned (.bool (BS c 1))/\Below w.heap.size w w':=by
 go_enter Tryz.func68,Tryz.ntmps68
 go_wp2_with (first|(go_at_call 69;refine(Ps (λi=>c (0+i)) _).mono ?_;rintro e w1 ⟨rfl,hb1⟩;obtain⟨hc1,hf1⟩:=Bz hb1;have hz1_0:w.heap.size<w1.heap.size:=Nat.lt_of_lt_of_le ZB hb1.size;have hbel:=Asd.mk (AQ (w:=w) LC hb1)))
 all_goals(
 go_ret
 exact⟨by first|rfl|exact Bo (by simp[BS, *]),by first|exact hbel.out|exact LC⟩)
set_option maxRecDepth 100000 in
set_option maxHeartbeats 2000000 in
theorem Sv(c:Nat->Int)(w:World):Calls Tryz.prog 74 #[.agg #[.int .i64 (c 0),.int .i64 (c 1),.int .i64 (c 2),.int .i64 (c 3),.int .i64 (c 4),.int .i64 (c 5),.int .i64 (c 6),.int .i64 (c 7),.int .i64 (c 8),.int .i64 (c 9),.int .i64 (c 10),.int .i64 (c 11),.int .i64 (c 12),.int .i64 (c 13),.int .i64 (c 14),.int .i64 (c 15),.int .i64 (c 16),.int .i64 (c 17),.int .i64 (c 18),.int .i64 (c 19),.int .i64 (c 20),.int .i64 (c 21),.int .i64 (c 22),.int .i64 (c 23),.int .i64 (c 24),.int .i64 (c 25),.int .i64 (c 26),.int .i64 (c 27),.int .i64 (c 28),.int .i64 (c 29),.int .i64 (c 30)]] w λe w'=>e=.returned (.bool (BS c 3))/\Below w.heap.size w w':=by
 go_enter Tryz.func74,Tryz.ntmps74
 go_wp2_with (first|(go_at_call 71;refine(BP _ _ _ _).mono ?_;rintro e w' ⟨rfl,rfl⟩))
 all_goals(
 go_ret
 exact⟨by first|rfl|exact Bo (by simp[BS, *]),by first|exact hbel.out|exact LC⟩)
set_option maxRecDepth 100000 in
set_option maxHeartbeats 2000000 in
theorem Te(c:Nat->Int)(w:World):Calls Tryz.prog 75 #[.agg #[.int .i64 (c 0),.int .i64 (c 1),.int .i64 (c 2),.int .i64 (c 3),.int .i64 (c 4),.int .i64 (c 5),.int .i64 (c 6),.int .i64 (c 7),.int .i64 (c 8),.int .i64 (c 9),.int .i64 (c 10),.int .i64 (c 11),.int .i64 (c 12),.int .i64 (c 13),.int .i64 (c 14),.int .i64 (c 15),.int .i64 (c 16),.int .i64 (c 17),.int .i64 (c 18),.int .i64 (c 19),.int .i64 (c 20),.int .i64 (c 21),.int .i64 (c 22),.int .i64 (c 23),.int .i64 (c 24),.int .i64 (c 25),.int .i64 (c 26),.int .i64 (c 27),.int .i64 (c 28),.int .i64 (c 29),.int .i64 (c 30)]] w λe w'=>e=.returned (.bool (BS c 4))/\Below w.heap.size w w':=by
 go_enter Tryz.func75,Tryz.ntmps75
 go_wp2_with (first|(go_at_call 71;refine(BP _ _ _ _).mono ?_;rintro e w' ⟨rfl,rfl⟩))
 all_goals(
 go_ret
 exact⟨by first|rfl|exact Bo (by simp[BS, *]),by first|exact hbel.out|exact LC⟩)
set_option maxRecDepth 100000 in
set_option maxHeartbeats 2000000 in
theorem Sk(c:Nat->Int)(w:World):Calls Tryz.prog 83 #[.agg #[.int .i64 (c 0),.int .i64 (c 1),.int .i64 (c 2),.int .i64 (c 3),.int .i64 (c 4),.int .i64 (c 5),.int .i64 (c 6),.int .i64 (c 7),.int .i64 (c 8),.int .i64 (c 9),.int .i64 (c 10),.int .i64 (c 11),.int .i64 (c 12),.int .i64 (c 13),.int .i64 (c 14),.int .i64 (c 15),.int .i64 (c 16),.int .i64 (c 17),.int .i64 (c 18),.int .i64 (c 19),.int .i64 (c 20),.int .i64 (c 21),.int .i64 (c 22),.int .i64 (c 23),.int .i64 (c 24),.int .i64 (c 25),.int .i64 (c 26),.int .i64 (c 27),.int .i64 (c 28),.int .i64 (c 29),.int .i64 (c 30)]] w λe w'=>e=.returned (.bool (BS c 8))/\Below w.heap.size w w':=by
 go_enter Tryz.func83,Tryz.ntmps83
 go_wp2_with (first|(go_at_call 71;refine(BP _ _ _ _).mono ?_;rintro e w' ⟨rfl,rfl⟩))
 all_goals(
 go_ret
 exact⟨by first|rfl|exact Bo (by simp[BS, *]),by first|exact hbel.out|exact LC⟩)
set_option maxRecDepth 100000 in
set_option maxHeartbeats 2000000 in
theorem Rz(c:Nat->Int)(w:World):Calls Tryz.prog 86 #[.agg #[.int .i64 (c 0),.int .i64 (c 1),.int .i64 (c 2),.int .i64 (c 3),.int .i64 (c 4),.int .i64 (c 5),.int .i64 (c 6),.int .i64 (c 7),.int .i64 (c 8),.int .i64 (c 9),.int .i64 (c 10),.int .i64 (c 11),.int .i64 (c 12),.int .i64 (c 13),.int .i64 (c 14),.int .i64 (c 15),.int .i64 (c 16),.int .i64 (c 17),.int .i64 (c 18),.int .i64 (c 19),.int .i64 (c 20),.int .i64 (c 21),.int .i64 (c 22),.int .i64 (c 23),.int .i64 (c 24),.int .i64 (c 25),.int .i64 (c 26),.int .i64 (c 27),.int .i64 (c 28),.int .i64 (c 29),.int .i64 (c 30)]] w λe w'=>e=.returned (.bool (BS c 10))/\Below w.heap.size w w':=by
 go_enter Tryz.func86,Tryz.ntmps86
 go_wp2_with (first|(go_at_call 71;refine(BP _ _ _ _).mono ?_;rintro e w' ⟨rfl,rfl⟩))
 all_goals(
 go_ret
 exact⟨by first|rfl|exact Bo (by simp[BS, *]),by first|exact hbel.out|exact LC⟩)
set_option maxRecDepth 100000 in
set_option maxHeartbeats 2000000 in
theorem Rb(c:Nat->Int)(w:World):Calls Tryz.prog 88 #[.agg #[.int .i64 (c 0),.int .i64 (c 1),.int .i64 (c 2),.int .i64 (c 3),.int .i64 (c 4),.int .i64 (c 5),.int .i64 (c 6),.int .i64 (c 7),.int .i64 (c 8),.int .i64 (c 9),.int .i64 (c 10),.int .i64 (c 11),.int .i64 (c 12),.int .i64 (c 13),.int .i64 (c 14),.int .i64 (c 15),.int .i64 (c 16),.int .i64 (c 17),.int .i64 (c 18),.int .i64 (c 19),.int .i64 (c 20),.int .i64 (c 21),.int .i64 (c 22),.int .i64 (c 23),.int .i64 (c 24),.int .i64 (c 25),.int .i64 (c 26),.int .i64 (c 27),.int .i64 (c 28),.int .i64 (c 29),.int .i64 (c 30)]] w λe w'=>e=.returned (.bool (BS c 12))/\Below w.heap.size w w':=by
 go_enter Tryz.func88,Tryz.ntmps88
 go_wp2_with (first|(go_at_call 71;refine(BP _ _ _ _).mono ?_;rintro e w' ⟨rfl,rfl⟩))
 all_goals(
 go_ret
 exact⟨by first|rfl|exact Bo (by simp[BS, *]),by first|exact hbel.out|exact LC⟩)
set_option maxRecDepth 100000 in
set_option maxHeartbeats 2000000 in
theorem RZ(c:Nat->Int)(w:World):Calls Tryz.prog 90 #[.agg #[.int .i64 (c 0),.int .i64 (c 1),.int .i64 (c 2),.int .i64 (c 3),.int .i64 (c 4),.int .i64 (c 5),.int .i64 (c 6),.int .i64 (c 7),.int .i64 (c 8),.int .i64 (c 9),.int .i64 (c 10),.int .i64 (c 11),.int .i64 (c 12),.int .i64 (c 13),.int .i64 (c 14),.int .i64 (c 15),.int .i64 (c 16),.int .i64 (c 17),.int .i64 (c 18),.int .i64 (c 19),.int .i64 (c 20),.int .i64 (c 21),.int .i64 (c 22),.int .i64 (c 23),.int .i64 (c 24),.int .i64 (c 25),.int .i64 (c 26),.int .i64 (c 27),.int .i64 (c 28),.int .i64 (c 29),.int .i64 (c 30)]] w λe w'=>e=.returned (.bool (BS c 14))/\Below w.heap.size w w':=by
 go_enter Tryz.func90,Tryz.ntmps90
 go_wp2_with (first|(go_at_call 71;refine(BP _ _ _ _).mono ?_;rintro e w' ⟨rfl,rfl⟩))
 all_goals(
 go_ret
 exact⟨by first|rfl|exact Bo (by simp[BS, *]),by first|exact hbel.out|exact LC⟩)
set_option maxRecDepth 100000 in
set_option maxHeartbeats 2000000 in
theorem R0(c:Nat->Int)(hc: ∀i,Ai (c i))(w:World):Calls Tryz.prog 89 #[.agg #[.int .i64 (c 0),.int .i64 (c 1),.int .i64 (c 2),.int .i64 (c 3),.int .i64 (c 4),.int .i64 (c 5),.int .i64 (c 6),.int .i64 (c 7),.int .i64 (c 8),.int .i64 (c 9),.int .i64 (c 10),.int .i64 (c 11),.int .i64 (c 12),.int .i64 (c 13),.int .i64 (c 14),.int .i64 (c 15),.int .i64 (c 16),.int .i64 (c 17),.int .i64 (c 18),.int .i64 (c 19),.int .i64 (c 20),.int .i64 (c 21),.int .i64 (c 22),.int .i64 (c 23),.int .i64 (c 24),.int .i64 (c 25),.int .i64 (c 26),.int .i64 (c 27),.int .i64 (c 28),.int .i64 (c 29),.int .i64 (c 30)]] w λe w'=>e=.returned (.bool (BS c 13))/\Below w.heap.size w w':=by
 have E:=Asd.mk (show BS c 13=BS c 13 from rfl)
 cases h:Cd (c 28) 1 (c 29)
 all_goals(
 go_enter Tryz.func89,Tryz.ntmps89
 go_wp2_with (first|(go_at_call 71;refine(BP _ _ _ _).mono ?_;rintro e w' ⟨rfl,rfl⟩))
 all_goals(
 go_ret
 exact⟨by first|(exact Bo (by simp[BS, *];done))|(exact Bo (by simp[BS, *];omega)),by first|exact hbel.out|exact LC⟩))
set_option maxRecDepth 100000 in
set_option maxHeartbeats 2000000 in
theorem R4(c:Nat->Int)(hc: ∀i,Ai (c i))(w:World):Calls Tryz.prog 87 #[.agg #[.int .i64 (c 0),.int .i64 (c 1),.int .i64 (c 2),.int .i64 (c 3),.int .i64 (c 4),.int .i64 (c 5),.int .i64 (c 6),.int .i64 (c 7),.int .i64 (c 8),.int .i64 (c 9),.int .i64 (c 10),.int .i64 (c 11),.int .i64 (c 12),.int .i64 (c 13),.int .i64 (c 14),.int .i64 (c 15),.int .i64 (c 16),.int .i64 (c 17),.int .i64 (c 18),.int .i64 (c 19),.int .i64 (c 20),.int .i64 (c 21),.int .i64 (c 22),.int .i64 (c 23),.int .i64 (c 24),.int .i64 (c 25),.int .i64 (c 26),.int .i64 (c 27),.int .i64 (c 28),.int .i64 (c 29),.int .i64 (c 30)]] w λe w'=>e=.returned (.bool (BS c 11))/\Below w.heap.size w w':=by
 by_cases k1: -c 26<c 25
 all_goals by_cases k2:c 25<c 26
 all_goals cases h:Cd (c 26) 1 131072
 all_goals(try obtain⟨b1,b2⟩:=wiB_true.1 h)
 all_goals(try(exfalso;omega))
 all_goals(
 go_enter Tryz.func87,Tryz.ntmps87
 go_wp2_with (first|(go_at_call 71;refine(BP _ _ _ _).mono ?_;rintro e w' ⟨rfl,rfl⟩))
 all_goals(
 go_ret
 exact⟨by first|(exact Bo (by simp[BS, *];done))|(exact Bo (by simp[BS, *];omega)),by first|exact hbel.out|exact LC⟩))
end
end Go.Proofs.YtikajapjkdloaaaGreatDoor
