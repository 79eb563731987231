/- Walks of layer 9 (tame): whether a floor and a ceiling may be, in the program and in the document's answer. -/
import Derived.Test.YtikajapjkdloaaaGreatDoor916
namespace Go.Proofs.YtikajapjkdloaaaGreatDoor
set_option linter.unusedVariables false
set_option linter.unusedSimpArgs false
open Go.RowKit
section
attribute [local go_sem] CE CA CF CG B_ CB CD CC Be Bc Ba
theorem ET{f g:Int}(h:LT f g=true):decide (f<0)=false/\decide (g<f)=false/\AL g=true:=by
 have:=of_decide_eq_true h;simp[AL];omega
theorem Gj{f g:Int}(h:LT f g=false):decide (f<0)=true∨(decide (f<0)=false/\decide (g<f)=true)∨(decide (f<0)=false/\decide (g<f)=false/\AL g=false):=by
 have:=of_decide_eq_false h;simp[AL];omega
set_option maxRecDepth 100000 in
set_option maxHeartbeats 4000000 in
theorem ME(f g:Nat->Int)(w:World):Calls Tryz.prog 77 #[.agg #[.int .i64 (f 0),.int .i64 (f 1),.int .i64 (f 2)],.agg #[.int .i64 (g 0),.int .i64 (g 1),.int .i64 (g 2)]] w λe w'=>e=.returned (.bool (E5 f g))/\Below w.heap.size w w':=by
 have S0:=Asd.mk (St.refl w)
 cases h0:LT (f 0) (g 0)
 ·go_enter Tryz.func77,Tryz.ntmps77
  go_wp2
  go_loopw [6] (λv6 wr=> ∃k:Int,(k=0)/\v6=.int .i64 k/\Asd (St w wr [(w.heap.size+1,[.int .i64 (g 0),.int .i64 (g 1),.int .i64 (g 2)]),(w.heap.size,[.int .i64 (f 0),.int .i64 (f 1),.int .i64 (f 2)])] [])) (λv6 _=>3-(intOf v6).toNat)
  case atStart=>exact⟨0,by decide,rfl,⟨by refine St.layAt (by simp;done) ?_;refine St.layAt (by simp;done) ?_;exact S0.out⟩⟩
  case round=>
   obtain⟨k,hk,rfl,S1⟩:=hrel
   have C1:=S1.out.facts
   simp only[facts,apart,Az,Nat.zero_add,Nat.reduceAdd,and_true]at C1
   obtain rfl:=hk
   rcases Gj h0 with a1|⟨a1,a2⟩|⟨a1,a2,a3⟩
   all_goals(go_wp2;go_quiet ((go_at_call 140;exact Bu (As _ _)));go_wp2;go_ret;exact⟨by simp[E5, *],by exact AJ S1.out.bl _⟩)
 cases h1:LT (f 1) (g 1)
 ·go_enter Tryz.func77,Tryz.ntmps77
  go_wp2
  go_loopw [6] (λv6 wr=> ∃k:Int,(k=0∨k=1)/\v6=.int .i64 k/\Asd (St w wr [(w.heap.size+1,[.int .i64 (g 0),.int .i64 (g 1),.int .i64 (g 2)]),(w.heap.size,[.int .i64 (f 0),.int .i64 (f 1),.int .i64 (f 2)])] [])) (λv6 _=>3-(intOf v6).toNat)
  case atStart=>exact⟨0,by decide,rfl,⟨by refine St.layAt (by simp;done) ?_;refine St.layAt (by simp;done) ?_;exact S0.out⟩⟩
  case round=>
   obtain⟨k,hk,rfl,S1⟩:=hrel
   have C1:=S1.out.facts
   simp only[facts,apart,Az,Nat.zero_add,Nat.reduceAdd,and_true]at C1
   rcases hk with rfl|rfl
   ·obtain⟨a1,a2,a3⟩:=ET h0
    go_wp2
    go_quiet ((go_at_call 140;exact Bu (As _ _)))
    go_wp2
    go_roundw
    case rel=>exact⟨1,by decide,rfl,⟨St.drewN S1.out _⟩⟩
    case measure=>simp[intOf]
   rcases Gj h1 with a1|⟨a1,a2⟩|⟨a1,a2,a3⟩
   all_goals(go_wp2;go_quiet ((go_at_call 140;exact Bu (As _ _)));go_wp2;go_ret;exact⟨by simp[E5, *],by exact AJ S1.out.bl _⟩)
 cases h2:LT (f 2) (g 2)
 ·go_enter Tryz.func77,Tryz.ntmps77
  go_wp2
  go_loopw [6] (λv6 wr=> ∃k:Int,(k=0∨k=1∨k=2)/\v6=.int .i64 k/\Asd (St w wr [(w.heap.size+1,[.int .i64 (g 0),.int .i64 (g 1),.int .i64 (g 2)]),(w.heap.size,[.int .i64 (f 0),.int .i64 (f 1),.int .i64 (f 2)])] [])) (λv6 _=>3-(intOf v6).toNat)
  case atStart=>exact⟨0,by decide,rfl,⟨by refine St.layAt (by simp;done) ?_;refine St.layAt (by simp;done) ?_;exact S0.out⟩⟩
  case round=>
   obtain⟨k,hk,rfl,S1⟩:=hrel
   have C1:=S1.out.facts
   simp only[facts,apart,Az,Nat.zero_add,Nat.reduceAdd,and_true]at C1
   rcases hk with rfl|rfl|rfl
   ·obtain⟨a1,a2,a3⟩:=ET h0
    go_wp2
    go_quiet ((go_at_call 140;exact Bu (As _ _)))
    go_wp2
    go_roundw
    case rel=>exact⟨1,by decide,rfl,⟨St.drewN S1.out _⟩⟩
    case measure=>simp[intOf]
   ·obtain⟨a1,a2,a3⟩:=ET h1
    go_wp2
    go_quiet ((go_at_call 140;exact Bu (As _ _)))
    go_wp2
    go_roundw
    case rel=>exact⟨2,by decide,rfl,⟨St.drewN S1.out _⟩⟩
    case measure=>simp[intOf]
   rcases Gj h2 with a1|⟨a1,a2⟩|⟨a1,a2,a3⟩
   all_goals(go_wp2;go_quiet ((go_at_call 140;exact Bu (As _ _)));go_wp2;go_ret;exact⟨by simp[E5, *],by exact AJ S1.out.bl _⟩)
 go_enter Tryz.func77,Tryz.ntmps77
 go_wp2
 go_loopw [6] (λv6 wr=> ∃k:Int,(k=0∨k=1∨k=2∨k=3)/\v6=.int .i64 k/\Asd (St w wr [(w.heap.size+1,[.int .i64 (g 0),.int .i64 (g 1),.int .i64 (g 2)]),(w.heap.size,[.int .i64 (f 0),.int .i64 (f 1),.int .i64 (f 2)])] [])) (λv6 _=>3-(intOf v6).toNat)
 case atStart=>exact⟨0,by decide,rfl,⟨by refine St.layAt (by simp;done) ?_;refine St.layAt (by simp;done) ?_;exact S0.out⟩⟩
 case round=>
  obtain⟨k,hk,rfl,S1⟩:=hrel
  have C1:=S1.out.facts
  simp only[facts,apart,Az,Nat.zero_add,Nat.reduceAdd,and_true]at C1
  rcases hk with rfl|rfl|rfl|rfl
  ·obtain⟨a1,a2,a3⟩:=ET h0
   go_wp2
   go_quiet ((go_at_call 140;exact Bu (As _ _)))
   go_wp2
   go_roundw
   case rel=>exact⟨1,by decide,rfl,⟨St.drewN S1.out _⟩⟩
   case measure=>simp[intOf]
  ·obtain⟨a1,a2,a3⟩:=ET h1
   go_wp2
   go_quiet ((go_at_call 140;exact Bu (As _ _)))
   go_wp2
   go_roundw
   case rel=>exact⟨2,by decide,rfl,⟨St.drewN S1.out _⟩⟩
   case measure=>simp[intOf]
  ·obtain⟨a1,a2,a3⟩:=ET h2
   go_wp2
   go_quiet ((go_at_call 140;exact Bu (As _ _)))
   go_wp2
   go_roundw
   case rel=>exact⟨3,by decide,rfl,⟨St.drewN S1.out _⟩⟩
   case measure=>simp[intOf]
  go_wp2
  go_ret
  exact⟨by simp[E5, *],S1.out.bl⟩
end
section
attribute [local go_sem] CE CA CF CG B_ CB CD CC Be Bc Ba
attribute [local go_sem] Ig Ih Ip
set_option maxHeartbeats 400000 in
theorem B6(i x:Int)(w:World):Calls Tryz.prog 78 #[.int .i64 i,.int .i64 x] w λe w'=>e=.returned (.bool (decide (x<=72057594037927936)))/\w=w':=by
 go_enter Tryz.func78,Tryz.ntmps78
 go_wp2
 go_ret
 exact⟨rfl,rfl⟩
set_option maxRecDepth 100000 in
set_option maxHeartbeats 1000000 in
theorem Pg(v:Nat->Int)(w:World):
 Calls Tryz.prog 69 #[.agg #[.int .i64 (v 0),.int .i64 (v 1),.int .i64 (v 2)],.func (.func 78) #[] #[]] w λe w'=>e=.returned (.bool (decide ((v 0)<=72057594037927936)&&(decide ((v 1)<=72057594037927936)&&decide ((v 2)<=72057594037927936))))/\Below w.heap.size w w':=by
 cases h0:decide ((v 0)<=72057594037927936)
 ·go_enter Tryz.func69,Tryz.ntmps69
  go_wp2
  go_loop [8] (λv8=> ∃k:Int,(k=0)/\v8=.int .i64 k) (λv8=>3-(intOf v8).toNat)
  case atStart=>exact⟨0,by decide,rfl⟩
  case round=>
   obtain⟨k,hk,rfl⟩:=hrel
   obtain rfl:=hk
   go_wp2_with (go_at_call 78;refine(B6 _ _ _).mono ?_;rintro e w' ⟨rfl,rfl⟩)
   go_ret
   exact⟨by simp[*],LC⟩
 cases h1:decide ((v 1)<=72057594037927936)
 ·go_enter Tryz.func69,Tryz.ntmps69
  go_wp2
  go_loop [8] (λv8=> ∃k:Int,(k=0∨k=1)/\v8=.int .i64 k) (λv8=>3-(intOf v8).toNat)
  case atStart=>exact⟨0,by decide,rfl⟩
  case round=>
   obtain⟨k,hk,rfl⟩:=hrel
   rcases hk with rfl|rfl
   ·go_wp2_with (go_at_call 78;refine(B6 _ _ _).mono ?_;rintro e w' ⟨rfl,rfl⟩)
    go_round
    case rel=>exact⟨1,by decide,rfl⟩
    case measure=>simp[intOf]
   go_wp2_with (go_at_call 78;refine(B6 _ _ _).mono ?_;rintro e w' ⟨rfl,rfl⟩)
   go_ret
   exact⟨by simp[*],LC⟩
 cases h2:decide ((v 2)<=72057594037927936)
 ·go_enter Tryz.func69,Tryz.ntmps69
  go_wp2
  go_loop [8] (λv8=> ∃k:Int,(k=0∨k=1∨k=2)/\v8=.int .i64 k) (λv8=>3-(intOf v8).toNat)
  case atStart=>exact⟨0,by decide,rfl⟩
  case round=>
   obtain⟨k,hk,rfl⟩:=hrel
   rcases hk with rfl|rfl|rfl
   ·go_wp2_with (go_at_call 78;refine(B6 _ _ _).mono ?_;rintro e w' ⟨rfl,rfl⟩)
    go_round
    case rel=>exact⟨1,by decide,rfl⟩
    case measure=>simp[intOf]
   ·go_wp2_with (go_at_call 78;refine(B6 _ _ _).mono ?_;rintro e w' ⟨rfl,rfl⟩)
    go_round
    case rel=>exact⟨2,by decide,rfl⟩
    case measure=>simp[intOf]
   go_wp2_with (go_at_call 78;refine(B6 _ _ _).mono ?_;rintro e w' ⟨rfl,rfl⟩)
   go_ret
   exact⟨by simp[*],LC⟩
 go_enter Tryz.func69,Tryz.ntmps69
 go_wp2
 go_loop [8] (λv8=> ∃k:Int,(k=0∨k=1∨k=2∨k=3)/\v8=.int .i64 k) (λv8=>3-(intOf v8).toNat)
 case atStart=>exact⟨0,by decide,rfl⟩
 case round=>
  obtain⟨k,hk,rfl⟩:=hrel
  rcases hk with rfl|rfl|rfl|rfl
  ·go_wp2_with (go_at_call 78;refine(B6 _ _ _).mono ?_;rintro e w' ⟨rfl,rfl⟩)
   go_round
   case rel=>exact⟨1,by decide,rfl⟩
   case measure=>simp[intOf]
  ·go_wp2_with (go_at_call 78;refine(B6 _ _ _).mono ?_;rintro e w' ⟨rfl,rfl⟩)
   go_round
   case rel=>exact⟨2,by decide,rfl⟩
   case measure=>simp[intOf]
  ·go_wp2_with (go_at_call 78;refine(B6 _ _ _).mono ?_;rintro e w' ⟨rfl,rfl⟩)
   go_round
   case rel=>exact⟨3,by decide,rfl⟩
   case measure=>simp[intOf]
  go_wp2_with (go_at_call 78;refine(B6 _ _ _).mono ?_;rintro e w' ⟨rfl,rfl⟩)
  go_ret
  exact⟨by simp[*],LC⟩
set_option maxRecDepth 100000 in
set_option maxHeartbeats 2000000 in
theorem Sc(c:Nat->Int)(w:World):Calls Tryz.prog 76 #[.agg #[.int .i64 (c 0),.int .i64 (c 1),.int .i64 (c 2),.int .i64 (c 3),.int .i64 (c 4),.int .i64 (c 5),.int .i64 (c 6),.int .i64 (c 7),.int .i64 (c 8),.int .i64 (c 9),.int .i64 (c 10),.int .i64 (c 11),.int .i64 (c 12),.int .i64 (c 13),.int .i64 (c 14),.int .i64 (c 15),.int .i64 (c 16),.int .i64 (c 17),.int .i64 (c 18),.int .i64 (c 19),.int .i64 (c 20),.int .i64 (c 21),.int .i64 (c 22),.int .i64 (c 23),.int .i64 (c 24),.int .i64 (c 25),.int .i64 (c 26),.int .i64 (c 27),.int .i64 (c 28),.int .i64 (c 29),.int .i64 (c 30)]] w λe w'=>e=.returned (.bool (BS c 5))/\Below w.heap.size w w':=by
 obtain⟨M,hM⟩: ∃M,E5 (λi=>c (11+i)) (λi=>c (14+i))=M:=⟨_,rfl⟩
 have HM:Asd (∀W,Calls Tryz.prog 77 #[.agg #[.int .i64 (c 11),.int .i64 (c 12),.int .i64 (c 13)],.agg #[.int .i64 (c 14),.int .i64 (c 15),.int .i64 (c 16)]] W λe w'=>e=.returned (.bool M)/\Below W.heap.size W w'):=⟨λW=>by
  have k:=ME (λi=>c (11+i)) (λi=>c (14+i)) W
  rw[<-hM];exact k⟩
 obtain⟨B,hB⟩: ∃B,(decide (c 14<=72057594037927936)&&(decide (c 15<=72057594037927936)&&decide (c 16<=72057594037927936)))=B:=⟨_,rfl⟩
 have HA:Asd (∀W,Calls Tryz.prog 69 #[.agg #[.int .i64 (c 14),.int .i64 (c 15),.int .i64 (c 16)],.func (.func 78) #[] #[]] W λe w'=>e=.returned (.bool B)/\Below W.heap.size W w'):=⟨λW=>by
  have k:=Pg (λi=>c (14+i)) W
  rw[<-hB];exact k⟩
 have hr:BS c 5=(M&&B):=by rw[<-hB,<-hM];rfl
 rw[hr]
 clear hr hB hM
 have S0:=Asd.mk (St.refl w)
 cases M
 all_goals cases B
 all_goals(
 go_enter Tryz.func76,Tryz.ntmps76
 go_wp2_with (first
  |(go_at_call 69;replace S1:=S1;refine(HA.out _).mono ?_;rintro e w2 ⟨rfl,hb2⟩;apply St.step (w0:=w) (hb:=hb2);(focus(with_reducible repeat (first|exact S1.out|apply St.lay|apply St.drew|apply St.drewN)));intro S2;(try simp only[Gs,Ik,Hb]at S2);clear hb2 S1;(try clear C1);have C2:=S2.out.facts;simp only[facts,apart,Az,Nat.zero_add,Nat.reduceAdd,and_true]at C2)
  |(go_at_call 77;replace S0:=S0;refine(HM.out _).mono ?_;rintro e w1 ⟨rfl,hb1⟩;apply St.step (w0:=w) (hb:=hb1);(focus(with_reducible repeat (first|exact S0.out|apply St.lay|apply St.drew|apply St.drewN)));intro S1;(try simp only[Gs,Ik,Hb]at S1);clear hb1 S0;(try clear C0);have C1:=S1.out.facts;simp only[facts,apart,Az,Nat.zero_add,Nat.reduceAdd,and_true]at C1))
 go_ret
 exact⟨by first|rfl|(exact Bo (by simp[*];done)),by first|exact S2.out.bl|exact S1.out.bl⟩)
end
end Go.Proofs.YtikajapjkdloaaaGreatDoor
