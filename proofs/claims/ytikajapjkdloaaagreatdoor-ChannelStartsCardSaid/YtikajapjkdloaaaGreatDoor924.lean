/- Walks of layer 5 (sym): whether all entries fit, in the program and in the document's answer; the matrix of a diagonal. -/
import Derived.StillTailTactics
import Derived.Deep.RegionWith
import Derived.Test.YtikajapjkdloaaaGreatDoor915
namespace Go.Proofs.YtikajapjkdloaaaGreatDoor
set_option linter.unusedVariables false
set_option linter.unusedSimpArgs false
section
open Go.RowKit
attribute [local go_sem] CE CA CF CG B_ CB CD CC Be Bc Ba
attribute [local go_sem] Sa TZ TE Sm Tc TY
def Fl(p:Nat->Bool):Nat->Bool
 |0=>true
 |n+1=>Fl p n&&p n
theorem Hp{p:Nat->Bool}{n:Nat}(h:Fl p n=true)(k:p n=true):Fl p (n+1)=true:=by simp[Fl,h,k]
theorem Ca{p:Nat->Bool}: ∀{n k:Nat},k<n->p k=false->Fl p n=false
 |0,_,h,_=>absurd h en
 |n+1,k,h,hp=>by
  by_cases e:k=n
  ·subst e;simp[Fl,hp]
  simp[Fl,Ca (n:=n) (k:=k) en hp]
theorem C_{p:Nat->Bool}: ∀{n k:Nat},Fl p n=true->k<n->p k=true
 |n+1,k,h,hk=>by
  simp only[Fl,Bool.and_eq_true]at h
  by_cases e:k=n
  ·subst e;exact h.2
  exact C_ h.1 en
def Ap(m:Nat->Int):Bool:=Fl (λj=>AL (m j)) 6
set_option maxRecDepth 100000 in
set_option maxHeartbeats 4000000 in
theorem Is(m:Nat->Int)(w:World):Calls Tryz.prog 199 #[.agg #[.int .i64 (m 0),.int .i64 (m 1),.int .i64 (m 2),.int .i64 (m 3),.int .i64 (m 4),.int .i64 (m 5)]] w λe w'=>e=.returned (.bool (Ap m))/\Below w.heap.size w w':=by
 go_enter Tryz.func199,Tryz.ntmps199
 go_wp2
 go_loop [6] (λv=> ∃k:Int,(k=0∨k=1∨k=2∨k=3∨k=4∨k=5∨k=6)/\v=.int .i64 k/\Fl (λj=>AL (m j)) k.toNat=true) (λv=>6-(intOf v).toNat)
 case atStart=>exact⟨0,by decide,rfl,rfl⟩
 case round=>
  obtain⟨k,hk,rfl,hu⟩:=hrel
  rcases hk with rfl|rfl|rfl|rfl|rfl|rfl|rfl
  ·obtain⟨b,hb⟩: ∃b,AL (m 0)=b:=⟨_,rfl⟩
   have HI:Asd (∀W,Calls Tryz.prog 140 #[.int .i64 (m 0)] W λe w'=>e=.returned (.bool b)/\W=w'):=⟨λW=>by rw[<-hb];exact As _ W⟩
   cases b
   all_goals go_wp2_with (go_at_call 140;refine(HI.out _).mono ?_;rintro e w' ⟨rfl,rfl⟩)
   ·go_ret
    exact⟨by rw[show Ap m=false from Ca (k:=0) eo hb];rfl,LC⟩
   go_round
   case rel=>exact⟨1,by decide,rfl,Hp (n:=0) hu hb⟩
   case measure=>simp[intOf]
  ·obtain⟨b,hb⟩: ∃b,AL (m 1)=b:=⟨_,rfl⟩
   have HI:Asd (∀W,Calls Tryz.prog 140 #[.int .i64 (m 1)] W λe w'=>e=.returned (.bool b)/\W=w'):=⟨λW=>by rw[<-hb];exact As _ W⟩
   cases b
   all_goals go_wp2_with (go_at_call 140;refine(HI.out _).mono ?_;rintro e w' ⟨rfl,rfl⟩)
   ·go_ret
    exact⟨by rw[show Ap m=false from Ca (k:=1) eo hb];rfl,LC⟩
   go_round
   case rel=>exact⟨2,by decide,rfl,Hp (n:=1) hu hb⟩
   case measure=>simp[intOf]
  ·obtain⟨b,hb⟩: ∃b,AL (m 2)=b:=⟨_,rfl⟩
   have HI:Asd (∀W,Calls Tryz.prog 140 #[.int .i64 (m 2)] W λe w'=>e=.returned (.bool b)/\W=w'):=⟨λW=>by rw[<-hb];exact As _ W⟩
   cases b
   all_goals go_wp2_with (go_at_call 140;refine(HI.out _).mono ?_;rintro e w' ⟨rfl,rfl⟩)
   ·go_ret
    exact⟨by rw[show Ap m=false from Ca (k:=2) eo hb];rfl,LC⟩
   go_round
   case rel=>exact⟨3,by decide,rfl,Hp (n:=2) hu hb⟩
   case measure=>simp[intOf]
  ·obtain⟨b,hb⟩: ∃b,AL (m 3)=b:=⟨_,rfl⟩
   have HI:Asd (∀W,Calls Tryz.prog 140 #[.int .i64 (m 3)] W λe w'=>e=.returned (.bool b)/\W=w'):=⟨λW=>by rw[<-hb];exact As _ W⟩
   cases b
   all_goals go_wp2_with (go_at_call 140;refine(HI.out _).mono ?_;rintro e w' ⟨rfl,rfl⟩)
   ·go_ret
    exact⟨by rw[show Ap m=false from Ca (k:=3) eo hb];rfl,LC⟩
   go_round
   case rel=>exact⟨4,by decide,rfl,Hp (n:=3) hu hb⟩
   case measure=>simp[intOf]
  ·obtain⟨b,hb⟩: ∃b,AL (m 4)=b:=⟨_,rfl⟩
   have HI:Asd (∀W,Calls Tryz.prog 140 #[.int .i64 (m 4)] W λe w'=>e=.returned (.bool b)/\W=w'):=⟨λW=>by rw[<-hb];exact As _ W⟩
   cases b
   all_goals go_wp2_with (go_at_call 140;refine(HI.out _).mono ?_;rintro e w' ⟨rfl,rfl⟩)
   ·go_ret
    exact⟨by rw[show Ap m=false from Ca (k:=4) eo hb];rfl,LC⟩
   go_round
   case rel=>exact⟨5,by decide,rfl,Hp (n:=4) hu hb⟩
   case measure=>simp[intOf]
  ·obtain⟨b,hb⟩: ∃b,AL (m 5)=b:=⟨_,rfl⟩
   have HI:Asd (∀W,Calls Tryz.prog 140 #[.int .i64 (m 5)] W λe w'=>e=.returned (.bool b)/\W=w'):=⟨λW=>by rw[<-hb];exact As _ W⟩
   cases b
   all_goals go_wp2_with (go_at_call 140;refine(HI.out _).mono ?_;rintro e w' ⟨rfl,rfl⟩)
   ·go_ret
    exact⟨by rw[show Ap m=false from Ca (k:=5) eo hb];rfl,LC⟩
   go_round
   case rel=>exact⟨6,by decide,rfl,Hp (n:=5) hu hb⟩
   case measure=>simp[intOf]
  go_wp2
  go_ret
  exact⟨by rw[show Ap m=true from hu];rfl,LC⟩
end
section
open Go.RowKit
attribute [local go_sem] CE CA CF CG B_ CB CD CC Be Bc Ba
def AF(a b:Nat->Int)(i:Nat):Int:=if Ap a&&Ap b then(if Ap (λj=>a j+b j)then a i+b i else 0)else 0
def BD(a b:Nat->Int):Int:=if Ap a&&Ap b then(if Ap (λj=>a j+b j)then 0 else 3)else 1
abbrev HJ(b:Nat->Int):List Value:=[.int .i64 (b 0),.int .i64 (b 1),.int .i64 (b 2),.int .i64 (b 3),.int .i64 (b 4),.int .i64 (b 5)]
abbrev Nt(a:Nat->Int)(b:Nat->Int):List Value:=[.int .i64 (a 0+b 0),.int .i64 (a 1+b 1),.int .i64 (a 2+b 2),.int .i64 (a 3+b 3),.int .i64 (a 4+b 4),.int .i64 (a 5+b 5)]
abbrev JP:List Value:=[.int .i64 0,.int .i64 0,.int .i64 0,.int .i64 0,.int .i64 0,.int .i64 0]
abbrev Nj(a:Nat->Int):List Value:=[.int .i64 (a 0),.int .i64 (a 1),.int .i64 (a 2),.int .i64 (a 3),.int .i64 (a 4),.int .i64 (a 5)]
abbrev TH:Array Value:=#[.int .i64 0,.int .i64 0,.int .i64 0,.int .i64 0,.int .i64 0,.int .i64 0]
abbrev U7(b:Nat->Int):Array Value:=#[.int .i64 (b 0),.int .i64 (b 1),.int .i64 (b 2),.int .i64 (b 3),.int .i64 (b 4),.int .i64 (b 5)]
abbrev VP(a:Nat->Int):Array Value:=#[.int .i64 (a 0),.int .i64 (a 1),.int .i64 (a 2),.int .i64 (a 3),.int .i64 (a 4),.int .i64 (a 5)]
set_option maxRecDepth 100000 in
set_option maxHeartbeats 8000000 in
theorem HQ(a b:Nat->Int)(w:World):Calls Tryz.prog 150 #[.agg (VP a),.agg (U7 b)] w λe w'=>e=.returned (.tuple #[.agg #[.int .i64 (AF a b 0),.int .i64 (AF a b 1),.int .i64 (AF a b 2),.int .i64 (AF a b 3),.int .i64 (AF a b 4),.int .i64 (AF a b 5)],.int .i64 (BD a b)])/\Below w.heap.size w w':=by
 obtain⟨fa,hfa⟩: ∃x,Ap a=x:=⟨_,rfl⟩
 obtain⟨fb,hfb⟩: ∃x,Ap b=x:=⟨_,rfl⟩
 obtain⟨fs,hfs⟩: ∃x,Ap (λj=>a j+b j)=x:=⟨_,rfl⟩
 have HFa:Asd (∀W,Calls Tryz.prog 199 #[.agg (VP a)] W λe w'=>e=.returned (.bool fa)/\Below W.heap.size W w'):=⟨λW=>by rw[<-hfa];exact Is (a) W⟩
 have HFb:Asd (∀W,Calls Tryz.prog 199 #[.agg (U7 b)] W λe w'=>e=.returned (.bool fb)/\Below W.heap.size W w'):=⟨λW=>by rw[<-hfb];exact Is (b) W⟩
 have HFs:Asd (∀W,Calls Tryz.prog 199 #[.agg #[.int .i64 (a 0+b 0),.int .i64 (a 1+b 1),.int .i64 (a 2+b 2),.int .i64 (a 3+b 3),.int .i64 (a 4+b 4),.int .i64 (a 5+b 5)]] W λe w'=>e=.returned (.bool fs)/\Below W.heap.size W w'):=⟨λW=>by rw[<-hfs];exact Is (λj=>a j+b j) W⟩
 have S0:Asd (St w (((w.alloc (.cells (VP a) 45)).alloc (.cells (U7 b) 45)).alloc (.cells TH 45)) [(w.heap.size+1+1,JP),(w.heap.size+1,(HJ b)),(w.heap.size,(Nj a))] []):=⟨by refine St.layAt (by simp;done) ?_;refine St.layAt (by simp;done) ?_;refine St.layAt rfl ?_;exact St.refl w⟩
 simp only[AF,BD,hfa,hfb,hfs]
 cases fa
 ·clear hfa hfb hfs
  go_enter Tryz.func150,Tryz.ntmps150
  go_wp2_with (first|(go_at_call 199;replace S0:=S0;refine(HFa.out _).mono ?_;rintro e w1 ⟨rfl,hb1⟩;have S1:=Asd.mk (St.call (by(focus(with_reducible repeat (first|exact S0.out|apply St.drew|apply St.drewN)))) hb1);clear hb1 S0)|(replace S1:=S1;refine DQ (w0:=w) 45 rfl rfl rfl (w.heap.size+1+1) (by kernel_rfl) TH rfl S1.out 0 rfl rfl (by kernel_rfl) (by kernel_rfl) ?_;intro w2 Sx;have S2:Asd (St w w2 [(w.heap.size+1+1,JP),(w.heap.size+1,(HJ b)),(w.heap.size,(Nj a))] []):=⟨Sx⟩;clear Sx S1)|(replace S0:=S0;refine A9 45 rfl rfl (w.heap.size) (by kernel_rfl) (cs:=(Nj a)) (St.at S0.out 2 rfl) (by kernel_rfl) (by kernel_rfl) ?_))
  exact bodyPost_ret (EP (a:=4) (b:=5) (t:=45) rfl (g:=w.heap.size+1+1) rfl rfl (C8 (St.at S2.out 0 rfl) (by kernel_rfl) (by kernel_rfl))) rfl ⟨rfl,S2.out.bl⟩
 cases fb
 ·clear hfa hfb hfs
  go_enter Tryz.func150,Tryz.ntmps150
  go_wp2_with (first|(go_at_call 199;replace S1:=S1;refine(HFb.out _).mono ?_;rintro e w2 ⟨rfl,hb2⟩;have S2:=Asd.mk (St.call (by(focus(with_reducible repeat (first|exact S1.out|apply St.drew|apply St.drewN)))) hb2);clear hb2 S1;clear C1)|(go_at_call 199;replace S0:=S0;refine(HFa.out _).mono ?_;rintro e w1 ⟨rfl,hb1⟩;have S1:=Asd.mk (St.call (by(focus(with_reducible repeat (first|exact S0.out|apply St.drew|apply St.drewN)))) hb1);clear hb1 S0;have C1:=S1.out.facts;simp only[facts,apart,Az,Nat.zero_add,Nat.reduceAdd,and_true]at C1)|(replace S2:=S2;refine DQ (w0:=w) 45 rfl rfl rfl (w.heap.size+1+1) (by kernel_rfl) TH rfl S2.out 0 rfl rfl (by kernel_rfl) (by kernel_rfl) ?_;intro w3 Sx;have S3:Asd (St w w3 [(w.heap.size+1+1,JP),(w.heap.size+1,(HJ b)),(w.heap.size,(Nj a))] []):=⟨Sx⟩;clear Sx S2)|(replace S1:=S1;refine A9 45 rfl rfl (w.heap.size+1) (by kernel_rfl) (cs:=(HJ b)) (St.at S1.out 1 rfl) (by kernel_rfl) (by kernel_rfl) ?_)|(replace S0:=S0;refine A9 45 rfl rfl (w.heap.size) (by kernel_rfl) (cs:=(Nj a)) (St.at S0.out 2 rfl) (by kernel_rfl) (by kernel_rfl) ?_))
  exact bodyPost_ret (EP (a:=4) (b:=5) (t:=45) rfl (g:=w.heap.size+1+1) rfl rfl (C8 (St.at S3.out 0 rfl) (by kernel_rfl) (by kernel_rfl))) rfl ⟨rfl,S3.out.bl⟩
 have G:=Asd.mk (And.intro hfa hfb)
 clear hfa hfb
 go_enter Tryz.func150,Tryz.ntmps150
 go_wp2_with (first|(go_at_call 199;replace S1:=S1;refine(HFb.out _).mono ?_;rintro e w2 ⟨rfl,hb2⟩;have S2:=Asd.mk (St.call (by(focus(with_reducible repeat (first|exact S1.out|apply St.drew|apply St.drewN)))) hb2);clear hb2 S1;clear C1)|(go_at_call 199;replace S0:=S0;refine(HFa.out _).mono ?_;rintro e w1 ⟨rfl,hb1⟩;have S1:=Asd.mk (St.call (by(focus(with_reducible repeat (first|exact S0.out|apply St.drew|apply St.drewN)))) hb1);clear hb1 S0;have C1:=S1.out.facts;simp only[facts,apart,Az,Nat.zero_add,Nat.reduceAdd,and_true]at C1)|(replace S1:=S1;refine A9 45 rfl rfl (w.heap.size+1) (by kernel_rfl) (cs:=(HJ b)) (St.at S1.out 1 rfl) (by kernel_rfl) (by kernel_rfl) ?_)|(replace S0:=S0;refine A9 45 rfl rfl (w.heap.size) (by kernel_rfl) (cs:=(Nj a)) (St.at S0.out 2 rfl) (by kernel_rfl) (by kernel_rfl) ?_))
 go_loopw [16] (λv wr=> ∃k:Int,v=.int .i64 k/\((k=0/\Asd (St w wr [(w.heap.size+1+1,JP),(w.heap.size+1,(HJ b)),(w.heap.size,(Nj a))] []))∨(k=1/\Asd (St w wr [(w.heap.size+1+1,JP),(w.heap.size+1,(HJ b)),(w.heap.size,[.int .i64 (a 0+b 0),.int .i64 (a 1),.int .i64 (a 2),.int .i64 (a 3),.int .i64 (a 4),.int .i64 (a 5)])] []))∨(k=2/\Asd (St w wr [(w.heap.size+1+1,JP),(w.heap.size+1,(HJ b)),(w.heap.size,[.int .i64 (a 0+b 0),.int .i64 (a 1+b 1),.int .i64 (a 2),.int .i64 (a 3),.int .i64 (a 4),.int .i64 (a 5)])] []))∨(k=3/\Asd (St w wr [(w.heap.size+1+1,JP),(w.heap.size+1,(HJ b)),(w.heap.size,[.int .i64 (a 0+b 0),.int .i64 (a 1+b 1),.int .i64 (a 2+b 2),.int .i64 (a 3),.int .i64 (a 4),.int .i64 (a 5)])] []))∨(k=4/\Asd (St w wr [(w.heap.size+1+1,JP),(w.heap.size+1,(HJ b)),(w.heap.size,[.int .i64 (a 0+b 0),.int .i64 (a 1+b 1),.int .i64 (a 2+b 2),.int .i64 (a 3+b 3),.int .i64 (a 4),.int .i64 (a 5)])] []))∨(k=5/\Asd (St w wr [(w.heap.size+1+1,JP),(w.heap.size+1,(HJ b)),(w.heap.size,[.int .i64 (a 0+b 0),.int .i64 (a 1+b 1),.int .i64 (a 2+b 2),.int .i64 (a 3+b 3),.int .i64 (a 4+b 4),.int .i64 (a 5)])] []))∨(k=6/\Asd (St w wr [(w.heap.size+1+1,JP),(w.heap.size+1,(HJ b)),(w.heap.size,(Nt a b))] [])))) (λv _=>6-(intOf v).toNat)
 case atStart=>exact⟨0,rfl,Or.inl ⟨rfl,S2⟩⟩
 case round=>
  obtain⟨k,rfl,hk⟩:=hrel
  clear S2
  rcases hk with⟨rfl,S3⟩|⟨rfl,S3⟩|⟨rfl,S3⟩|⟨rfl,S3⟩|⟨rfl,S3⟩|⟨rfl,S3⟩|⟨rfl,S3⟩
  ·obtain⟨x1,x2⟩:=fitB_true.1 (C_ G.out.1 (k:=0) eo)
   obtain⟨y1,y2⟩:=fitB_true.1 (C_ G.out.2 (k:=0) eo)
   have eA:=St.cell S3.out 2 0 rfl rfl
   have eB:=St.cell S3.out 1 0 rfl rfl
   have F3:=S3.out.facts.2.2.2.2.2.2.2.2.2.2.1
   simp only at F3 x1 x2 y1 y2
   go_wp2
   go_still_tail 8,(by kernel_rfl)
   change wpList _ _ _ _ _ (World.drew _)
   go_wp2
   go_roundw
   case rel=>exact⟨1,rfl,by simp only[Int.reduceEq,false_and,false_or,or_false,true_and];exact⟨St.set (St.drew S3.out) 2 0 rfl (by simp) (Or.inl rfl) _⟩⟩
   case measure=>simp[intOf]
  ·obtain⟨x1,x2⟩:=fitB_true.1 (C_ G.out.1 (k:=1) eo)
   obtain⟨y1,y2⟩:=fitB_true.1 (C_ G.out.2 (k:=1) eo)
   have eA:=St.cell S3.out 2 1 rfl rfl
   have eB:=St.cell S3.out 1 1 rfl rfl
   have F3:=S3.out.facts.2.2.2.2.2.2.2.2.2.2.1
   simp only at F3 x1 x2 y1 y2
   go_wp2
   go_still_tail 8,(by kernel_rfl)
   change wpList _ _ _ _ _ (World.drew _)
   go_wp2
   go_roundw
   case rel=>exact⟨2,rfl,by simp only[Int.reduceEq,false_and,false_or,or_false,true_and];exact⟨St.set (St.drew S3.out) 2 1 rfl (by simp) (Or.inl rfl) _⟩⟩
   case measure=>simp[intOf]
  ·obtain⟨x1,x2⟩:=fitB_true.1 (C_ G.out.1 (k:=2) eo)
   obtain⟨y1,y2⟩:=fitB_true.1 (C_ G.out.2 (k:=2) eo)
   have eA:=St.cell S3.out 2 2 rfl rfl
   have eB:=St.cell S3.out 1 2 rfl rfl
   have F3:=S3.out.facts.2.2.2.2.2.2.2.2.2.2.1
   simp only at F3 x1 x2 y1 y2
   go_wp2
   go_still_tail 8,(by kernel_rfl)
   change wpList _ _ _ _ _ (World.drew _)
   go_wp2
   go_roundw
   case rel=>exact⟨3,rfl,by simp only[Int.reduceEq,false_and,false_or,or_false,true_and];exact⟨St.set (St.drew S3.out) 2 2 rfl (by simp) (Or.inl rfl) _⟩⟩
   case measure=>simp[intOf]
  ·obtain⟨x1,x2⟩:=fitB_true.1 (C_ G.out.1 (k:=3) eo)
   obtain⟨y1,y2⟩:=fitB_true.1 (C_ G.out.2 (k:=3) eo)
   have eA:=St.cell S3.out 2 3 rfl rfl
   have eB:=St.cell S3.out 1 3 rfl rfl
   have F3:=S3.out.facts.2.2.2.2.2.2.2.2.2.2.1
   simp only at F3 x1 x2 y1 y2
   go_wp2
   go_still_tail 8,(by kernel_rfl)
   change wpList _ _ _ _ _ (World.drew _)
   go_wp2
   go_roundw
   case rel=>exact⟨4,rfl,by simp only[Int.reduceEq,false_and,false_or,or_false,true_and];exact⟨St.set (St.drew S3.out) 2 3 rfl (by simp) (Or.inl rfl) _⟩⟩
   case measure=>simp[intOf]
  ·obtain⟨x1,x2⟩:=fitB_true.1 (C_ G.out.1 (k:=4) eo)
   obtain⟨y1,y2⟩:=fitB_true.1 (C_ G.out.2 (k:=4) eo)
   have eA:=St.cell S3.out 2 4 rfl rfl
   have eB:=St.cell S3.out 1 4 rfl rfl
   have F3:=S3.out.facts.2.2.2.2.2.2.2.2.2.2.1
   simp only at F3 x1 x2 y1 y2
   go_wp2
   go_still_tail 8,(by kernel_rfl)
   change wpList _ _ _ _ _ (World.drew _)
   go_wp2
   go_roundw
   case rel=>exact⟨5,rfl,by simp only[Int.reduceEq,false_and,false_or,or_false,true_and];exact⟨St.set (St.drew S3.out) 2 4 rfl (by simp) (Or.inl rfl) _⟩⟩
   case measure=>simp[intOf]
  ·obtain⟨x1,x2⟩:=fitB_true.1 (C_ G.out.1 (k:=5) eo)
   obtain⟨y1,y2⟩:=fitB_true.1 (C_ G.out.2 (k:=5) eo)
   have eA:=St.cell S3.out 2 5 rfl rfl
   have eB:=St.cell S3.out 1 5 rfl rfl
   have F3:=S3.out.facts.2.2.2.2.2.2.2.2.2.2.1
   simp only at F3 x1 x2 y1 y2
   go_wp2
   go_still_tail 8,(by kernel_rfl)
   change wpList _ _ _ _ _ (World.drew _)
   go_wp2
   go_roundw
   case rel=>exact⟨6,rfl,by simp only[Int.reduceEq,false_and,false_or,or_false,true_and];exact⟨St.set (St.drew S3.out) 2 5 rfl (by simp) (Or.inl rfl) _⟩⟩
   case measure=>simp[intOf]
  cases fs
  ·go_wp2_with (first|(go_at_call 199;replace S3:=S3;refine(HFs.out _).mono ?_;rintro e w4 ⟨rfl,hb4⟩;have S4:=Asd.mk (St.call (by(focus(with_reducible repeat (first|exact S3.out|apply St.drew|apply St.drewN)))) hb4);clear hb4 S3)|(replace S4:=S4;refine DQ (w0:=w) 45 rfl rfl rfl (w.heap.size+1+1) (by kernel_rfl) TH rfl S4.out 0 rfl rfl (by kernel_rfl) (by kernel_rfl) ?_;intro w5 Sx;have S5:Asd (St w w5 [(w.heap.size+1+1,JP),(w.heap.size+1,(HJ b)),(w.heap.size,(Nt a b))] []):=⟨Sx⟩;clear Sx S4)|(replace S3:=S3;refine A9 45 rfl rfl (w.heap.size) (by kernel_rfl) (cs:=(Nt a b)) (St.at S3.out 2 rfl) (by kernel_rfl) (by kernel_rfl) ?_))
   exact bodyPost_ret (EP (a:=4) (b:=5) (t:=45) rfl (g:=w.heap.size+1+1) rfl rfl (C8 (St.at S5.out 0 rfl) (by kernel_rfl) (by kernel_rfl))) rfl ⟨rfl,S5.out.bl⟩
  go_wp2_with (first|(go_at_call 199;replace S3:=S3;refine(HFs.out _).mono ?_;rintro e w4 ⟨rfl,hb4⟩;have S4:=Asd.mk (St.call (by(focus(with_reducible repeat (first|exact S3.out|apply St.drew|apply St.drewN)))) hb4);clear hb4 S3)|(replace S4:=S4;refine DQ (w0:=w) 45 rfl rfl rfl (w.heap.size+1+1) (by kernel_rfl) #[.int .i64 (a 0+b 0),.int .i64 (a 1+b 1),.int .i64 (a 2+b 2),.int .i64 (a 3+b 3),.int .i64 (a 4+b 4),.int .i64 (a 5+b 5)] rfl S4.out 0 rfl rfl (by kernel_rfl) (by kernel_rfl) ?_;intro w5 Sx;have S5:Asd (St w w5 [(w.heap.size+1+1,(Nt a b)),(w.heap.size+1,(HJ b)),(w.heap.size,(Nt a b))] []):=⟨Sx⟩;clear Sx S4)|(replace S4:=S4;refine A9 45 rfl rfl (w.heap.size) (by kernel_rfl) (cs:=(Nt a b)) (St.at S4.out 2 rfl) (by kernel_rfl) (by kernel_rfl) ?_)|(replace S3:=S3;refine A9 45 rfl rfl (w.heap.size) (by kernel_rfl) (cs:=(Nt a b)) (St.at S3.out 2 rfl) (by kernel_rfl) (by kernel_rfl) ?_))
  exact bodyPost_ret (EP (a:=4) (b:=5) (t:=45) rfl (g:=w.heap.size+1+1) rfl rfl (C8 (St.at S5.out 0 rfl) (by kernel_rfl) (by kernel_rfl))) rfl ⟨rfl,S5.out.bl⟩
end
section
open Go.RowKit
attribute [local go_sem] CE CA CF CG B_ CB CD CC Be Bc Ba
end
section
open Go.RowKit
attribute [local go_sem] CE CA CF CG B_ CB CD CC Be Bc Ba
end
section
end
end Go.Proofs.YtikajapjkdloaaaGreatDoor
