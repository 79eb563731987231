/- Walks of layer 13 (conf): the first rule that isn't kept. -/
import Derived.Test.YtikajapjkdloaaaGreatDoor916
namespace Go.Proofs.YtikajapjkdloaaaGreatDoor
set_option linter.unusedVariables false
set_option linter.unusedSimpArgs false
open Go.RowKit
attribute [local go_sem] CE CA CF CG B_ CB CD CC Be Bc Ba
theorem R3(w:World):(Instr.index 90 (.agg #[.int .i64 1,.func (.func 68) #[] #[],.int .i64 2,.func (.func 72) #[] #[],.int .i64 3,.func (.func 74) #[] #[],.int .i64 4,.func (.func 75) #[] #[],.int .i64 5,.func (.func 76) #[] #[],.int .i64 6,.func (.func 79) #[] #[],.int .i64 7,.func (.func 81) #[] #[],.int .i64 8,.func (.func 83) #[] #[],.int .i64 9,.func (.func 84) #[] #[],.int .i64 10,.func (.func 86) #[] #[],.int .i64 11,.func (.func 87) #[] #[],.int .i64 12,.func (.func 88) #[] #[],.int .i64 13,.func (.func 89) #[] #[],.int .i64 14,.func (.func 90) #[] #[]]) (.int .i64 0)).run Tryz.prog w=.ok (.agg #[.int .i64 1,.func (.func 68) #[] #[]]) w:=by kernel_rfl
theorem Q1(w:World):(Instr.index 90 (.agg #[.int .i64 1,.func (.func 68) #[] #[],.int .i64 2,.func (.func 72) #[] #[],.int .i64 3,.func (.func 74) #[] #[],.int .i64 4,.func (.func 75) #[] #[],.int .i64 5,.func (.func 76) #[] #[],.int .i64 6,.func (.func 79) #[] #[],.int .i64 7,.func (.func 81) #[] #[],.int .i64 8,.func (.func 83) #[] #[],.int .i64 9,.func (.func 84) #[] #[],.int .i64 10,.func (.func 86) #[] #[],.int .i64 11,.func (.func 87) #[] #[],.int .i64 12,.func (.func 88) #[] #[],.int .i64 13,.func (.func 89) #[] #[],.int .i64 14,.func (.func 90) #[] #[]]) (.int .i64 1)).run Tryz.prog w=.ok (.agg #[.int .i64 2,.func (.func 72) #[] #[]]) w:=by kernel_rfl
theorem Rk(w:World):(Instr.index 90 (.agg #[.int .i64 1,.func (.func 68) #[] #[],.int .i64 2,.func (.func 72) #[] #[],.int .i64 3,.func (.func 74) #[] #[],.int .i64 4,.func (.func 75) #[] #[],.int .i64 5,.func (.func 76) #[] #[],.int .i64 6,.func (.func 79) #[] #[],.int .i64 7,.func (.func 81) #[] #[],.int .i64 8,.func (.func 83) #[] #[],.int .i64 9,.func (.func 84) #[] #[],.int .i64 10,.func (.func 86) #[] #[],.int .i64 11,.func (.func 87) #[] #[],.int .i64 12,.func (.func 88) #[] #[],.int .i64 13,.func (.func 89) #[] #[],.int .i64 14,.func (.func 90) #[] #[]]) (.int .i64 2)).run Tryz.prog w=.ok (.agg #[.int .i64 3,.func (.func 74) #[] #[]]) w:=by kernel_rfl
theorem Q7(w:World):(Instr.index 90 (.agg #[.int .i64 1,.func (.func 68) #[] #[],.int .i64 2,.func (.func 72) #[] #[],.int .i64 3,.func (.func 74) #[] #[],.int .i64 4,.func (.func 75) #[] #[],.int .i64 5,.func (.func 76) #[] #[],.int .i64 6,.func (.func 79) #[] #[],.int .i64 7,.func (.func 81) #[] #[],.int .i64 8,.func (.func 83) #[] #[],.int .i64 9,.func (.func 84) #[] #[],.int .i64 10,.func (.func 86) #[] #[],.int .i64 11,.func (.func 87) #[] #[],.int .i64 12,.func (.func 88) #[] #[],.int .i64 13,.func (.func 89) #[] #[],.int .i64 14,.func (.func 90) #[] #[]]) (.int .i64 3)).run Tryz.prog w=.ok (.agg #[.int .i64 4,.func (.func 75) #[] #[]]) w:=by kernel_rfl
theorem Q5(w:World):(Instr.index 90 (.agg #[.int .i64 1,.func (.func 68) #[] #[],.int .i64 2,.func (.func 72) #[] #[],.int .i64 3,.func (.func 74) #[] #[],.int .i64 4,.func (.func 75) #[] #[],.int .i64 5,.func (.func 76) #[] #[],.int .i64 6,.func (.func 79) #[] #[],.int .i64 7,.func (.func 81) #[] #[],.int .i64 8,.func (.func 83) #[] #[],.int .i64 9,.func (.func 84) #[] #[],.int .i64 10,.func (.func 86) #[] #[],.int .i64 11,.func (.func 87) #[] #[],.int .i64 12,.func (.func 88) #[] #[],.int .i64 13,.func (.func 89) #[] #[],.int .i64 14,.func (.func 90) #[] #[]]) (.int .i64 4)).run Tryz.prog w=.ok (.agg #[.int .i64 5,.func (.func 76) #[] #[]]) w:=by kernel_rfl
theorem Qt(w:World):(Instr.index 90 (.agg #[.int .i64 1,.func (.func 68) #[] #[],.int .i64 2,.func (.func 72) #[] #[],.int .i64 3,.func (.func 74) #[] #[],.int .i64 4,.func (.func 75) #[] #[],.int .i64 5,.func (.func 76) #[] #[],.int .i64 6,.func (.func 79) #[] #[],.int .i64 7,.func (.func 81) #[] #[],.int .i64 8,.func (.func 83) #[] #[],.int .i64 9,.func (.func 84) #[] #[],.int .i64 10,.func (.func 86) #[] #[],.int .i64 11,.func (.func 87) #[] #[],.int .i64 12,.func (.func 88) #[] #[],.int .i64 13,.func (.func 89) #[] #[],.int .i64 14,.func (.func 90) #[] #[]]) (.int .i64 5)).run Tryz.prog w=.ok (.agg #[.int .i64 6,.func (.func 79) #[] #[]]) w:=by kernel_rfl
theorem SN(w:World):(Instr.index 90 (.agg #[.int .i64 1,.func (.func 68) #[] #[],.int .i64 2,.func (.func 72) #[] #[],.int .i64 3,.func (.func 74) #[] #[],.int .i64 4,.func (.func 75) #[] #[],.int .i64 5,.func (.func 76) #[] #[],.int .i64 6,.func (.func 79) #[] #[],.int .i64 7,.func (.func 81) #[] #[],.int .i64 8,.func (.func 83) #[] #[],.int .i64 9,.func (.func 84) #[] #[],.int .i64 10,.func (.func 86) #[] #[],.int .i64 11,.func (.func 87) #[] #[],.int .i64 12,.func (.func 88) #[] #[],.int .i64 13,.func (.func 89) #[] #[],.int .i64 14,.func (.func 90) #[] #[]]) (.int .i64 6)).run Tryz.prog w=.ok (.agg #[.int .i64 7,.func (.func 81) #[] #[]]) w:=by kernel_rfl
theorem QS(w:World):(Instr.index 90 (.agg #[.int .i64 1,.func (.func 68) #[] #[],.int .i64 2,.func (.func 72) #[] #[],.int .i64 3,.func (.func 74) #[] #[],.int .i64 4,.func (.func 75) #[] #[],.int .i64 5,.func (.func 76) #[] #[],.int .i64 6,.func (.func 79) #[] #[],.int .i64 7,.func (.func 81) #[] #[],.int .i64 8,.func (.func 83) #[] #[],.int .i64 9,.func (.func 84) #[] #[],.int .i64 10,.func (.func 86) #[] #[],.int .i64 11,.func (.func 87) #[] #[],.int .i64 12,.func (.func 88) #[] #[],.int .i64 13,.func (.func 89) #[] #[],.int .i64 14,.func (.func 90) #[] #[]]) (.int .i64 7)).run Tryz.prog w=.ok (.agg #[.int .i64 8,.func (.func 83) #[] #[]]) w:=by kernel_rfl
theorem Qe(w:World):(Instr.index 90 (.agg #[.int .i64 1,.func (.func 68) #[] #[],.int .i64 2,.func (.func 72) #[] #[],.int .i64 3,.func (.func 74) #[] #[],.int .i64 4,.func (.func 75) #[] #[],.int .i64 5,.func (.func 76) #[] #[],.int .i64 6,.func (.func 79) #[] #[],.int .i64 7,.func (.func 81) #[] #[],.int .i64 8,.func (.func 83) #[] #[],.int .i64 9,.func (.func 84) #[] #[],.int .i64 10,.func (.func 86) #[] #[],.int .i64 11,.func (.func 87) #[] #[],.int .i64 12,.func (.func 88) #[] #[],.int .i64 13,.func (.func 89) #[] #[],.int .i64 14,.func (.func 90) #[] #[]]) (.int .i64 8)).run Tryz.prog w=.ok (.agg #[.int .i64 9,.func (.func 84) #[] #[]]) w:=by kernel_rfl
theorem RO(w:World):(Instr.index 90 (.agg #[.int .i64 1,.func (.func 68) #[] #[],.int .i64 2,.func (.func 72) #[] #[],.int .i64 3,.func (.func 74) #[] #[],.int .i64 4,.func (.func 75) #[] #[],.int .i64 5,.func (.func 76) #[] #[],.int .i64 6,.func (.func 79) #[] #[],.int .i64 7,.func (.func 81) #[] #[],.int .i64 8,.func (.func 83) #[] #[],.int .i64 9,.func (.func 84) #[] #[],.int .i64 10,.func (.func 86) #[] #[],.int .i64 11,.func (.func 87) #[] #[],.int .i64 12,.func (.func 88) #[] #[],.int .i64 13,.func (.func 89) #[] #[],.int .i64 14,.func (.func 90) #[] #[]]) (.int .i64 9)).run Tryz.prog w=.ok (.agg #[.int .i64 10,.func (.func 86) #[] #[]]) w:=by kernel_rfl
theorem PP(w:World):(Instr.index 90 (.agg #[.int .i64 1,.func (.func 68) #[] #[],.int .i64 2,.func (.func 72) #[] #[],.int .i64 3,.func (.func 74) #[] #[],.int .i64 4,.func (.func 75) #[] #[],.int .i64 5,.func (.func 76) #[] #[],.int .i64 6,.func (.func 79) #[] #[],.int .i64 7,.func (.func 81) #[] #[],.int .i64 8,.func (.func 83) #[] #[],.int .i64 9,.func (.func 84) #[] #[],.int .i64 10,.func (.func 86) #[] #[],.int .i64 11,.func (.func 87) #[] #[],.int .i64 12,.func (.func 88) #[] #[],.int .i64 13,.func (.func 89) #[] #[],.int .i64 14,.func (.func 90) #[] #[]]) (.int .i64 10)).run Tryz.prog w=.ok (.agg #[.int .i64 11,.func (.func 87) #[] #[]]) w:=by kernel_rfl
theorem PV(w:World):(Instr.index 90 (.agg #[.int .i64 1,.func (.func 68) #[] #[],.int .i64 2,.func (.func 72) #[] #[],.int .i64 3,.func (.func 74) #[] #[],.int .i64 4,.func (.func 75) #[] #[],.int .i64 5,.func (.func 76) #[] #[],.int .i64 6,.func (.func 79) #[] #[],.int .i64 7,.func (.func 81) #[] #[],.int .i64 8,.func (.func 83) #[] #[],.int .i64 9,.func (.func 84) #[] #[],.int .i64 10,.func (.func 86) #[] #[],.int .i64 11,.func (.func 87) #[] #[],.int .i64 12,.func (.func 88) #[] #[],.int .i64 13,.func (.func 89) #[] #[],.int .i64 14,.func (.func 90) #[] #[]]) (.int .i64 11)).run Tryz.prog w=.ok (.agg #[.int .i64 12,.func (.func 88) #[] #[]]) w:=by kernel_rfl
theorem Pf(w:World):(Instr.index 90 (.agg #[.int .i64 1,.func (.func 68) #[] #[],.int .i64 2,.func (.func 72) #[] #[],.int .i64 3,.func (.func 74) #[] #[],.int .i64 4,.func (.func 75) #[] #[],.int .i64 5,.func (.func 76) #[] #[],.int .i64 6,.func (.func 79) #[] #[],.int .i64 7,.func (.func 81) #[] #[],.int .i64 8,.func (.func 83) #[] #[],.int .i64 9,.func (.func 84) #[] #[],.int .i64 10,.func (.func 86) #[] #[],.int .i64 11,.func (.func 87) #[] #[],.int .i64 12,.func (.func 88) #[] #[],.int .i64 13,.func (.func 89) #[] #[],.int .i64 14,.func (.func 90) #[] #[]]) (.int .i64 12)).run Tryz.prog w=.ok (.agg #[.int .i64 13,.func (.func 89) #[] #[]]) w:=by kernel_rfl
theorem QO(w:World):(Instr.index 90 (.agg #[.int .i64 1,.func (.func 68) #[] #[],.int .i64 2,.func (.func 72) #[] #[],.int .i64 3,.func (.func 74) #[] #[],.int .i64 4,.func (.func 75) #[] #[],.int .i64 5,.func (.func 76) #[] #[],.int .i64 6,.func (.func 79) #[] #[],.int .i64 7,.func (.func 81) #[] #[],.int .i64 8,.func (.func 83) #[] #[],.int .i64 9,.func (.func 84) #[] #[],.int .i64 10,.func (.func 86) #[] #[],.int .i64 11,.func (.func 87) #[] #[],.int .i64 12,.func (.func 88) #[] #[],.int .i64 13,.func (.func 89) #[] #[],.int .i64 14,.func (.func 90) #[] #[]]) (.int .i64 13)).run Tryz.prog w=.ok (.agg #[.int .i64 14,.func (.func 90) #[] #[]]) w:=by kernel_rfl
attribute [local go_sem] R3 Q1 Rk Q7 Q5 Qt SN QS Qe RO PP PV Pf QO
theorem Nv{P:Program}(w:World)(x y:Value)(f:Fn)(t:TypeId):
 (store ⟨w.heap.size,1,none⟩ (.func f #[] #[])).run P (w.alloc (.cells #[x,y] t))=.ok () (w.alloc (.cells #[x,.func f #[] #[]] t)):=by
 have hg:=heap_alloc_last w (.cells #[x,y] t)
 have hcell:(w.alloc (.cells #[x,y] t)).cell? ⟨w.heap.size,1,none⟩=some y:=by simp only[World.cell?,hg];rfl
 have hfro:(w.alloc (.cells #[x,y] t)).frozen? ⟨w.heap.size,1,none⟩=false:=by simp only[World.frozen?,hg];rfl
 rw[run_store P _ _ _ _ rfl,hcell]
 simp only[hfro]
 rw[setCell_eq_setRow _ _ _ _ _ _ _ hg,World.setRow_alloc_new]
 rfl
attribute [local go_sem] Nv
theorem Bl{c:Nat->Int}{n k:Nat}(h:Eu c (n+1) k=Ct c)(hr:BS c k=true):Eu c n (k+1)=Ct c:=by rw[<-h];simp[Eu,hr]
theorem Bj{c:Nat->Int}{n k:Nat}(h:Eu c (n+1) k=Ct c)(hr:BS c k=false):(k:Int)=Ct c:=by rw[<-h];simp[Eu,hr]
abbrev Gi(c:Nat->Int):Array Value:=#[.agg #[.int .i64 (c 0),.int .i64 (c 1),.int .i64 (c 2),.int .i64 (c 3),.int .i64 (c 4),.int .i64 (c 5),.int .i64 (c 6),.int .i64 (c 7),.int .i64 (c 8),.int .i64 (c 9),.int .i64 (c 10),.int .i64 (c 11),.int .i64 (c 12),.int .i64 (c 13),.int .i64 (c 14),.int .i64 (c 15),.int .i64 (c 16),.int .i64 (c 17),.int .i64 (c 18),.int .i64 (c 19),.int .i64 (c 20),.int .i64 (c 21),.int .i64 (c 22),.int .i64 (c 23),.int .i64 (c 24),.int .i64 (c 25),.int .i64 (c 26),.int .i64 (c 27),.int .i64 (c 28),.int .i64 (c 29),.int .i64 (c 30)]]
set_option maxRecDepth 100000 in
set_option maxHeartbeats 4000000 in
theorem Du(c:Nat->Int)(hc: ∀i,Ai (c i))(w:World):Calls Tryz.prog 11 (Gi c) w λe w'=>e=.returned (.int .i64 (Ct c))/\Below w.heap.size w w':=by
 obtain⟨z,hz⟩: ∃z,Ct c=z:=⟨_,rfl⟩
 have S0:=Asd.mk (St.refl w)
 go_enter Tryz.func11,Tryz.ntmps11
 rw[hz]
 go_wp2_with (first|(go_at_call 29;refine(OI _).mono ?_;rintro e w1 ⟨rfl,hb1⟩;apply St.step (w0:=w) (hb:=hb1);(focus(with_reducible repeat (first|exact S0.out|apply St.lay)));intro S1;clear hb1 S0))
 go_loopw [6] (λv6 wr=> ∃k:Int,(k=0∨k=1∨k=2∨k=3∨k=4∨k=5∨k=6∨k=7∨k=8∨k=9∨k=10∨k=11∨k=12∨k=13∨k=14)/\v6=.int .i64 k/\Eu c (14-k.toNat) (k.toNat+1)=Ct c/\Asd (St w wr [(w.heap.size,[.int .i64 (c 0),.int .i64 (c 1),.int .i64 (c 2),.int .i64 (c 3),.int .i64 (c 4),.int .i64 (c 5),.int .i64 (c 6),.int .i64 (c 7),.int .i64 (c 8),.int .i64 (c 9),.int .i64 (c 10),.int .i64 (c 11),.int .i64 (c 12),.int .i64 (c 13),.int .i64 (c 14),.int .i64 (c 15),.int .i64 (c 16),.int .i64 (c 17),.int .i64 (c 18),.int .i64 (c 19),.int .i64 (c 20),.int .i64 (c 21),.int .i64 (c 22),.int .i64 (c 23),.int .i64 (c 24),.int .i64 (c 25),.int .i64 (c 26),.int .i64 (c 27),.int .i64 (c 28),.int .i64 (c 29),.int .i64 (c 30)])] [])) (λv6 _=>14-(intOf v6).toNat)
 case atStart=>exact⟨0,by decide,rfl,rfl,S1⟩
 case round=>
  obtain⟨k,hk,rfl,hf,S2⟩:=hrel
  clear S1
  rcases hk with rfl|rfl|rfl|rfl|rfl|rfl|rfl|rfl|rfl|rfl|rfl|rfl|rfl|rfl|rfl
  ·obtain⟨b,hb⟩: ∃b,BS c 1=b:=⟨_,rfl⟩
   have HR:Asd (∀W,Calls Tryz.prog 68 (Gi c) W λe w'=>e=.returned (.bool b)/\Below W.heap.size W w'):=⟨λW=>by
    have q:=SZ c W
    rw[<-hb];exact q⟩
   have HF:=Asd.mk (And.intro hf hb)
   clear hf hb
   cases b
   all_goals go_wp2_with (first|(refine A9 25 rfl rfl w.heap.size el (St.at (w0:=w) (bs:=[_,_]) (gs:=[]) (by(focus(with_reducible repeat (first|exact S2.out|apply St.lay)))) 1 rfl) el el ?_)|(go_at_call 68;refine(HR.out _).mono ?_;rintro e w3 ⟨rfl,hb3⟩;apply St.step (w0:=w) (hb:=hb3);(focus(with_reducible repeat (first|exact S2.out|apply St.lay)));intro S3;clear hb3;(try clear C2);have C3:=S3.out.facts.2.2.2.1;have L3:=S3.out.facts.1;simp only[Az,Nat.zero_add,Nat.reduceAdd,and_true]at C3 L3))
   ·go_ret
    exact⟨by rw[<-hz];first|rfl|(rw[<-Bj HF.out.1 HF.out.2];rfl),S3.out.bl⟩
   go_roundw
   case rel=>exact⟨1,by decide,rfl,Bl HF.out.1 HF.out.2,⟨S3.out.less (List.Sublist.cons _ (List.Sublist.refl _)) (by simp)⟩⟩
   case measure=>simp[intOf]
  ·obtain⟨b,hb⟩: ∃b,BS c 2=b:=⟨_,rfl⟩
   have HR:Asd (∀W,Calls Tryz.prog 72 (Gi c) W λe w'=>e=.returned (.bool b)/\Below W.heap.size W w'):=⟨λW=>by
    have q:=Tl c W
    rw[<-hb];exact q⟩
   have HF:=Asd.mk (And.intro hf hb)
   clear hf hb
   cases b
   all_goals go_wp2_with (first|(refine A9 25 rfl rfl w.heap.size el (St.at (w0:=w) (bs:=[_,_]) (gs:=[]) (by(focus(with_reducible repeat (first|exact S2.out|apply St.lay)))) 1 rfl) el el ?_)|(go_at_call 72;refine(HR.out _).mono ?_;rintro e w3 ⟨rfl,hb3⟩;apply St.step (w0:=w) (hb:=hb3);(focus(with_reducible repeat (first|exact S2.out|apply St.lay)));intro S3;clear hb3;(try clear C2);have C3:=S3.out.facts.2.2.2.1;have L3:=S3.out.facts.1;simp only[Az,Nat.zero_add,Nat.reduceAdd,and_true]at C3 L3))
   ·go_ret
    exact⟨by rw[<-hz];first|rfl|(rw[<-Bj HF.out.1 HF.out.2];rfl),S3.out.bl⟩
   go_roundw
   case rel=>exact⟨2,by decide,rfl,Bl HF.out.1 HF.out.2,⟨S3.out.less (List.Sublist.cons _ (List.Sublist.refl _)) (by simp)⟩⟩
   case measure=>simp[intOf]
  ·obtain⟨b,hb⟩: ∃b,BS c 3=b:=⟨_,rfl⟩
   have HR:Asd (∀W,Calls Tryz.prog 74 (Gi c) W λe w'=>e=.returned (.bool b)/\Below W.heap.size W w'):=⟨λW=>by
    have q:=Sv c W
    rw[<-hb];exact q⟩
   have HF:=Asd.mk (And.intro hf hb)
   clear hf hb
   cases b
   all_goals go_wp2_with (first|(refine A9 25 rfl rfl w.heap.size el (St.at (w0:=w) (bs:=[_,_]) (gs:=[]) (by(focus(with_reducible repeat (first|exact S2.out|apply St.lay)))) 1 rfl) el el ?_)|(go_at_call 74;refine(HR.out _).mono ?_;rintro e w3 ⟨rfl,hb3⟩;apply St.step (w0:=w) (hb:=hb3);(focus(with_reducible repeat (first|exact S2.out|apply St.lay)));intro S3;clear hb3;(try clear C2);have C3:=S3.out.facts.2.2.2.1;have L3:=S3.out.facts.1;simp only[Az,Nat.zero_add,Nat.reduceAdd,and_true]at C3 L3))
   ·go_ret
    exact⟨by rw[<-hz];first|rfl|(rw[<-Bj HF.out.1 HF.out.2];rfl),S3.out.bl⟩
   go_roundw
   case rel=>exact⟨3,by decide,rfl,Bl HF.out.1 HF.out.2,⟨S3.out.less (List.Sublist.cons _ (List.Sublist.refl _)) (by simp)⟩⟩
   case measure=>simp[intOf]
  ·obtain⟨b,hb⟩: ∃b,BS c 4=b:=⟨_,rfl⟩
   have HR:Asd (∀W,Calls Tryz.prog 75 (Gi c) W λe w'=>e=.returned (.bool b)/\Below W.heap.size W w'):=⟨λW=>by
    have q:=Te c W
    rw[<-hb];exact q⟩
   have HF:=Asd.mk (And.intro hf hb)
   clear hf hb
   cases b
   all_goals go_wp2_with (first|(refine A9 25 rfl rfl w.heap.size el (St.at (w0:=w) (bs:=[_,_]) (gs:=[]) (by(focus(with_reducible repeat (first|exact S2.out|apply St.lay)))) 1 rfl) el el ?_)|(go_at_call 75;refine(HR.out _).mono ?_;rintro e w3 ⟨rfl,hb3⟩;apply St.step (w0:=w) (hb:=hb3);(focus(with_reducible repeat (first|exact S2.out|apply St.lay)));intro S3;clear hb3;(try clear C2);have C3:=S3.out.facts.2.2.2.1;have L3:=S3.out.facts.1;simp only[Az,Nat.zero_add,Nat.reduceAdd,and_true]at C3 L3))
   ·go_ret
    exact⟨by rw[<-hz];first|rfl|(rw[<-Bj HF.out.1 HF.out.2];rfl),S3.out.bl⟩
   go_roundw
   case rel=>exact⟨4,by decide,rfl,Bl HF.out.1 HF.out.2,⟨S3.out.less (List.Sublist.cons _ (List.Sublist.refl _)) (by simp)⟩⟩
   case measure=>simp[intOf]
  ·obtain⟨b,hb⟩: ∃b,BS c 5=b:=⟨_,rfl⟩
   have HR:Asd (∀W,Calls Tryz.prog 76 (Gi c) W λe w'=>e=.returned (.bool b)/\Below W.heap.size W w'):=⟨λW=>by
    have q:=Sc c W
    rw[<-hb];exact q⟩
   have HF:=Asd.mk (And.intro hf hb)
   clear hf hb
   cases b
   all_goals go_wp2_with (first|(refine A9 25 rfl rfl w.heap.size el (St.at (w0:=w) (bs:=[_,_]) (gs:=[]) (by(focus(with_reducible repeat (first|exact S2.out|apply St.lay)))) 1 rfl) el el ?_)|(go_at_call 76;refine(HR.out _).mono ?_;rintro e w3 ⟨rfl,hb3⟩;apply St.step (w0:=w) (hb:=hb3);(focus(with_reducible repeat (first|exact S2.out|apply St.lay)));intro S3;clear hb3;(try clear C2);have C3:=S3.out.facts.2.2.2.1;have L3:=S3.out.facts.1;simp only[Az,Nat.zero_add,Nat.reduceAdd,and_true]at C3 L3))
   ·go_ret
    exact⟨by rw[<-hz];first|rfl|(rw[<-Bj HF.out.1 HF.out.2];rfl),S3.out.bl⟩
   go_roundw
   case rel=>exact⟨5,by decide,rfl,Bl HF.out.1 HF.out.2,⟨S3.out.less (List.Sublist.cons _ (List.Sublist.refl _)) (by simp)⟩⟩
   case measure=>simp[intOf]
  ·obtain⟨b,hb⟩: ∃b,BS c 6=b:=⟨_,rfl⟩
   have HR:Asd (∀W,Calls Tryz.prog 79 (Gi c) W λe w'=>e=.returned (.bool b)/\Below W.heap.size W w'):=⟨λW=>by
    have q:=SS c W
    rw[<-hb];exact q⟩
   have HF:=Asd.mk (And.intro hf hb)
   clear hf hb
   cases b
   all_goals go_wp2_with (first|(refine A9 25 rfl rfl w.heap.size el (St.at (w0:=w) (bs:=[_,_]) (gs:=[]) (by(focus(with_reducible repeat (first|exact S2.out|apply St.lay)))) 1 rfl) el el ?_)|(go_at_call 79;refine(HR.out _).mono ?_;rintro e w3 ⟨rfl,hb3⟩;apply St.step (w0:=w) (hb:=hb3);(focus(with_reducible repeat (first|exact S2.out|apply St.lay)));intro S3;clear hb3;(try clear C2);have C3:=S3.out.facts.2.2.2.1;have L3:=S3.out.facts.1;simp only[Az,Nat.zero_add,Nat.reduceAdd,and_true]at C3 L3))
   ·go_ret
    exact⟨by rw[<-hz];first|rfl|(rw[<-Bj HF.out.1 HF.out.2];rfl),S3.out.bl⟩
   go_roundw
   case rel=>exact⟨6,by decide,rfl,Bl HF.out.1 HF.out.2,⟨S3.out.less (List.Sublist.cons _ (List.Sublist.refl _)) (by simp)⟩⟩
   case measure=>simp[intOf]
  ·obtain⟨b,hb⟩: ∃b,BS c 7=b:=⟨_,rfl⟩
   have HR:Asd (∀W,Calls Tryz.prog 81 (Gi c) W λe w'=>e=.returned (.bool b)/\Below W.heap.size W w'):=⟨λW=>by
    have q:=Se c W
    rw[<-hb];exact q⟩
   have HF:=Asd.mk (And.intro hf hb)
   clear hf hb
   cases b
   all_goals go_wp2_with (first|(refine A9 25 rfl rfl w.heap.size el (St.at (w0:=w) (bs:=[_,_]) (gs:=[]) (by(focus(with_reducible repeat (first|exact S2.out|apply St.lay)))) 1 rfl) el el ?_)|(go_at_call 81;refine(HR.out _).mono ?_;rintro e w3 ⟨rfl,hb3⟩;apply St.step (w0:=w) (hb:=hb3);(focus(with_reducible repeat (first|exact S2.out|apply St.lay)));intro S3;clear hb3;(try clear C2);have C3:=S3.out.facts.2.2.2.1;have L3:=S3.out.facts.1;simp only[Az,Nat.zero_add,Nat.reduceAdd,and_true]at C3 L3))
   ·go_ret
    exact⟨by rw[<-hz];first|rfl|(rw[<-Bj HF.out.1 HF.out.2];rfl),S3.out.bl⟩
   go_roundw
   case rel=>exact⟨7,by decide,rfl,Bl HF.out.1 HF.out.2,⟨S3.out.less (List.Sublist.cons _ (List.Sublist.refl _)) (by simp)⟩⟩
   case measure=>simp[intOf]
  ·obtain⟨b,hb⟩: ∃b,BS c 8=b:=⟨_,rfl⟩
   have HR:Asd (∀W,Calls Tryz.prog 83 (Gi c) W λe w'=>e=.returned (.bool b)/\Below W.heap.size W w'):=⟨λW=>by
    have q:=Sk c W
    rw[<-hb];exact q⟩
   have HF:=Asd.mk (And.intro hf hb)
   clear hf hb
   cases b
   all_goals go_wp2_with (first|(refine A9 25 rfl rfl w.heap.size el (St.at (w0:=w) (bs:=[_,_]) (gs:=[]) (by(focus(with_reducible repeat (first|exact S2.out|apply St.lay)))) 1 rfl) el el ?_)|(go_at_call 83;refine(HR.out _).mono ?_;rintro e w3 ⟨rfl,hb3⟩;apply St.step (w0:=w) (hb:=hb3);(focus(with_reducible repeat (first|exact S2.out|apply St.lay)));intro S3;clear hb3;(try clear C2);have C3:=S3.out.facts.2.2.2.1;have L3:=S3.out.facts.1;simp only[Az,Nat.zero_add,Nat.reduceAdd,and_true]at C3 L3))
   ·go_ret
    exact⟨by rw[<-hz];first|rfl|(rw[<-Bj HF.out.1 HF.out.2];rfl),S3.out.bl⟩
   go_roundw
   case rel=>exact⟨8,by decide,rfl,Bl HF.out.1 HF.out.2,⟨S3.out.less (List.Sublist.cons _ (List.Sublist.refl _)) (by simp)⟩⟩
   case measure=>simp[intOf]
  ·obtain⟨b,hb⟩: ∃b,BS c 9=b:=⟨_,rfl⟩
   have HR:Asd (∀W,Calls Tryz.prog 84 (Gi c) W λe w'=>e=.returned (.bool b)/\Below W.heap.size W w'):=⟨λW=>by
    have q:=Sy c W
    rw[<-hb];exact q⟩
   have HF:=Asd.mk (And.intro hf hb)
   clear hf hb
   cases b
   all_goals go_wp2_with (first|(refine A9 25 rfl rfl w.heap.size el (St.at (w0:=w) (bs:=[_,_]) (gs:=[]) (by(focus(with_reducible repeat (first|exact S2.out|apply St.lay)))) 1 rfl) el el ?_)|(go_at_call 84;refine(HR.out _).mono ?_;rintro e w3 ⟨rfl,hb3⟩;apply St.step (w0:=w) (hb:=hb3);(focus(with_reducible repeat (first|exact S2.out|apply St.lay)));intro S3;clear hb3;(try clear C2);have C3:=S3.out.facts.2.2.2.1;have L3:=S3.out.facts.1;simp only[Az,Nat.zero_add,Nat.reduceAdd,and_true]at C3 L3))
   ·go_ret
    exact⟨by rw[<-hz];first|rfl|(rw[<-Bj HF.out.1 HF.out.2];rfl),S3.out.bl⟩
   go_roundw
   case rel=>exact⟨9,by decide,rfl,Bl HF.out.1 HF.out.2,⟨S3.out.less (List.Sublist.cons _ (List.Sublist.refl _)) (by simp)⟩⟩
   case measure=>simp[intOf]
  ·obtain⟨b,hb⟩: ∃b,BS c 10=b:=⟨_,rfl⟩
   have HR:Asd (∀W,Calls Tryz.prog 86 (Gi c) W λe w'=>e=.returned (.bool b)/\Below W.heap.size W w'):=⟨λW=>by
    have q:=Rz c W
    rw[<-hb];exact q⟩
   have HF:=Asd.mk (And.intro hf hb)
   clear hf hb
   cases b
   all_goals go_wp2_with (first|(refine A9 25 rfl rfl w.heap.size el (St.at (w0:=w) (bs:=[_,_]) (gs:=[]) (by(focus(with_reducible repeat (first|exact S2.out|apply St.lay)))) 1 rfl) el el ?_)|(go_at_call 86;refine(HR.out _).mono ?_;rintro e w3 ⟨rfl,hb3⟩;apply St.step (w0:=w) (hb:=hb3);(focus(with_reducible repeat (first|exact S2.out|apply St.lay)));intro S3;clear hb3;(try clear C2);have C3:=S3.out.facts.2.2.2.1;have L3:=S3.out.facts.1;simp only[Az,Nat.zero_add,Nat.reduceAdd,and_true]at C3 L3))
   ·go_ret
    exact⟨by rw[<-hz];first|rfl|(rw[<-Bj HF.out.1 HF.out.2];rfl),S3.out.bl⟩
   go_roundw
   case rel=>exact⟨10,by decide,rfl,Bl HF.out.1 HF.out.2,⟨S3.out.less (List.Sublist.cons _ (List.Sublist.refl _)) (by simp)⟩⟩
   case measure=>simp[intOf]
  ·obtain⟨b,hb⟩: ∃b,BS c 11=b:=⟨_,rfl⟩
   have HR:Asd (∀W,Calls Tryz.prog 87 (Gi c) W λe w'=>e=.returned (.bool b)/\Below W.heap.size W w'):=⟨λW=>by
    have q:=R4 c hc W
    rw[<-hb];exact q⟩
   have HF:=Asd.mk (And.intro hf hb)
   clear hf hb
   cases b
   all_goals go_wp2_with (first|(refine A9 25 rfl rfl w.heap.size el (St.at (w0:=w) (bs:=[_,_]) (gs:=[]) (by(focus(with_reducible repeat (first|exact S2.out|apply St.lay)))) 1 rfl) el el ?_)|(go_at_call 87;refine(HR.out _).mono ?_;rintro e w3 ⟨rfl,hb3⟩;apply St.step (w0:=w) (hb:=hb3);(focus(with_reducible repeat (first|exact S2.out|apply St.lay)));intro S3;clear hb3;(try clear C2);have C3:=S3.out.facts.2.2.2.1;have L3:=S3.out.facts.1;simp only[Az,Nat.zero_add,Nat.reduceAdd,and_true]at C3 L3))
   ·go_ret
    exact⟨by rw[<-hz];first|rfl|(rw[<-Bj HF.out.1 HF.out.2];rfl),S3.out.bl⟩
   go_roundw
   case rel=>exact⟨11,by decide,rfl,Bl HF.out.1 HF.out.2,⟨S3.out.less (List.Sublist.cons _ (List.Sublist.refl _)) (by simp)⟩⟩
   case measure=>simp[intOf]
  ·obtain⟨b,hb⟩: ∃b,BS c 12=b:=⟨_,rfl⟩
   have HR:Asd (∀W,Calls Tryz.prog 88 (Gi c) W λe w'=>e=.returned (.bool b)/\Below W.heap.size W w'):=⟨λW=>by
    have q:=Rb c W
    rw[<-hb];exact q⟩
   have HF:=Asd.mk (And.intro hf hb)
   clear hf hb
   cases b
   all_goals go_wp2_with (first|(refine A9 25 rfl rfl w.heap.size el (St.at (w0:=w) (bs:=[_,_]) (gs:=[]) (by(focus(with_reducible repeat (first|exact S2.out|apply St.lay)))) 1 rfl) el el ?_)|(go_at_call 88;refine(HR.out _).mono ?_;rintro e w3 ⟨rfl,hb3⟩;apply St.step (w0:=w) (hb:=hb3);(focus(with_reducible repeat (first|exact S2.out|apply St.lay)));intro S3;clear hb3;(try clear C2);have C3:=S3.out.facts.2.2.2.1;have L3:=S3.out.facts.1;simp only[Az,Nat.zero_add,Nat.reduceAdd,and_true]at C3 L3))
   ·go_ret
    exact⟨by rw[<-hz];first|rfl|(rw[<-Bj HF.out.1 HF.out.2];rfl),S3.out.bl⟩
   go_roundw
   case rel=>exact⟨12,by decide,rfl,Bl HF.out.1 HF.out.2,⟨S3.out.less (List.Sublist.cons _ (List.Sublist.refl _)) (by simp)⟩⟩
   case measure=>simp[intOf]
  ·obtain⟨b,hb⟩: ∃b,BS c 13=b:=⟨_,rfl⟩
   have HR:Asd (∀W,Calls Tryz.prog 89 (Gi c) W λe w'=>e=.returned (.bool b)/\Below W.heap.size W w'):=⟨λW=>by
    have q:=R0 c hc W
    rw[<-hb];exact q⟩
   have HF:=Asd.mk (And.intro hf hb)
   clear hf hb
   cases b
   all_goals go_wp2_with (first|(refine A9 25 rfl rfl w.heap.size el (St.at (w0:=w) (bs:=[_,_]) (gs:=[]) (by(focus(with_reducible repeat (first|exact S2.out|apply St.lay)))) 1 rfl) el el ?_)|(go_at_call 89;refine(HR.out _).mono ?_;rintro e w3 ⟨rfl,hb3⟩;apply St.step (w0:=w) (hb:=hb3);(focus(with_reducible repeat (first|exact S2.out|apply St.lay)));intro S3;clear hb3;(try clear C2);have C3:=S3.out.facts.2.2.2.1;have L3:=S3.out.facts.1;simp only[Az,Nat.zero_add,Nat.reduceAdd,and_true]at C3 L3))
   ·go_ret
    exact⟨by rw[<-hz];first|rfl|(rw[<-Bj HF.out.1 HF.out.2];rfl),S3.out.bl⟩
   go_roundw
   case rel=>exact⟨13,by decide,rfl,Bl HF.out.1 HF.out.2,⟨S3.out.less (List.Sublist.cons _ (List.Sublist.refl _)) (by simp)⟩⟩
   case measure=>simp[intOf]
  ·obtain⟨b,hb⟩: ∃b,BS c 14=b:=⟨_,rfl⟩
   have HR:Asd (∀W,Calls Tryz.prog 90 (Gi c) W λe w'=>e=.returned (.bool b)/\Below W.heap.size W w'):=⟨λW=>by
    have q:=RZ c W
    rw[<-hb];exact q⟩
   have HF:=Asd.mk (And.intro hf hb)
   clear hf hb
   cases b
   all_goals go_wp2_with (first|(refine A9 25 rfl rfl w.heap.size el (St.at (w0:=w) (bs:=[_,_]) (gs:=[]) (by(focus(with_reducible repeat (first|exact S2.out|apply St.lay)))) 1 rfl) el el ?_)|(go_at_call 90;refine(HR.out _).mono ?_;rintro e w3 ⟨rfl,hb3⟩;apply St.step (w0:=w) (hb:=hb3);(focus(with_reducible repeat (first|exact S2.out|apply St.lay)));intro S3;clear hb3;(try clear C2);have C3:=S3.out.facts.2.2.2.1;have L3:=S3.out.facts.1;simp only[Az,Nat.zero_add,Nat.reduceAdd,and_true]at C3 L3))
   ·go_ret
    exact⟨by rw[<-hz];first|rfl|(rw[<-Bj HF.out.1 HF.out.2];rfl),S3.out.bl⟩
   go_roundw
   case rel=>exact⟨14,by decide,rfl,Bl HF.out.1 HF.out.2,⟨S3.out.less (List.Sublist.cons _ (List.Sublist.refl _)) (by simp)⟩⟩
   case measure=>simp[intOf]
  go_wp2
  go_ret
  exact⟨by rw[<-hz,<-hf];rfl,S2.out.bl⟩
end Go.Proofs.YtikajapjkdloaaaGreatDoor
