/- Walks of the reference's big numbers, first part: digits read. -/
import Derived.Deep.AppendLies
import Derived.Maps.AppendAt
import Derived.OwnWalk
import Derived.Laws.OwnMore
import Derived.Laws.MakeOwn
import Derived.Deep.RegionHeld3
import Derived.Deep.RegionWith
import Derived.Test.YtikajapjkdloaaaGreatDoor901
namespace Go.Proofs.YtikajapjkdloaaaGreatDoor
section
open Go.RowKit
attribute [local go_sem] CE CA CF CG B_ CB CD CC Be Bc Ba
set_option maxHeartbeats 1000000 in
theorem ZJ(A:Option Addr)(c:Nat)(xs:List Int)(i:Nat)(w:World)(h:RS w A c xs):
 Calls Tryz.prog 111 #[.slice A xs.length c,.int .i64 i] w λe w'=>e=.returned (.int .u64 (gd xs i))/\w=w':=by
 have hl:=h.le
 by_cases hi:i<xs.length
 ·obtain⟨b,rfl,hb,hc⟩:=h.at i hi
  clear h
  go_enter Tryz.func111,Tryz.ntmps111
  go_wp2
  go_ret
  exact⟨rfl,rfl⟩
 have e:gd xs i=0:=ZL en
 rw[e]
 clear e h
 go_enter Tryz.func111,Tryz.ntmps111
 go_wp2
 go_ret
 exact⟨rfl,rfl⟩
set_option maxHeartbeats 2000000 in
theorem aS(neg:Bool)(A:Option Addr)(c:Nat)(xs:List Int)(L:Nat)(t2:L<=xs.length)(t3: ∀i,L<=i->gd xs i=0)(t4:0<L->gd xs (L-1)≠0)(w:World)(h:RS w A c xs):
 Calls Tryz.prog 113 #[.bool neg,.slice A xs.length c] w λe w'=>
  e=.returned (.agg #[.bool (neg&&decide (0<L)),.slice A L c])/\Below w.heap.size w w':=by
 have hl:=h.le
 have hc1:=h.1
 have hc2:=h.2.1
 have HT3:=Asd.mk t3
 have HT4:=Asd.mk t4
 have HR:=Asd.mk h
 clear t3 t4 h
 cases L with
 |zero=>
  simp only[Nat.lt_irrefl,decide_false,Bool.and_false]
  cases neg
  all_goals(
   go_enter Tryz.func113,Tryz.ntmps113
   go_wp2
   go_loop [5] (λv=> ∃k:Nat,k<=xs.length/\v=.int .i64 k) (λv=>(intOf v).toNat)
   case atStart=>exact⟨xs.length,Nat.le_refl _,rfl⟩
   case round=>
    obtain⟨k,hk2,rfl⟩:=hrel
    by_cases hlt:0<k
    ·obtain⟨m,rfl⟩: ∃m,k=m+1:=⟨k-1,by omega⟩
     obtain⟨b,rfl,hb,hc⟩:=HR.out.at m en
     have hz:gd xs m=0:=HT3.out m en
     rw[hz]at hc
     clear hz
     go_wp2
     go_round
     case rel=>exact⟨m,by omega,rfl⟩
     case measure=>simp[intOf]
    obtain rfl:k=0:=by omega
    go_wp2
    refine bodyPost_ret (v:=.agg #[.bool false,.slice A 0 c]) (by simp(maxDischargeDepth:=9) [results,Tryz.results113,go_sem, *]) rfl ⟨rfl,LC⟩)
 |succ L=>
  have e1:(neg&&decide (0<L+1))=neg:=by simp
  rw[e1]
  clear e1
  obtain⟨b,rfl,hb,hcL⟩:=HR.out.at L en
  have hnz:(gd xs L==0)=false:=beq_eq_false_iff_ne.2 (HT4.out en)
  cases neg
  all_goals(
   go_enter Tryz.func113,Tryz.ntmps113
   go_wp2
   go_loop [5] (λv=> ∃k:Nat,L+1<=k/\k<=xs.length/\v=.int .i64 k) (λv=>(intOf v).toNat)
   case atStart=>exact⟨xs.length,t2,Nat.le_refl _,rfl⟩
   case round=>
    obtain⟨k,hk1,hk2,rfl⟩:=hrel
    by_cases hlt:L+1<k
    ·obtain⟨m,rfl⟩: ∃m,k=m+1:=⟨k-1,by omega⟩
     obtain⟨b',e,hb',hc⟩:=HR.out.at m en
     cases e
     have hz:gd xs m=0:=HT3.out m en
     rw[hz]at hc
     clear hz
     go_wp2
     go_round
     case rel=>exact⟨m,by omega,by omega,rfl⟩
     case measure=>simp[intOf]
    obtain rfl:k=L+1:=by omega
    go_wp2
    first
     |(refine bodyPost_ret (v:=.agg #[.bool false,.slice (some ⟨b,0,none⟩) (L+1) c]) (by simp(maxDischargeDepth:=9) [results,Tryz.results113,go_sem, *]) rfl ⟨rfl,LC⟩;done)
     |(refine bodyPost_ret (v:=.agg #[.bool true,.slice (some ⟨b,0,none⟩) (L+1) c]) (by simp(maxDischargeDepth:=9) [results,Tryz.results113,go_sem, *]) rfl ⟨rfl,LC⟩;done))
theorem ao(neg:Bool)(A:Option Addr)(c:Nat)(xs:List Int)(z:Int)(hd:Dg xs)(hz:z=if neg then-I5 xs else I5 xs)(w:World)(h:RS w A c xs):
 Calls Tryz.prog 113 #[.bool neg,.slice A xs.length c] w λe w'=>
  e=.returned (.agg #[.bool (decide (z<0)),.slice A (nd z) c])/\RB w' A c z/\Below w.heap.size w w':=by
 obtain⟨t1,t2,t3,t4⟩:=Z4 hd
 have hv:=Y7 hd
 have hdz:dg z=Vo (I5 xs).toNat:=by
  unfold dg;congr 1;rw[hz];split<;>omega
 have hL:nd z=(Vo (I5 xs).toNat).length:=by unfold nd;rw[hdz]
 have hneg:(neg&&decide (0<nd z))=decide (z<0):=by
  have h0:=LM z
  rw[Bool.eq_iff_iff]
  simp only[Bool.and_eq_true,decide_eq_true_eq]
  constructor
  ·rintro⟨h1,h2⟩;rw[if_pos h1]at hz;have:z≠0:= λk=>by have:=h0.2 k;omega
   omega
  intro h1
  cases hn:neg
  ·rw[hn]at hz;simp at hz;omega
  exact⟨rfl,by have:nd z≠0:= λk=>by have:=h0.1 k;omega
               omega⟩
 refine(aS neg A c xs (nd z) (by rw[hL];exact t2) (λi hi=>t3 i (by rw[<-hL];exact hi)) (λh0=>by rw[hL]at h0⊢;exact t4 h0) w h).mono ?_
 rintro e w' ⟨rfl,hb⟩
 refine⟨by rw[hneg],RS.below (RS.front h ?_ ?_) hb,hb⟩
 ·rw[hdz];exact t2
 intro i hi
 rw[hdz]at hi⊢
 have:=congrArg (λl=>gd l i) t1
 rw[<-this]
 unfold gd
 rw[List.getD_eq_getElem?_getD,List.getD_eq_getElem?_getD,List.getElem?_take,if_pos hi]
end
section
open Go.RowKit
attribute [local go_sem] CE CA CF CG B_ CB CD CC Be Bc Ba
def OW(w:World)(base:Nat)(v:Value)(xs:List Int):Prop:=w.ownsRow base 163 1 v xs.length (xs.map λx=>.int .u64 x)
theorem Hk{w w1:World}(h:Below w.heap.size w w1)(row:Option Nat):w.grownBy w1 row:=⟨h.os,h.tape,h.output,h.size,λi hi _=>h.block i hi⟩
theorem OW.below{w w1:World}{base:Nat}{v:Value}{xs:List Int}(h:OW w base v xs)(hb:Below w.heap.size w w1):OW w1 base v xs:=
 h.kept (Hk hb none) (by cases v.ownBlock<;>simp)
theorem OW.base{w:World}{base:Nat}{v:Value}{xs:List Int}(h:OW w base v xs)(k:Nat)(hk:v.ownBlock=some k):base<=k:=by
 rcases h.2 with⟨rfl,_⟩|⟨g,cap,cur,rfl,hb,_⟩
 ·simp[Value.ownBlock]at hk
 have:g=k:=by simpa[Value.ownBlock]using hk
 omega
theorem VG{xs:List Int}{j:Nat}(hj:j<xs.length):(xs.map λx=>Value.int .u64 x)[j]? =some (.int .u64 (gd xs j)):=by
 unfold gd
 simp[List.getElem?_eq_getElem hj,List.getD_eq_getElem?_getD]
theorem O_(g j:Nat):(⟨g,0,none⟩:Addr).add j=⟨g,j,none⟩:=by unfold Addr.add;split<;>simp_all
theorem OW.reads{w:World}{base:Nat}{v:Value}{xs:List Int}(h:OW w base v xs): ∃A c,v=.slice A xs.length c/\RS w A c xs:=by
 rcases h.2 with⟨rfl,h0⟩|⟨g,cap,cur,rfl,hb,hh,h1,h2,h3,h4⟩
 ·refine⟨none,0,by rw[h0],?_⟩
  exact⟨by omega,by omega,λ_=>rfl,λhp=>absurd hp en⟩
 refine⟨_,cap,rfl,?_⟩
 refine⟨h1,by unfold maxLen at h2;omega,(λe=>by cases e),λ_=>⟨g,rfl,(Array.getElem?_eq_some_iff.1 hh).1,λj hj=> ?_⟩⟩
 have:=h.cells (g:=g) rfl j _ (VG hj)
 rw[O_]at this
 exact this
theorem OW.empty{W:World}{base n:Nat}(hn:n=W.heap.size)(hb:base<=n):OW (W.alloc (.cells #[] 163)) base (.slice (some ⟨n,0,none⟩) 0 0) []:=
 ⟨rfl,.inr ⟨n,0,#[],rfl,hb,by rw[hn];exact heap_alloc_new W _,Nat.le_refl _,Nat.zero_le _,rfl,rfl⟩⟩
section
variable {P:Program} {ops:Array Oper} {rest:List Oper} {o:Oper} {a:Act} {Q:Exit->Act->World->Prop}
theorem ZE{w0 W:World}(base:Nat)(hgd:o.guard=none)(s x:Operand)
 (ho:o.op=.call {callee:=.builtin .append,args:=#[s,x],argTypes:=#[104,104]})
 (ht:P.underlying 104=some (.slice 163))(hinfo:(P.info? 163).map (λi=>(i.zero,i.size,i.bytes))=some (some (.int .u64 0),1,8))
 (v:Value)(xs:List Int)(y:Int)(hs:a.eval s=v)(hx:a.eval x=.slice (some ⟨W.heap.size,0,none⟩) 1 1)
 (HO:OW W base v xs)(HB:Below base w0 W)(hbase:base<=W.heap.size)(hl:xs.length<=1000000)
 (h: ∀v1 w1,OW w1 base v1 (xs++[y])->Below base w0 w1->W.grownBy w1 v.ownBlock->wpList P ops Q rest (a.put o.dst v1) w1):
 wpList P ops Q (o::rest) a (W.alloc (.cells #[.int .u64 y] 163)):=by
 obtain⟨i0,hi,hzz⟩:=Option.map_eq_some_iff.1 hinfo
 simp only[Prod.mk.injEq]at hzz
 obtain⟨hz0,hz1,hz2⟩:=hzz
 refine wpList_append_own_at (W.alloc (.cells #[.int .u64 y] 163)) hgd s x 104 ho base 163 i0 (.int .u64 0) 1 8 ht hi hz0 hz1 hz2 rfl en v xs.length _ hs (World.ownsRow.alloc HO _) ⟨W.heap.size,0,none⟩ 1 1 [.int .u64 y] hx rfl
  (World.news_of_block (cs:=#[.int .u64 y]) (t:=163) (fr:=(0,0)) (heap_alloc_new W _)) (by simp[Value.oneCell']) (by simp only[maxLen];omega) en (by simp;omega) ?_
 intro v1 w1 hown hg _ hat
 refine h v1 w1 (by unfold OW;simpa using hown) ((HB.alloc hbase _).grown hg (by simp;omega) (OW.base HO)) (World.grownBy.trans (World.grownBy_alloc W _ _) hg)
end
theorem b_{y:Int}(h0:0<=y)(h1:y<18446744073709551616):IntKind.u64.wrap (y.tdiv 65536)=y/65536:=by
 rw[Int.tdiv_eq_ediv_of_nonneg h0,IntKind.wrap_u64];omega
theorem Y5:(Tryz.prog.info? 163).map (λi=>(i.zero,i.size,i.bytes))=some (some (.int .u64 0),1,8):=by kernel_rfl
set_option maxRecDepth 100000 in
set_option maxHeartbeats 2000000 in
theorem aU(x:Int)(hx:V7 x)(w:World):
 Calls Tryz.prog 114 #[.int .u64 x] w λe w'=> ∃A c,e=.returned (.agg #[.bool false,.slice A (nd x) c])/\RB w' A c x/\Below w.heap.size w w':=by
 have hd0:Vo x.toNat=Vo x.natAbs:=by congr 1;have:=hx.1;omega
 have HX:=Asd.mk hx
 go_enter Tryz.func114,Tryz.ntmps114
 go_wp2
 go_loopw [0,3,4] (λv0 v3 v4 wr=> ∃(k:Nat)(xs:List Int)(y:Int),k<=4/\v4=.int .i64 k/\v0=.int .u64 y/\Asd (0<=y/\y<18446744073709551616/\Dg xs/\xs.length=k/\x=I5 xs+pB k*y)/\Asd (OW wr (w.heap.size+1) v3 xs)/\Asd (Below (w.heap.size+1) (w.alloc (.cells #[.bool false,.slice none 0 0] 106)) wr)) (λ_ _ v4 _=>4-(intOf v4).toNat)
 case atStart=>
  refine⟨0,[],x,by omega,rfl,rfl,⟨HX.out.1,HX.out.2,Dg.nil,rfl,by simp[I5,pB]⟩,⟨?_⟩,⟨?_⟩⟩
  ·exact OW.empty (by simp) (Nat.le_refl _)
  exact(Below.refl _ _).alloc (by simp) _
 case round=>
  obtain⟨k,xs,y,hk,rfl,rfl,HV,HO,HB⟩:=hrel
  have HS:=HB.out.size
  have HL:xs.length<=1000000:=by have:=HV.out.2.2.2.1;omega
  have HS:w.heap.size+1<=wr.heap.size:=by simpa using HS
  by_cases hlt:k<4
  ·have hy0:=HV.out.1
   go_wp2_with (at_builtin;refine ZE (w0:=w.alloc (.cells #[.bool false,.slice none 0 0] 106)) (w.heap.size+1) rfl (.tmp 10) (.tmp 13) rfl Tryz.underlying104 Y5 (u3) (xs) (y%65536) rfl rfl HO.out HB.out HS HL ?_;intro v1 w1 HO1 HB1 _)
   go_roundw
   case rel=>
    obtain⟨y0,y1,hd,hlen,hx⟩:=HV.out
    refine⟨k+1,xs++[y%65536],y/65536,by omega,by go_num,by rw[b_ y0 y1],⟨by omega,by omega,Dg.snoc hd en en,by simp[hlen],?_⟩,⟨HO1⟩,⟨HB1⟩⟩
    rw[Yx,hlen,Yr,hx]
    have e:pB k*y=pB k*(y%65536)+65536*pB k*(y/65536):=by
     have h1:y=y%65536+65536*(y/65536):=by omega
     have h2:pB k*y=pB k*(y%65536+65536*(y/65536)):=congrArg _ h1
     rw[h2,Int.mul_add,Int.mul_left_comm,Int.mul_assoc]
    omega
   case measure=>simp[intOf];omega
  obtain rfl:k=4:=by omega
  obtain⟨A,c,rfl,hrs⟩:=OW.reads HO.out
  obtain⟨y0,y1,hd,hlen,hx⟩:=HV.out
  have hx0:=HX.out
  have hy:y=0:=by
   have:=Y7 hd
   have e4:pB 4=18446744073709551616:=by decide
   unfold V7 at hx0
   rw[e4]at hx
   omega
  have hz:x=if false=true then-I5 xs else I5 xs:=by rw[hx,hy];simp
  have HC:=Asd.mk (λW h=>ao false A c xs x hd hz W h)
  have hneg:decide (x<0)=false:=by unfold V7 at hx0;exact decide_eq_false en
  clear hlen hx hz hy y0 y1 hx0
  obtain⟨p0,p1,p2,p3⟩:Bx wr w.heap.size (.bool false) (.slice none 0 0):=Bx.low HB.out (by simp) (by simp[Bx,go_sem])
  have HQ:=Asd.mk (show Bx wr w.heap.size _ _ from⟨p0,p1,p2,p3⟩)
  clear p0 p1 p2 p3
  have HBw:Below w.heap.size w wr:=((Below.refl _ _).alloc (Nat.le_refl _) _).trans (HB.out.mono (by simp))
  have hz0:w.heap.size<wr.heap.size:=by omega
  go_wp2_with (go_at_call 113;refine(HC.out _ hrs).mono ?_;rintro e w1 ⟨rfl,hrb,hb1⟩;obtain⟨p0,p1,p2,p3⟩:=Bx.low hb1 hz0 HQ.out;have hz1:w.heap.size<w1.heap.size:=Nat.lt_of_lt_of_le hz0 hb1.size)
  have HR:=hrb
  clear hrb
  refine bodyPost_ret (v:=.agg #[.bool false,.slice A (nd x) c]) (by simp(maxDischargeDepth:=9) [results,Tryz.results114,go_sem, *]) rfl ⟨A,c,rfl,?_,LC⟩
  exact RS.store (RS.store HR (v:=false) p0) (v:=false) (by simp[go_sem, *])
end
section
open Go.RowKit
attribute [local go_sem] CE CA CF CG B_ CB CD CC Be Bc Ba
theorem Ys{xs:List Int}(h:Dg xs)(i:Nat):0<=gd xs i/\gd xs i<65536:=h.getD i
theorem ZD(xs:List Int)(i:Nat):I5 (xs.take (i+1))=I5 (xs.take i)+pB i*gd xs i:=Zq xs i
theorem bf{xs ys out:List Int}{k:Nat}{cy:Int}(hx:Dg xs)(hy:Dg ys)(h:I5 out+pB k*cy=I5 (xs.take k)+I5 (ys.take k))(hl:out.length=k)(hd:Dg out)(hc:0<=cy/\cy<=1):
 Dg (out++[(gd xs k+gd ys k+cy)%65536])/\(out++[(gd xs k+gd ys k+cy)%65536]).length=k+1/\
 I5 (out++[(gd xs k+gd ys k+cy)%65536])+pB (k+1)*((gd xs k+gd ys k+cy)/65536)=I5 (xs.take (k+1))+I5 (ys.take (k+1))/\0<=(gd xs k+gd ys k+cy)/65536/\(gd xs k+gd ys k+cy)/65536<=1:=by
 have b1:=Ys hx k
 have b2:=Ys hy k
 refine⟨Dg.snoc hd en en,by simp[hl],?_,by omega,by omega⟩
 rw[Yx,hl,Yr,ZD,ZD]
 generalize hT:gd xs k+gd ys k+cy=T
 have e:pB k*T=pB k*(T%65536)+65536*pB k*(T/65536):=by
  have h1:T=T%65536+65536*(T/65536):=by omega
  have h2:pB k*T=pB k*(T%65536+65536*(T/65536)):=congrArg _ h1
  rw[h2,Int.mul_add,Int.mul_left_comm,Int.mul_assoc]
 have e2:pB k*T=pB k*gd xs k+pB k*gd ys k+pB k*cy:=by rw[<-hT,Int.mul_add,Int.mul_add]
 omega
def bn(w:World)(z:Int)(n:Nat)(e:Ending)(w':World):Prop:=
 ∃(out:List Int)(A:Option Addr)(c:Nat),e=.returned (.slice A out.length c)/\RS w' A c out/\Dg out/\I5 out=z/\out.length<=n/\Below w.heap.size w w'
set_option maxRecDepth 100000 in
set_option maxHeartbeats 4000000 in
theorem ax(A B:Option Addr)(c d:Nat)(xs ys:List Int)(hx:Dg xs)(hy:Dg ys)(hlx:xs.length<=100000)(hly:ys.length<=100000)(w:World)(hA:RS w A c xs)(hB:RS w B d ys):
 Calls Tryz.prog 112 #[.slice A xs.length c,.slice B ys.length d] w (bn w (I5 xs+I5 ys) (max xs.length ys.length+1)):=by
 have HA:=Asd.mk hA
 have HB:=Asd.mk hB
 have DX:=Asd.mk hx
 have DY:=Asd.mk hy
 clear hA hB
 go_enter Tryz.func112,Tryz.ntmps112
 go_wp2
 go_loopw [5,6,7] (λv5 v6 v7 wr=> ∃(k:Nat)(out:List Int)(cy:Int),v7=.int .i64 k/\v6=.int .u64 cy/\k<=max xs.length ys.length+1/\Asd ((max xs.length ys.length<k->cy=0)/\Dg out/\out.length=k/\I5 out+pB k*cy=I5 (xs.take k)+I5 (ys.take k))/\0<=cy/\cy<=1/\Asd (OW wr w.heap.size v5 out)/\Asd (Below w.heap.size w wr)) (λ_ _ v7 _=>max xs.length ys.length+1-(intOf v7).toNat)
 case atStart=>
  refine⟨0,[],0,rfl,rfl,by omega,⟨by simp,Dg.nil,rfl,by simp[I5]⟩,by omega,by omega,⟨?_⟩,⟨?_⟩⟩
  ·exact OW.empty (by simp) (Nat.le_refl _)
  exact LC
 case round=>
  obtain⟨k,out,cy,rfl,rfl,hk,HV,hc0,hc1,HO,HBw⟩:=hrel
  have bx:=Ys DX.out k
  have by':=Ys DY.out k
  obtain⟨bx0,bx1⟩:=bx
  obtain⟨by0,by1⟩:=by'
  have HRX:=Asd.mk (RS.below HA.out HBw.out)
  have HRY:=Asd.mk (RS.below HB.out HBw.out)
  have HS:=HBw.out.size
  have HL:out.length<=1000000:=by have:=HV.out.2.2.1;omega
  by_cases hgo:k<xs.length∨k<ys.length∨0<cy
  ·have hkm:k<=max xs.length ys.length:=by
    have:=HV.out.1
    rcases hgo with h|h|h
    ·omega
    ·omega
    by_cases hh:max xs.length ys.length<k
    ·have:=this hh;omega
    omega
   have HK:=Asd.mk hkm
   have hkb:(k:Int)<=200000:=by omega
   clear hkm hk
   by_cases h1:k<xs.length
   all_goals by_cases h2:k<ys.length
   all_goals by_cases h3:0<cy
   all_goals first
    |(exfalso;omega)
    |skip
   all_goals clear hgo
   all_goals go_wp2_with (first|(go_at_call 111;refine(ZJ _ _ _ k _ (by first|exact HRX.out|exact HRY.out)).mono ?_;rintro e w' ⟨rfl,rfl⟩)|(at_builtin;refine ZE (w0:=w) (w.heap.size) rfl (.tmp 35) (.tmp 38) rfl Tryz.underlying104 Y5 (u5) (out) ((gd xs k+gd ys k+cy)%65536) rfl rfl HO.out HBw.out HS HL ?_;intro v1 w1 HO1 HB1 _))
   all_goals(
    go_roundw
    case rel=>
     obtain⟨q0,hd,hl,hv⟩:=HV.out
     obtain⟨s1,s2,s3,s4,s5⟩:=bf DX.out DY.out hv hl hd ⟨hc0,hc1⟩
     have hk:=HK.out
     refine⟨k+1,_,_,by go_num,rfl,by omega,⟨λhmax=> ?_,s1,s2,s3⟩,s4,s5,⟨HO1⟩,⟨HB1⟩⟩
     have e1:gd xs k=0:=ZL en
     have e2:gd ys k=0:=ZL en
     omega
    case measure=>have hk:=HK.out;simp[intOf];omega)
  have n1: ¬k<xs.length:= λh=>hgo (.inl h)
  have n2: ¬k<ys.length:= λh=>hgo (.inr (.inl h))
  obtain rfl:cy=0:=by have: ¬0<cy:= λh=>hgo (.inr (.inr h));omega
  clear hgo
  obtain⟨A',c',rfl,hrs⟩:=OW.reads HO.out
  obtain⟨_,hd,hl,hv⟩:=HV.out
  have HF:=Asd.mk (show I5 out=I5 xs+I5 ys by rw[L1 en,L1 en]at hv;omega)
  have HN:=Asd.mk (show out.length<=max xs.length ys.length+1 by omega)
  have HRs:=Asd.mk hrs
  have HD:=Asd.mk hd
  clear hl hv hrs hd
  go_wp2
  go_ret
  exact⟨out,A',c',rfl,HRs.out,HD.out,HF.out,HN.out,HBw.out⟩
end
section
open Go.RowKit
attribute [local go_sem] CE CA CF CG B_ CB CD CC Be Bc Ba
theorem a9{xs ys out:List Int}{k:Nat}{bw:Int}(hx:Dg xs)(hy:Dg ys)(h:I5 out-pB k*bw=I5 (xs.take k)-I5 (ys.take k))(hl:out.length=k)(hd:Dg out)(hc:0<=bw/\bw<=1):
 Dg (out++[(65536+gd xs k-gd ys k-bw)%65536])/\(out++[(65536+gd xs k-gd ys k-bw)%65536]).length=k+1/\
 I5 (out++[(65536+gd xs k-gd ys k-bw)%65536])-pB (k+1)*(1-(65536+gd xs k-gd ys k-bw)/65536)=I5 (xs.take (k+1))-I5 (ys.take (k+1))/\0<=1-(65536+gd xs k-gd ys k-bw)/65536/\1-(65536+gd xs k-gd ys k-bw)/65536<=1:=by
 have b1:=Ys hx k
 have b2:=Ys hy k
 refine⟨Dg.snoc hd en en,by simp[hl],?_,by omega,by omega⟩
 rw[Yx,hl,Yr,ZD,ZD]
 generalize hT:65536+gd xs k-gd ys k-bw=T
 have e:pB k*T=pB k*(T%65536)+65536*pB k*(T/65536):=by
  have h1:T=T%65536+65536*(T/65536):=by omega
  have h2:pB k*T=pB k*(T%65536+65536*(T/65536)):=congrArg _ h1
  rw[h2,Int.mul_add,Int.mul_left_comm,Int.mul_assoc]
 have e2:pB k*T=65536*pB k+pB k*gd xs k-pB k*gd ys k-pB k*bw:=by rw[<-hT,Int.mul_sub,Int.mul_sub,Int.mul_add,Int.mul_comm (pB k) 65536]
 have e3:65536*pB k*(1-T/65536)=65536*pB k-65536*pB k*(T/65536):=by rw[Int.mul_sub,Int.mul_one]
 omega
set_option maxRecDepth 100000 in
set_option maxHeartbeats 4000000 in
theorem ag(A B:Option Addr)(c d:Nat)(xs ys:List Int)(hx:Dg xs)(hy:Dg ys)(hlx:xs.length<=100000)(hle:ys.length<=xs.length)(hv:I5 ys<=I5 xs)(w:World)(hA:RS w A c xs)(hB:RS w B d ys):
 Calls Tryz.prog 172 #[.slice A xs.length c,.slice B ys.length d] w (bn w (I5 xs-I5 ys) xs.length):=by
 have HA:=Asd.mk hA
 have HB:=Asd.mk hB
 have DX:=Asd.mk hx
 have DY:=Asd.mk hy
 have HV0:=Asd.mk hv
 clear hA hB hv
 go_enter Tryz.func172,Tryz.ntmps172
 go_wp2
 go_loopw [5,6,7] (λv5 v6 v7 wr=> ∃(k:Nat)(out:List Int)(bw:Int),v7=.int .i64 k/\v6=.int .u64 bw/\k<=xs.length/\Asd (Dg out/\out.length=k/\I5 out-pB k*bw=I5 (xs.take k)-I5 (ys.take k))/\0<=bw/\bw<=1/\Asd (OW wr w.heap.size v5 out)/\Asd (Below w.heap.size w wr)) (λ_ _ v7 _=>xs.length-(intOf v7).toNat)
 case atStart=>
  refine⟨0,[],0,rfl,rfl,by omega,⟨Dg.nil,rfl,by simp[I5]⟩,by omega,by omega,⟨?_⟩,⟨?_⟩⟩
  ·exact OW.empty (by simp) (Nat.le_refl _)
  exact LC
 case round=>
  obtain⟨k,out,bw,rfl,rfl,hk,HV,hc0,hc1,HO,HBw⟩:=hrel
  obtain⟨bx0,bx1⟩:=Ys DX.out k
  obtain⟨by0,by1⟩:=Ys DY.out k
  have HRX:=Asd.mk (RS.below HA.out HBw.out)
  have HRY:=Asd.mk (RS.below HB.out HBw.out)
  have HS:=HBw.out.size
  have HL:out.length<=1000000:=by have:=HV.out.2.1;omega
  by_cases hgo:k<xs.length
  ·obtain⟨b,rfl,hb,hcell⟩:=HRX.out.at k hgo
   have e1:IntKind.u64.wrap (65536+gd xs k)=65536+gd xs k:=by rw[IntKind.wrap_u64];omega
   have e2:IntKind.u64.wrap (65536+gd xs k-gd ys k)=65536+gd xs k-gd ys k:=by rw[IntKind.wrap_u64];omega
   have e3:IntKind.u64.wrap (65536+gd xs k-gd ys k-bw)=65536+gd xs k-gd ys k-bw:=by rw[IntKind.wrap_u64];omega
   have x0:0<=65536+gd xs k-gd ys k-bw:=by omega
   have x1:65536+gd xs k-gd ys k-bw<131072:=by omega
   have i0:(0:Int)<=k:=by omega
   have i1:(k:Int)<xs.length:=by omega
   go_wp2_with fail
   go_region_held3 (λw'=>w'.cell? ⟨b,k,none⟩=some (.int .u64 (gd xs k))) (first|(simp[go_sem];done)|(simp[go_sem, *];done))
    (first|(go_at_call 111;refine(ZJ _ _ _ k _ (by exact HRY.out)).mono ?_;rintro e w' ⟨rfl,rfl⟩))
   clear e1 e2 e3 hcell HRX HRY
   have HO2:Asd (OW wr.drew w.heap.size u5 out):=⟨HO.out⟩
   have HB2:Asd (Below w.heap.size w wr.drew):=⟨AP HBw.out⟩
   have HS2:w.heap.size<=wr.drew.heap.size:=HS
   generalize wr.drew=w2 at HO2 HB2 HS2⊢
   go_wp2_with (at_builtin;refine ZE (w0:=w) (w.heap.size) rfl (.tmp 27) (.tmp 30) rfl Tryz.underlying104 Y5 (u5) (out) ((65536+gd xs k-gd ys k-bw)%65536) rfl rfl HO2.out HB2.out HS2 HL ?_;intro v1 w1 HO1 HB1 _)
   go_roundw
   case rel=>
    obtain⟨hd,hl,hv⟩:=HV.out
    obtain⟨s1,s2,s3,s4,s5⟩:=a9 DX.out DY.out hv hl hd ⟨hc0,hc1⟩
    refine⟨k+1,_,_,by go_num,by go_num,by omega,⟨s1,s2,s3⟩,s4,s5,⟨HO1⟩,⟨HB1⟩⟩
   case measure=>simp[intOf];omega
  obtain rfl:k=xs.length:=by omega
  obtain⟨A',c',rfl,hrs⟩:=OW.reads HO.out
  obtain⟨hd,hl,hv⟩:=HV.out
  have hb0:bw=0:=by
   have h1:=aF hd
   rw[L1 (Nat.le_refl _),L1 hle]at hv
   have:=HV0.out
   rw[hl]at h1
   by_cases hh:bw=1
   ·rw[hh]at hv;omega
   omega
  have HF:=Asd.mk (show I5 out=I5 xs-I5 ys by rw[L1 (Nat.le_refl _),L1 hle,hb0]at hv;omega)
  have HN:=Asd.mk (show out.length<=xs.length by omega)
  have HRs:=Asd.mk hrs
  have HD:=Asd.mk hd
  clear hl hv hrs hd hb0
  go_wp2
  go_ret
  exact⟨out,A',c',rfl,HRs.out,HD.out,HF.out,HN.out,HBw.out⟩
end
section
open Go.RowKit
attribute [local go_sem] CE CA CF CG B_ CB CD CC Be Bc Ba
def ZX(x:Int)(i:Nat):Nat:=x.natAbs/65536^i
theorem aN(x:Int)(i:Nat):gd (dg x) i=((ZX x i%65536:Nat):Int):=Zu _ _
theorem ZQ(x:Int)(i:Nat):ZX x i=65536*ZX x (i+1)+ZX x i%65536:=by
 have:ZX x (i+1)=ZX x i/65536:=by unfold ZX;rw[Nat.pow_succ,Nat.div_div_eq_div_mul]
 omega
theorem ay(x:Int):ZX x (nd x)=0:=by
 unfold ZX;exact Nat.div_eq_of_lt (au _)
theorem Zo(x:Int):ZX x 0=x.natAbs:=by simp[ZX]
theorem bm{x y:Int}{i:Nat}(h:ZX x i<ZX y i):x.natAbs<y.natAbs:=by
 unfold ZX at h
 exact Nat.lt_of_not_le λhle=>absurd (Nat.div_le_div_right (c:=65536^i) hle) en
theorem Zw{x y:Int}(h:nd x<nd y):x.natAbs<y.natAbs:=Nat.lt_of_not_le λhle=>absurd (Yw hle) en
theorem cS{x y:Int}{k:Nat}(h:ZX x (k+1)=ZX y (k+1))(hd:gd (dg x) k=gd (dg y) k):ZX x k=ZX y k:=by
 rw[aN,aN]at hd
 have:=ZQ x k;have:=ZQ y k;omega
theorem cN{x y:Int}{k:Nat}(h:ZX x (k+1)=ZX y (k+1))(hd:gd (dg x) k≠gd (dg y) k):decide (gd (dg x) k<gd (dg y) k)=decide (x.natAbs<y.natAbs):=by
 have e1:=ZQ x k;have e2:=ZQ y k
 rw[aN,aN]at hd⊢
 rw[decide_eq_decide]
 constructor
 ·intro hlt;exact bm (i:=k) en
 intro hlt
 have: ¬ZX y k<ZX x k:= λhh=>by have:=bm hh;omega
 omega
set_option maxRecDepth 100000 in
set_option maxHeartbeats 2000000 in
theorem aX(A B:Option Addr)(c d:Nat)(x y:Int)(w:World)(hA:RB w A c x)(hB:RB w B d y):
 Calls Tryz.prog 171 #[.slice A (nd x) c,.slice B (nd y) d] w λe w'=>e=.returned (.bool (decide (x.natAbs<y.natAbs)))/\Below w.heap.size w w':=by
 have HA:=Asd.mk hA
 have HB:=Asd.mk hB
 have hlx:nd x<=9223372036854775807:=RS.le hA
 have hly:nd y<=9223372036854775807:=RS.le hB
 clear hA hB
 by_cases h0:nd x=nd y
 ·have HT:Asd (ZX x (nd x)=ZX y (nd x)):=⟨by rw[ay,h0,ay]⟩
  obtain⟨n,hn⟩: ∃n,n=nd x:=⟨_,rfl⟩
  have HN:=Asd.mk hn
  have HNy:=Asd.mk (hn.trans h0)
  rw[<-h0,<-hn]
  rw[<-hn]at HT hlx
  clear h0 hn hly
  go_enter Tryz.func171,Tryz.ntmps171
  go_wp2
  go_loopw [5] (λv5 wr=> ∃k:Nat,k<=n/\v5=.int .i64 (k-1)/\Asd (ZX x k=ZX y k)/\Asd (Below w.heap.size w wr)) (λv5 _=>(intOf v5+1).toNat)
  case atStart=>exact⟨n,Nat.le_refl _,rfl,HT,⟨Below.refl _ _⟩⟩
  case round=>
   obtain⟨k,hk,rfl,HE,HBw⟩:=hrel
   by_cases hgo:0<k
   ·obtain⟨m,rfl⟩: ∃m,k=m+1:=⟨k-1,by omega⟩
    rw[show(((m+1:Nat):Int)-1)=(m:Int)from by omega]
    obtain⟨b1,rfl,hb1,hc1⟩:=(RS.below HA.out HBw.out).at m (by have:=HN.out;unfold nd at this;omega)
    obtain⟨b2,rfl,hb2,hc2⟩:=(RS.below HB.out HBw.out).at m (by have:=HNy.out;unfold nd at this;omega)
    have hm1:(m:Int)<n:=by omega
    have hm0:(0:Int)<=m:=by omega
    by_cases hne:gd (dg x) m=gd (dg y) m
    ·have q:(gd (dg x) m !=gd (dg y) m)=false:=by rw[bne_eq_false_iff_eq];exact hne
     have HE2:=Asd.mk (cS HE.out hne)
     clear hne
     go_wp2_with fail
     go_region_held3 (λw'=>w'.cell? ⟨b1,m,none⟩=some (.int .u64 (gd (dg x) m))/\w'.cell? ⟨b2,m,none⟩=some (.int .u64 (gd (dg y) m))) (first|(simp[go_sem];done)|(simp[go_sem, *];done)) (fail)
     go_wp2
     go_roundw
     case rel=>exact⟨m,by omega,rfl,HE2,⟨(by repeat (first|exact Below.refl _ _|assumption|exact HBw.out|refine AM ?_ _|refine AJ ?_ _|refine AP ?_|refine AZ ?_ (by first|(simp;done)|(simp;omega)|(dsimp only;omega)) _|refine AQ ?_ (by assumption)))⟩⟩
     case measure=>simp[intOf]
    have q:(gd (dg x) m !=gd (dg y) m)=true:=bne_iff_ne.2 hne
    have HF:=Asd.mk (cN HE.out hne)
    clear hne
    go_wp2_with fail
    go_region_held3 (λw'=>w'.cell? ⟨b1,m,none⟩=some (.int .u64 (gd (dg x) m))/\w'.cell? ⟨b2,m,none⟩=some (.int .u64 (gd (dg y) m))) (first|(simp[go_sem];done)|(simp[go_sem, *];done)) (fail)
    go_wp2
    go_region_held3 (λw'=>w'.cell? ⟨b1,m,none⟩=some (.int .u64 (gd (dg x) m))/\w'.cell? ⟨b2,m,none⟩=some (.int .u64 (gd (dg y) m))) (first|(simp[go_sem];done)|(simp[go_sem, *];done)) (fail)
    go_wp2
    go_ret
    exact⟨Bo HF.out,(by repeat (first|exact Below.refl _ _|assumption|exact HBw.out|refine AM ?_ _|refine AJ ?_ _|refine AP ?_|refine AZ ?_ (by first|(simp;done)|(simp;omega)|(dsimp only;omega)) _|refine AQ ?_ (by assumption)))⟩
   obtain rfl:k=0:=by omega
   rw[show(((0:Nat):Int)-1)= -1 from by omega]
   have HF:=Asd.mk (show false=decide (x.natAbs<y.natAbs) by have:=HE.out;rw[Zo,Zo]at this;rw[eq_comm,decide_eq_false_iff_not];omega)
   go_wp2
   go_ret
   exact⟨Bo HF.out,HBw.out⟩
 by_cases h1:nd x<nd y
 ·have HF:=Asd.mk (show true=decide (x.natAbs<y.natAbs)from(decide_eq_true (Zw h1)).symm)
  have q:((nd x:Int)!=nd y)=true:=by rw[bne_iff_ne];omega
  clear h0
  go_enter Tryz.func171,Tryz.ntmps171
  go_wp2
  go_ret
  exact⟨Bo HF.out,Below.refl _ _⟩
 have HF:=Asd.mk (show false=decide (x.natAbs<y.natAbs)from(decide_eq_false (by have:=Zw (x:=y) (y:=x) en;omega)).symm)
 have q:((nd x:Int)!=nd y)=true:=by rw[bne_iff_ne];omega
 clear h0
 go_enter Tryz.func171,Tryz.ntmps171
 go_wp2
 go_ret
 exact⟨Bo HF.out,Below.refl _ _⟩
end
section
open Go.RowKit
attribute [local go_sem] CE CA CF CG B_ CB CD CC Be Bc Ba
def Zg(w:World)(z:Int)(e:Ending)(w':World):Prop:=
 ∃(A:Option Addr)(c:Nat),e=.returned (.agg #[.bool (sg z),.slice A (nd z) c])/\RB w' A c z/\Below w.heap.size w w'
theorem RB.store2{w:World}{A:Option Addr}{c:Nat}{z:Int}(h:RB w A c z){b0:Nat}{s v:Bool}{u:Value}(hv:w.cell? ⟨b0,0,none⟩=some (.bool v)):
 RB ((w.setCell ⟨b0,0,none⟩ (.bool s)).setCell ⟨b0,1,none⟩ u) A c z:=
 RS.store (RS.store h hv) (World.cell?_setCell_same _ _ _ hv)
theorem Yt(neg:Bool)(A:Option Addr)(c:Nat)(xs:List Int)(z:Int)(hd:Dg xs)(hz:z=if neg then-I5 xs else I5 xs)(w:World)(h:RS w A c xs):
 Calls Tryz.prog 113 #[.bool neg,.slice A xs.length c] w λe w'=>e=.returned (.agg #[.bool (sg z),.slice A (nd z) c])/\RB w' A c z/\Below w.heap.size w w':=
 ao neg A c xs z hd hz w h
theorem aE(x:Int)(hx:V7 x)(w:World):Calls Tryz.prog 114 #[.int .u64 x] w (Zg w x):=by
 have e:sg x=false:=sg_false.2 (by have:=hx.1;omega)
 refine(aU x hx w).mono ?_
 rintro e w' ⟨A,c,rfl,hr,hb⟩
 exact⟨A,c,by rw[e],hr,hb⟩
set_option maxRecDepth 100000 in
set_option maxHeartbeats 1000000 in
theorem Yy(a:Int)(A:Option Addr)(c:Nat)(w:World)(h:RB w A c a):
 Calls Tryz.prog 116 #[.agg #[.bool (sg a),.slice A (nd a) c]] w (Zg w (-a)):=by
 have HA:=Asd.mk h
 have hz: -a=if(!sg a)then-I5 (dg a)else I5 (dg a):=by
  rw[S7]
  cases hs:sg a
  ·have:=sg_false.1 hs;simp;omega
  have:=sg_true.1 hs;simp;omega
 have HC:=Asd.mk (λW hW=>Yt (!sg a) A c (dg a) (-a) (Yp a) hz W hW)
 clear h hz
 go_enter Tryz.func116,Tryz.ntmps116
 go_wp2_with (go_at_call 113;refine(HC.out _ (by exact RS.alloc (RS.alloc HA.out _) _)).mono ?_;rintro e w1 ⟨rfl,hr1,hb1⟩;obtain⟨p0,p1,p2,p3⟩:Bx w1 (w.heap.size+1) (.bool false) (.slice none 0 0):=Bx.low hb1 ZB (by simp(maxDischargeDepth:=9) [Bx,go_sem, *]);obtain⟨hc1,hf1⟩:=Bz hb1;have hz1_0:w.heap.size<w1.heap.size:=Nat.lt_of_lt_of_le ZB hb1.size;have hz1_1:w.heap.size+1<w1.heap.size:=Nat.lt_of_lt_of_le ZB hb1.size)
 refine bodyPost_ret (v:=.agg #[.bool (sg (-a)),.slice A (nd (-a)) c]) (by simp(maxDischargeDepth:=9) [results,Tryz.results116,go_sem, *]) rfl ⟨_,_,rfl,RB.store2 hr1 p0,LC⟩
end
section
open Go.RowKit
attribute [local go_sem] CE CA CF CG B_ CB CD CC Be Bc Ba
theorem bS{a b s:Int}(h:sg a=sg b)(hs:s=I5 (dg a)+I5 (dg b)):a+b=if sg a then-s else s:=by
 rw[S7,S7]at hs
 cases h1:sg a
 ·have k1:=sg_false.1 h1;have k2:=sg_false.1 (h▸h1);simp;omega
 have k1:=sg_true.1 h1;have k2:=sg_true.1 (h▸h1);simp;omega
theorem b9{a b s:Int}(h:sg a= !sg b)(hs:s=I5 (dg b)-I5 (dg a)):a+b=if sg b then-s else s:=by
 rw[S7,S7]at hs
 cases h1:sg b
 ·rw[h1]at h;have k1:=sg_false.1 h1;have k2:=sg_true.1 h;simp;omega
 rw[h1]at h;have k1:=sg_true.1 h1;have k2:=sg_false.1 h;simp;omega
theorem bp{a b s:Int}(h:sg a= !sg b)(hs:s=I5 (dg a)-I5 (dg b)):a+b=if sg a then-s else s:=by
 rw[S7,S7]at hs
 cases h1:sg b
 ·rw[h1]at h;have k1:=sg_false.1 h1;have k2:=sg_true.1 h;rw[h];simp;omega
 rw[h1]at h;have k1:=sg_true.1 h1;have k2:=sg_false.1 h;rw[h];simp;omega
set_option maxRecDepth 100000 in
set_option maxHeartbeats 4000000 in
theorem Z5(a b:Int)(A B:Option Addr)(c d:Nat)(hs:sg a=sg b)(ha:nd a<=10000)(hb:nd b<=10000)(w:World)(hA:RB w A c a)(hB:RB w B d b):
 Calls Tryz.prog 120 #[.agg #[.bool (sg a),.slice A (nd a) c],.agg #[.bool (sg b),.slice B (nd b) d]] w (Zg w (a+b)):=by
 have HA:=Asd.mk hA
 have HB:=Asd.mk hB
 have HS:=Asd.mk hs
 have q:(sg a==sg b)=true:=beq_iff_eq.2 hs
 clear hA hB hs
 go_enter Tryz.func120,Tryz.ntmps120
 go_wp2
 go_region_held3 (λw'=>w'.cell? ⟨w.heap.size,0,none⟩=some (.bool (sg a))/\w'.cell? ⟨w.heap.size,1,none⟩=some (.slice A (nd a) c)/\w'.cell? ⟨w.heap.size+1,0,none⟩=some (.bool (sg b))/\w'.cell? ⟨w.heap.size+1,1,none⟩=some (.slice B (nd b) d))
  (first|(simp[go_sem];done)|(simp(maxDischargeDepth:=9) [go_sem, *];done))
  (first
   |(go_at_call 112;refine(ax A B c d (dg a) (dg b) (Yp a) (Yp b) (by show nd a<=_;omega) (by show nd b<=_;omega) _ (by exact RS.below HA.out LC) (by exact RS.below HB.out LC)).mono ?_;rintro e w1 ⟨out,A1,c1,rfl,hr1,hd1,hv1,hl1,hb1⟩;replace hr1:=Asd.mk hr1;replace hv1:=Asd.mk hv1;replace hl1:=Asd.mk hl1;obtain⟨p0,p1,p2,p3⟩:Bx w1 (w.heap.size+1+1) (.bool false) (.slice none 0 0):=Bx.low hb1 ZB (by simp(maxDischargeDepth:=9) [Bx,go_sem, *]);obtain⟨hc1,hf1⟩:=Bz hb1;have hz1_0:w.heap.size<w1.heap.size:=Nat.lt_of_lt_of_le ZB hb1.size;have hz1_1:w.heap.size+1<w1.heap.size:=Nat.lt_of_lt_of_le ZB hb1.size;have hz1_2:w.heap.size+1+1<w1.heap.size:=Nat.lt_of_lt_of_le ZB hb1.size)
   |(go_at_call 113;refine(Yt (sg a) A1 c1 out (a+b) hd1 (bS HS.out hv1.out) _ (by exact hr1.out)).mono ?_;rintro e w2 ⟨rfl,hr2,hb2⟩;replace hr2:=Asd.mk hr2;obtain⟨q0,q1,q2,q3⟩:Bx w2 (w.heap.size+1+1) (.bool false) (.slice none 0 0):=Bx.low hb2 ZB (by simp(maxDischargeDepth:=9) [Bx,go_sem, *]);obtain⟨hc2,hf2⟩:=Bz hb2;have hz2_0:w.heap.size<w2.heap.size:=Nat.lt_of_lt_of_le ZB hb2.size;have hz2_1:w.heap.size+1<w2.heap.size:=Nat.lt_of_lt_of_le ZB hb2.size;have hz2_2:w.heap.size+1+1<w2.heap.size:=Nat.lt_of_lt_of_le ZB hb2.size))
 go_wp2
 refine bodyPost_ret (v:=.agg #[.bool (sg (a+b)),.slice A1 (nd (a+b)) c1]) (by simp(maxDischargeDepth:=9) [results,Tryz.results120,go_sem, *]) rfl ⟨_,_,rfl,RB.store2 hr2.out q0,LC⟩
set_option maxRecDepth 100000 in
set_option maxHeartbeats 6000000 in
theorem aG(a b:Int)(A B:Option Addr)(c d:Nat)(hs:sg a= !sg b)(hl:a.natAbs<b.natAbs)(_ha:nd a<=10000)(hb:nd b<=10000)(w:World)(hA:RB w A c a)(hB:RB w B d b):
 Calls Tryz.prog 120 #[.agg #[.bool (sg a),.slice A (nd a) c],.agg #[.bool (sg b),.slice B (nd b) d]] w (Zg w (a+b)):=by
 have HA:=Asd.mk hA
 have HB:=Asd.mk hB
 have HS:=Asd.mk hs
 have HL:=Asd.mk hl
 have q:(sg a==sg b)=false:=by rw[hs];cases sg b<;>rfl
 have q2:decide (a.natAbs<b.natAbs)=true:=decide_eq_true hl
 have HLE:Asd (nd a<=nd b):=⟨Yw en⟩
 clear hA hB hs hl
 go_enter Tryz.func120,Tryz.ntmps120
 go_wp2_with (go_at_call 171;refine(aX A B c d a b _ (by exact RB.below HA.out LC) (by exact RB.below HB.out LC)).mono ?_;rintro e w0 ⟨rfl,hb0⟩;rw[q2];obtain⟨x0,x1,x2,x3⟩:Bx w0 (w.heap.size) (.bool (sg a)) (.slice A (nd a) c):=Bx.low hb0 (by first|(simp;done)|(simp;omega)) (by simp(maxDischargeDepth:=9) [Bx,go_sem]);obtain⟨y0,y1,y2,y3⟩:Bx w0 (w.heap.size+1) (.bool (sg b)) (.slice B (nd b) d):=Bx.low hb0 (by first|(simp;done)|(simp;omega)) (by simp(maxDischargeDepth:=9) [Bx,go_sem]);obtain⟨p0,p1,p2,p3⟩:Bx w0 (w.heap.size+1+1) (.bool false) (.slice none 0 0):=Bx.low hb0 (by first|(simp;done)|(simp;omega)) (by simp(maxDischargeDepth:=9) [Bx,go_sem]);have hz0_2:w.heap.size+1+1<w0.heap.size:=Nat.lt_of_lt_of_le (by first|(simp;done)|(simp;omega)) hb0.size;have hz0_1:w.heap.size+1<w0.heap.size:=en;have hz0_0:w.heap.size<w0.heap.size:=en)
 clear q2
 go_region_held3 (λw'=>w'.cell? ⟨w.heap.size,0,none⟩=some (.bool (sg a))/\w'.cell? ⟨w.heap.size,1,none⟩=some (.slice A (nd a) c)/\w'.cell? ⟨w.heap.size+1,0,none⟩=some (.bool (sg b))/\w'.cell? ⟨w.heap.size+1,1,none⟩=some (.slice B (nd b) d))
  (first|exact⟨x0,x1,y0,y1⟩|exact⟨x4,x5,y4,y5⟩|exact⟨x8,x9,y8,y9⟩|(simp(maxDischargeDepth:=9) [go_sem, *];done))
  (first
   |(go_at_call 172;refine(ag B A d c (dg b) (dg a) (Yp b) (Yp a) (by show nd b<=_;omega) (by exact HLE.out) (by have:=HL.out;rw[S7,S7];omega) _ (by exact RS.below HB.out LC) (by exact RS.below HA.out LC)).mono ?_;rintro e w1 ⟨out,A1,c1,rfl,hr1,hd1,hv1,hl1,hb1⟩;replace hr1:=Asd.mk hr1;replace hv1:=Asd.mk hv1;replace hl1:=Asd.mk hl1;obtain⟨x4,x5,x6,x7⟩:=Bx.low hb1 hz0_0 ⟨x0,x1,x2,x3⟩;obtain⟨y4,y5,y6,y7⟩:=Bx.low hb1 hz0_1 ⟨y0,y1,y2,y3⟩;obtain⟨p4,p5,p6,p7⟩:=Bx.low hb1 hz0_2 ⟨p0,p1,p2,p3⟩;have hz1_2:w.heap.size+1+1<w1.heap.size:=Nat.lt_of_lt_of_le hz0_2 hb1.size;have hz1_1:w.heap.size+1<w1.heap.size:=en;have hz1_0:w.heap.size<w1.heap.size:=en)
   |(go_at_call 113;refine(Yt (sg b) A1 c1 out (a+b) hd1 (b9 HS.out hv1.out) _ (by exact hr1.out)).mono ?_;rintro e w2 ⟨rfl,hr2,hb2⟩;replace hr2:=Asd.mk hr2;obtain⟨x8,x9,x10,x11⟩:=Bx.low hb2 hz1_0 ⟨x4,x5,x6,x7⟩;obtain⟨y8,y9,y10,y11⟩:=Bx.low hb2 hz1_1 ⟨y4,y5,y6,y7⟩;obtain⟨p8,p9,p10,p11⟩:=Bx.low hb2 hz1_2 ⟨p4,p5,p6,p7⟩;have hz2_2:w.heap.size+1+1<w2.heap.size:=Nat.lt_of_lt_of_le hz1_2 hb2.size;have hz2_1:w.heap.size+1<w2.heap.size:=en;have hz2_0:w.heap.size<w2.heap.size:=en))
 go_wp2
 refine bodyPost_ret (v:=.agg #[.bool (sg (a+b)),.slice A1 (nd (a+b)) c1]) (by simp(maxDischargeDepth:=9) [results,Tryz.results120,go_sem, *]) rfl ⟨_,_,rfl,RB.store2 hr2.out p8,LC⟩
set_option maxRecDepth 100000 in
set_option maxHeartbeats 6000000 in
theorem aH(a b:Int)(A B:Option Addr)(c d:Nat)(hs:sg a= !sg b)(hl: ¬a.natAbs<b.natAbs)(ha:nd a<=10000)(_hb:nd b<=10000)(w:World)(hA:RB w A c a)(hB:RB w B d b):
 Calls Tryz.prog 120 #[.agg #[.bool (sg a),.slice A (nd a) c],.agg #[.bool (sg b),.slice B (nd b) d]] w (Zg w (a+b)):=by
 have HA:=Asd.mk hA
 have HB:=Asd.mk hB
 have HS:=Asd.mk hs
 have HL:=Asd.mk hl
 have q:(sg a==sg b)=false:=by rw[hs];cases sg b<;>rfl
 have q2:decide (a.natAbs<b.natAbs)=false:=decide_eq_false hl
 have HLE:Asd (nd b<=nd a):=⟨Yw en⟩
 clear hA hB hs hl
 go_enter Tryz.func120,Tryz.ntmps120
 go_wp2_with (go_at_call 171;refine(aX A B c d a b _ (by exact RB.below HA.out LC) (by exact RB.below HB.out LC)).mono ?_;rintro e w0 ⟨rfl,hb0⟩;rw[q2];obtain⟨x0,x1,x2,x3⟩:Bx w0 (w.heap.size) (.bool (sg a)) (.slice A (nd a) c):=Bx.low hb0 (by first|(simp;done)|(simp;omega)) (by simp(maxDischargeDepth:=9) [Bx,go_sem]);obtain⟨y0,y1,y2,y3⟩:Bx w0 (w.heap.size+1) (.bool (sg b)) (.slice B (nd b) d):=Bx.low hb0 (by first|(simp;done)|(simp;omega)) (by simp(maxDischargeDepth:=9) [Bx,go_sem]);obtain⟨p0,p1,p2,p3⟩:Bx w0 (w.heap.size+1+1) (.bool false) (.slice none 0 0):=Bx.low hb0 (by first|(simp;done)|(simp;omega)) (by simp(maxDischargeDepth:=9) [Bx,go_sem]);have hz0_2:w.heap.size+1+1<w0.heap.size:=Nat.lt_of_lt_of_le (by first|(simp;done)|(simp;omega)) hb0.size;have hz0_1:w.heap.size+1<w0.heap.size:=en;have hz0_0:w.heap.size<w0.heap.size:=en)
 clear q2
 go_region_held3 (λw'=>w'.cell? ⟨w.heap.size,0,none⟩=some (.bool (sg a))/\w'.cell? ⟨w.heap.size,1,none⟩=some (.slice A (nd a) c)/\w'.cell? ⟨w.heap.size+1,0,none⟩=some (.bool (sg b))/\w'.cell? ⟨w.heap.size+1,1,none⟩=some (.slice B (nd b) d))
  (first|exact⟨x0,x1,y0,y1⟩|exact⟨x4,x5,y4,y5⟩|exact⟨x8,x9,y8,y9⟩|(simp(maxDischargeDepth:=9) [go_sem, *];done))
  (first
   |(go_at_call 172;refine(ag A B c d (dg a) (dg b) (Yp a) (Yp b) (by show nd a<=_;omega) (by exact HLE.out) (by have:=HL.out;rw[S7,S7];omega) _ (by exact RS.below HA.out LC) (by exact RS.below HB.out LC)).mono ?_;rintro e w1 ⟨out,A1,c1,rfl,hr1,hd1,hv1,hl1,hb1⟩;replace hr1:=Asd.mk hr1;replace hv1:=Asd.mk hv1;replace hl1:=Asd.mk hl1;obtain⟨x4,x5,x6,x7⟩:=Bx.low hb1 hz0_0 ⟨x0,x1,x2,x3⟩;obtain⟨y4,y5,y6,y7⟩:=Bx.low hb1 hz0_1 ⟨y0,y1,y2,y3⟩;obtain⟨p4,p5,p6,p7⟩:=Bx.low hb1 hz0_2 ⟨p0,p1,p2,p3⟩;have hz1_2:w.heap.size+1+1<w1.heap.size:=Nat.lt_of_lt_of_le hz0_2 hb1.size;have hz1_1:w.heap.size+1<w1.heap.size:=en;have hz1_0:w.heap.size<w1.heap.size:=en)
   |(go_at_call 113;refine(Yt (sg a) A1 c1 out (a+b) hd1 (bp HS.out hv1.out) _ (by exact hr1.out)).mono ?_;rintro e w2 ⟨rfl,hr2,hb2⟩;replace hr2:=Asd.mk hr2;obtain⟨x8,x9,x10,x11⟩:=Bx.low hb2 hz1_0 ⟨x4,x5,x6,x7⟩;obtain⟨y8,y9,y10,y11⟩:=Bx.low hb2 hz1_1 ⟨y4,y5,y6,y7⟩;obtain⟨p8,p9,p10,p11⟩:=Bx.low hb2 hz1_2 ⟨p4,p5,p6,p7⟩;have hz2_2:w.heap.size+1+1<w2.heap.size:=Nat.lt_of_lt_of_le hz1_2 hb2.size;have hz2_1:w.heap.size+1<w2.heap.size:=en;have hz2_0:w.heap.size<w2.heap.size:=en))
 go_wp2
 refine bodyPost_ret (v:=.agg #[.bool (sg (a+b)),.slice A1 (nd (a+b)) c1]) (by simp(maxDischargeDepth:=9) [results,Tryz.results120,go_sem, *]) rfl ⟨_,_,rfl,RB.store2 hr2.out p8,LC⟩
theorem Y6(a b:Int)(A B:Option Addr)(c d:Nat)(ha:nd a<=10000)(hb:nd b<=10000)(w:World)(hA:RB w A c a)(hB:RB w B d b):
 Calls Tryz.prog 120 #[.agg #[.bool (sg a),.slice A (nd a) c],.agg #[.bool (sg b),.slice B (nd b) d]] w (Zg w (a+b)):=by
 by_cases hs:sg a=sg b
 ·exact Z5 a b A B c d hs ha hb w hA hB
 have hs':sg a= !sg b:=by cases h1:sg a<;>cases h2:sg b<;>simp_all
 by_cases hl:a.natAbs<b.natAbs
 ·exact aG a b A B c d hs' hl ha hb w hA hB
 exact aH a b A B c d hs' hl ha hb w hA hB
end
section
open Go.RowKit
attribute [local go_sem] CE CA CF CG B_ CB CD CC Be Bc Ba
set_option maxRecDepth 100000 in
set_option maxHeartbeats 6000000 in
theorem ZG(a b:Int)(A B:Option Addr)(c d:Nat)(ha:nd a<=10000)(hb:nd b<=10000)(w:World)(hA:RB w A c a)(hB:RB w B d b):
 Calls Tryz.prog 118 #[.agg #[.bool (sg a),.slice A (nd a) c],.agg #[.bool (sg b),.slice B (nd b) d]] w (Zg w (a-b)):=by
 have HA:=Asd.mk hA
 have HB:=Asd.mk hB
 have HE:=Asd.mk (show a+ -b=a-b by omega)
 have HN:Asd (nd (-b)<=10000):=⟨by rw[ZF];exact hb⟩
 clear hA hB
 go_enter Tryz.func118,Tryz.ntmps118
 go_wp2
 go_region_held3 (λw'=>w'.cell? ⟨w.heap.size,0,none⟩=some (.bool (sg a))/\w'.cell? ⟨w.heap.size,1,none⟩=some (.slice A (nd a) c)/\w'.cell? ⟨w.heap.size+1,0,none⟩=some (.bool (sg b))/\w'.cell? ⟨w.heap.size+1,1,none⟩=some (.slice B (nd b) d))
  (first|(simp[go_sem];done)|exact⟨x0,x1,y0,y1⟩|exact⟨x4,x5,y4,y5⟩|(simp(maxDischargeDepth:=9) [go_sem, *];done))
  (first
   |(go_at_call 116;refine(Yy b B d _ (by exact RB.below HB.out LC)).mono ?_;rintro e w0 ⟨A1,c1,rfl,hr1,hb0⟩;replace hr1:=Asd.mk hr1;obtain⟨x0,x1,x2,x3⟩:Bx w0 (w.heap.size) (.bool (sg a)) (.slice A (nd a) c):=Bx.low hb0 (by first|(simp;done)|(simp;omega)) (by simp(maxDischargeDepth:=9) [Bx,go_sem]);obtain⟨y0,y1,y2,y3⟩:Bx w0 (w.heap.size+1) (.bool (sg b)) (.slice B (nd b) d):=Bx.low hb0 (by first|(simp;done)|(simp;omega)) (by simp(maxDischargeDepth:=9) [Bx,go_sem]);obtain⟨p0,p1,p2,p3⟩:Bx w0 (w.heap.size+1+1) (.bool false) (.slice none 0 0):=Bx.low hb0 (by first|(simp;done)|(simp;omega)) (by simp(maxDischargeDepth:=9) [Bx,go_sem]);have hz0_2:w.heap.size+1+1<w0.heap.size:=Nat.lt_of_lt_of_le (by first|(simp;done)|(simp;omega)) hb0.size;have hz0_1:w.heap.size+1<w0.heap.size:=en;have hz0_0:w.heap.size<w0.heap.size:=en)
   |(go_at_call 120;refine(Y6 a (-b) A A1 c c1 ha HN.out _ (by exact RB.below HA.out LC) (by exact hr1.out)).mono ?_;rintro e w1 ⟨A2,c2,rfl,hr2,hb1⟩;replace hr2:=Asd.mk hr2;obtain⟨x4,x5,x6,x7⟩:=Bx.low hb1 hz0_0 ⟨x0,x1,x2,x3⟩;obtain⟨y4,y5,y6,y7⟩:=Bx.low hb1 hz0_1 ⟨y0,y1,y2,y3⟩;obtain⟨p4,p5,p6,p7⟩:=Bx.low hb1 hz0_2 ⟨p0,p1,p2,p3⟩;have hz1_2:w.heap.size+1+1<w1.heap.size:=Nat.lt_of_lt_of_le hz0_2 hb1.size;have hz1_1:w.heap.size+1<w1.heap.size:=en;have hz1_0:w.heap.size<w1.heap.size:=en))
 go_wp2
 rw[<-HE.out]
 refine bodyPost_ret (v:=.agg #[.bool (sg (a+ -b)),.slice A2 (nd (a+ -b)) c2]) (by simp(maxDischargeDepth:=9) [results,Tryz.results118,go_sem, *]) rfl ⟨_,_,rfl,RB.store2 hr2.out p4,LC⟩
def ZC(a b:Int):Int:=if a<b then-1 else if a=b then 0 else 1
set_option maxRecDepth 100000 in
set_option maxHeartbeats 6000000 in
theorem Y8(a b:Int)(A B:Option Addr)(c d:Nat)(ha:nd a<=10000)(hb:nd b<=10000)(w:World)(hA:RB w A c a)(hB:RB w B d b):
 Calls Tryz.prog 115 #[.agg #[.bool (sg a),.slice A (nd a) c],.agg #[.bool (sg b),.slice B (nd b) d]] w λe w'=>e=.returned (.int .i64 (ZC a b))/\Below w.heap.size w w':=by
 have HA:=Asd.mk hA
 have HB:=Asd.mk hB
 clear hA hB
 cases q1:sg (a-b)
 ·by_cases q2:nd (a-b)=0
  ·have e:ZC a b=0:=by have:=(LM _).1 q2;unfold ZC;rw[if_neg en,if_pos en]
   rw[e]
   clear e
   go_enter Tryz.func115,Tryz.ntmps115
   go_wp2_with (go_at_call 118;refine(ZG a b A B c d ha hb _ (by exact RB.below HA.out LC) (by exact RB.below HB.out LC)).mono ?_;rintro e w0 ⟨A1,c1,rfl,hr1,hb0⟩;replace hr1:=Asd.mk hr1)
   go_ret
   exact⟨rfl,LC⟩
  have e:ZC a b=1:=by have h1:=sg_false.1 q1;have h2:a-b≠0:= λk=>q2 ((LM _).2 k);unfold ZC;rw[if_neg en,if_neg en]
  have q3:0<nd (a-b):=by omega
  rw[e]
  clear e q2
  go_enter Tryz.func115,Tryz.ntmps115
  go_wp2_with (go_at_call 118;refine(ZG a b A B c d ha hb _ (by exact RB.below HA.out LC) (by exact RB.below HB.out LC)).mono ?_;rintro e w0 ⟨A1,c1,rfl,hr1,hb0⟩;replace hr1:=Asd.mk hr1)
  go_ret
  exact⟨rfl,LC⟩
 have e:ZC a b= -1:=by have h1:=sg_true.1 q1;unfold ZC;rw[if_pos en]
 rw[e]
 clear e
 go_enter Tryz.func115,Tryz.ntmps115
 go_wp2_with (go_at_call 118;refine(ZG a b A B c d ha hb _ (by exact RB.below HA.out LC) (by exact RB.below HB.out LC)).mono ?_;rintro e w0 ⟨A1,c1,rfl,hr1,hb0⟩;replace hr1:=Asd.mk hr1)
 go_ret
 exact⟨rfl,LC⟩
end
end Go.Proofs.YtikajapjkdloaaaGreatDoor
