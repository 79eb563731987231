/- Walks of layer 9 (tame) and of its reference, by plans. -/
import Derived.Test.YtikajapjkdloaaaGreatDoor933
import Derived.Test.YtikajapjkdloaaaGreatDoor917
namespace Go.Proofs.YtikajapjkdloaaaGreatDoor
set_option linter.unusedVariables false
set_option linter.unusedSimpArgs false
set_option maxRecDepth 1000000
set_option maxHeartbeats 8000000
open Go.RowKit
section
theorem bk(p f c:Nat->Int):bB p f c=((RE f c==0)&&([CK p f c 0,CK p f c 1,CK p f c 2,CK p f c 3,CK p f c 4,CK p f c 5]== [p 0,p 1,p 2,p 3,p 4,p 5])):=by
 unfold bB
 cases h:E5 f c
 ·rw[(Ve (p:=p) h).1];simp
 rw[(VM (p:=p) h).1];simp only[(VM (p:=p) h).2];simp
abbrev Fe(p:Nat->Int):List Value:=[.int .i64 (p 0),.int .i64 (p 1),.int .i64 (p 2),.int .i64 (p 3),.int .i64 (p 4),.int .i64 (p 5)]
abbrev GB:List Value:=[.int .i64 0,.int .i64 0,.int .i64 0,.int .i64 0,.int .i64 0,.int .i64 0]
abbrev Fw(r1:Nat)(p:Nat->Int)(r2:Nat)(f:Nat->Int)(r3:Nat)(c:Nat->Int)(r4:Nat)(r7:Nat)(u9:Int)(u11:Int)(u13:Int)(r14:Nat):AD:=[(r1,(Fe p)),(r2,[.int .i64 (f 0),.int .i64 (f 1),.int .i64 (f 2)]),(r3,[.int .i64 (c 0),.int .i64 (c 1),.int .i64 (c 2)]),(r4,GB),(r7,[.int .i64 u9,.int .i64 u11,.int .i64 u13]),(r14,[.int .i64 u9,.int .i64 (Ac (p 1) (mn (u11-(f 1)) (u9-(f 0)))),.int .i64 (Ac (p 2) (mn (u13-(f 2)) (u9-(f 0)))),.int .i64 u11,.int .i64 0,.int .i64 u13])]
abbrev Fk(r1:Nat)(p:Nat->Int)(r2:Nat)(f:Nat->Int)(r3:Nat)(c:Nat->Int)(r4:Nat)(r7:Nat)(u9:Int)(u11:Int)(u13:Int)(r14:Nat):AD:=[(r1,(Fe p)),(r2,[.int .i64 (f 0),.int .i64 (f 1),.int .i64 (f 2)]),(r3,[.int .i64 (c 0),.int .i64 (c 1),.int .i64 (c 2)]),(r4,GB),(r7,[.int .i64 u9,.int .i64 u11,.int .i64 u13]),(r14,[.int .i64 u9,.int .i64 (Ac (p 1) (mn (u11-(f 1)) (u9-(f 0)))),.int .i64 0,.int .i64 u11,.int .i64 0,.int .i64 u13])]
abbrev PL(r1:Nat)(p:Nat->Int)(r2:Nat)(f:Nat->Int)(r3:Nat)(c:Nat->Int)(r4:Nat)(r7:Nat)(u9:Int)(u11:Int)(u13:Int)(r14:Nat):AD:=[(r1,(Fe p)),(r2,[.int .i64 (f 0),.int .i64 (f 1),.int .i64 (f 2)]),(r3,[.int .i64 (c 0),.int .i64 (c 1),.int .i64 (c 2)]),(r4,GB),(r7,[.int .i64 u9,.int .i64 u11,.int .i64 u13]),(r14,[.int .i64 u9,.int .i64 0,.int .i64 0,.int .i64 u11,.int .i64 0,.int .i64 u13])]
abbrev RC(p:Nat->Int):Array Value:=#[.int .i64 (p 0),.int .i64 (p 1),.int .i64 (p 2),.int .i64 (p 3),.int .i64 (p 4),.int .i64 (p 5)]
abbrev Sl(u9:Int)(p:Nat->Int)(u11:Int)(f:Nat->Int)(u13:Int):Value:=(.tuple #[.agg #[.int .i64 u9,.int .i64 (Ac (p 1) (mn (u11-(f 1)) (u9-(f 0)))),.int .i64 (Ac (p 2) (mn (u13-(f 2)) (u9-(f 0)))),.int .i64 u11,.int .i64 (Ac (p 4) (mn (u13-(f 2)) (u11-(f 1)))),.int .i64 u13],.int .i64 0])
abbrev Gw(p:Nat->Int)(u11:Int)(f:Nat->Int)(u9:Int):Value:=.int .i64 (Ac (p 1) (mn (u11-(f 1)) (u9-(f 0))))
abbrev Sh(f:Nat->Int):List Value:=[.int .i64 (f 0),.int .i64 (f 1),.int .i64 (f 2)]
abbrev Ul(c:Nat->Int):List Value:=[.int .i64 (c 0),.int .i64 (c 1),.int .i64 (c 2)]
abbrev Ox(u9:Int)(p:Nat->Int)(u11:Int)(f:Nat->Int)(u13:Int):Array Value:=#[.int .i64 u9,(Gw p u11 f u9),.int .i64 (Ac (p 2) (mn (u13-(f 2)) (u9-(f 0)))),.int .i64 u11,.int .i64 0,.int .i64 u13]
theorem JQ(p f c:Nat->Int)(w:World)(R:Ending->World->Prop)(hG:St w w [] [])(hE:Ex w [])
 (h: ∀r1:Nat,∀r2:Nat,∀r3:Nat,∀r4:Nat,r2=r2/\r3=r3/\CallV Tryz.prog w [(r1,(Fe p)),(r2,(Sh f)),(r3,(Ul c)),(r4,GB)] [] 77 #[.agg #[.int .i64 (f 0),.int .i64 (f 1),.int .i64 (f 2)],.agg #[.int .i64 (c 0),.int .i64 (c 1),.int .i64 (c 2)]] (.bool (E5 f c))/\(((!(E5 f c))=true->(r4=r4/\(r4=r4/\(r4=r4/\(r4=r4/\(r4=r4/\(r4=r4/\(True)))))))/\(r4=r4/\(True))/\(Bh R w [(r1,(Fe p)),(r2,(Sh f)),(r3,(Ul c)),(r4,GB)] [] (.tuple #[.agg #[.int .i64 0,.int .i64 0,.int .i64 0,.int .i64 0,.int .i64 0,.int .i64 0],.int .i64 1])))/\((!(E5 f c))=false->r1=r1/\CallV Tryz.prog w [(r1,(Fe p)),(r2,(Sh f)),(r3,(Ul c)),(r4,GB)] [] 123 #[.agg (RC p)] (.agg #[.int .i64 (p 0),.int .i64 (p 3),.int .i64 (p 5)])/\(∀r7:Nat,(r7=r7/\(r7=r7/\(r7=r7/\(True))))/\r7=r7/\r2=r2/\(∀u8:Int,u8=(if(f 0)>(p 0)then(f 0)else(p 0))->(r3=r3/\(∀u9:Int,u9=(if(c 0)<u8 then(c 0)else u8)->((r7=r7/\(True))/\r7=r7/\r2=r2/\(∀u10:Int,u10=(if(f 1)>(p 3)then(f 1)else(p 3))->(r3=r3/\(∀u11:Int,u11=(if(c 1)<u10 then(c 1)else u10)->((r7=r7/\(True))/\r7=r7/\r2=r2/\(∀u12:Int,u12=(if(f 2)>(p 5)then(f 2)else(p 5))->(r3=r3/\(∀u13:Int,u13=(if(c 2)<u12 then(c 2)else u12)->((r7=r7/\(True))/\r7=r7/\CallV Tryz.prog w [(r1,(Fe p)),(r2,(Sh f)),(r3,(Ul c)),(r4,GB),(r7,[.int .i64 u9,.int .i64 u11,.int .i64 u13])] [] 95 #[.agg #[.int .i64 u9,.int .i64 u11,.int .i64 u13]] (.agg #[.int .i64 u9,.int .i64 0,.int .i64 0,.int .i64 u11,.int .i64 0,.int .i64 u13])/\(∀r14:Nat,(r14=r14/\(r14=r14/\(r14=r14/\(r14=r14/\(r14=r14/\(r14=r14/\(True)))))))/\r1=r1/\CallV Tryz.prog w (PL r1 p r2 f r3 c r4 r7 u9 u11 u13 r14) [] 124 #[.agg (RC p),.int .i64 1,.int .i64 0] (.tuple #[.int .i64 (p 1),.int .i64 0])/\r14=r14/\r7=r7/\r2=r2/\Value.int .i64 (IntKind.i64.wrap (u11-(f 1)))=.int .i64 (u11-(f 1))/\r7=r7/\r2=r2/\Value.int .i64 (IntKind.i64.wrap (u9-(f 0)))=.int .i64 (u9-(f 0))/\CallV Tryz.prog w (PL r1 p r2 f r3 c r4 r7 u9 u11 u13 r14) [] 126 #[.int .i64 (u11-(f 1)),.int .i64 (u9-(f 0))] (.int .i64 (mn (u11-(f 1)) (u9-(f 0))))/\CallV Tryz.prog w (PL r1 p r2 f r3 c r4 r7 u9 u11 u13 r14) [] 58 #[.int .i64 (p 1),.int .i64 (mn (u11-(f 1)) (u9-(f 0)))] ((Gw p u11 f u9))/\CallV Tryz.prog w (PL r1 p r2 f r3 c r4 r7 u9 u11 u13 r14) [] 125 #[.agg #[.int .i64 u9,.int .i64 0,.int .i64 0,.int .i64 u11,.int .i64 0,.int .i64 u13],.int .i64 1,.int .i64 0,(Gw p u11 f u9)] (.tuple #[.agg #[.int .i64 u9,(Gw p u11 f u9),.int .i64 0,.int .i64 u11,.int .i64 0,.int .i64 u13],.int .i64 0])/\(r14=r14/\(r14=r14/\(r14=r14/\(r14=r14/\(r14=r14/\(r14=r14/\(True)))))))/\r1=r1/\CallV Tryz.prog w (Fk r1 p r2 f r3 c r4 r7 u9 u11 u13 r14) [] 124 #[.agg (RC p),.int .i64 2,.int .i64 0] (.tuple #[.int .i64 (p 2),.int .i64 0])/\r14=r14/\r7=r7/\r2=r2/\Value.int .i64 (IntKind.i64.wrap (u13-(f 2)))=.int .i64 (u13-(f 2))/\r7=r7/\r2=r2/\Value.int .i64 (IntKind.i64.wrap (u9-(f 0)))=.int .i64 (u9-(f 0))/\CallV Tryz.prog w (Fk r1 p r2 f r3 c r4 r7 u9 u11 u13 r14) [] 126 #[.int .i64 (u13-(f 2)),.int .i64 (u9-(f 0))] (.int .i64 (mn (u13-(f 2)) (u9-(f 0))))/\CallV Tryz.prog w (Fk r1 p r2 f r3 c r4 r7 u9 u11 u13 r14) [] 58 #[.int .i64 (p 2),.int .i64 (mn (u13-(f 2)) (u9-(f 0)))] (.int .i64 (Ac (p 2) (mn (u13-(f 2)) (u9-(f 0)))))/\CallV Tryz.prog w (Fk r1 p r2 f r3 c r4 r7 u9 u11 u13 r14) [] 125 #[.agg #[.int .i64 u9,(Gw p u11 f u9),.int .i64 0,.int .i64 u11,.int .i64 0,.int .i64 u13],.int .i64 2,.int .i64 0,.int .i64 (Ac (p 2) (mn (u13-(f 2)) (u9-(f 0))))] (.tuple #[.agg (Ox u9 p u11 f u13),.int .i64 0])/\(r14=r14/\(r14=r14/\(r14=r14/\(r14=r14/\(r14=r14/\(r14=r14/\(True)))))))/\r1=r1/\CallV Tryz.prog w (Fw r1 p r2 f r3 c r4 r7 u9 u11 u13 r14) [] 124 #[.agg (RC p),.int .i64 2,.int .i64 1] (.tuple #[.int .i64 (p 4),.int .i64 0])/\r14=r14/\r7=r7/\r2=r2/\Value.int .i64 (IntKind.i64.wrap (u13-(f 2)))=.int .i64 (u13-(f 2))/\r7=r7/\r2=r2/\Value.int .i64 (IntKind.i64.wrap (u11-(f 1)))=.int .i64 (u11-(f 1))/\CallV Tryz.prog w (Fw r1 p r2 f r3 c r4 r7 u9 u11 u13 r14) [] 126 #[.int .i64 (u13-(f 2)),.int .i64 (u11-(f 1))] (.int .i64 (mn (u13-(f 2)) (u11-(f 1))))/\CallV Tryz.prog w (Fw r1 p r2 f r3 c r4 r7 u9 u11 u13 r14) [] 58 #[.int .i64 (p 4),.int .i64 (mn (u13-(f 2)) (u11-(f 1)))] (.int .i64 (Ac (p 4) (mn (u13-(f 2)) (u11-(f 1)))))/\CallV Tryz.prog w (Fw r1 p r2 f r3 c r4 r7 u9 u11 u13 r14) [] 125 #[.agg (Ox u9 p u11 f u13),.int .i64 2,.int .i64 1,.int .i64 (Ac (p 4) (mn (u13-(f 2)) (u11-(f 1))))] (Sl u9 p u11 f u13)/\(r14=r14/\(r14=r14/\(r14=r14/\(r14=r14/\(r14=r14/\(r14=r14/\(True)))))))/\r14=r14/\(r4=r4/\(r4=r4/\(r4=r4/\(r4=r4/\(r4=r4/\(r4=r4/\(True)))))))/\(r4=r4/\(True))/\(Bh R w [(r1,(Fe p)),(r2,(Sh f)),(r3,(Ul c)),(r4,[.int .i64 u9,(Gw p u11 f u9),.int .i64 (Ac (p 2) (mn (u13-(f 2)) (u9-(f 0)))),.int .i64 u11,.int .i64 (Ac (p 4) (mn (u13-(f 2)) (u11-(f 1)))),.int .i64 u13]),(r7,[.int .i64 u9,.int .i64 u11,.int .i64 u13]),(r14,[.int .i64 u9,(Gw p u11 f u9),.int .i64 (Ac (p 2) (mn (u13-(f 2)) (u9-(f 0)))),.int .i64 u11,.int .i64 (Ac (p 4) (mn (u13-(f 2)) (u11-(f 1)))),.int .i64 u13])] [] (Sl u9 p u11 f u13))))))))))))))))))):Calls Tryz.prog 55 #[.agg (RC p),.agg #[.int .i64 (f 0),.int .i64 (f 1),.int .i64 (f 2)],.agg #[.int .i64 (c 0),.int .i64 (c 1),.int .i64 (c 2)]] w R:=
 B2 (f:=55) (es:=[]) (c:=Tryz.f55.body.getD .skip) (tmps:=#[.agg (RC p),.agg #[.int .i64 (f 0),.int .i64 (f 1),.int .i64 (f 2)],.agg #[.int .i64 (c 0),.int .i64 (c 1),.int .i64 (c 2)],undef,undef,undef,undef,undef,undef,undef,undef,undef,undef,undef,undef,undef,undef,undef,undef,undef,undef,undef,undef,undef,undef,undef,undef,undef,undef,undef,undef,undef,undef,undef,undef,undef,undef,undef,undef,undef,undef,undef,undef,undef,undef,undef,undef,undef,undef,undef,undef,undef,undef,undef,undef,undef,undef,undef,undef,undef,undef,undef,undef,undef,undef,undef,undef,undef,undef,undef,undef,undef,undef,undef,undef,undef,undef,undef,undef,undef,undef,undef,undef,undef])
  (.s [.c,.c] (.new (λr1=>.new (λr2=>.new (λr3=>.new (λr4=>.s [.v,.c,.c,.c,.c,.c,.own 1,.own 2,.call (.bool (E5 f c)),.v,.c] (.split 18 (.s [.c,.c,.c,.v,.put 3,.v,.c] (.ret [3])) (.s [.c,.c,.c,.c,.own 0,.call (.agg #[.int .i64 (p 0),.int .i64 (p 3),.int .i64 (p 5)])] (.new (λr7=>.s [.put 4,.c,.c,.c,.c,.v,.c,.c,.c,.c,.c,.v,.c,.c,.c,.c,.c,.c,.c,.c,.v,.v,.c,.d [],.at 0 false,.v,.at 1 false,.v,.at 2 false,.v,.at 3 false,.own 4,.at 4 false,.v,.at 5 false,.v,.at 6 false,.own 1,.at 7 false,.v] (.gen 32 (λu8=>.s [.at 8 false,.v,.at 9 false,.v,.at 10 false,.own 2,.at 11 false,.v] (.gen 36 (λu9=>.s [.at 12 false,.v,.at 13 true,.put 4,.c,.c,.c,.v,.v,.c,.c,.c,.c,.v,.c,.c,.c,.c,.c,.c,.c,.c,.v,.v,.c,.d [],.at 0 false,.v,.at 1 false,.v,.at 2 false,.v,.at 3 false,.own 4,.at 4 false,.v,.at 5 false,.v,.at 6 false,.own 1,.at 7 false,.v] (.gen 32 (λu10=>.s [.at 8 false,.v,.at 9 false,.v,.at 10 false,.own 2,.at 11 false,.v] (.gen 36 (λu11=>.s [.at 12 false,.v,.at 13 true,.put 4,.c,.c,.c,.v,.v,.c,.c,.c,.c,.v,.c,.c,.c,.c,.c,.c,.c,.c,.v,.v,.c,.d [],.at 0 false,.v,.at 1 false,.v,.at 2 false,.v,.at 3 false,.own 4,.at 4 false,.v,.at 5 false,.v,.at 6 false,.own 1,.at 7 false,.v] (.gen 32 (λu12=>.s [.at 8 false,.v,.at 9 false,.v,.at 10 false,.own 2,.at 11 false,.v] (.gen 36 (λu13=>.s [.at 12 false,.v,.at 13 true,.put 4,.c,.c,.c,.v,.v,.c,.c,.c,.c,.v,.c,.c,.c,.c,.c,.c,.own 4,.call (.agg #[.int .i64 u9,.int .i64 0,.int .i64 0,.int .i64 u11,.int .i64 0,.int .i64 u13])] (.new (λr14=>.s [.put 5,.c,.c,.c,.c,.c,.c,.v,.c,.c,.c,.c,.c,.v,.c,.c,.c,.c,.c,.c,.c,.c,.v,.v,.c,.c,.c,.v,.c,.c,.c,.c,.c,.v,.c,.c,.c,.c,.c,.c,.c,.c,.v,.v,.c,.c,.c,.c,.v,.v,.v,.c,.c,.c,.c,.v,.v,.c,.c,.c,.c,.v,.c,.c,.c,.c,.c,.c,.c,.c,.v,.v,.c,.c,.c,.v,.c,.c,.c,.c,.c,.v,.c,.c,.c,.c,.c,.c,.c,.c,.v,.v,.c,.c,.c,.c,.v,.v,.v,.c,.c,.c,.c,.c,.own 0,.v,.v,.call (.tuple #[.int .i64 (p 1),.int .i64 0]),.v,.v,.v,.v,.v,.c,.d [],.at 0 false,.own 5,.at 1 false,.v,.at 2 false,.v,.at 3 false,.v,.at 4 false,.v,.at 5 false,.v,.at 6 false,.own 4,.at 7 false,.v,.at 8 false,.v,.at 9 false,.own 1,.at 10 false,.v,.setv 68 (.int .i64 (u11-(f 1))),.at 11 false,.v,.at 12 false,.v,.at 13 false,.own 4,.at 14 false,.v,.at 15 false,.v,.at 16 false,.own 1,.at 17 false,.v,.setv 75 (.int .i64 (u9-(f 0))),.at 18 true,.call (.int .i64 (mn (u11-(f 1)) (u9-(f 0)))),.at 19 true,.call ((Gw p u11 f u9)),.at 20 true,.call (.tuple #[.agg #[.int .i64 u9,(Gw p u11 f u9),.int .i64 0,.int .i64 u11,.int .i64 0,.int .i64 u13],.int .i64 0]),.at 21 false,.v,.at 22 false,.v,.at 23 false,.v,.at 24 true,.put 5,.c,.c,.c,.v,.v,.c,.c,.c,.c,.v,.c,.c,.c,.c,.c,.c,.c,.c,.v,.v,.c,.c,.c,.c,.v,.v,.v,.c,.c,.c,.c,.v,.v,.c,.c,.c,.c,.v,.c,.c,.c,.c,.c,.c,.c,.c,.v,.v,.c,.c,.c,.v,.c,.c,.c,.c,.c,.v,.c,.c,.c,.c,.c,.c,.c,.c,.v,.v,.c,.c,.c,.c,.v,.v,.v,.c,.c,.c,.c,.c,.own 0,.v,.v,.call (.tuple #[.int .i64 (p 2),.int .i64 0]),.v,.v,.v,.v,.v,.c,.d [],.at 0 false,.own 5,.at 1 false,.v,.at 2 false,.v,.at 3 false,.v,.at 4 false,.v,.at 5 false,.v,.at 6 false,.own 4,.at 7 false,.v,.at 8 false,.v,.at 9 false,.own 1,.at 10 false,.v,.setv 68 (.int .i64 (u13-(f 2))),.at 11 false,.v,.at 12 false,.v,.at 13 false,.own 4,.at 14 false,.v,.at 15 false,.v,.at 16 false,.own 1,.at 17 false,.v,.setv 75 (.int .i64 (u9-(f 0))),.at 18 true,.call (.int .i64 (mn (u13-(f 2)) (u9-(f 0)))),.at 19 true,.call (.int .i64 (Ac (p 2) (mn (u13-(f 2)) (u9-(f 0))))),.at 20 true,.call (.tuple #[.agg (Ox u9 p u11 f u13),.int .i64 0]),.at 21 false,.v,.at 22 false,.v,.at 23 false,.v,.at 24 true,.put 5,.c,.c,.c,.v,.v,.c,.c,.c,.c,.v,.c,.c,.c,.c,.c,.c,.c,.c,.v,.v,.c,.c,.c,.c,.v,.v,.v,.c,.c,.c,.c,.c,.own 0,.v,.v,.call (.tuple #[.int .i64 (p 4),.int .i64 0]),.v,.v,.v,.v,.v,.c,.d [],.at 0 false,.own 5,.at 1 false,.v,.at 2 false,.v,.at 3 false,.v,.at 4 false,.v,.at 5 false,.v,.at 6 false,.own 4,.at 7 false,.v,.at 8 false,.v,.at 9 false,.own 1,.at 10 false,.v,.setv 68 (.int .i64 (u13-(f 2))),.at 11 false,.v,.at 12 false,.v,.at 13 false,.own 4,.at 14 false,.v,.at 15 false,.v,.at 16 false,.own 1,.at 17 false,.v,.setv 75 (.int .i64 (u11-(f 1))),.at 18 true,.call (.int .i64 (mn (u13-(f 2)) (u11-(f 1)))),.at 19 true,.call (.int .i64 (Ac (p 4) (mn (u13-(f 2)) (u11-(f 1))))),.at 20 true,.call (Sl u9 p u11 f u13),.at 21 false,.v,.at 22 false,.v,.at 23 false,.v,.at 24 true,.put 5,.c,.c,.c,.v,.v,.c,.c,.c,.c,.v,.c,.c,.c,.c,.c,.c,.c,.c,.v,.v,.c,.c,.c,.c,.v,.v,.v,.c,.c,.c,.c,.v,.v,.c,.c,.c,.c,.v,.c,.c,.c,.c,.c,.c,.own 5,.put 3,.v,.c] (.ret [3])))))))))))))))))))))))))
  (by kernel_rfl) hG hE Tryz.func55 (by kernel_rfl) (by kernel_rfl) (Eq.mpr (by kernel_rfl) h)
theorem Kg(p f c:Nat->Int)(hp6: ∀i,Ai (p i))(hf: ∀i,Ai (f i))(hc: ∀i,Ai (c i))(w:World)(hg:GN w)(hp:GP w):Calls Tryz.prog 55 #[.agg #[.int .i64 (p 0),.int .i64 (p 1),.int .i64 (p 2),.int .i64 (p 3),.int .i64 (p 4),.int .i64 (p 5)],.agg #[.int .i64 (f 0),.int .i64 (f 1),.int .i64 (f 2)],.agg #[.int .i64 (c 0),.int .i64 (c 1),.int .i64 (c 2)]] w (λe w'=>e=.returned (.tuple #[.agg #[.int .i64 (CK p f c 0),.int .i64 (CK p f c 1),.int .i64 (CK p f c 2),.int .i64 (CK p f c 3),.int .i64 (CK p f c 4),.int .i64 (CK p f c 5)],.int .i64 (RE f c)])/\Below w.heap.size w w'):=by
 have x0:=hp6 0;have x3:=hp6 3;have x5:=hp6 5;have g0:=hf 0;have g1:=hf 1;have g2:=hf 2;have k0:=hc 0;have k1:=hc 1;have k2:=hc 2
 unfold Ai at x0 x3 x5 g0 g1 g2 k0 k1 k2
 refine JQ p f c w _ (St.refl w) Ex.nil ?_
 intro r1
 intro r2
 intro r3
 intro r4
 refine⟨rfl,rfl,(CallV.be λW hS=>ME f c W),?_⟩
 refine⟨?_,?_⟩
 ·intro h50
  have h5:(E5 f c)=false:=by simpa using h50
  refine⟨⟨rfl,rfl,rfl,rfl,rfl,rfl,trivial⟩,⟨rfl,trivial⟩,?_⟩
  have F:=Ve (p:=p) h5
  exactλW hS=>⟨by simp only[Sl,F.1,F.2],hS.bl⟩
 intro h60
 have h6:(E5 f c)=true:=by simpa using h60
 obtain⟨⟨m0,m1,m2⟩,⟨m3,m4,m5⟩,m6,m7,m8⟩:=KY h6
 refine⟨rfl,(CallV.be λW hS=>Q2 p W),?_⟩
 intro r7
 refine⟨⟨rfl,rfl,rfl,trivial⟩,rfl,rfl,?_⟩
 intro u8 eu8
 rw[Q3]at eu8
 refine⟨rfl,?_⟩
 intro u9 eu9
 rw[SV]at eu9
 refine⟨⟨rfl,trivial⟩,rfl,rfl,?_⟩
 intro u10 eu10
 rw[Q3]at eu10
 refine⟨rfl,?_⟩
 intro u11 eu11
 rw[SV]at eu11
 refine⟨⟨rfl,trivial⟩,rfl,rfl,?_⟩
 intro u12 eu12
 rw[Q3]at eu12
 refine⟨rfl,?_⟩
 intro u13 eu13
 rw[SV]at eu13
 refine⟨⟨rfl,trivial⟩,rfl,(CallV.be λW hS=>Gy (v3 u9 u11 u13) W),?_⟩
 intro r14
 refine⟨⟨rfl,rfl,rfl,rfl,rfl,rfl,trivial⟩,rfl,(CallV.be λW hS=>Jo p W (hp.below hS.bl)),rfl,rfl,rfl,congrArg (Value.int .i64) (BE (by omega)),rfl,rfl,congrArg (Value.int .i64) (BE (by omega)),(CallV.be λW hS=>IC (u11-(f 1)) (u9-(f 0)) (by unfold Ai;omega) (by unfold Ai;omega) W (hg.below hS.bl)),(CallV.be λW hS=>F7 (p 1) (mn (u11-(f 1)) (u9-(f 0))) (hp6 1) (IE (by unfold Ai;omega) (by unfold Ai;omega)) W),(CallV.be λW hS=>U4 (v6 u9 0 0 u11 0 u13) (Ac (p 1) (mn (u11-(f 1)) (u9-(f 0)))) W (hp.below hS.bl)),⟨rfl,rfl,rfl,rfl,rfl,rfl,trivial⟩,rfl,(CallV.be λW hS=>Jh p W (hp.below hS.bl)),rfl,rfl,rfl,congrArg (Value.int .i64) (BE (by omega)),rfl,rfl,congrArg (Value.int .i64) (BE (by omega)),(CallV.be λW hS=>IC (u13-(f 2)) (u9-(f 0)) (by unfold Ai;omega) (by unfold Ai;omega) W (hg.below hS.bl)),(CallV.be λW hS=>F7 (p 2) (mn (u13-(f 2)) (u9-(f 0))) (hp6 2) (IE (by unfold Ai;omega) (by unfold Ai;omega)) W),(CallV.be λW hS=>Uf (v6 u9 (Ac (p 1) (mn (u11-(f 1)) (u9-(f 0)))) 0 u11 0 u13) (Ac (p 2) (mn (u13-(f 2)) (u9-(f 0)))) W (hp.below hS.bl)),⟨rfl,rfl,rfl,rfl,rfl,rfl,trivial⟩,rfl,(CallV.be λW hS=>I0 p W (hp.below hS.bl)),rfl,rfl,rfl,congrArg (Value.int .i64) (BE (by omega)),rfl,rfl,congrArg (Value.int .i64) (BE (by omega)),(CallV.be λW hS=>IC (u13-(f 2)) (u11-(f 1)) (by unfold Ai;omega) (by unfold Ai;omega) W (hg.below hS.bl)),(CallV.be λW hS=>F7 (p 4) (mn (u13-(f 2)) (u11-(f 1))) (hp6 4) (IE (by unfold Ai;omega) (by unfold Ai;omega)) W),(CallV.be λW hS=>U5 (v6 u9 (Ac (p 1) (mn (u11-(f 1)) (u9-(f 0)))) (Ac (p 2) (mn (u13-(f 2)) (u9-(f 0)))) u11 0 u13) (Ac (p 4) (mn (u13-(f 2)) (u11-(f 1)))) W (hp.below hS.bl)),⟨rfl,rfl,rfl,rfl,rfl,rfl,trivial⟩,rfl,⟨rfl,rfl,rfl,rfl,rfl,rfl,trivial⟩,⟨rfl,trivial⟩,?_⟩
 have F:=VM (p:=p) h6
 subst eu13 eu12 eu11 eu10 eu9 eu8
 have G0:=Lu (min (max (p 3) (f 1)) (c 1)-f 1) (min (max (p 0) (f 0)) (c 0)-f 0)
 have G1:=Lu (min (max (p 5) (f 2)) (c 2)-f 2) (min (max (p 0) (f 0)) (c 0)-f 0)
 have G2:=Lu (min (max (p 5) (f 2)) (c 2)-f 2) (min (max (p 3) (f 1)) (c 1)-f 1)
 exactλW hS=>⟨by simp only[Sl,F.1,F.2,tm,NL,G0,G1,G2],hS.bl⟩
abbrev Qr(p:Nat->Int):Array Value:=#[.int .i64 (p 0),.int .i64 (p 1),.int .i64 (p 2),.int .i64 (p 3),.int .i64 (p 4),.int .i64 (p 5)]
abbrev UK(r1:Nat)(p:Nat->Int)(r2:Nat)(f:Nat->Int)(r3:Nat)(c:Nat->Int)(r4:Nat):AD:=[(r1,[.int .i64 (p 0),.int .i64 (p 1),.int .i64 (p 2),.int .i64 (p 3),.int .i64 (p 4),.int .i64 (p 5)]),(r2,[.int .i64 (f 0),.int .i64 (f 1),.int .i64 (f 2)]),(r3,[.int .i64 (c 0),.int .i64 (c 1),.int .i64 (c 2)]),(r4,[.int .i64 (CK p f c 0),.int .i64 (CK p f c 1),.int .i64 (CK p f c 2),.int .i64 (CK p f c 3),.int .i64 (CK p f c 4),.int .i64 (CK p f c 5)])]
abbrev bM(p:Nat->Int)(f:Nat->Int)(c:Nat->Int):Array Value:=#[.int .i64 (CK p f c 0),.int .i64 (CK p f c 1),.int .i64 (CK p f c 2),.int .i64 (CK p f c 3),.int .i64 (CK p f c 4),.int .i64 (CK p f c 5)]
theorem aB(p f c:Nat->Int)(w:World)(R:Ending->World->Prop)(hG:St w w [] [])(hE:Ex w [])
 (h: ∀r1:Nat,∀r2:Nat,∀r3:Nat,r1=r1/\r2=r2/\r3=r3/\CallV Tryz.prog w [(r1,[.int .i64 (p 0),.int .i64 (p 1),.int .i64 (p 2),.int .i64 (p 3),.int .i64 (p 4),.int .i64 (p 5)]),(r2,[.int .i64 (f 0),.int .i64 (f 1),.int .i64 (f 2)]),(r3,[.int .i64 (c 0),.int .i64 (c 1),.int .i64 (c 2)])] [] 55 #[.agg (Qr p),.agg #[.int .i64 (f 0),.int .i64 (f 1),.int .i64 (f 2)],.agg #[.int .i64 (c 0),.int .i64 (c 1),.int .i64 (c 2)]] (.tuple #[.agg (bM p f c),.int .i64 (RE f c)])/\(∀r4:Nat,(r4=r4/\(r4=r4/\(r4=r4/\(r4=r4/\(r4=r4/\(r4=r4/\(True)))))))/\((((RE f c)==0)=true->r4=r4/\r1=r1/\Jv Tryz.prog 45 (.agg (bM p f c)) (.agg (Qr p)) ([(CK p f c 0),(CK p f c 1),(CK p f c 2),(CK p f c 3),(CK p f c 4),(CK p f c 5)]== [(p 0),(p 1),(p 2),(p 3),(p 4),(p 5)])/\(True)/\(Bh R w (UK r1 p r2 f r3 c r4) [] (.bool ([(CK p f c 0),(CK p f c 1),(CK p f c 2),(CK p f c 3),(CK p f c 4),(CK p f c 5)]== [(p 0),(p 1),(p 2),(p 3),(p 4),(p 5)]))))/\(((RE f c)==0)=false->(True)/\(Bh R w (UK r1 p r2 f r3 c r4) [] (.bool false)))))):Calls Tryz.prog 22 #[.agg (Qr p),.agg #[.int .i64 (f 0),.int .i64 (f 1),.int .i64 (f 2)],.agg #[.int .i64 (c 0),.int .i64 (c 1),.int .i64 (c 2)]] w R:=
 B2 (f:=22) (es:=[]) (c:=Tryz.f22.body.getD .skip) (tmps:=#[.agg (Qr p),.agg #[.int .i64 (f 0),.int .i64 (f 1),.int .i64 (f 2)],.agg #[.int .i64 (c 0),.int .i64 (c 1),.int .i64 (c 2)],undef,undef,undef,undef,undef,undef,undef,undef,undef,undef,undef,undef,undef,undef,undef,undef,undef,undef,undef,undef])
  (.s [.c,.c] (.new (λr1=>.new (λr2=>.new (λr3=>.s [.v,.c,.c,.c,.own 0,.own 1,.own 2,.call (.tuple #[.agg (bM p f c),.int .i64 (RE f c)]),.v,.v,.v] (.new (λr4=>.s [.put 3,.v,.c,.c,.c,.v,.v,.v] (.split 18 (.s [.own 3,.own 0,.eq ([(CK p f c 0),(CK p f c 1),(CK p f c 2),(CK p f c 3),(CK p f c 4),(CK p f c 5)]== [(p 0),(p 1),(p 2),(p 3),(p 4),(p 5)]),.v,.v,.c] (.ret [])) (.s [.u,.u,.u,.v,.v,.c] (.ret []))))))))))
  (by kernel_rfl) hG hE Tryz.func22 (by kernel_rfl) (by kernel_rfl) (Eq.mpr (by kernel_rfl) h)
theorem cE(p f c:Nat->Int)(hp6: ∀i,Ai (p i))(hf: ∀i,Ai (f i))(hc: ∀i,Ai (c i))(w:World)(hg:GN w)(hp:GP w):Calls Tryz.prog 22 #[.agg #[.int .i64 (p 0),.int .i64 (p 1),.int .i64 (p 2),.int .i64 (p 3),.int .i64 (p 4),.int .i64 (p 5)],.agg #[.int .i64 (f 0),.int .i64 (f 1),.int .i64 (f 2)],.agg #[.int .i64 (c 0),.int .i64 (c 1),.int .i64 (c 2)]] w (λe w'=>e=.returned (.bool (bB p f c))/\Below w.heap.size w w'):=by
 refine aB p f c w _ (St.refl w) Ex.nil ?_
 intro r1
 intro r2
 intro r3
 refine⟨rfl,rfl,rfl,(CallV.be λW hS=>Kg p f c hp6 hf hc W (hg.below hS.bl) (hp.below hS.bl)),?_⟩
 intro r4
 refine⟨⟨rfl,rfl,rfl,rfl,rfl,rfl,trivial⟩,?_⟩
 refine⟨?_,?_⟩
 ·intro h5
  have h5p:(RE f c)=0:=by simpa using h5
  refine⟨rfl,rfl,(λW=>NF _ _ _ _ _ _ _ _ _ _ _ _ W),trivial,?_⟩
  exactλW hS=>⟨by rw[bk];simp only[h5,bne,Bool.false_and,Bool.and_false,Bool.not_true,Bool.not_false,Bool.and_self,Bool.true_and,Bool.and_true,Bool.or_self,Bool.or_true,Bool.or_false,Bool.true_or,Bool.false_or],hS.bl⟩
 intro h6
 have h6p: ¬((RE f c)=0):=by simpa using h6
 refine⟨trivial,?_⟩
 exactλW hS=>⟨by rw[bk];simp only[h6,bne,Bool.false_and,Bool.and_false,Bool.not_true,Bool.not_false,Bool.and_self,Bool.true_and,Bool.and_true,Bool.or_self,Bool.or_true,Bool.or_false,Bool.true_or,Bool.false_or],hS.bl⟩
end
section
theorem Vw{m:Nat->Int}(h0:AL (m 0)=true)(h1:AL (m 1)=true)(h2:AL (m 2)=true)(h3:AL (m 3)=true)(h4:AL (m 4)=true)(h5:AL (m 5)=true):Ap m=true:=by
 show(true&&AL (m 0)&&AL (m 1)&&AL (m 2)&&AL (m 3)&&AL (m 4)&&AL (m 5))=true
 rw[h0,h1,h2,h3,h4,h5];rfl
theorem Ua{m:Nat->Int}(h:Ap m=true):AL (m 0)=true/\AL (m 1)=true/\AL (m 2)=true/\AL (m 3)=true/\AL (m 4)=true/\AL (m 5)=true:=by
 have h:(true&&AL (m 0)&&AL (m 1)&&AL (m 2)&&AL (m 3)&&AL (m 4)&&AL (m 5))=true:=h
 simp only[Bool.true_and,Bool.and_eq_true]at h
 exact⟨h.1.1.1.1.1,h.1.1.1.1.2,h.1.1.1.2,h.1.1.2,h.1.2,h.2⟩
end
end Go.Proofs.YtikajapjkdloaaaGreatDoor
