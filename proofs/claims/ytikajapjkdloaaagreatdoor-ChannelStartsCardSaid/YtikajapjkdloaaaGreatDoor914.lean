/- Layers 6 and 18: the global table's facts; ground.Level, which defers a closure that writes its results. -/
import Derived.Test.YtikajapjkdloaaaGreatDoor913
namespace Go.Proofs.YtikajapjkdloaaaGreatDoor
set_option linter.unusedVariables false
set_option linter.unusedSimpArgs false
section
open Go.RowKit
def GT(w:World):Prop:=0<w.heap.size/\ ∀(i:Nat)(v:Value),(tabL.map (Value.int .i64))[i]? =some v->w.cell? ⟨0,i,none⟩=some v
theorem GT.below{w W:World}(h:GT w)(hb:Below w.heap.size w W):GT W:=⟨Nat.lt_of_lt_of_le h.1 hb.size,λi v q=>(World.cell?_of_block (a:=⟨_,i,none⟩) (hb.block _ h.1)).trans (h.2 i v q)⟩
theorem GT.of{w W:World}{X:Nat->Prop}{bs:AD}{gs:BN}{rs:Aw}{os:DV}(h:GT w)(hS:Sx ⟨w,X⟩ W bs gs rs os)(hn: ¬X 0):GT W:=⟨Nat.lt_of_lt_of_le h.1 hS.bx.size,λi v q=>hS.oldc hn (h.2 i v q)⟩
theorem H9{x:Int}(hx:Ag x=true)(w:World)(h:GT w):Calls Tryz.prog 94 #[.int .i64 x] w λe w'=>e=.returned (.tuple #[.int .i64 (Bp x),.int .i64 0])/\Below w.heap.size w w':=Gf x hx w h.1 h.2
theorem K0{x:Int}(hx:Ag x=true): -562949953421312<=Bp x/\Bp x<= -562949953421312+46*281474976710656+281474976710656*12761:=by
 have a:=OC hx
 have b:=Oq hx
 unfold Bp
 omega
set_option maxRecDepth 1000000 in
set_option maxHeartbeats 8000000 in
theorem KC(g b6 b2 b4 b5:Nat)(bd no ro gc:Int)(kn near:Bool)(al nz:Int)(hgd:near=true->Ag gc=true)(u:FrameMode)(w:World)(hS0:Sx (AH w [(b6,[.bool near]),(b2,[.pointer (some ⟨g,0,none⟩)]),(b4,[.int .i64 al]),(b5,[.int .i64 nz])] []) w [(b6,[.bool near]),(b2,[.pointer (some ⟨g,0,none⟩)]),(b4,[.int .i64 al]),(b5,[.int .i64 nz])] [] [] [])(hT:GT w)(hnT: ¬(AH w [(b6,[.bool near]),(b2,[.pointer (some ⟨g,0,none⟩)]),(b4,[.int .i64 al]),(b5,[.int .i64 nz])] []).X 0)(hb:g<w.heap.size)(hnX: ¬(AH w [(b6,[.bool near]),(b2,[.pointer (some ⟨g,0,none⟩)]),(b4,[.int .i64 al]),(b5,[.int .i64 nz])] []).X g)(hc: ∀(i:Nat)(v:Value),([.int .i64 bd,.int .i64 no,.int .i64 ro,.int .i64 gc,.bool kn]:List Value)[i]? =some v->w.cell? ⟨g,i,none⟩=some v):CallsD Tryz.prog 153 #[.pointer (some ⟨b6,0,none⟩),.pointer (some ⟨b2,0,none⟩),.pointer (some ⟨b4,0,none⟩),.pointer (some ⟨b5,0,none⟩)] u w λe' u' w''=>u'=u/\(λe w'=>e=.returned (.tuple #[])/\Sx (AH w [(b6,[.bool near]),(b2,[.pointer (some ⟨g,0,none⟩)]),(b4,[.int .i64 al]),(b5,[.int .i64 nz])] []) w' [(b6,[.bool near]),(b2,[.pointer (some ⟨g,0,none⟩)]),(b4,[.int .i64 (if near=true then max al (Bp gc)else al)]),(b5,[.int .i64 (if near=true then ro else nz)])] [] [] []) e' w'':=by
 exact(let B:Base:=(AH w [(b6,[.bool near]),(b2,[.pointer (some ⟨g,0,none⟩)]),(b4,[.int .i64 al]),(b5,[.int .i64 nz])] []);let R:Ending->World->Prop:=(λe w'=>e=.returned (.tuple #[])/\Sx (AH w [(b6,[.bool near]),(b2,[.pointer (some ⟨g,0,none⟩)]),(b4,[.int .i64 al]),(b5,[.int .i64 nz])] []) w' [(b6,[.bool near]),(b2,[.pointer (some ⟨g,0,none⟩)]),(b4,[.int .i64 (if near=true then max al (Bp gc)else al)]),(b5,[.int .i64 (if near=true then ro else nz)])] [] [] []);IW (u:=u) (f:=153) (B:=B) (R:=R) (es:=[(g,[.int .i64 bd,.int .i64 no,.int .i64 ro,.int .i64 gc,.bool kn])]) (c:=Tryz.f153.body.getD .skip) (tmps:=#[.pointer (some ⟨b6,0,none⟩),.pointer (some ⟨b2,0,none⟩),.pointer (some ⟨b4,0,none⟩),.pointer (some ⟨b5,0,none⟩),undef,undef,undef,undef,undef,undef,undef,undef,undef,undef,undef,undef,undef,undef,undef,undef,undef,undef])
  (.s [.c,.c,.own 0,.c] (.split 6 (.s [.c,.c,.c,.own 1,.v,.v,.ext 0,.call (.tuple #[.int .i64 (Bp gc),.int .i64 0]),.v,.v,.v,.v,.v,.c,.d [],.at 0 false,.own 2,.at 1 false,.v,.at 2 false,.v,.setv 17 (.int .i64 (max al (Bp gc))),.at 3 false,.own 1,.at 4 false,.v,.at 5 false,.v,.at 6 false,.ext 0,.at 7 true,.put 2] (.s [.at 8 true,.put 3] (.s [.c] (.ret [])))) (.s [.c,.c] (.ret []))))
  el hS0 (by exact ExX.cons ⟨hb,hnX,hc⟩ (ExX.nil)) Tryz.func153 el el (Eq.mp el (let bs1:AD:=[(b6,[.bool near]),(b2,[.pointer (some ⟨g,0,none⟩)]),(b4,[.int .i64 al]),(b5,[.int .i64 nz])];aI (Eq.refl b6) (And.intro (λ(h2:near=true)=>have GG:=hgd h2;aI (Eq.refl b2) (aI (Eq.refl g) (aI (cv B bs1 [] [] [] ((λW hS=>H9 GG W (hT.of hS hnT)))) (aI (Eq.refl b4) (aI (show Value.int .i64 (if(Bp gc)>al then(Bp gc)else al)=.int .i64 (max al (Bp gc))from congrArg (Value.int .i64) (by rw[Int.max_def];split<;>split<;>omega)) (aI (Eq.refl b2) (aI (Eq.refl g) (aI (A_ b4) (aI trivial (aI (A_ b5) (aI trivial (let bs4:AD:=[(b6,[.bool near]),(b2,[.pointer (some ⟨g,0,none⟩)]),(b4,[.int .i64 (max al (Bp gc))]),(b5,[.int .i64 ro])];aI trivial ((show AO B R bs4 [] [] [] (.tuple #[])from by
     exactλW hS=>⟨rfl,by rw[if_pos h2,if_pos h2];exact(hS.sel [0,1,2,3] rfl eo).norows⟩)))))))))))))) (λ(h5:near=false)=>aI trivial ((show AO B R bs1 [] [] [] (.tuple #[])from by
     exactλW hS=>⟨rfl,by rw[if_neg (by rw[h5];simp),if_neg (by rw[h5];simp)];exact(hS.sel [0,1,2,3] rfl eo).norows⟩)))))))
end
section
set_option maxRecDepth 1000000
set_option maxHeartbeats 8000000
open Go.RowKit
theorem Ou{bd gc x:Int}{kn:Bool}(h:Bt bd gc kn x=true):kn=true:=by
 unfold Bt at h;simp only[Bool.and_eq_true]at h;exact h.2.1
theorem HD(g:Nat)(bd no ro gc:Int)(kn:Bool)(x:Int)(hx:Ag x=true)(hgc:0<=gc/\gc<=430515)(hgd:kn=true->Ag gc=true)(w:World)(hT:GT w)(hb:g<w.heap.size)(hc: ∀(i:Nat)(v:Value),([.int .i64 bd,.int .i64 no,.int .i64 ro,.int .i64 gc,.bool kn]:List Value)[i]? =some v->w.cell? ⟨g,i,none⟩=some v)(r1 r4 r7 r10:Nat)(W0:World)(ds0:List Nat)(hS0:Sx (⟨w,λ_=>False⟩:Base) W0 [(r1,[.pointer (some ⟨g,0,none⟩)]),(r4,[.int .i64 (Bp x)]),(r7,[.int .i64 no]),(r10,[.bool (Bt bd gc kn x)])] [] [(0,51,1),(1,2,1),(2,2,1),(3,4,1)] [])(hM0:Mk (⟨w,λ_=>False⟩:Base) W0 ds0):AtG 101 none (FA Tryz.prog 101 (λe w'=>e=.returned (.tuple #[.int .i64 (if(Bt bd gc kn x)=true then max (Bp x) (Bp gc)else Bp x),.int .i64 (if(Bt bd gc kn x)=true then ro else no),.bool (Bt bd gc kn x),.int .i64 0])/\Below w.heap.size w w')) (Ax 13 [false] [.code (Tryz.f101.body.getD .skip)]) ⟨#[.pointer (some ⟨g,0,none⟩),.int .i64 x,.pointer (some ⟨r1,0,none⟩),undef,.pointer (some ⟨r4,0,none⟩),.pointer (some ⟨r7,0,none⟩),.pointer (some ⟨r10,0,none⟩),.int .i64 0,.tuple #[.int .i64 (Bp x),.int .i64 0],.int .i64 x,.tuple #[.int .i64 (Bp x),.int .i64 0],.int .i64 (Bp x),.int .i64 0,.int .i64 0,.bool false,undef,.pointer (some ⟨g,0,none⟩),.pointer (some ⟨g,0,none⟩),.pointer (some ⟨g,1,none⟩),.int .i64 no,.pointer (some ⟨g,0,none⟩),.int .i64 x,.bool (Bt bd gc kn x),.func (.func 153) #[] #[.pointer (some ⟨r10,0,none⟩),.pointer (some ⟨r1,0,none⟩),.pointer (some ⟨r4,0,none⟩),.pointer (some ⟨r7,0,none⟩)],undef,undef,undef],[({target:=.fn (.func 153) #[.pointer (some ⟨r10,0,none⟩),.pointer (some ⟨r1,0,none⟩),.pointer (some ⟨r4,0,none⟩),.pointer (some ⟨r7,0,none⟩)],args:=#[]}:Deferred)]++Fv ds0⟩ W0:=by
 exact AtG.door1 (B:=(⟨w,λ_=>False⟩:Base)) (d:=({target:=.fn (.func 153) #[.pointer (some ⟨r10,0,none⟩),.pointer (some ⟨r1,0,none⟩),.pointer (some ⟨r4,0,none⟩),.pointer (some ⟨r7,0,none⟩)],args:=#[]}:Deferred)) (args:=#[.pointer (some ⟨r10,0,none⟩),.pointer (some ⟨r1,0,none⟩),.pointer (some ⟨r4,0,none⟩),.pointer (some ⟨r7,0,none⟩)]) Tryz.func101 rfl (λ_=>rfl) (let B:Base:=(⟨w,λ_=>False⟩:Base);let D:List Nat->Array Value->World->Prop:=Lp Tryz.prog B (Tryz.f101) 153 #[.pointer (some ⟨r10,0,none⟩),.pointer (some ⟨r1,0,none⟩),.pointer (some ⟨r4,0,none⟩),.pointer (some ⟨r7,0,none⟩)] (λe w'=>e=.returned (.tuple #[.int .i64 (if(Bt bd gc kn x)=true then max (Bp x) (Bp gc)else Bp x),.int .i64 (if(Bt bd gc kn x)=true then ro else no),.bool (Bt bd gc kn x),.int .i64 0])/\Below w.heap.size w w');
  J_ (f:=101) (B:=B) (D:=D) (dl:=[({target:=.fn (.func 153) #[.pointer (some ⟨r10,0,none⟩),.pointer (some ⟨r1,0,none⟩),.pointer (some ⟨r4,0,none⟩),.pointer (some ⟨r7,0,none⟩)],args:=#[]}:Deferred)]) (es:=[(g,[.int .i64 bd,.int .i64 no,.int .i64 ro,.int .i64 gc,.bool kn])]) (ds:=ds0) (k:=(Ax 13 [false] [.code (Tryz.f101.body.getD .skip)])) (tmps:=#[.pointer (some ⟨g,0,none⟩),.int .i64 x,.pointer (some ⟨r1,0,none⟩),undef,.pointer (some ⟨r4,0,none⟩),.pointer (some ⟨r7,0,none⟩),.pointer (some ⟨r10,0,none⟩),.int .i64 0,.tuple #[.int .i64 (Bp x),.int .i64 0],.int .i64 x,.tuple #[.int .i64 (Bp x),.int .i64 0],.int .i64 (Bp x),.int .i64 0,.int .i64 0,.bool false,undef,.pointer (some ⟨g,0,none⟩),.pointer (some ⟨g,0,none⟩),.pointer (some ⟨g,1,none⟩),.int .i64 no,.pointer (some ⟨g,0,none⟩),.int .i64 x,.bool (Bt bd gc kn x),.func (.func 153) #[] #[.pointer (some ⟨r10,0,none⟩),.pointer (some ⟨r1,0,none⟩),.pointer (some ⟨r4,0,none⟩),.pointer (some ⟨r7,0,none⟩)],undef,undef,undef])
  (.s [.c,.d [],.at 0 false,.own 1,.at 1 false,.own 2,.at 2 false,.own 3,.at 3 true,.put 1,.at 4 true,.put 2,.at 5 true,.put 3,.at 6 false,.v,.c] (.ret []))
  el hS0 hM0 (by exact ExX.cons ⟨hb,id,hc⟩ (ExX.nil)) (Eq.mp el (let bs66:AD:=[(r1,[.pointer (some ⟨g,0,none⟩)]),(r4,[.int .i64 (Bp x)]),(r7,[.int .i64 no]),(r10,[.bool (Bt bd gc kn x)])];let rs67:Aw:=[(0,51,1),(1,2,1),(2,2,1),(3,4,1)];aI (Eq.refl r4) (aI (Eq.refl r7) (aI (Eq.refl r10) (aI (A_ r4) (aI (show(Gz [(r1,[.pointer (some ⟨g,0,none⟩)]),(r4,[.int .i64 (Bp x)]),(r7,[.int .i64 no]),(r10,[.bool (Bt bd gc kn x)])] [(r1,[.pointer (some ⟨g,0,none⟩)]),(r4,[.int .i64 (Bp x)]),(r7,[.int .i64 no]),(r10,[.bool (Bt bd gc kn x)])])from⟨Or.inr rfl,Or.inr rfl,Or.inr rfl,Or.inr rfl,trivial⟩) (aI (A_ r7) (aI (show(Gz [(r1,[.pointer (some ⟨g,0,none⟩)]),(r4,[.int .i64 (Bp x)]),(r7,[.int .i64 no]),(r10,[.bool (Bt bd gc kn x)])] [(r1,[.pointer (some ⟨g,0,none⟩)]),(r4,[.int .i64 (Bp x)]),(r7,[.int .i64 no]),(r10,[.bool (Bt bd gc kn x)])])from⟨Or.inr rfl,Or.inr rfl,Or.inr rfl,Or.inr rfl,trivial⟩) (aI (A_ r10) (aI trivial ((show OY B D bs66 [] rs67 [] #[.pointer (some ⟨g,0,none⟩),.int .i64 x,.pointer (some ⟨r1,0,none⟩),undef,.pointer (some ⟨r4,0,none⟩),.pointer (some ⟨r7,0,none⟩),.pointer (some ⟨r10,0,none⟩),.int .i64 0,.tuple #[.int .i64 (Bp x),.int .i64 0],.int .i64 x,.tuple #[.int .i64 (Bp x),.int .i64 0],.int .i64 (Bp x),.int .i64 0,.int .i64 0,.bool false,undef,.pointer (some ⟨g,0,none⟩),.pointer (some ⟨g,0,none⟩),.pointer (some ⟨g,1,none⟩),.int .i64 no,.pointer (some ⟨g,0,none⟩),.int .i64 x,.bool (Bt bd gc kn x),.func (.func 153) #[] #[.pointer (some ⟨r10,0,none⟩),.pointer (some ⟨r1,0,none⟩),.pointer (some ⟨r4,0,none⟩),.pointer (some ⟨r7,0,none⟩)],.int .i64 (Bp x),.int .i64 no,.bool (Bt bd gc kn x)]from(λW ds hS hM=>show Lp Tryz.prog B (Tryz.f101) 153 #[.pointer (some ⟨r10,0,none⟩),.pointer (some ⟨r1,0,none⟩),.pointer (some ⟨r4,0,none⟩),.pointer (some ⟨r7,0,none⟩)] (λe w'=>e=.returned (.tuple #[.int .i64 (if(Bt bd gc kn x)=true then max (Bp x) (Bp gc)else Bp x),.int .i64 (if(Bt bd gc kn x)=true then ro else no),.bool (Bt bd gc kn x),.int .i64 0])/\Below w.heap.size w w') ds #[.pointer (some ⟨g,0,none⟩),.int .i64 x,.pointer (some ⟨r1,0,none⟩),undef,.pointer (some ⟨r4,0,none⟩),.pointer (some ⟨r7,0,none⟩),.pointer (some ⟨r10,0,none⟩),.int .i64 0,.tuple #[.int .i64 (Bp x),.int .i64 0],.int .i64 x,.tuple #[.int .i64 (Bp x),.int .i64 0],.int .i64 (Bp x),.int .i64 0,.int .i64 0,.bool false,undef,.pointer (some ⟨g,0,none⟩),.pointer (some ⟨g,0,none⟩),.pointer (some ⟨g,1,none⟩),.int .i64 no,.pointer (some ⟨g,0,none⟩),.int .i64 x,.bool (Bt bd gc kn x),.func (.func 153) #[] #[.pointer (some ⟨r10,0,none⟩),.pointer (some ⟨r1,0,none⟩),.pointer (some ⟨r4,0,none⟩),.pointer (some ⟨r7,0,none⟩)],.int .i64 (Bp x),.int .i64 no,.bool (Bt bd gc kn x)] W from(KC g r10 r1 r4 r7 bd no ro gc kn (Bt bd gc kn x) (Bp x) no (λh=>hgd (Ou h)) .returning W (hS.hand (ks:=[3,0,1,2]) (rs0:=[]) (os0:=[]) rfl rfl eo (λ_ h=>nomatch h) (List.Sublist.refl _)) (hT.of hS id) (hS.fresh hT.1 id (ks:=[3,0,1,2]) rfl (List.Sublist.refl _)) (Nat.lt_of_lt_of_le hb hS.bx.size) (hS.fresh hb id (ks:=[3,0,1,2]) rfl (List.Sublist.refl _)) (λi v h=>hS.oldc id (hc i v h))).mono λe' u' w2 h=>
   let L:=Gl hS (ks:=[3,0,1,2]) (idx:=[5,6,7,4]) (os0:=[]) rfl (λ_ h=>nomatch h) rfl h.2.2 rfl eo
   ⟨h.1,_,h.2.1,_,_,_,_,_,[1,2,3],_,L.2,hM.mem hS L.1,rfl,⟨rfl,rfl,rfl,trivial⟩,λW3 hS3=>⟨rfl,hS3.bl⟩⟩))))))))))))))
theorem Lq(g:Nat)(bd no ro gc:Int)(kn:Bool)(x:Int)(hx:Ag x=true)(hgc:0<=gc/\gc<=430515)(hgd:kn=true->Ag gc=true)(w:World)(hT:GT w)(hb:g<w.heap.size)(hc: ∀(i:Nat)(v:Value),([.int .i64 bd,.int .i64 no,.int .i64 ro,.int .i64 gc,.bool kn]:List Value)[i]? =some v->w.cell? ⟨g,i,none⟩=some v):Calls Tryz.prog 101 #[.pointer (some ⟨g,0,none⟩),.int .i64 x] w (λe w'=>e=.returned (.tuple #[.int .i64 (if(Bt bd gc kn x)=true then max (Bp x) (Bp gc)else Bp x),.int .i64 (if(Bt bd gc kn x)=true then ro else no),.bool (Bt bd gc kn x),.int .i64 0])/\Below w.heap.size w w'):=by
 exact(let B:Base:=(⟨w,λ_=>False⟩:Base);let R:Ending->World->Prop:=(λe w'=>e=.returned (.tuple #[.int .i64 (if(Bt bd gc kn x)=true then max (Bp x) (Bp gc)else Bp x),.int .i64 (if(Bt bd gc kn x)=true then ro else no),.bool (Bt bd gc kn x),.int .i64 0])/\Below w.heap.size w w');AC (f:=101) (B:=B) (R:=R) (es:=[(g,[.int .i64 bd,.int .i64 no,.int .i64 ro,.int .i64 gc,.bool kn])]) (c:=Tryz.f101.body.getD .skip) (tmps:=#[.pointer (some ⟨g,0,none⟩),.int .i64 x,undef,undef,undef,undef,undef,undef,undef,undef,undef,undef,undef,undef,undef,undef,undef,undef,undef,undef,undef,undef,undef,undef,undef,undef,undef])
  (.s [.c,.c] (.new (λr1=>.new (λr4=>.new (λr7=>.new (λr10=>.s [.v,.c,.c,.c,.v,.call (.tuple #[.int .i64 (Bp x),.int .i64 0]),.v,.v,.v,.put 1] (.s [.v,.c,.c,.c,.c,.v,.v,.c,.c,.c,.c,.d [],.at 0 false,.own 0,.at 1 false,.v,.at 2 false,.v,.at 3 false,.ext 0,.at 4 false,.own 0,.at 5 false,.v,.at 6 true,.call (.bool (Bt bd gc kn x)),.at 7 true,.put 2] (.s [.at 8 true,.put 3] (.s [.c,.c] (.rest))))))))))
  el (Sx.refl w _) (by exact ExX.cons ⟨hb,id,hc⟩ (ExX.nil)) Tryz.func101 el el (Eq.mp el (λ(r1:Nat)=> λ(r4:Nat)=> λ(r7:Nat)=> λ(r10:Nat)=>let bs11:AD:=[(r1,[.pointer (some ⟨g,0,none⟩)]),(r4,[.int .i64 0]),(r7,[.int .i64 0]),(r10,[.bool false])];let rs12:Aw:=[(0,51,1),(1,2,1),(2,2,1),(3,4,1)];aI (cv B bs11 [] rs12 [] ((λW hS=>H9 hx W (hT.of hS id)))) (aI (A_ r4) (aI trivial (let bs13:AD:=[(r1,[.pointer (some ⟨g,0,none⟩)]),(r4,[.int .i64 (Bp x)]),(r7,[.int .i64 0]),(r10,[.bool false])];aI (Eq.refl r1) (aI (Eq.refl g) (aI (Eq.refl r1) (aI (cv B bs13 [] rs12 [] ((λW hS=>NJ g bd no ro gc kn x hgc W (Nat.lt_of_lt_of_le hb hS.bx.size) (λi v h=>hS.oldc id (hc i v h))))) (aI (A_ r7) (aI trivial (aI (A_ r10) (aI trivial (let bs15:AD:=[(r1,[.pointer (some ⟨g,0,none⟩)]),(r4,[.int .i64 (Bp x)]),(r7,[.int .i64 no]),(r10,[.bool (Bt bd gc kn x)])];(λW ds hS hM=>HD g bd no ro gc kn x hx hgc hgd w hT hb hc r1 r4 r7 r10 W ds hS hM)))))))))))))))
end
section
set_option maxRecDepth 1000000
set_option maxHeartbeats 8000000
open Go.RowKit
def AG(la ru:Int)(c:Nat->Int):List Value:=.int .i64 la::.int .i64 ru::(List.range 31).map λi=>.int .i64 (c i)
theorem Lh(f:Nat)(la ru:Int)(c:Nat->Int)(w:World)(hb:f<w.heap.size)(hc: ∀(i:Nat)(v:Value),(AG la ru c)[i]? =some v->w.cell? ⟨f,i,none⟩=some v):Calls Tryz.prog 99 #[.pointer (some ⟨f,0,none⟩),.bool true] w (λe w'=>e=.returned (.agg #[.int .i64 (c 3),.int .i64 (c 4),.int .i64 (c 5)])/\Below w.heap.size w w'):=by
 exact(let B:Base:=(⟨w,λ_=>False⟩:Base);let R:Ending->World->Prop:=(λe w'=>e=.returned (.agg #[.int .i64 (c 3),.int .i64 (c 4),.int .i64 (c 5)])/\Below w.heap.size w w');AC (f:=99) (B:=B) (R:=R) (es:=[(f,(AG la ru c))]) (c:=Tryz.f99.body.getD .skip) (tmps:=#[.pointer (some ⟨f,0,none⟩),.bool true,undef,undef,undef,undef,undef,undef,undef,undef,undef,undef,undef,undef,undef,undef])
  (.s [.c,.c] (.new (λr1=>.s [.c,.c,.c,.c,.v,.c,.c,.c,.c,.v,.v,.v,.v,.ext 0,.put 0] (.s [.c] (.ret [0])))))
  el (Sx.refl w _) (by exact ExX.cons ⟨hb,id,hc⟩ (ExX.nil)) Tryz.func99 el el (Eq.mp el (λ(r1:Nat)=>let rs3:Aw:=[(0,23,3)];aI (Eq.refl f) (aI (Dm r1) (aI trivial (let bs4:AD:=[(r1,[.int .i64 (c 3),.int .i64 (c 4),.int .i64 (c 5)])];aI (A_ r1) ((show AO B R bs4 [] rs3 [] (.agg #[.int .i64 (c 3),.int .i64 (c 4),.int .i64 (c 5)])from by
     exactλW hS=>⟨rfl,hS.bl⟩))))))))
theorem My(f:Nat)(la ru:Int)(c:Nat->Int)(w:World)(hb:f<w.heap.size)(hc: ∀(i:Nat)(v:Value),(AG la ru c)[i]? =some v->w.cell? ⟨f,i,none⟩=some v):Calls Tryz.prog 99 #[.pointer (some ⟨f,0,none⟩),.bool false] w (λe w'=>e=.returned (.agg #[.int .i64 (c 0),.int .i64 (c 1),.int .i64 (c 2)])/\Below w.heap.size w w'):=by
 exact(let B:Base:=(⟨w,λ_=>False⟩:Base);let R:Ending->World->Prop:=(λe w'=>e=.returned (.agg #[.int .i64 (c 0),.int .i64 (c 1),.int .i64 (c 2)])/\Below w.heap.size w w');AC (f:=99) (B:=B) (R:=R) (es:=[(f,(AG la ru c))]) (c:=Tryz.f99.body.getD .skip) (tmps:=#[.pointer (some ⟨f,0,none⟩),.bool false,undef,undef,undef,undef,undef,undef,undef,undef,undef,undef,undef,undef,undef,undef])
  (.s [.c,.c] (.new (λr1=>.s [.c,.c,.c,.c,.v,.c,.c,.c,.c,.c,.v,.v,.v,.v,.ext 0,.put 0] (.s [.c] (.ret [0])))))
  el (Sx.refl w _) (by exact ExX.cons ⟨hb,id,hc⟩ (ExX.nil)) Tryz.func99 el el (Eq.mp el (λ(r1:Nat)=>let rs3:Aw:=[(0,23,3)];aI (Eq.refl f) (aI (Dm r1) (aI trivial (let bs4:AD:=[(r1,[.int .i64 (c 0),.int .i64 (c 1),.int .i64 (c 2)])];aI (A_ r1) ((show AO B R bs4 [] rs3 [] (.agg #[.int .i64 (c 0),.int .i64 (c 1),.int .i64 (c 2)])from by
     exactλW hS=>⟨rfl,hS.bl⟩))))))))
end
section
def AL(x:Int):Bool:=decide (-288230376151711744<=x/\x<=288230376151711744)
theorem fitB_true{x:Int}:AL x=true<-> -288230376151711744<=x/\x<=288230376151711744:=decide_eq_true_iff
theorem fitB_false{x:Int}:AL x=false<-> ¬(-288230376151711744<=x/\x<=288230376151711744):=decide_eq_false_iff_not
theorem BX{x:Int}(h:AL x=true):Ai x:=by have:=fitB_true.1 h;unfold Ai;omega
def Au(z:Int):Int:=if AL z then z else 0
def BK(z:Int):Int:=if AL z then 0 else 3
theorem Cw{z:Int}(h:AL z=true):Au z=z/\BK z=0:=by simp[Au,BK,h]
theorem Cr{z:Int}(h:AL z=false):Au z=0/\BK z=3:=by simp[Au,BK,h]
def AR(a b z:Int):Int:=if AL a&&AL b then Au z else 0
def AX(a b z:Int):Int:=if AL a&&AL b then BK z else 1
def DK(a b z:Int):Int:=if AL a&&AL b then(if b=0 then 0 else Au z)else 0
def Cz(a b z:Int):Int:=if AL a&&AL b then(if b=0 then 4 else BK z)else 1
def AV(a b:Int):Int:=Al (a*b) (AI 40)
def Ay(a b:Int):Int:=ev (a*AI 40) b
def Ac(x m:Int):Int:=if m<0 then 0 else if m<x then m else if x< -m then-m else x
def BB(x:Int):Int:=Al x (AI 24)
theorem JY{a b z:Int}(h:AL a=false):AR a b z=0/\AX a b z=1:=by simp[AR,AX,h]
theorem Js{a b z:Int}(h:AL b=false):AR a b z=0/\AX a b z=1:=by simp[AR,AX,h]
theorem B8{a b z:Int}(h:AL a=true)(h2:AL b=true):AR a b z=Au z/\AX a b z=BK z:=by simp[AR,AX,h,h2]
theorem OQ{a b z:Int}(h:AL a=false):DK a b z=0/\Cz a b z=1:=by simp[DK,Cz,h]
theorem S_{a b z:Int}(h:AL b=false):DK a b z=0/\Cz a b z=1:=by simp[DK,Cz,h]
theorem SG{a z:Int}(h:AL a=true):DK a 0 z=0/\Cz a 0 z=4:=by
 have:AL 0=true:=by decide
 simp[DK,Cz,h,this]
theorem Cf{a b z:Int}(h:AL a=true)(h2:AL b=true)(h3:b≠0):DK a b z=Au z/\Cz a b z=BK z:=by simp[DK,Cz,h,h2,h3]
theorem NG{a b:Int}(h:AL a=true)(h2:AL b=true):((a*b).natAbs:Int)<=83076749736557242056487941267521536:=by
 have h1:=fitB_true.1 h
 have h2:=fitB_true.1 h2
 have:=Fa (a:=(a.natAbs:Int)) (b:=b.natAbs) 288230376151711744 (by omega) (by omega) (by omega) (by omega)
 rw[G7]at this
 omega
theorem Lx:AI 40=1099511627776:=by decide
theorem Ol{a:Int}(h:AL a=true):AS (a*AI 40):=by
 have:=fitB_true.1 h
 rw[Lx];unfold AS;omega
theorem Sq{x:Int}(h:Ai x):Ai (BB x):=by
 have e:AI 24=16777216:=by decide
 unfold BB Al;rw[e];unfold Ai at*;split<;>omega
end
section
def Ab(a:Nat->Int):Bool:=AL (a 0)&&(AL (a 1)&&AL (a 2))
def eE(e0 e1 e2:Int):Int:=if e0=0 then(if e1=0 then e2 else e1)else e0
def eV(e0 e1 e2 x:Int):Int:=if e0=0/\e1=0/\e2=0 then x else 0
theorem LU{e0 e1 e2:Int}(h: ¬e0=0):eE e0 e1 e2=e0/\ ∀x,eV e0 e1 e2 x=0:=by
 refine⟨by simp[eE,h],λx=>by simp[eV,h]⟩
theorem Lj{e0 e1 e2:Int}(h0:e0=0)(h: ¬e1=0):eE e0 e1 e2=e1/\ ∀x,eV e0 e1 e2 x=0:=by
 refine⟨by simp[eE,h0,h],λx=>by simp[eV,h]⟩
theorem N1{e0 e1 e2:Int}(h0:e0=0)(h1:e1=0)(h: ¬e2=0):eE e0 e1 e2=e2/\ ∀x,eV e0 e1 e2 x=0:=by
 refine⟨by simp[eE,h0,h1],λx=>by simp[eV,h]⟩
theorem Iw{e0 e1 e2:Int}(h0:e0=0)(h1:e1=0)(h2:e2=0):eE e0 e1 e2=0/\ ∀x,eV e0 e1 e2 x=x:=by
 refine⟨by simp[eE,h0,h1,h2],λx=>by simp[eV,h0,h1,h2]⟩
theorem Pc{x:Int}:Ac x 288230376151711744=x<->AL x=true:=by
 rw[fitB_true];unfold Ac;split
 ·omega
 split
 ·omega
 split<;>omega
theorem Ns{a b c:Int}:([a,b,c]== [Ac a 288230376151711744,Ac b 288230376151711744,Ac c 288230376151711744])=(AL a&&(AL b&&AL c)):=by
 rw[Bool.eq_iff_iff]
 simp only[beq_iff_eq,List.cons.injEq,and_true,Bool.and_eq_true,<-Pc]
 constructor
 ·rintro⟨h1,h2,h3⟩;exact⟨h1.symm,h2.symm,h3.symm⟩
 rintro⟨h1,h2,h3⟩;exact⟨h1.symm,h2.symm,h3.symm⟩
def CS(a b:Nat->Int)(i:Nat):Int:=AR (a i) (b i) (a i+b i)
def A7(a b:Nat->Int)(i:Nat):Int:=AX (a i) (b i) (a i+b i)
def Bi(a b:Nat->Int)(i:Nat):Int:=if Ab a&&Ab b then eV (A7 a b 0) (A7 a b 1) (A7 a b 2) (CS a b i)else 0
def Eb(a b:Nat->Int):Int:=if Ab a&&Ab b then eE (A7 a b 0) (A7 a b 1) (A7 a b 2)else 1
def EB(a:Nat->Int)(k:Int)(i:Nat):Int:=AR (a i) k (AV (a i) k)
def BW(a:Nat->Int)(k:Int)(i:Nat):Int:=AX (a i) k (AV (a i) k)
def DA(a:Nat->Int)(k:Int)(i:Nat):Int:=if Ab a&&AL k then eV (BW a k 0) (BW a k 1) (BW a k 2) (EB a k i)else 0
def FD(a:Nat->Int)(k:Int):Int:=if Ab a&&AL k then eE (BW a k 0) (BW a k 1) (BW a k 2)else 1
theorem LZ{a b:Nat->Int}(h:(Ab a&&Ab b)=false):Eb a b=1/\ ∀i,Bi a b i=0:=⟨by simp[Eb,h],λi=>by simp[Bi,h]⟩
theorem Ix{a b:Nat->Int}(h:Ab a=true)(h2:Ab b=true):Eb a b=eE (A7 a b 0) (A7 a b 1) (A7 a b 2)/\ ∀i,Bi a b i=eV (A7 a b 0) (A7 a b 1) (A7 a b 2) (CS a b i):=
 ⟨by simp[Eb,h,h2],λi=>by simp[Bi,h,h2]⟩
theorem Ro{a:Nat->Int}{k:Int}(h:(Ab a&&AL k)=false):FD a k=1/\ ∀i,DA a k i=0:=⟨by simp[FD,h],λi=>by simp[DA,h]⟩
theorem O4{a:Nat->Int}{k:Int}(h:Ab a=true)(h2:AL k=true):FD a k=eE (BW a k 0) (BW a k 1) (BW a k 2)/\ ∀i,DA a k i=eV (BW a k 0) (BW a k 1) (BW a k 2) (EB a k i):=
 ⟨by simp[FD,h,h2],λi=>by simp[DA,h,h2]⟩
theorem Ch{a:Nat->Int}(h:Ab a=true):AL (a 0)=true/\AL (a 1)=true/\AL (a 2)=true:=by
 unfold Ab at h;simp only[Bool.and_eq_true]at h;exact h
end
section
def Cd(x lo hi:Int):Bool:=decide (lo<=x/\x<=hi)
theorem wiB_true{x lo hi:Int}:Cd x lo hi=true<->lo<=x/\x<=hi:=decide_eq_true_iff
theorem wiB_false{x lo hi:Int}:Cd x lo hi=false<-> ¬(lo<=x/\x<=hi):=decide_eq_false_iff_not
def LT(f g:Int):Bool:=decide (0<=f/\f<=g/\g<=288230376151711744)
def E5(f g:Nat->Int):Bool:=LT (f 0) (g 0)&&(LT (f 1) (g 1)&&LT (f 2) (g 2))
def BS(c:Nat->Int):Nat->Bool
 |1=>Cd (c 0) 0 1125899906842624&&(Cd (c 1) 0 1125899906842624&&Cd (c 2) 0 1125899906842624)
 |2=>Cd (c 3) (c 0) 1125899906842624&&(Cd (c 4) (c 1) 1125899906842624&&Cd (c 5) (c 2) 1125899906842624)
 |3=>Cd (c 6) 274877906944 1125899906842624
 |4=>Cd (c 7) (c 6) 1125899906842624
 |5=>E5 (λi=>c (11+i)) (λi=>c (14+i))&&(decide (c 14<=72057594037927936)&&(decide (c 15<=72057594037927936)&&decide (c 16<=72057594037927936)))
 |6=>Cd (c 8) (c 11) (c 14)&&(Cd (c 9) (c 12) (c 15)&&Cd (c 10) (c 13) (c 16))
 |7=>Cd (c 17) 0 72057594037927936&&(Cd (c 18) 0 72057594037927936&&Cd (c 19) 0 72057594037927936)&&decide (18014398509481984<=c 17)
 |8=>Cd (c 20) 1 1000
 |9=>Cd (c 21) (-4398046511104) 4398046511104&&(Cd (c 22) (-4398046511104) 4398046511104&&Cd (c 23) (-4398046511104) 4398046511104)&&Cd (c 21) 0 1099511627776
 |10=>Cd (c 24) 1 1099511627776
 |11=>Cd (c 26) 1 131072&&(decide (-c 26<c 25)&&decide (c 25<c 26))
 |12=>Cd (c 27) 0 1000
 |13=>Cd (c 28) 1 (c 29)&&decide (c 29<=100000)
 |14=>Cd (c 30) 0 400000
 |_=>true
def Eu(c:Nat->Int):Nat->Nat->Int
 |0,_=>0
 |n+1,k=>if BS c k then Eu c n (k+1)else k
def Ct(c:Nat->Int):Int:=Eu c 14 1
end
end Go.Proofs.YtikajapjkdloaaaGreatDoor
