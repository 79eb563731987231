/- Walks of layer 12 (joseph) and of its reference, by plans: Doubt; the laws JosephState and JosephDoubt. -/
import Derived.Test.YtikajapjkdloaaaGreatDoor926
namespace Go.Proofs.YtikajapjkdloaaaGreatDoor
set_option linter.unusedVariables false
set_option linter.unusedSimpArgs false
set_option maxRecDepth 1000000
set_option maxHeartbeats 8000000
open Go.RowKit
def O2(a b c d:Int):Int:=Al (a*b+c*d) (AI 40)
def Lz(x c s:Int):Int:=if AL (AV x c)then Au (AV (AV x c) s)else 0
def IT(x c s:Int):Int:=if AL (AV x c)then BK (AV (AV x c) s)else 3
def Tu(e t u:Int):Int:=if AL (e-t)then Au (e-t+u)else 0
def NX(e t u:Int):Int:=if AL (e-t)then BK (e-t+u)else 3
def jo(p k:Nat->Int)(s:Int)(i j m:Nat):Bool:=AL (O2 (k i) (p j) (k j) (p i))&&(IT (k i) (k j) s==0&&NX (p m) (O2 (k i) (p j) (k j) (p i)) (AV (AV (k i) (k j)) s)==0)
def jv(p k:Nat->Int)(s:Int)(i j m:Nat):Int:=p m-O2 (k i) (p j) (k j) (p i)+AV (AV (k i) (k j)) s
def El(p k:Nat->Int)(s:Int):Bool:=Ap p&&(Ab k&&AL s)
def Im(p k:Nat->Int)(s:Int):Bool:=jo p k s 0 0 0&&(jo p k s 0 1 1&&(jo p k s 0 2 2&&(jo p k s 1 1 3&&(jo p k s 1 2 4&&jo p k s 2 2 5))))
def QL(p k:Nat->Int)(s:Int):Int:=if El p k s then(if Im p k s then 0 else 3)else 1
def FZ(p k:Nat->Int)(s:Int)(n:Nat):Int:=if El p k s&&Im p k s then v6 (jv p k s 0 0 0) (jv p k s 0 1 1) (jv p k s 0 2 2) (jv p k s 1 1 3) (jv p k s 1 2 4) (jv p k s 2 2 5) n else 0
theorem Uo{p k:Nat->Int}{s:Int}(h:El p k s=false):QL p k s=1/\ ∀i,FZ p k s i=0:=⟨by unfold QL;rw[h];rfl,λi=>by unfold FZ;rw[h];rfl⟩
theorem FW{p k:Nat->Int}{s:Int}(h:El p k s=true)(h2:Im p k s=false):QL p k s=3/\ ∀i,FZ p k s i=0:=⟨by unfold QL;rw[h,h2];rfl,λi=>by unfold FZ;rw[h,h2];rfl⟩
theorem WD{p k:Nat->Int}{s:Int}(h:El p k s=true)(h2:Im p k s=true):QL p k s=0/\ ∀i,FZ p k s i=v6 (jv p k s 0 0 0) (jv p k s 0 1 1) (jv p k s 0 2 2) (jv p k s 1 1 3) (jv p k s 1 2 4) (jv p k s 2 2 5) i:=⟨by unfold QL;rw[h,h2];rfl,λi=>by unfold FZ;rw[h,h2];rfl⟩
theorem EJ{z:Int}(h:BK z=0):Au z=z/\AL z=true:=by
 cases q:AL z
 ·rw[(Cr q).2]at h;cases h
 exact⟨(Cw q).1,rfl⟩
theorem EE{z:Int}(h: ¬BK z=0):BK z=3/\AL z=false:=by
 cases q:AL z
 ·exact⟨(Cr q).2,rfl⟩
 exact absurd (Cw q).2 h
theorem EL{a b z:Int}(ha:AL a=true)(hb:AL b=true):AR a b z=Au z/\AX a b z=BK z:=B8 ha hb
theorem Vp{x c s:Int}(h:IT x c s=0):Lz x c s=AV (AV x c) s/\AL (AV x c)=true/\AL (AV (AV x c) s)=true:=by
 unfold IT at h;unfold Lz
 cases q:AL (AV x c)
 ·rw[q]at h;simp at h
 rw[q,if_pos rfl]at h;exact⟨by rw[if_pos rfl];exact(EJ h).1,rfl,(EJ h).2⟩
theorem Ux{x c s:Int}(h: ¬IT x c s=0):IT x c s=3:=by
 unfold IT at h⊢
 split
 ·rename_i q;rw[if_pos q]at h;exact(EE h).1
 rfl
theorem UJ{e t u:Int}(h:NX e t u=0):Tu e t u=e-t+u/\AL (e-t)=true/\AL (e-t+u)=true:=by
 unfold NX at h;unfold Tu
 cases q:AL (e-t)
 ·rw[q]at h;simp at h
 rw[q,if_pos rfl]at h;exact⟨by rw[if_pos rfl];exact(EJ h).1,rfl,(EJ h).2⟩
theorem UV{e t u:Int}(h: ¬NX e t u=0):NX e t u=3:=by
 unfold NX at h⊢
 split
 ·rename_i q;rw[if_pos q]at h;exact(EE h).1
 rfl
theorem Uc{p k:Nat->Int}{s:Int}{i j m:Nat}(h:AL (O2 (k i) (p j) (k j) (p i))=true)(h2:IT (k i) (k j) s=0)(h3:NX (p m) (O2 (k i) (p j) (k j) (p i)) (AV (AV (k i) (k j)) s)=0):jo p k s i j m=true:=by
 unfold jo;rw[h,h2,h3];rfl
theorem Uz{p k:Nat->Int}{s:Int}{i j m:Nat}(h:AL (O2 (k i) (p j) (k j) (p i))=false):jo p k s i j m=false:=by unfold jo;rw[h];rfl
theorem VH{p k:Nat->Int}{s:Int}{i j m:Nat}(h: ¬IT (k i) (k j) s=0):jo p k s i j m=false:=by
 have e:(IT (k i) (k j) s==0)=false:=by simpa using h
 unfold jo;rw[e];simp
theorem Uk{p k:Nat->Int}{s:Int}{i j m:Nat}(h: ¬NX (p m) (O2 (k i) (p j) (k j) (p i)) (AV (AV (k i) (k j)) s)=0):jo p k s i j m=false:=by
 have e:(NX (p m) (O2 (k i) (p j) (k j) (p i)) (AV (AV (k i) (k j)) s)==0)=false:=by simpa using h
 unfold jo;rw[e];simp
theorem MB(x:Int)(k:Nat->Int)(kb jb:Nat)(w:World)(hg:GN w)(ckb0:w.cell? ⟨kb,0,none⟩=some (.int .i64 (k 0)))(ckb1:w.cell? ⟨kb,1,none⟩=some (.int .i64 (k 1)))(ckb2:w.cell? ⟨kb,2,none⟩=some (.int .i64 (k 2)))(cjb0:w.cell? ⟨jb,0,none⟩=some (.int .i64 0)):Calls Tryz.prog 164 #[.int .i64 x,.pointer (some ⟨kb,0,none⟩),.pointer (some ⟨jb,0,none⟩)] w (λe w'=>e=.returned (.tuple #[.int .i64 (AR x (k 0) (AV x (k 0))),.int .i64 (AX x (k 0) (AV x (k 0)))])/\Below w.heap.size w w'):=by
 exact(let B:Base:=(⟨w,λ_=>False⟩:Base);let R:Ending->World->Prop:=(λe w'=>e=.returned (.tuple #[.int .i64 (AR x (k 0) (AV x (k 0))),.int .i64 (AX x (k 0) (AV x (k 0)))])/\Below w.heap.size w w');AC (f:=164) (B:=B) (R:=R) (es:=[(kb,[.int .i64 (k 0),.int .i64 (k 1),.int .i64 (k 2)]),(jb,[.int .i64 0])]) (c:=Tryz.f164.body.getD .skip) (tmps:=(Gn [vI x,vP kb,vP jb] 10))
  (.s [.c,.c,.v,.v,.c,.c,.c,.v,.ext 1,.v,.ext 0,.call (.tuple #[vI (AR x (k 0) (AV x (k 0))),vI (AX x (k 0) (AV x (k 0)))]),.v,.v,.v,.v,.c] (.ret []))
  el (Sx.refl w _) (by exact ExX.cons (Ib (λh=>h) (show Az w kb 0 [.int .i64 (k 0),.int .i64 (k 1),.int .i64 (k 2)]from by exact⟨ckb0,ckb1,ckb2,trivial⟩)) (ExX.cons (Ib (λh=>h) (show Az w jb 0 [.int .i64 0]from by exact⟨cjb0,trivial⟩)) (ExX.nil))) Tryz.func164 el el (Eq.mp el (aI (Eq.refl jb) (aI (Eq.refl kb) (aI (cv B [] [] [] [] λW hS=>Hd x (k 0) W (hg.below hS.bl)) (aI trivial ((show AO B R [] [] [] [] (.tuple #[vI (AR x (k 0) (AV x (k 0))),vI (AX x (k 0) (AV x (k 0)))])from by
     exactλW hS=>⟨rfl,hS.bl⟩))))))))
theorem L2(x:Int)(k:Nat->Int)(kb jb:Nat)(w:World)(hg:GN w)(ckb0:w.cell? ⟨kb,0,none⟩=some (.int .i64 (k 0)))(ckb1:w.cell? ⟨kb,1,none⟩=some (.int .i64 (k 1)))(ckb2:w.cell? ⟨kb,2,none⟩=some (.int .i64 (k 2)))(cjb0:w.cell? ⟨jb,0,none⟩=some (.int .i64 1)):Calls Tryz.prog 164 #[.int .i64 x,.pointer (some ⟨kb,0,none⟩),.pointer (some ⟨jb,0,none⟩)] w (λe w'=>e=.returned (.tuple #[.int .i64 (AR x (k 1) (AV x (k 1))),.int .i64 (AX x (k 1) (AV x (k 1)))])/\Below w.heap.size w w'):=by
 exact(let B:Base:=(⟨w,λ_=>False⟩:Base);let R:Ending->World->Prop:=(λe w'=>e=.returned (.tuple #[.int .i64 (AR x (k 1) (AV x (k 1))),.int .i64 (AX x (k 1) (AV x (k 1)))])/\Below w.heap.size w w');AC (f:=164) (B:=B) (R:=R) (es:=[(kb,[.int .i64 (k 0),.int .i64 (k 1),.int .i64 (k 2)]),(jb,[.int .i64 1])]) (c:=Tryz.f164.body.getD .skip) (tmps:=(Gn [vI x,vP kb,vP jb] 10))
  (.s [.c,.c,.v,.v,.c,.c,.c,.v,.ext 1,.v,.ext 0,.call (.tuple #[vI (AR x (k 1) (AV x (k 1))),vI (AX x (k 1) (AV x (k 1)))]),.v,.v,.v,.v,.c] (.ret []))
  el (Sx.refl w _) (by exact ExX.cons (Ib (λh=>h) (show Az w kb 0 [.int .i64 (k 0),.int .i64 (k 1),.int .i64 (k 2)]from by exact⟨ckb0,ckb1,ckb2,trivial⟩)) (ExX.cons (Ib (λh=>h) (show Az w jb 0 [.int .i64 1]from by exact⟨cjb0,trivial⟩)) (ExX.nil))) Tryz.func164 el el (Eq.mp el (aI (Eq.refl jb) (aI (Eq.refl kb) (aI (cv B [] [] [] [] λW hS=>Hd x (k 1) W (hg.below hS.bl)) (aI trivial ((show AO B R [] [] [] [] (.tuple #[vI (AR x (k 1) (AV x (k 1))),vI (AX x (k 1) (AV x (k 1)))])from by
     exactλW hS=>⟨rfl,hS.bl⟩))))))))
theorem Ms(x:Int)(k:Nat->Int)(kb jb:Nat)(w:World)(hg:GN w)(ckb0:w.cell? ⟨kb,0,none⟩=some (.int .i64 (k 0)))(ckb1:w.cell? ⟨kb,1,none⟩=some (.int .i64 (k 1)))(ckb2:w.cell? ⟨kb,2,none⟩=some (.int .i64 (k 2)))(cjb0:w.cell? ⟨jb,0,none⟩=some (.int .i64 2)):Calls Tryz.prog 164 #[.int .i64 x,.pointer (some ⟨kb,0,none⟩),.pointer (some ⟨jb,0,none⟩)] w (λe w'=>e=.returned (.tuple #[.int .i64 (AR x (k 2) (AV x (k 2))),.int .i64 (AX x (k 2) (AV x (k 2)))])/\Below w.heap.size w w'):=by
 exact(let B:Base:=(⟨w,λ_=>False⟩:Base);let R:Ending->World->Prop:=(λe w'=>e=.returned (.tuple #[.int .i64 (AR x (k 2) (AV x (k 2))),.int .i64 (AX x (k 2) (AV x (k 2)))])/\Below w.heap.size w w');AC (f:=164) (B:=B) (R:=R) (es:=[(kb,[.int .i64 (k 0),.int .i64 (k 1),.int .i64 (k 2)]),(jb,[.int .i64 2])]) (c:=Tryz.f164.body.getD .skip) (tmps:=(Gn [vI x,vP kb,vP jb] 10))
  (.s [.c,.c,.v,.v,.c,.c,.c,.v,.ext 1,.v,.ext 0,.call (.tuple #[vI (AR x (k 2) (AV x (k 2))),vI (AX x (k 2) (AV x (k 2)))]),.v,.v,.v,.v,.c] (.ret []))
  el (Sx.refl w _) (by exact ExX.cons (Ib (λh=>h) (show Az w kb 0 [.int .i64 (k 0),.int .i64 (k 1),.int .i64 (k 2)]from by exact⟨ckb0,ckb1,ckb2,trivial⟩)) (ExX.cons (Ib (λh=>h) (show Az w jb 0 [.int .i64 2]from by exact⟨cjb0,trivial⟩)) (ExX.nil))) Tryz.func164 el el (Eq.mp el (aI (Eq.refl jb) (aI (Eq.refl kb) (aI (cv B [] [] [] [] λW hS=>Hd x (k 2) W (hg.below hS.bl)) (aI trivial ((show AO B R [] [] [] [] (.tuple #[vI (AR x (k 2) (AV x (k 2))),vI (AX x (k 2) (AV x (k 2)))])from by
     exactλW hS=>⟨rfl,hS.bl⟩))))))))
theorem Hy(x s:Int)(sb:Nat)(w:World)(hg:GN w)(csb0:w.cell? ⟨sb,0,none⟩=some (.int .i64 s)):Calls Tryz.prog 166 #[.int .i64 x,.pointer (some ⟨sb,0,none⟩)] w (λe w'=>e=.returned (.tuple #[.int .i64 (AR x s (AV x s)),.int .i64 (AX x s (AV x s))])/\Below w.heap.size w w'):=by
 exact(let B:Base:=(⟨w,λ_=>False⟩:Base);let R:Ending->World->Prop:=(λe w'=>e=.returned (.tuple #[.int .i64 (AR x s (AV x s)),.int .i64 (AX x s (AV x s))])/\Below w.heap.size w w');AC (f:=166) (B:=B) (R:=R) (es:=[(sb,[.int .i64 s])]) (c:=Tryz.f166.body.getD .skip) (tmps:=(Gn [vI x,vP sb] 8))
  (.s [.c,.c,.v,.v,.c,.c,.c,.v,.ext 0,.call (.tuple #[vI (AR x s (AV x s)),vI (AX x s (AV x s))]),.v,.v,.v,.v,.c] (.ret []))
  el (Sx.refl w _) (by exact ExX.cons (Ib (λh=>h) (show Az w sb 0 [.int .i64 s]from by exact⟨csb0,trivial⟩)) (ExX.nil)) Tryz.func166 el el (Eq.mp el (aI (Eq.refl sb) (aI (cv B [] [] [] [] λW hS=>Hd x s W (hg.below hS.bl)) (aI trivial ((show AO B R [] [] [] [] (.tuple #[vI (AR x s (AV x s)),vI (AX x s (AV x s))])from by
     exactλW hS=>⟨rfl,hS.bl⟩)))))))
theorem PX(x s:Int)(sb:Nat)(w:World)(csb0:w.cell? ⟨sb,0,none⟩=some (.int .i64 s)):Calls Tryz.prog 167 #[.int .i64 x,.pointer (some ⟨sb,0,none⟩)] w (λe w'=>e=.returned (.tuple #[.int .i64 (AR x s (x-s)),.int .i64 (AX x s (x-s))])/\Below w.heap.size w w'):=by
 exact(let B:Base:=(⟨w,λ_=>False⟩:Base);let R:Ending->World->Prop:=(λe w'=>e=.returned (.tuple #[.int .i64 (AR x s (x-s)),.int .i64 (AX x s (x-s))])/\Below w.heap.size w w');AC (f:=167) (B:=B) (R:=R) (es:=[(sb,[.int .i64 s])]) (c:=Tryz.f167.body.getD .skip) (tmps:=(Gn [vI x,vP sb] 8))
  (.s [.c,.c,.v,.v,.c,.c,.c,.v,.ext 0,.call (.tuple #[vI (AR x s (x-s)),vI (AX x s (x-s))]),.v,.v,.v,.v,.c] (.ret []))
  el (Sx.refl w _) (by exact ExX.cons (Ib (λh=>h) (show Az w sb 0 [.int .i64 s]from by exact⟨csb0,trivial⟩)) (ExX.nil)) Tryz.func167 el el (Eq.mp el (aI (Eq.refl sb) (aI (cv B [] [] [] [] λW hS=>K8 x s W) (aI trivial ((show AO B R [] [] [] [] (.tuple #[vI (AR x s (x-s)),vI (AX x s (x-s))])from by
     exactλW hS=>⟨rfl,hS.bl⟩)))))))
theorem Py(x s:Int)(sb:Nat)(w:World)(csb0:w.cell? ⟨sb,0,none⟩=some (.int .i64 s)):Calls Tryz.prog 168 #[.int .i64 x,.pointer (some ⟨sb,0,none⟩)] w (λe w'=>e=.returned (.tuple #[.int .i64 (AR x s (x+s)),.int .i64 (AX x s (x+s))])/\Below w.heap.size w w'):=by
 exact(let B:Base:=(⟨w,λ_=>False⟩:Base);let R:Ending->World->Prop:=(λe w'=>e=.returned (.tuple #[.int .i64 (AR x s (x+s)),.int .i64 (AX x s (x+s))])/\Below w.heap.size w w');AC (f:=168) (B:=B) (R:=R) (es:=[(sb,[.int .i64 s])]) (c:=Tryz.f168.body.getD .skip) (tmps:=(Gn [vI x,vP sb] 8))
  (.s [.c,.c,.v,.v,.c,.c,.c,.v,.ext 0,.call (.tuple #[vI (AR x s (x+s)),vI (AX x s (x+s))]),.v,.v,.v,.v,.c] (.ret []))
  el (Sx.refl w _) (by exact ExX.cons (Ib (λh=>h) (show Az w sb 0 [.int .i64 s]from by exact⟨csb0,trivial⟩)) (ExX.nil)) Tryz.func168 el el (Eq.mp el (aI (Eq.refl sb) (aI (cv B [] [] [] [] λW hS=>Gu x s W) (aI trivial ((show AO B R [] [] [] [] (.tuple #[vI (AR x s (x+s)),vI (AX x s (x+s))])from by
     exactλW hS=>⟨rfl,hS.bl⟩)))))))
theorem IY(x s:Int)(k:Nat->Int)(b kb jb sb:Nat)(fx:AL x=true)(fk:AL (k 0)=true)(fs:AL s=true)(w:World)(hg:GN w)(cb0:w.cell? ⟨b,0,none⟩=some (.func (.func 164) #[] #[.pointer (some ⟨kb,0,none⟩),.pointer (some ⟨jb,0,none⟩)]))(cb1:w.cell? ⟨b,1,none⟩=some (.func (.func 166) #[] #[.pointer (some ⟨sb,0,none⟩)]))(ckb0:w.cell? ⟨kb,0,none⟩=some (.int .i64 (k 0)))(ckb1:w.cell? ⟨kb,1,none⟩=some (.int .i64 (k 1)))(ckb2:w.cell? ⟨kb,2,none⟩=some (.int .i64 (k 2)))(cjb0:w.cell? ⟨jb,0,none⟩=some (.int .i64 0))(csb0:w.cell? ⟨sb,0,none⟩=some (.int .i64 s)):Calls Tryz.prog 163 #[.int .i64 x,.slice (some ⟨b,0,none⟩) 2 2] w (λe w'=>e=.returned (.tuple #[.int .i64 (Lz x (k 0) s),.int .i64 (IT x (k 0) s)])/\Below w.heap.size w w'):=by
 exact(let B:Base:=(⟨w,λ_=>False⟩:Base);let R:Ending->World->Prop:=(λe w'=>e=.returned (.tuple #[.int .i64 (Lz x (k 0) s),.int .i64 (IT x (k 0) s)])/\Below w.heap.size w w');AC (f:=163) (B:=B) (R:=R) (es:=[(b,[.func (.func 164) #[] #[.pointer (some ⟨kb,0,none⟩),.pointer (some ⟨jb,0,none⟩)],.func (.func 166) #[] #[.pointer (some ⟨sb,0,none⟩)]])]) (c:=Tryz.f163.body.getD .skip) (tmps:=(Gn [vI x,vS b 2 2] 24))
  (.s [.c,.c,.v,.v,.c,.c,.c,.c,.v,.v,.v,.c,.c,.c,.c,.c,.v,.c,.c,.c,.c,.c,.c,.c,.c,.v,.ext 0,.v,.c,.c,.c,.v,.c,.c,.c,.v,.v,.call (.tuple #[vI (AR x (k 0) (AV x (k 0))),vI (AX x (k 0) (AV x (k 0)))]),.v,.v,.v,.v,.v,.c,.c,.c,.v,.v,.c] (.split 22 (.s [.c,.c,.c,.v,.v,.v,.c] (.ret [])) (.s [.c,.c,.c,.c,.v,.v,.c,.c,.c,.c,.v,.c,.c,.c,.c,.c,.c,.c,.c,.v,.ext 0,.v,.c,.c,.c,.v,.c,.c,.c,.v,.v,.call (.tuple #[vI (AR (AR x (k 0) (AV x (k 0))) s (AV (AR x (k 0) (AV x (k 0))) s)),vI (AX (AR x (k 0) (AV x (k 0))) s (AV (AR x (k 0) (AV x (k 0))) s))]),.v,.v,.v,.v,.v,.c,.c,.c,.v,.v,.c] (.split 22 (.s [.c,.c,.c,.v,.v,.v,.c] (.ret [])) (.s [.c,.c,.c,.c,.v,.v,.c,.c,.c,.c,.v,.c,.c,.c,.c,.c,.c,.v,.v,.v,.c] (.ret []))))))
  el (Sx.refl w _) (by exact ExX.cons (Ib (λh=>h) (show Az w b 0 [.func (.func 164) #[] #[.pointer (some ⟨kb,0,none⟩),.pointer (some ⟨jb,0,none⟩)],.func (.func 166) #[] #[.pointer (some ⟨sb,0,none⟩)]]from by exact⟨cb0,cb1,trivial⟩)) (ExX.nil)) Tryz.func163 el el (Eq.mp el (aI (Eq.refl b) (aI (cv B [] [] [] [] λW hS=>MB x k kb jb W (hg.below hS.bl) (Bd hS.bl ckb0) (Bd hS.bl ckb1) (Bd hS.bl ckb2) (Bd hS.bl cjb0)) (And.intro (λ(h1:((AX x (k 0) (AV x (k 0)))!=0)=true)=>hv (show¬((AX x (k 0) (AV x (k 0)))=0)from(by simpa using h1)) (λh1p=>hv (EL (z:=AV x (k 0)) fx fk) (λM=>hv (EE (z:=AV x (k 0)) (by rw[<-M.2];exact h1p)) (λM2=>aI trivial ((show AO B R [] [] [] [] (.tuple #[vI 0,vI (AX x (k 0) (AV x (k 0)))])from by
     exactλW hS=>⟨by unfold Lz IT;rw[M2.2,M.2,M2.1];rfl,hS.bl⟩)))))) (λ(h2:((AX x (k 0) (AV x (k 0)))!=0)=false)=>hv (show(AX x (k 0) (AV x (k 0)))=0 from(by simpa using h2)) (λh2p=>hv (EL (z:=AV x (k 0)) fx fk) (λM=>hv (EJ (z:=AV x (k 0)) (by rw[<-M.2];exact h2p)) (λM2=>aI (Eq.refl b) (aI (cv B [] [] [] [] λW hS=>Hy (AR x (k 0) (AV x (k 0))) s sb W (hg.below hS.bl) (Bd hS.bl csb0)) (And.intro (λ(h3:((AX (AR x (k 0) (AV x (k 0))) s (AV (AR x (k 0) (AV x (k 0))) s))!=0)=true)=>hv (show¬((AX (AR x (k 0) (AV x (k 0))) s (AV (AR x (k 0) (AV x (k 0))) s))=0)from(by simpa using h3)) (λh3p=>aI trivial ((show AO B R [] [] [] [] (.tuple #[vI 0,vI (AX (AR x (k 0) (AV x (k 0))) s (AV (AR x (k 0) (AV x (k 0))) s))])from by
     have V1:AR x (k 0) (AV x (k 0))=AV x (k 0):=M.1.trans M2.1
     have N:=EL (z:=AV (AV x (k 0)) s) M2.2 fs
     have q:=h3p
     rw[V1,N.2]at q
     have N2:=EE q
     exactλW hS=>⟨by unfold Lz IT;rw[if_pos M2.2,if_pos M2.2,V1,N.2,(Cr N2.2).1],hS.bl⟩)))) (λ(h4:((AX (AR x (k 0) (AV x (k 0))) s (AV (AR x (k 0) (AV x (k 0))) s))!=0)=false)=>hv (show(AX (AR x (k 0) (AV x (k 0))) s (AV (AR x (k 0) (AV x (k 0))) s))=0 from(by simpa using h4)) (λh4p=>aI trivial ((show AO B R [] [] [] [] (.tuple #[vI (AR (AR x (k 0) (AV x (k 0))) s (AV (AR x (k 0) (AV x (k 0))) s)),vI 0])from by
     have V1:AR x (k 0) (AV x (k 0))=AV x (k 0):=M.1.trans M2.1
     have N:=EL (z:=AV (AV x (k 0)) s) M2.2 fs
     have q:=h4p
     rw[V1,N.2]at q
     have N2:=EJ q
     exactλW hS=>⟨by unfold Lz IT;rw[if_pos M2.2,if_pos M2.2,V1,N.1,q],hS.bl⟩)))))))))))))))
theorem FU(x s:Int)(k:Nat->Int)(b kb jb sb:Nat)(fx:AL x=true)(fk:AL (k 1)=true)(fs:AL s=true)(w:World)(hg:GN w)(cb0:w.cell? ⟨b,0,none⟩=some (.func (.func 164) #[] #[.pointer (some ⟨kb,0,none⟩),.pointer (some ⟨jb,0,none⟩)]))(cb1:w.cell? ⟨b,1,none⟩=some (.func (.func 166) #[] #[.pointer (some ⟨sb,0,none⟩)]))(ckb0:w.cell? ⟨kb,0,none⟩=some (.int .i64 (k 0)))(ckb1:w.cell? ⟨kb,1,none⟩=some (.int .i64 (k 1)))(ckb2:w.cell? ⟨kb,2,none⟩=some (.int .i64 (k 2)))(cjb0:w.cell? ⟨jb,0,none⟩=some (.int .i64 1))(csb0:w.cell? ⟨sb,0,none⟩=some (.int .i64 s)):Calls Tryz.prog 163 #[.int .i64 x,.slice (some ⟨b,0,none⟩) 2 2] w (λe w'=>e=.returned (.tuple #[.int .i64 (Lz x (k 1) s),.int .i64 (IT x (k 1) s)])/\Below w.heap.size w w'):=by
 exact(let B:Base:=(⟨w,λ_=>False⟩:Base);let R:Ending->World->Prop:=(λe w'=>e=.returned (.tuple #[.int .i64 (Lz x (k 1) s),.int .i64 (IT x (k 1) s)])/\Below w.heap.size w w');AC (f:=163) (B:=B) (R:=R) (es:=[(b,[.func (.func 164) #[] #[.pointer (some ⟨kb,0,none⟩),.pointer (some ⟨jb,0,none⟩)],.func (.func 166) #[] #[.pointer (some ⟨sb,0,none⟩)]])]) (c:=Tryz.f163.body.getD .skip) (tmps:=(Gn [vI x,vS b 2 2] 24))
  (.s [.c,.c,.v,.v,.c,.c,.c,.c,.v,.v,.v,.c,.c,.c,.c,.c,.v,.c,.c,.c,.c,.c,.c,.c,.c,.v,.ext 0,.v,.c,.c,.c,.v,.c,.c,.c,.v,.v,.call (.tuple #[vI (AR x (k 1) (AV x (k 1))),vI (AX x (k 1) (AV x (k 1)))]),.v,.v,.v,.v,.v,.c,.c,.c,.v,.v,.c] (.split 22 (.s [.c,.c,.c,.v,.v,.v,.c] (.ret [])) (.s [.c,.c,.c,.c,.v,.v,.c,.c,.c,.c,.v,.c,.c,.c,.c,.c,.c,.c,.c,.v,.ext 0,.v,.c,.c,.c,.v,.c,.c,.c,.v,.v,.call (.tuple #[vI (AR (AR x (k 1) (AV x (k 1))) s (AV (AR x (k 1) (AV x (k 1))) s)),vI (AX (AR x (k 1) (AV x (k 1))) s (AV (AR x (k 1) (AV x (k 1))) s))]),.v,.v,.v,.v,.v,.c,.c,.c,.v,.v,.c] (.split 22 (.s [.c,.c,.c,.v,.v,.v,.c] (.ret [])) (.s [.c,.c,.c,.c,.v,.v,.c,.c,.c,.c,.v,.c,.c,.c,.c,.c,.c,.v,.v,.v,.c] (.ret []))))))
  el (Sx.refl w _) (by exact ExX.cons (Ib (λh=>h) (show Az w b 0 [.func (.func 164) #[] #[.pointer (some ⟨kb,0,none⟩),.pointer (some ⟨jb,0,none⟩)],.func (.func 166) #[] #[.pointer (some ⟨sb,0,none⟩)]]from by exact⟨cb0,cb1,trivial⟩)) (ExX.nil)) Tryz.func163 el el (Eq.mp el (aI (Eq.refl b) (aI (cv B [] [] [] [] λW hS=>L2 x k kb jb W (hg.below hS.bl) (Bd hS.bl ckb0) (Bd hS.bl ckb1) (Bd hS.bl ckb2) (Bd hS.bl cjb0)) (And.intro (λ(h1:((AX x (k 1) (AV x (k 1)))!=0)=true)=>hv (show¬((AX x (k 1) (AV x (k 1)))=0)from(by simpa using h1)) (λh1p=>hv (EL (z:=AV x (k 1)) fx fk) (λM=>hv (EE (z:=AV x (k 1)) (by rw[<-M.2];exact h1p)) (λM2=>aI trivial ((show AO B R [] [] [] [] (.tuple #[vI 0,vI (AX x (k 1) (AV x (k 1)))])from by
     exactλW hS=>⟨by unfold Lz IT;rw[M2.2,M.2,M2.1];rfl,hS.bl⟩)))))) (λ(h2:((AX x (k 1) (AV x (k 1)))!=0)=false)=>hv (show(AX x (k 1) (AV x (k 1)))=0 from(by simpa using h2)) (λh2p=>hv (EL (z:=AV x (k 1)) fx fk) (λM=>hv (EJ (z:=AV x (k 1)) (by rw[<-M.2];exact h2p)) (λM2=>aI (Eq.refl b) (aI (cv B [] [] [] [] λW hS=>Hy (AR x (k 1) (AV x (k 1))) s sb W (hg.below hS.bl) (Bd hS.bl csb0)) (And.intro (λ(h3:((AX (AR x (k 1) (AV x (k 1))) s (AV (AR x (k 1) (AV x (k 1))) s))!=0)=true)=>hv (show¬((AX (AR x (k 1) (AV x (k 1))) s (AV (AR x (k 1) (AV x (k 1))) s))=0)from(by simpa using h3)) (λh3p=>aI trivial ((show AO B R [] [] [] [] (.tuple #[vI 0,vI (AX (AR x (k 1) (AV x (k 1))) s (AV (AR x (k 1) (AV x (k 1))) s))])from by
     have V1:AR x (k 1) (AV x (k 1))=AV x (k 1):=M.1.trans M2.1
     have N:=EL (z:=AV (AV x (k 1)) s) M2.2 fs
     have q:=h3p
     rw[V1,N.2]at q
     have N2:=EE q
     exactλW hS=>⟨by unfold Lz IT;rw[if_pos M2.2,if_pos M2.2,V1,N.2,(Cr N2.2).1],hS.bl⟩)))) (λ(h4:((AX (AR x (k 1) (AV x (k 1))) s (AV (AR x (k 1) (AV x (k 1))) s))!=0)=false)=>hv (show(AX (AR x (k 1) (AV x (k 1))) s (AV (AR x (k 1) (AV x (k 1))) s))=0 from(by simpa using h4)) (λh4p=>aI trivial ((show AO B R [] [] [] [] (.tuple #[vI (AR (AR x (k 1) (AV x (k 1))) s (AV (AR x (k 1) (AV x (k 1))) s)),vI 0])from by
     have V1:AR x (k 1) (AV x (k 1))=AV x (k 1):=M.1.trans M2.1
     have N:=EL (z:=AV (AV x (k 1)) s) M2.2 fs
     have q:=h4p
     rw[V1,N.2]at q
     have N2:=EJ q
     exactλW hS=>⟨by unfold Lz IT;rw[if_pos M2.2,if_pos M2.2,V1,N.1,q],hS.bl⟩)))))))))))))))
theorem EA(x s:Int)(k:Nat->Int)(b kb jb sb:Nat)(fx:AL x=true)(fk:AL (k 2)=true)(fs:AL s=true)(w:World)(hg:GN w)(cb0:w.cell? ⟨b,0,none⟩=some (.func (.func 164) #[] #[.pointer (some ⟨kb,0,none⟩),.pointer (some ⟨jb,0,none⟩)]))(cb1:w.cell? ⟨b,1,none⟩=some (.func (.func 166) #[] #[.pointer (some ⟨sb,0,none⟩)]))(ckb0:w.cell? ⟨kb,0,none⟩=some (.int .i64 (k 0)))(ckb1:w.cell? ⟨kb,1,none⟩=some (.int .i64 (k 1)))(ckb2:w.cell? ⟨kb,2,none⟩=some (.int .i64 (k 2)))(cjb0:w.cell? ⟨jb,0,none⟩=some (.int .i64 2))(csb0:w.cell? ⟨sb,0,none⟩=some (.int .i64 s)):Calls Tryz.prog 163 #[.int .i64 x,.slice (some ⟨b,0,none⟩) 2 2] w (λe w'=>e=.returned (.tuple #[.int .i64 (Lz x (k 2) s),.int .i64 (IT x (k 2) s)])/\Below w.heap.size w w'):=by
 exact(let B:Base:=(⟨w,λ_=>False⟩:Base);let R:Ending->World->Prop:=(λe w'=>e=.returned (.tuple #[.int .i64 (Lz x (k 2) s),.int .i64 (IT x (k 2) s)])/\Below w.heap.size w w');AC (f:=163) (B:=B) (R:=R) (es:=[(b,[.func (.func 164) #[] #[.pointer (some ⟨kb,0,none⟩),.pointer (some ⟨jb,0,none⟩)],.func (.func 166) #[] #[.pointer (some ⟨sb,0,none⟩)]])]) (c:=Tryz.f163.body.getD .skip) (tmps:=(Gn [vI x,vS b 2 2] 24))
  (.s [.c,.c,.v,.v,.c,.c,.c,.c,.v,.v,.v,.c,.c,.c,.c,.c,.v,.c,.c,.c,.c,.c,.c,.c,.c,.v,.ext 0,.v,.c,.c,.c,.v,.c,.c,.c,.v,.v,.call (.tuple #[vI (AR x (k 2) (AV x (k 2))),vI (AX x (k 2) (AV x (k 2)))]),.v,.v,.v,.v,.v,.c,.c,.c,.v,.v,.c] (.split 22 (.s [.c,.c,.c,.v,.v,.v,.c] (.ret [])) (.s [.c,.c,.c,.c,.v,.v,.c,.c,.c,.c,.v,.c,.c,.c,.c,.c,.c,.c,.c,.v,.ext 0,.v,.c,.c,.c,.v,.c,.c,.c,.v,.v,.call (.tuple #[vI (AR (AR x (k 2) (AV x (k 2))) s (AV (AR x (k 2) (AV x (k 2))) s)),vI (AX (AR x (k 2) (AV x (k 2))) s (AV (AR x (k 2) (AV x (k 2))) s))]),.v,.v,.v,.v,.v,.c,.c,.c,.v,.v,.c] (.split 22 (.s [.c,.c,.c,.v,.v,.v,.c] (.ret [])) (.s [.c,.c,.c,.c,.v,.v,.c,.c,.c,.c,.v,.c,.c,.c,.c,.c,.c,.v,.v,.v,.c] (.ret []))))))
  el (Sx.refl w _) (by exact ExX.cons (Ib (λh=>h) (show Az w b 0 [.func (.func 164) #[] #[.pointer (some ⟨kb,0,none⟩),.pointer (some ⟨jb,0,none⟩)],.func (.func 166) #[] #[.pointer (some ⟨sb,0,none⟩)]]from by exact⟨cb0,cb1,trivial⟩)) (ExX.nil)) Tryz.func163 el el (Eq.mp el (aI (Eq.refl b) (aI (cv B [] [] [] [] λW hS=>Ms x k kb jb W (hg.below hS.bl) (Bd hS.bl ckb0) (Bd hS.bl ckb1) (Bd hS.bl ckb2) (Bd hS.bl cjb0)) (And.intro (λ(h1:((AX x (k 2) (AV x (k 2)))!=0)=true)=>hv (show¬((AX x (k 2) (AV x (k 2)))=0)from(by simpa using h1)) (λh1p=>hv (EL (z:=AV x (k 2)) fx fk) (λM=>hv (EE (z:=AV x (k 2)) (by rw[<-M.2];exact h1p)) (λM2=>aI trivial ((show AO B R [] [] [] [] (.tuple #[vI 0,vI (AX x (k 2) (AV x (k 2)))])from by
     exactλW hS=>⟨by unfold Lz IT;rw[M2.2,M.2,M2.1];rfl,hS.bl⟩)))))) (λ(h2:((AX x (k 2) (AV x (k 2)))!=0)=false)=>hv (show(AX x (k 2) (AV x (k 2)))=0 from(by simpa using h2)) (λh2p=>hv (EL (z:=AV x (k 2)) fx fk) (λM=>hv (EJ (z:=AV x (k 2)) (by rw[<-M.2];exact h2p)) (λM2=>aI (Eq.refl b) (aI (cv B [] [] [] [] λW hS=>Hy (AR x (k 2) (AV x (k 2))) s sb W (hg.below hS.bl) (Bd hS.bl csb0)) (And.intro (λ(h3:((AX (AR x (k 2) (AV x (k 2))) s (AV (AR x (k 2) (AV x (k 2))) s))!=0)=true)=>hv (show¬((AX (AR x (k 2) (AV x (k 2))) s (AV (AR x (k 2) (AV x (k 2))) s))=0)from(by simpa using h3)) (λh3p=>aI trivial ((show AO B R [] [] [] [] (.tuple #[vI 0,vI (AX (AR x (k 2) (AV x (k 2))) s (AV (AR x (k 2) (AV x (k 2))) s))])from by
     have V1:AR x (k 2) (AV x (k 2))=AV x (k 2):=M.1.trans M2.1
     have N:=EL (z:=AV (AV x (k 2)) s) M2.2 fs
     have q:=h3p
     rw[V1,N.2]at q
     have N2:=EE q
     exactλW hS=>⟨by unfold Lz IT;rw[if_pos M2.2,if_pos M2.2,V1,N.2,(Cr N2.2).1],hS.bl⟩)))) (λ(h4:((AX (AR x (k 2) (AV x (k 2))) s (AV (AR x (k 2) (AV x (k 2))) s))!=0)=false)=>hv (show(AX (AR x (k 2) (AV x (k 2))) s (AV (AR x (k 2) (AV x (k 2))) s))=0 from(by simpa using h4)) (λh4p=>aI trivial ((show AO B R [] [] [] [] (.tuple #[vI (AR (AR x (k 2) (AV x (k 2))) s (AV (AR x (k 2) (AV x (k 2))) s)),vI 0])from by
     have V1:AR x (k 2) (AV x (k 2))=AV x (k 2):=M.1.trans M2.1
     have N:=EL (z:=AV (AV x (k 2)) s) M2.2 fs
     have q:=h4p
     rw[V1,N.2]at q
     have N2:=EJ q
     exactλW hS=>⟨by unfold Lz IT;rw[if_pos M2.2,if_pos M2.2,V1,N.1,q],hS.bl⟩)))))))))))))))
theorem Cp(x t u:Int)(b tb ub:Nat)(fx:AL x=true)(ft:AL t=true)(fu:AL u=true)(w:World)(cb0:w.cell? ⟨b,0,none⟩=some (.func (.func 167) #[] #[.pointer (some ⟨tb,0,none⟩)]))(cb1:w.cell? ⟨b,1,none⟩=some (.func (.func 168) #[] #[.pointer (some ⟨ub,0,none⟩)]))(ctb0:w.cell? ⟨tb,0,none⟩=some (.int .i64 t))(cub0:w.cell? ⟨ub,0,none⟩=some (.int .i64 u)):Calls Tryz.prog 163 #[.int .i64 x,.slice (some ⟨b,0,none⟩) 2 2] w (λe w'=>e=.returned (.tuple #[.int .i64 (Tu x t u),.int .i64 (NX x t u)])/\Below w.heap.size w w'):=by
 exact(let B:Base:=(⟨w,λ_=>False⟩:Base);let R:Ending->World->Prop:=(λe w'=>e=.returned (.tuple #[.int .i64 (Tu x t u),.int .i64 (NX x t u)])/\Below w.heap.size w w');AC (f:=163) (B:=B) (R:=R) (es:=[(b,[.func (.func 167) #[] #[.pointer (some ⟨tb,0,none⟩)],.func (.func 168) #[] #[.pointer (some ⟨ub,0,none⟩)]])]) (c:=Tryz.f163.body.getD .skip) (tmps:=(Gn [vI x,vS b 2 2] 24))
  (.s [.c,.c,.v,.v,.c,.c,.c,.c,.v,.v,.v,.c,.c,.c,.c,.c,.v,.c,.c,.c,.c,.c,.c,.c,.c,.v,.ext 0,.v,.c,.c,.c,.v,.c,.c,.c,.v,.v,.call (.tuple #[vI (AR x t (x-t)),vI (AX x t (x-t))]),.v,.v,.v,.v,.v,.c,.c,.c,.v,.v,.c] (.split 22 (.s [.c,.c,.c,.v,.v,.v,.c] (.ret [])) (.s [.c,.c,.c,.c,.v,.v,.c,.c,.c,.c,.v,.c,.c,.c,.c,.c,.c,.c,.c,.v,.ext 0,.v,.c,.c,.c,.v,.c,.c,.c,.v,.v,.call (.tuple #[vI (AR (AR x t (x-t)) u ((AR x t (x-t))+u)),vI (AX (AR x t (x-t)) u ((AR x t (x-t))+u))]),.v,.v,.v,.v,.v,.c,.c,.c,.v,.v,.c] (.split 22 (.s [.c,.c,.c,.v,.v,.v,.c] (.ret [])) (.s [.c,.c,.c,.c,.v,.v,.c,.c,.c,.c,.v,.c,.c,.c,.c,.c,.c,.v,.v,.v,.c] (.ret []))))))
  el (Sx.refl w _) (by exact ExX.cons (Ib (λh=>h) (show Az w b 0 [.func (.func 167) #[] #[.pointer (some ⟨tb,0,none⟩)],.func (.func 168) #[] #[.pointer (some ⟨ub,0,none⟩)]]from by exact⟨cb0,cb1,trivial⟩)) (ExX.nil)) Tryz.func163 el el (Eq.mp el (aI (Eq.refl b) (aI (cv B [] [] [] [] λW hS=>PX x t tb W (Bd hS.bl ctb0)) (And.intro (λ(h1:((AX x t (x-t))!=0)=true)=>hv (show¬((AX x t (x-t))=0)from(by simpa using h1)) (λh1p=>hv (EL (z:=x-t) fx ft) (λM=>hv (EE (z:=x-t) (by rw[<-M.2];exact h1p)) (λM2=>aI trivial ((show AO B R [] [] [] [] (.tuple #[vI 0,vI (AX x t (x-t))])from by
     exactλW hS=>⟨by unfold Tu NX;rw[M2.2,M.2,M2.1];rfl,hS.bl⟩)))))) (λ(h2:((AX x t (x-t))!=0)=false)=>hv (show(AX x t (x-t))=0 from(by simpa using h2)) (λh2p=>hv (EL (z:=x-t) fx ft) (λM=>hv (EJ (z:=x-t) (by rw[<-M.2];exact h2p)) (λM2=>aI (Eq.refl b) (aI (cv B [] [] [] [] λW hS=>Py (AR x t (x-t)) u ub W (Bd hS.bl cub0)) (And.intro (λ(h3:((AX (AR x t (x-t)) u ((AR x t (x-t))+u))!=0)=true)=>hv (show¬((AX (AR x t (x-t)) u ((AR x t (x-t))+u))=0)from(by simpa using h3)) (λh3p=>aI trivial ((show AO B R [] [] [] [] (.tuple #[vI 0,vI (AX (AR x t (x-t)) u ((AR x t (x-t))+u))])from by
     have V1:AR x t (x-t)=x-t:=M.1.trans M2.1
     have N:=EL (z:=x-t+u) M2.2 fu
     have q:=h3p
     rw[V1,N.2]at q
     have N2:=EE q
     exactλW hS=>⟨by unfold Tu NX;rw[if_pos M2.2,if_pos M2.2,V1,N.2,(Cr N2.2).1],hS.bl⟩)))) (λ(h4:((AX (AR x t (x-t)) u ((AR x t (x-t))+u))!=0)=false)=>hv (show(AX (AR x t (x-t)) u ((AR x t (x-t))+u))=0 from(by simpa using h4)) (λh4p=>aI trivial ((show AO B R [] [] [] [] (.tuple #[vI (AR (AR x t (x-t)) u ((AR x t (x-t))+u)),vI 0])from by
     have V1:AR x t (x-t)=x-t:=M.1.trans M2.1
     have N:=EL (z:=x-t+u) M2.2 fu
     have q:=h4p
     rw[V1,N.2]at q
     have N2:=EJ q
     exactλW hS=>⟨by unfold Tu NX;rw[if_pos M2.2,if_pos M2.2,V1,N.1,q],hS.bl⟩)))))))))))))))
end Go.Proofs.YtikajapjkdloaaaGreatDoor
