/- The second engine, seventh part: small words for the conditions' proofs. -/
import Derived.Test.YtikajapjkdloaaaGreatDoor911
import Derived.Test.YtikajapjkdloaaaGreatDoor905
namespace Go.Proofs.YtikajapjkdloaaaGreatDoor
set_option linter.unusedVariables false
set_option linter.unusedSimpArgs false
set_option maxRecDepth 1000000
set_option maxHeartbeats 8000000
section
open Go.RowKit
structure Lt where
 k:Nat
 x:Nat->Int
 u:Nat->Value
 a:Nat->Option Addr×Nat
 r:Nat->Nat
 l:Nat->List Value
theorem ExX.nil{B:Base}:ExX B []:= λx hx=>by cases hx
theorem ExX.cons{B:Base}{b:Nat}{cs:List Value}{es:AD}(h:b<B.w.heap.size/\ ¬B.X b/\ ∀i v,cs[i]? =some v->B.w.cell? ⟨b,i,none⟩=some v)(k:ExX B es):ExX B ((b,cs)::es):=by
 intro x hx
 rcases List.mem_cons.1 hx with rfl|hx
 ·exact h
 exact k x hx
theorem Ib{w:World}{X:Nat->Prop}{b:Nat}{c:Value}{cs:List Value}(hn: ¬X b)(h:Az w b 0 (c::cs)):b<(⟨w,X⟩:Base).w.heap.size/\ ¬(⟨w,X⟩:Base).X b/\ ∀i v,(c::cs)[i]? =some v->(⟨w,X⟩:Base).w.cell? ⟨b,i,none⟩=some v:=
 ⟨World.block_lt_of_cell? w ⟨b,0,none⟩ h.1,hn,(Vi h).2⟩
section
variable {P:Program} {B:Base} {bs:AD} {gs:BN} {rs:Aw} {os:DV} {g:FuncId} {args:Array Value} {v:Value}
theorem CallVX.of(h: ∀W,Sx B W bs gs rs os->Calls P g args W λe w'=>e=.returned v/\W=w'):CallVX P B bs gs rs os g args v:=
 λW hS=>(h W hS).mono λ_ _⟨he,hw⟩=>⟨he,hw▸Below.refl _ _⟩
theorem CallVX.be(h: ∀W,Sx B W bs gs rs os->Calls P g args W λe w'=>e=.returned v/\Below W.heap.size W w'):CallVX P B bs gs rs os g args v:=h
theorem Sx.hand{W:World}(h:Sx B W bs [] rs os){ks:List Nat}{bs0:AD}{rs0:Aw}{os0:DV}(hks:bs0=ks.filterMap λi=>bs[i]?)(hk:ks.all (λk=>decide (k<bs.length))=true)(hnd:ks.Nodup)
 (hr: ∀r∈rs0,∃k,ks[r.1]? =some k/\(k,r.2)∈rs)(hos:os0.Sublist os):Sx (AH W bs0 os0) W bs0 [] rs0 os0:=by
 subst hks
 have hlt: ∀k∈ks,k<bs.length:= λk hk'=>by simpa using List.all_eq_true.1 hk k hk'
 have hp:=LV (l:=bs) (idx:=ks) hlt
 refine⟨BelX.refl,λx hx=> ?_,?_,λ_ hg=>(by cases hg),λr hr'=> ?_,λy hy=>⟨Or.inr (Or.inr ⟨y,hy,rfl⟩),(h.ob y (hos.subset hy)).2⟩,(hos.map _).nodup h.on⟩
 ·obtain⟨j,_,hj⟩:=List.mem_filterMap.1 hx
  obtain⟨_,q⟩:=h.blk x (List.mem_of_getElem? hj)
  exact⟨Or.inr (Or.inl ⟨x,hx,rfl⟩),q⟩
 ·rw[List.Nodup,List.pairwise_iff_getElem]
  intro i j hi hj hij e
  rw[List.length_map]at hi hj
  simp only[List.getElem_map]at e
  have hi':(EM ks bs)[i]? =some (EM ks bs)[i]:=List.getElem?_eq_getElem hi
  have hj':(EM ks bs)[j]? =some (EM ks bs)[j]:=List.getElem?_eq_getElem hj
  rw[hp]at hi' hj'
  obtain⟨a,ha,hxa⟩:=Option.bind_eq_some_iff.1 hi'
  obtain⟨b,hb,hxb⟩:=Option.bind_eq_some_iff.1 hj'
  have h1:(bs.map (·.1))[a]? =some ((EM ks bs)[i]).1:=by rw[List.getElem?_map,hxa];rfl
  have h2:(bs.map (·.1))[b]? =some ((EM ks bs)[i]).1:=by rw[List.getElem?_map,hxb];exact congrArg some e.symm
  have hab:=(List.getElem?_inj (List.getElem?_eq_some_iff.1 h1).1 h.nd).1 (h1.trans h2.symm)
  subst hab
  have:=(List.getElem?_inj (List.getElem?_eq_some_iff.1 ha).1 hnd).1 (ha.trans hb.symm)
  omega
 obtain⟨k,hk',hm⟩:=hr r hr'
 obtain⟨b,cs,cur,q1,q2,q3⟩:=h.rw _ hm
 refine⟨b,cs,cur,?_,q2,q3⟩
 have:=hp r.1
 rw[hk']at this
 exact this.trans q1
theorem CallMX.of{ks:List Nat}{bs0:AD}{rs0:Aw}{os0:DV}{V:(Nat->Nat)->Value}{bs1:(Nat->Nat)->AD}{rs1:(Nat->Nat)->Aw}{S:(Nat->Nat)->Value×AD×Aw}(idx:List Nat)
 (h: ∀W,Sx B W bs [] rs os->Sx (AH W bs0 os0) W bs0 [] rs0 os0->Calls P g args W λe w'=> ∃ρ,e=.returned (V ρ)/\Sx (AH W bs0 os0) w' (bs1 ρ) [] (rs1 ρ) os0)
 (hks:bs0=ks.filterMap λi=>bs[i]?)(hk:ks.all (λk=>decide (k<bs.length))=true)(hnd:ks.Nodup)(hr: ∀r∈rs0,∃k,ks[r.1]? =some k/\(k,r.2)∈rs)(hos:os0.Sublist os)
 (hi: ∀ρ,idx.all (λi=>decide (i<bs.length+(bs1 ρ).length)&& !ks.contains i)=true)(hin:idx.Nodup)
 (hS: ∀ρ,S ρ=(V ρ,EM idx (bs++bs1 ρ),N9 ks bs.length rs (rs1 ρ) idx)):CallMX P B bs [] rs os g args S:=by
 intro W hW
 refine(h W hW (hW.hand hks hk hnd hr hos)).mono ?_
 rintro e w' ⟨ρ,rfl,h1⟩
 have:=Gl hW hks (λy hy=>hos.subset hy) rfl h1 (hi ρ) hin
 refine⟨ρ,by rw[hS],this.1,?_⟩
 rw[hS];exact this.2
theorem CallYX.of{x:Sem Next}{ks:List Nat}{bs0:AD}{rs0:Aw}{os0:DV}{V:(Nat->Nat)->Value}{bs1:(Nat->Nat)->AD}{rs1:(Nat->Nat)->Aw}{S:(Nat->Nat)->Value×AD×Aw}(idx:List Nat)
 (h: ∀W,Sx B W bs [] rs os->Sx (AH W bs0 os0) W bs0 [] rs0 os0-> ∃l g tmps assign body,x.run P W=.ok (.round l g tmps assign body) W/\Rounds P l g tmps assign body W λv w'=> ∃ρ,v=V ρ/\Sx (AH W bs0 os0) w' (bs1 ρ) [] (rs1 ρ) os0)
 (hks:bs0=ks.filterMap λi=>bs[i]?)(hk:ks.all (λk=>decide (k<bs.length))=true)(hnd:ks.Nodup)(hr: ∀r∈rs0,∃k,ks[r.1]? =some k/\(k,r.2)∈rs)(hos:os0.Sublist os)
 (hi: ∀ρ,idx.all (λi=>decide (i<bs.length+(bs1 ρ).length)&& !ks.contains i)=true)(hin:idx.Nodup)
 (hS: ∀ρ,S ρ=(V ρ,EM idx (bs++bs1 ρ),N9 ks bs.length rs (rs1 ρ) idx)):CallYX P B bs [] rs os x S:=by
 intro W hW
 obtain⟨l,g,tmps,assign,body,hx,hR⟩:=h W hW (hW.hand hks hk hnd hr hos)
 refine⟨l,g,tmps,assign,body,hx,hR.mono ?_⟩
 rintro v w' ⟨ρ,rfl,h1⟩
 have:=Gl hW hks (λy hy=>hos.subset hy) rfl h1 (hi ρ) hin
 refine⟨ρ,by rw[hS],this.1,?_⟩
 rw[hS];exact this.2
end
end
section
open Go.RowKit
section
variable {B:Base} {W:World} {bs:AD} {gs:BN} {rs:Aw} {os:DV}
theorem Sx.rows(h:Sx B W bs gs rs os){rs':Aw}(hr: ∀r∈rs',r∈rs):Sx B W bs gs rs' os:=⟨h.bx,h.blk,h.nd,h.bg,λr hx=>h.rw r (hr r hx),h.ob,h.on⟩
theorem Sx.sel(h:Sx B W bs gs rs os)(idx:List Nat)(hlt:idx.all (λi=>decide (i<bs.length))=true)(hnd:idx.Nodup):Sx B W (EM idx bs) gs (rs.filterMap λr=>(idx.idxOf? r.1).map (·,r.2)) os:=by
 have hlt': ∀i∈idx,i<List.length bs:= λi hi=>by simpa using List.all_eq_true.1 hlt i hi
 have hp:=LV (l:=bs) (idx:=idx) hlt'
 refine⟨h.bx,λx hx=> ?_,?_,h.bg,λr hr=> ?_,h.ob,h.on⟩
 ·obtain⟨j,_,hj⟩:=List.mem_filterMap.1 hx
  exact h.blk x (List.mem_of_getElem? hj)
 ·rw[List.Nodup,List.pairwise_iff_getElem]
  intro i j hi hj hij e
  rw[List.length_map]at hi hj
  simp only[List.getElem_map]at e
  have hi':(EM idx bs)[i]? =some (EM idx bs)[i]:=List.getElem?_eq_getElem hi
  have hj':(EM idx bs)[j]? =some (EM idx bs)[j]:=List.getElem?_eq_getElem hj
  rw[hp]at hi' hj'
  obtain⟨a,ha,hxa⟩:=Option.bind_eq_some_iff.1 hi'
  obtain⟨b,hb,hxb⟩:=Option.bind_eq_some_iff.1 hj'
  have h1:(bs.map (·.1))[a]? =some ((EM idx bs)[i]).1:=by rw[List.getElem?_map,hxa];rfl
  have h2:(bs.map (·.1))[b]? =some ((EM idx bs)[i]).1:=by rw[List.getElem?_map,hxb];exact congrArg some e.symm
  have hab:=(List.getElem?_inj (List.getElem?_eq_some_iff.1 h1).1 h.nd).1 (h1.trans h2.symm)
  subst hab
  have:=(List.getElem?_inj (List.getElem?_eq_some_iff.1 ha).1 hnd).1 (ha.trans hb.symm)
  omega
 obtain⟨r',hr',hq⟩:=List.mem_filterMap.1 hr
 obtain⟨p,hpp,rfl⟩:=Option.map_eq_some_iff.1 hq
 have hp':idx[p]? =some r'.1:=by
  obtain⟨hlt2,he2,_⟩:=List.idxOf?_eq_some_iff.1 hpp
  rw[List.getElem?_eq_getElem hlt2,he2]
 obtain⟨b,cs,cur,q1,q2,q3⟩:=h.rw r' hr'
 refine⟨b,cs,cur,?_,q2,q3⟩
 rw[hp,hp'];exact q1
theorem Sx.norows(h:Sx B W bs gs rs os):Sx B W bs gs [] os:=h.rows (λ_ hr=>by cases hr)
theorem Sx.fresh(h:Sx B W bs gs rs os){g:Nat}(hg:g<B.w.heap.size)(hn: ¬B.X g){ks:List Nat}{bs0:AD}{os0:DV}(hks:bs0=ks.filterMap λi=>bs[i]?)(hos:os0.Sublist os): ¬(AH W bs0 os0).X g:=by
 rintro(⟨x,hx,rfl⟩|⟨y,hy,rfl⟩)
 ·rw[hks]at hx
  obtain⟨j,_,hj⟩:=List.mem_filterMap.1 hx
  rcases(h.blk x (List.mem_of_getElem? hj)).1 with q|q
  ·omega
  exact hn q
 rcases(h.ob y (hos.subset hy)).1 with q|q
 ·omega
 exact hn q
theorem Sx.nf{w:World}{g:Nat}: ¬(⟨w,λ_=>False⟩:Base).X g:= λh=>h
end
section
variable {w W:World} {X:Nat->Prop} {bs:AD} {gs:BN} {rs:Aw} {os:DV}
theorem GN.of(h:GN w)(hS:Sx ⟨w,X⟩ W bs gs rs os)(hn: ¬X 1):GN W:=⟨hS.oldc hn h.1,hS.oldc hn h.2⟩
theorem GP.of(h:GP w)(hS:Sx ⟨w,X⟩ W bs gs rs os)(hn: ¬X 2):GP W:=by
 unfold GP at h
 obtain⟨h0,h1,h2,h3,h4,h5,h6,h7,h8⟩:=h
 exact⟨hS.oldc hn h0,hS.oldc hn h1,hS.oldc hn h2,hS.oldc hn h3,hS.oldc hn h4,hS.oldc hn h5,hS.oldc hn h6,hS.oldc hn h7,hS.oldc hn h8⟩
theorem GN.lt(h:GN w):1<w.heap.size:=World.block_lt_of_cell? w ⟨_,0,none⟩ h.1
theorem GP.lt(h:GP w):2<w.heap.size:=World.block_lt_of_cell? w ⟨_,0,none⟩ h.1
end
end
section
open Go.RowKit
theorem aI{a b:Prop}(h:a)(k:b):a/\b:=⟨h,k⟩
theorem A_(a:Nat):(a=a/\True):=⟨rfl,trivial⟩
theorem DR(a:Nat):(a=a/\(a=a/\True)):=⟨rfl,rfl,trivial⟩
theorem Dm(a:Nat):(a=a/\(a=a/\(a=a/\True))):=⟨rfl,rfl,rfl,trivial⟩
theorem FN(a:Nat):(a=a/\(a=a/\(a=a/\(a=a/\(a=a/\(a=a/\True)))))):=⟨rfl,rfl,rfl,rfl,rfl,rfl,trivial⟩
theorem FV(a:Nat):(a=a/\(a=a/\(a=a/\(a=a/\(a=a/\(a=a/\(a=a/\(a=a/\(a=a/\True))))))))):=⟨rfl,rfl,rfl,rfl,rfl,rfl,rfl,rfl,rfl,trivial⟩
theorem Uu(a:Nat):(a=a/\(a=a/\(a=a/\(a=a/\(a=a/\(a=a/\(a=a/\(a=a/\(a=a/\(a=a/\(a=a/\(a=a/\True)))))))))))):=⟨rfl,rfl,rfl,rfl,rfl,rfl,rfl,rfl,rfl,rfl,rfl,rfl,trivial⟩
section
variable {P:Program} {g:FuncId} {args:Array Value} {v:Value}
theorem cv(B:Base)(bs:AD)(gs:BN)(rs:Aw)(os:DV)(h: ∀W,Sx B W bs gs rs os->Calls P g args W λe w'=>e=.returned v/\Below W.heap.size W w'):CallVX P B bs gs rs os g args v:=h
theorem cw(B:Base)(bs:AD)(gs:BN)(rs:Aw)(os:DV)(h: ∀W,Sx B W bs gs rs os->Calls P g args W λe w'=>e=.returned v/\W=w'):CallVX P B bs gs rs os g args v:=CallVX.of h
theorem cb(B:Base)(bs:AD)(gs:BN)(rs:Aw)(os:DV)(z:Int)(h: ∀W,Sx B W bs gs rs os->Calls P g args W λe w'=> ∃A c,e=.returned (.agg #[.bool (sg z),.slice A (nd z) c])/\RB w' A c z/\Below W.heap.size W w'):Nb P B bs gs rs os g args z:=h
end
end
section
open Go.RowKit
theorem hv{a b:Prop}(h:a)(k:a->b):b:=k h
theorem OT(S:(Nat->Nat)->(Nat->Option Addr×Nat)->SD)(ρ:Nat->Nat)(α:Nat->Option Addr×Nat): ∃(ρ':Nat->Nat)(α':Nat->Option Addr×Nat),S ρ α=S ρ' α':=⟨ρ,α,rfl⟩
theorem Ij(I:Lt->Prop)(S:Lt->SD)(z:Lt)(hI:I z)(t:AD)(gs:BN)(rs:Aw)(h1:(S z).gs⊆gs)(h2: ∀r∈(S z).rs,r∈rs)(h3:(S z).rs.all (λr=>decide (r.1<(S z).bs.length))=true):
 ∃ζ,I ζ/\((S z).tmps=(S ζ).tmps/\(∃τ:AD,(S z).bs++t=(S ζ).bs++τ)/\(S ζ).gs⊆gs/\(∀r∈(S ζ).rs,r∈rs)/\(S ζ).rs.all (λr=>decide (r.1<(S ζ).bs.length))=true/\(S z).os=(S ζ).os):=
 ⟨z,hI,rfl,⟨t,rfl⟩,h1,h2,h3,rfl⟩
theorem FY(T:List Item)(I:Lt->Prop)(μ:Lt->Nat)(S:Lt->SD)(z0 z:Lt)(hI:I z)(hμ:μ z<μ z0)(t:AD)(gs:BN)(rs:Aw)(h1:(S z).gs⊆gs)(h2: ∀r∈(S z).rs,r∈rs)(h3:(S z).rs.all (λr=>decide (r.1<(S z).bs.length))=true):
 T=T/\ ∃ζ,I ζ/\μ ζ<μ z0/\((S z).tmps=(S ζ).tmps/\(∃τ:AD,(S z).bs++t=(S ζ).bs++τ)/\(S ζ).gs⊆gs/\(∀r∈(S ζ).rs,r∈rs)/\(S ζ).rs.all (λr=>decide (r.1<(S ζ).bs.length))=true/\(S z).os=(S ζ).os):=
 ⟨rfl,z,hI,hμ,rfl,⟨t,rfl⟩,h1,h2,h3,rfl⟩
end
section
open Go.RowKit
def WS:List Value->Nat->Value
 | [],_=>undef
 |v::_,0=>v
 |_::l,i+1=>WS l i
def lu:List (Nat×List Value)->Nat->Value
 | [],_=>undef
 |(a,l)::t,i=>if(Nat.ble a i&&Nat.blt i (a+l.length))=true then WS l (i-a)else lu t i
def Gn(l:List Value)(n:Nat):Array Value:=(l++List.replicate n undef).toArray
abbrev vI(x:Int):Value:=.int .i64 x
abbrev vU(x:Int):Value:=.int .u64 x
abbrev vP(r:Nat):Value:=.pointer (some ⟨r,0,none⟩)
abbrev vS(r n c:Nat):Value:=.slice (some ⟨r,0,none⟩) n c
abbrev vF:Value:=.bool false
abbrev vT:Value:=.bool true
abbrev vN:Value:=undef
theorem vB{a b:Bool}(h:a=b):Value.bool a=.bool b:=congrArg _ h
theorem vE{a b:Int}(h:a=b):Value.int .i64 a=.int .i64 b:=congrArg _ h
end
section
open Go.RowKit
def Ag(x:Int):Bool:=decide (x>=90528)&&decide (x<=430515)
def FT(has:Bool)(x:Int):Int:=if has then(if Ag x then 0 else 1)else 2
def Bf(has:Bool)(x:Int):Int:=if has&&Ag x then x else 0
def A6(m:Int):Bool:=m==1||m==2
def A8(m:Int):Bool:=m==0||m==3
def Dc(m s co out:Int):Int×Int:=if decide (s+1>out)then(3,0)else if decide (s+1>=co)then(2,s+1)else(1,s+1)
def Ar(m s ev co out:Int):Int×Int:=
 if(A6 m||A8 m)&&ev==3 then(3,0)
 else if((A6 m||A8 m)&&ev==0)||(A6 m&&ev==1)then(1,0)
 else if A6 m&&ev==2 then Dc m s co out
 else(m,s)
theorem Dr(x:Int)(w:World):Calls Tryz.prog 141 #[.int .i64 x] w (λe w'=>e=.returned (.bool (Ag x))/\Below w.heap.size w w'):=by
 exact(let B:Base:=(⟨w,λ_=>False⟩:Base);let R:Ending->World->Prop:=(λe w'=>e=.returned (.bool (Ag x))/\Below w.heap.size w w');AC (f:=141) (B:=B) (R:=R) (es:=[]) (c:=Tryz.f141.body.getD .skip) (tmps:=#[vI x,vN,vN,vN,vN,vN,vN,vN,vN])
  (.s [.c,.c,.v,.c,.c,.c,.v,.v,.v] (.split 5 (.s [.v,.v,.v,.v,.c] (.ret [])) (.s [.u,.u,.v,.v,.c] (.ret []))))
  el (Sx.refl w _) ExX.nil Tryz.func141 el el (Eq.mp el (And.intro (λ(h1:(decide (x>=90528))=true)=>have h1p:x>=90528:=(by simpa using h1);aI trivial ((show AO B R [] [] [] [] (.bool (decide (x<=430515)))from by
     exactλW hS=>⟨by unfold Ag;simp[h1],hS.bl⟩))) (λ(h2:(decide (x>=90528))=false)=>have h2p: ¬(x>=90528):=(by simpa using h2);aI trivial ((show AO B R [] [] [] [] (vF)from by
     exactλW hS=>⟨by unfold Ag;simp[h2],hS.bl⟩))))))
theorem PI(a:Int)(has:Bool)(x:Int)(sh:Bool)(w:World):Calls Tryz.prog 92 #[.agg #[.int .i64 a,.bool has,.int .i64 x,.bool sh]] w (λe w'=>e=.returned (.int .i64 (FT has x))/\Below w.heap.size w w'):=by
 exact(let B:Base:=(⟨w,λ_=>False⟩:Base);let R:Ending->World->Prop:=(λe w'=>e=.returned (.int .i64 (FT has x))/\Below w.heap.size w w');AC (f:=92) (B:=B) (R:=R) (es:=[]) (c:=Tryz.f92.body.getD .skip) (tmps:=#[.agg #[vI a,.bool has,vI x,.bool sh],vN,vN,vN,vN,vN,vN,vN,vN,vN,vN,vN])
  (.s [.c,.c] (.new (λr1=>.s [.v,.c,.c,.c,.c,.c,.v,.own 0,.v,.v,.c] (.split 3 (.s [.c,.c,.c,.v,.c] (.ret [])) (.s [.c,.c,.c,.v,.own 0,.call (.bool (Ag x)),.v,.v,.c] (.split 7 (.s [.c,.c,.c,.v,.c] (.ret [])) (.s [.c,.c,.c,.c,.c,.v,.c] (.ret []))))))))
  el (Sx.refl w _) ExX.nil Tryz.func92 el el (Eq.mp el (λ(r1:Nat)=>let e3:Nat×List Value:=(r1,[vI a,.bool has,vI x,.bool sh]);let bs2:AD:=[e3];let rs4:Aw:=[(0,39,4)];aI (Eq.refl r1) (And.intro (λ(h50:(!has)=true)=>have h5:has=false:=(by simpa using h50);aI trivial ((show AO B R bs2 [] rs4 [] (vI 2)from by
     exactλW hS=>⟨by unfold FT;simp[h5],hS.bl⟩))) (λ(h60:(!has)=false)=>have h6:has=true:=(by simpa using h60);aI (Eq.refl r1) (aI (cv B bs2 [] rs4 [] ((λW hS=>Dr x W))) (And.intro (λ(h70:(!(Ag x))=true)=>have h7:(Ag x)=false:=(by simpa using h70);aI trivial ((show AO B R bs2 [] rs4 [] (vI 1)from by
     exactλW hS=>⟨by unfold FT;simp[h6,h7],hS.bl⟩))) (λ(h80:(!(Ag x))=false)=>have h8:(Ag x)=true:=(by simpa using h80);aI trivial ((show AO B R bs2 [] rs4 [] (vI 0)from by
     exactλW hS=>⟨by unfold FT;simp[h6,h8],hS.bl⟩))))))))))
theorem Ff(a:Int)(has:Bool)(x:Int)(sh:Bool)(w:World):Calls Tryz.prog 34 #[.agg #[.int .i64 a,.bool has,.int .i64 x,.bool sh]] w (λe w'=>e=.returned (.tuple #[.int .i64 (Bf has x),.bool (has&&Ag x)])/\Below w.heap.size w w'):=by
 exact(let B:Base:=(⟨w,λ_=>False⟩:Base);let R:Ending->World->Prop:=(λe w'=>e=.returned (.tuple #[.int .i64 (Bf has x),.bool (has&&Ag x)])/\Below w.heap.size w w');AC (f:=34) (B:=B) (R:=R) (es:=[]) (c:=Tryz.f34.body.getD .skip) (tmps:=#[.agg #[vI a,.bool has,vI x,.bool sh],vN,vN,vN,vN,vN,vN,vN,vN])
  (.s [.c,.c] (.new (λr1=>.s [.v,.v,.c,.c,.c,.c,.own 0,.call (vI (FT has x)),.v,.c] (.split 6 (.s [.c,.c,.c,.v,.v,.c] (.ret [])) (.s [.c,.c,.c,.c,.v,.own 0,.v,.v,.c] (.ret []))))))
  el (Sx.refl w _) ExX.nil Tryz.func34 el el (Eq.mp el (λ(r1:Nat)=>let e3:Nat×List Value:=(r1,[vI a,.bool has,vI x,.bool sh]);let bs2:AD:=[e3];let rs4:Aw:=[(0,39,4)];aI (Eq.refl r1) (aI (cv B bs2 [] rs4 [] ((λW hS=>PI a has x sh W))) (And.intro (λ(h5:((FT has x)!=0)=true)=>have h5p: ¬((FT has x)=0):=(by simpa using h5);aI trivial ((show AO B R bs2 [] rs4 [] (.tuple #[vI 0,vF])from by
     exactλW hS=>⟨by have K:=h5;revert K;unfold FT Bf;cases has<;>cases Ag x<;>simp,hS.bl⟩))) (λ(h6:((FT has x)!=0)=false)=>have h6p:(FT has x)=0:=(by simpa using h6);aI (Eq.refl r1) (aI trivial ((show AO B R bs2 [] rs4 [] (.tuple #[vI x,vT])from by
     exactλW hS=>⟨by have K:=h6;revert K;unfold FT Bf;cases has<;>cases Ag x<;>simp,hS.bl⟩)))))))))
theorem BU(m s:Int)(w:World):Calls Tryz.prog 40 #[.agg #[.int .i64 m,.int .i64 s]] w (λe w'=>e=.returned (.bool (A6 m))/\Below w.heap.size w w'):=by
 exact(let B:Base:=(⟨w,λ_=>False⟩:Base);let R:Ending->World->Prop:=(λe w'=>e=.returned (.bool (A6 m))/\Below w.heap.size w w');AC (f:=40) (B:=B) (R:=R) (es:=[]) (c:=Tryz.f40.body.getD .skip) (tmps:=#[.agg #[vI m,vI s],vN,vN,vN,vN,vN,vN,vN,vN,vN,vN])
  (.s [.c,.c] (.new (λr1=>.s [.v,.c,.c,.c,.v,.own 0,.v,.v] (.split 6 (.s [.u,.u,.u,.v,.v,.c] (.ret [])) (.s [.v,.own 0,.v,.v,.v,.c] (.ret []))))))
  el (Sx.refl w _) ExX.nil Tryz.func40 el el (Eq.mp el (λ(r1:Nat)=>let e3:Nat×List Value:=(r1,[vI m,vI s]);let bs2:AD:=[e3];let rs4:Aw:=[(0,53,2)];aI (Eq.refl r1) (And.intro (λ(h5:(m==1)=true)=>have h5p:m=1:=(by simpa using h5);aI trivial ((show AO B R bs2 [] rs4 [] (vT)from by
     exactλW hS=>⟨by unfold A6;simp[h5],hS.bl⟩))) (λ(h6:(m==1)=false)=>have h6p: ¬(m=1):=(by simpa using h6);aI (Eq.refl r1) (aI trivial ((show AO B R bs2 [] rs4 [] (.bool (m==2))from by
     exactλW hS=>⟨by unfold A6;simp[h6],hS.bl⟩))))))))
theorem CM(m s:Int)(w:World):Calls Tryz.prog 35 #[.agg #[.int .i64 m,.int .i64 s]] w (λe w'=>e=.returned (.bool (A8 m))/\Below w.heap.size w w'):=by
 exact(let B:Base:=(⟨w,λ_=>False⟩:Base);let R:Ending->World->Prop:=(λe w'=>e=.returned (.bool (A8 m))/\Below w.heap.size w w');AC (f:=35) (B:=B) (R:=R) (es:=[]) (c:=Tryz.f35.body.getD .skip) (tmps:=#[.agg #[vI m,vI s],vN,vN,vN,vN,vN,vN,vN,vN,vN,vN])
  (.s [.c,.c] (.new (λr1=>.s [.v,.c,.c,.c,.v,.own 0,.v,.v] (.split 6 (.s [.u,.u,.u,.v,.v,.c] (.ret [])) (.s [.v,.own 0,.v,.v,.v,.c] (.ret []))))))
  el (Sx.refl w _) ExX.nil Tryz.func35 el el (Eq.mp el (λ(r1:Nat)=>let e3:Nat×List Value:=(r1,[vI m,vI s]);let bs2:AD:=[e3];let rs4:Aw:=[(0,53,2)];aI (Eq.refl r1) (And.intro (λ(h5:(m==0)=true)=>have h5p:m=0:=(by simpa using h5);aI trivial ((show AO B R bs2 [] rs4 [] (vT)from by
     exactλW hS=>⟨by unfold A8;simp[h5],hS.bl⟩))) (λ(h6:(m==0)=false)=>have h6p: ¬(m=0):=(by simpa using h6);aI (Eq.refl r1) (aI trivial ((show AO B R bs2 [] rs4 [] (.bool (m==3))from by
     exactλW hS=>⟨by unfold A8;simp[h6],hS.bl⟩))))))))
theorem Mh(m s co out:Int)(hs:0<=s/\s<=1000000)(w:World):Calls Tryz.prog 107 #[.agg #[.int .i64 m,.int .i64 s],.int .i64 co,.int .i64 out] w (λe w'=>e=.returned (.agg #[.int .i64 (Dc m s co out).1,.int .i64 (Dc m s co out).2])/\Below w.heap.size w w'):=by
 exact(let B:Base:=(⟨w,λ_=>False⟩:Base);let R:Ending->World->Prop:=(λe w'=>e=.returned (.agg #[.int .i64 (Dc m s co out).1,.int .i64 (Dc m s co out).2])/\Below w.heap.size w w');AC (f:=107) (B:=B) (R:=R) (es:=[]) (c:=Tryz.f107.body.getD .skip) (tmps:=#[.agg #[vI m,vI s],vI co,vI out,vN,vN,vN,vN,vN,vN,vN,vN,vN,vN,vN,vN,vN,vN,vN,vN,vN,vN,vN,vN,vN,vN,vN])
  (.s [.c,.c] (.new (λr1=>.new (λr5=>.s [.c,.c,.c,.v,.own 0,.v,.setv 10 (vI (s+1)),.v,.put 0] (.s [.c,.c,.c,.c,.v,.own 0,.v,.c,.c,.c,.c,.v,.v,.v,.v,.c] (.split 15 (.s [.c,.c,.c,.v,.put 1] (.s [.c] (.ret [1]))) (.s [.c,.c,.c,.v,.v,.v,.v,.c] (.split 20 (.s [.c,.c,.v,.put 0] (.s [.c,.c,.c,.c,.own 0,.put 1] (.s [.c] (.ret [1])))) (.s [.c,.c,.v,.put 0] (.s [.c,.c,.c,.c,.own 0,.put 1] (.s [.c] (.ret [1]))))))))))))
  el (Sx.refl w _) ExX.nil Tryz.func107 el el (Eq.mp el (λ(r1:Nat)=> λ(r5:Nat)=>let rs8:Aw:=[(0,53,2),(1,53,2)];aI (Eq.refl r1) (aI (vE (a:=(IntKind.i64.wrap (s+1))) (b:=(s+1)) (BE en)) (aI (A_ r1) (aI trivial (let e10:Nat×List Value:=(r1,[vI m,vI (s+1)]);aI (Eq.refl r1) (And.intro (λ(h11:(decide ((s+1)>out))=true)=>have h11p:(s+1)>out:=(by simpa using h11);aI (DR r5) (aI trivial (let e13:Nat×List Value:=(r5,[vI 3,vI 0]);let bs12:AD:=[e10,e13];aI (A_ r5) ((show AO B R bs12 [] rs8 [] (.agg #[vI 3,vI 0])from by
     exactλW hS=>⟨by unfold Dc;simp[h11],hS.bl⟩))))) (λ(h14:(decide ((s+1)>out))=false)=>have h14p: ¬((s+1)>out):=(by simpa using h14);And.intro (λ(h15:(decide ((s+1)>=co))=true)=>have h15p:(s+1)>=co:=(by simpa using h15);aI (A_ r1) (aI trivial (let e17:Nat×List Value:=(r1,[vI 2,vI (s+1)]);aI (Eq.refl r1) (aI (DR r5) (aI trivial (let e19:Nat×List Value:=(r5,[vI 2,vI (s+1)]);let bs18:AD:=[e17,e19];aI (A_ r5) ((show AO B R bs18 [] rs8 [] (.agg #[vI 2,vI (s+1)])from by
     exactλW hS=>⟨by unfold Dc;simp[h14,h15],hS.bl⟩)))))))) (λ(h20:(decide ((s+1)>=co))=false)=>have h20p: ¬((s+1)>=co):=(by simpa using h20);aI (A_ r1) (aI trivial (let e22:Nat×List Value:=(r1,[vI 1,vI (s+1)]);aI (Eq.refl r1) (aI (DR r5) (aI trivial (let e24:Nat×List Value:=(r5,[vI 1,vI (s+1)]);let bs23:AD:=[e22,e24];aI (A_ r5) ((show AO B R bs23 [] rs8 [] (.agg #[vI 1,vI (s+1)])from by
     exactλW hS=>⟨by unfold Dc;simp[h14,h20],hS.bl⟩)))))))))))))))))
theorem FO(m s ev co out:Int)(hs:0<=s/\s<=1000000)(w:World):Calls Tryz.prog 39 #[.agg #[.int .i64 m,.int .i64 s],.int .i64 ev,.int .i64 co,.int .i64 out] w (λe w'=>e=.returned (.agg #[.int .i64 (Ar m s ev co out).1,.int .i64 (Ar m s ev co out).2])/\Below w.heap.size w w'):=by
 exact(let B:Base:=(⟨w,λ_=>False⟩:Base);let R:Ending->World->Prop:=(λe w'=>e=.returned (.agg #[.int .i64 (Ar m s ev co out).1,.int .i64 (Ar m s ev co out).2])/\Below w.heap.size w w');AC (f:=39) (B:=B) (R:=R) (es:=[]) (c:=Tryz.f39.body.getD .skip) (tmps:=#[.agg #[vI m,vI s],vI ev,vI co,vI out,vN,vN,vN,vN,vN,vN,vN,vN,vN,vN,vN,vN,vN,vN,vN,vN,vN,vN,vN,vN,vN,vN,vN,vN,vN,vN,vN,vN,vN,vN,vN,vN,vN,vN,vN,vN,vN,vN,vN,vN,vN,vN,vN,vN])
  (.s [.c,.c] (.new (λr1=>.new (λr5=>.s [.c,.c,.c,.own 0,.call (.bool (A6 m)),.v] (.split 12 (.s [.u,.u,.v,.v,.c,.c,.c,.c,.c,.v,.v,.v,.v,.v,.v,.c] (.split 16 (.s [.c,.c,.c,.v,.put 1] (.s [.c] (.ret [1]))) (.s [.c,.c,.c,.c,.v,.v,.v,.v,.v,.v,.c] (.split 23 (.s [.c,.c,.c,.c,.c,.v,.put 1] (.s [.c] (.ret [1]))) (.s [.c,.c,.own 0,.call (.bool (A6 m)),.v,.setv 31 (vT),.v,.v,.v,.v,.c] (.split 23 (.s [.c,.c,.c,.v,.put 1] (.s [.c] (.ret [1]))) (.s [.c,.c,.c,.own 0,.call (.bool (A6 m)),.v,.setv 39 (vT),.v,.v,.v,.v,.c] (.split 36 (.s [.c,.c,.c,.own 0,.v,.v,.call (.agg #[vI ((Dc m s co out).1),vI ((Dc m s co out).2)]),.put 1] (.s [.c] (.ret [1]))) (.s [.c,.c,.c,.c,.c,.own 0,.put 1] (.s [.c] (.ret [1]))))))))))) (.s [.own 0,.call (.bool (A8 m)),.v,.v,.c,.c,.c,.c,.c,.v,.v] (.split 18 (.s [.v,.v,.v,.v,.c] (.split 16 (.s [.c,.c,.c,.v,.put 1] (.s [.c] (.ret [1]))) (.s [.c,.c,.c,.c,.v,.v,.setv 25 (vT),.v,.v,.v,.v,.c] (.split 23 (.s [.c,.c,.c,.c,.c,.v,.put 1] (.s [.c] (.ret [1]))) (.s [.c,.c,.own 0,.call (.bool (A6 m)),.v,.setv 31 (vF),.u,.u,.v,.v,.c,.c,.c,.c,.own 0,.call (.bool (A6 m)),.v,.setv 39 (vF),.u,.u,.v,.v,.c,.c,.c,.c,.c,.c,.own 0,.put 1] (.s [.c] (.ret [1]))))))) (.s [.u,.u,.v,.v,.c,.c,.c,.c,.c,.v,.v,.setv 25 (vF),.u,.u,.v,.v,.c,.c,.c,.own 0,.call (.bool (A6 m)),.v,.setv 31 (vF),.u,.u,.v,.v,.c,.c,.c,.c,.own 0,.call (.bool (A6 m)),.v,.setv 39 (vF),.u,.u,.v,.v,.c,.c,.c,.c,.c,.c,.own 0,.put 1] (.s [.c] (.ret [1]))))))))))
  el (Sx.refl w _) ExX.nil Tryz.func39 el el (Eq.mp el (λ(r1:Nat)=>let e3:Nat×List Value:=(r1,[vI m,vI s]); λ(r5:Nat)=>let e7:Nat×List Value:=(r5,[vI 0,vI 0]);let bs6:AD:=[e3,e7];let rs8:Aw:=[(0,53,2),(1,53,2)];aI (Eq.refl r1) (aI (cv B bs6 [] rs8 [] ((λW hS=>BU m s W))) (And.intro (λ(h9:(A6 m)=true)=>And.intro (λ(h10:(ev==3)=true)=>have h10p:ev=3:=(by simpa using h10);aI (DR r5) (aI trivial (let e12:Nat×List Value:=(r5,[vI 3,vI 0]);let bs11:AD:=[e3,e12];aI (A_ r5) ((show AO B R bs11 [] rs8 [] (.agg #[vI 3,vI 0])from by
     exactλW hS=>⟨by unfold Ar;simp[h9,h10],hS.bl⟩))))) (λ(h13:(ev==3)=false)=>have h13p: ¬(ev=3):=(by simpa using h13);And.intro (λ(h14:(ev==0)=true)=>have h14p:ev=0:=(by simpa using h14);aI (DR r5) (aI trivial (let e16:Nat×List Value:=(r5,[vI 1,vI 0]);let bs15:AD:=[e3,e16];aI (A_ r5) ((show AO B R bs15 [] rs8 [] (.agg #[vI 1,vI 0])from by
     exactλW hS=>⟨by unfold Ar;simp[h9,h13,h14],hS.bl⟩))))) (λ(h17:(ev==0)=false)=>have h17p: ¬(ev=0):=(by simpa using h17);aI (Eq.refl r1) (aI (cv B bs6 [] rs8 [] ((λW hS=>BU m s W))) (aI (vB (a:=(A6 m)) (b:=true) h9) (And.intro (λ(h18:(ev==1)=true)=>have h18p:ev=1:=(by simpa using h18);aI (DR r5) (aI trivial (let e20:Nat×List Value:=(r5,[vI 1,vI 0]);let bs19:AD:=[e3,e20];aI (A_ r5) ((show AO B R bs19 [] rs8 [] (.agg #[vI 1,vI 0])from by
     exactλW hS=>⟨by unfold Ar;simp[h9,h13,h17,h18],hS.bl⟩))))) (λ(h21:(ev==1)=false)=>have h21p: ¬(ev=1):=(by simpa using h21);aI (Eq.refl r1) (aI (cv B bs6 [] rs8 [] ((λW hS=>BU m s W))) (aI (vB (a:=(A6 m)) (b:=true) h9) (And.intro (λ(h22:(ev==2)=true)=>have h22p:ev=2:=(by simpa using h22);aI (Eq.refl r1) (aI (cv B bs6 [] rs8 [] ((λW hS=>Mh m s co out hs W))) (aI (DR r5) (aI trivial (let e24:Nat×List Value:=(r5,[vI ((Dc m s co out).1),vI ((Dc m s co out).2)]);let bs23:AD:=[e3,e24];aI (A_ r5) ((show AO B R bs23 [] rs8 [] (.agg #[vI ((Dc m s co out).1),vI ((Dc m s co out).2)])from by
     exactλW hS=>⟨by unfold Ar;simp[h9,h13,h17,h21,h22],hS.bl⟩))))))) (λ(h25:(ev==2)=false)=>have h25p: ¬(ev=2):=(by simpa using h25);aI (Eq.refl r1) (aI (DR r5) (aI trivial (let e27:Nat×List Value:=(r5,[vI m,vI s]);let bs26:AD:=[e3,e27];aI (A_ r5) ((show AO B R bs26 [] rs8 [] (.agg #[vI m,vI s])from by
     exactλW hS=>⟨by unfold Ar;simp[h9,h13,h17,h21,h25],hS.bl⟩)))))))))))))))) (λ(h28:(A6 m)=false)=>aI (Eq.refl r1) (aI (cv B bs6 [] rs8 [] ((λW hS=>CM m s W))) (And.intro (λ(h29:(A8 m)=true)=>And.intro (λ(h30:(ev==3)=true)=>have h30p:ev=3:=(by simpa using h30);aI (DR r5) (aI trivial (let e32:Nat×List Value:=(r5,[vI 3,vI 0]);let bs31:AD:=[e3,e32];aI (A_ r5) ((show AO B R bs31 [] rs8 [] (.agg #[vI 3,vI 0])from by
     exactλW hS=>⟨by unfold Ar;simp[h28,h29,h30],hS.bl⟩))))) (λ(h33:(ev==3)=false)=>have h33p: ¬(ev=3):=(by simpa using h33);aI (vB (a:=(A8 m)) (b:=true) h29) (And.intro (λ(h34:(ev==0)=true)=>have h34p:ev=0:=(by simpa using h34);aI (DR r5) (aI trivial (let e36:Nat×List Value:=(r5,[vI 1,vI 0]);let bs35:AD:=[e3,e36];aI (A_ r5) ((show AO B R bs35 [] rs8 [] (.agg #[vI 1,vI 0])from by
     exactλW hS=>⟨by unfold Ar;simp[h28,h29,h33,h34],hS.bl⟩))))) (λ(h37:(ev==0)=false)=>have h37p: ¬(ev=0):=(by simpa using h37);aI (Eq.refl r1) (aI (cv B bs6 [] rs8 [] ((λW hS=>BU m s W))) (aI (vB (a:=(A6 m)) (b:=false) h28) (aI (Eq.refl r1) (aI (cv B bs6 [] rs8 [] ((λW hS=>BU m s W))) (aI (vB (a:=(A6 m)) (b:=false) h28) (aI (Eq.refl r1) (aI (DR r5) (aI trivial (let e39:Nat×List Value:=(r5,[vI m,vI s]);let bs38:AD:=[e3,e39];aI (A_ r5) ((show AO B R bs38 [] rs8 [] (.agg #[vI m,vI s])from by
     exactλW hS=>⟨by unfold Ar;simp[h28,h29,h33,h37],hS.bl⟩))))))))))))))) (λ(h40:(A8 m)=false)=>aI (vB (a:=(A8 m)) (b:=false) h40) (aI (Eq.refl r1) (aI (cv B bs6 [] rs8 [] ((λW hS=>BU m s W))) (aI (vB (a:=(A6 m)) (b:=false) h28) (aI (Eq.refl r1) (aI (cv B bs6 [] rs8 [] ((λW hS=>BU m s W))) (aI (vB (a:=(A6 m)) (b:=false) h28) (aI (Eq.refl r1) (aI (DR r5) (aI trivial (let e42:Nat×List Value:=(r5,[vI m,vI s]);let bs41:AD:=[e3,e42];aI (A_ r5) ((show AO B R bs41 [] rs8 [] (.agg #[vI m,vI s])from by
     exactλW hS=>⟨by unfold Ar;simp[h28,h40],hS.bl⟩)))))))))))))))))))))
end
end Go.Proofs.YtikajapjkdloaaaGreatDoor
