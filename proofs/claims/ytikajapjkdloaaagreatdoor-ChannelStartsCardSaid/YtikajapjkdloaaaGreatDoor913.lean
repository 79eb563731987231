/- Layer 18 (ground), walked, but for Level (it defers). -/
import Derived.Test.YtikajapjkdloaaaGreatDoor912
namespace Go.Proofs.YtikajapjkdloaaaGreatDoor
set_option linter.unusedVariables false
set_option linter.unusedSimpArgs false
section
set_option maxRecDepth 1000000
set_option maxHeartbeats 8000000
open Go.RowKit
def Bt(bd gc:Int)(kn:Bool)(x:Int):Bool:=Ag x&&(kn&&decide (gc-x<=bd))
theorem RR{x:Int}(h:Ag x=true):90528<=x/\x<=430515:=by
 unfold Ag at h;simp only[Bool.and_eq_true,decide_eq_true_eq]at h;omega
theorem NJ(g:Nat)(bd no ro gc:Int)(kn:Bool)(x:Int)(hgc:0<=gc/\gc<=430515)(w:World)(hb:g<w.heap.size)(hc: ∀(i:Nat)(v:Value),([.int .i64 bd,.int .i64 no,.int .i64 ro,.int .i64 gc,.bool kn]:List Value)[i]? =some v->w.cell? ⟨g,i,none⟩=some v):Calls Tryz.prog 152 #[.pointer (some ⟨g,0,none⟩),.int .i64 x] w (λe w'=>e=.returned (.bool (Bt bd gc kn x))/\Below w.heap.size w w'):=by
 exact(let B:Base:=(⟨w,λ_=>False⟩:Base);let R:Ending->World->Prop:=(λe w'=>e=.returned (.bool (Bt bd gc kn x))/\Below w.heap.size w w');AC (f:=152) (B:=B) (R:=R) (es:=[(g,[.int .i64 bd,.int .i64 no,.int .i64 ro,.int .i64 gc,.bool kn])]) (c:=Tryz.f152.body.getD .skip) (tmps:=#[vP g,vI x,vN,vN,vN,vN,vN,vN,vN,vN,vN,vN,vN,vN,vN,vN,vN,vN,vN,vN,vN,vN,vN,vN,vN,vN])
  (.s [.c,.c,.v,.c,.c,.d [],.at 0 false,.v,.at 1 true,.call (.bool (Ag x)),.at 2 false,.v] (.split 7 (.s [.at 3 false,.v,.at 4 false,.v,.at 5 false,.v,.at 6 false,.ext 0,.at 7 false,.v,.at 8 false,.v] (.split 13 (.s [.at 9 false,.v,.at 10 false,.v,.at 11 false,.v,.at 12 false,.ext 0,.at 13 false,.v,.at 14 false,.v,.setv 19 (vI (gc-x)),.at 15 false,.v,.at 16 false,.v,.at 17 false,.v,.at 18 false,.ext 0,.at 19 false,.v,.at 20 false,.v,.at 21 false,.v,.c] (.ret [])) (.s [.at 9 false,.u,.at 10 false,.u,.at 11 false,.u,.at 12 false,.u,.at 13 false,.u,.at 14 false,.u,.at 15 false,.u,.at 16 false,.u,.at 17 false,.u,.at 18 false,.u,.at 19 false,.u,.at 20 false,.v,.at 21 false,.v,.c] (.ret [])))) (.s [.at 3 false,.u,.at 4 false,.u,.at 5 false,.u,.at 6 false,.u,.at 7 false,.v,.at 8 false,.v,.at 9 false,.u,.at 10 false,.u,.at 11 false,.u,.at 12 false,.u,.at 13 false,.u,.at 14 false,.u,.at 15 false,.u,.at 16 false,.u,.at 17 false,.u,.at 18 false,.u,.at 19 false,.u,.at 20 false,.v,.at 21 false,.v,.c] (.ret []))))
  el (Sx.refl w _) (by exact ExX.cons ⟨hb,id,hc⟩ (ExX.nil)) Tryz.func152 el el (Eq.mp el (aI (cv B [] [] [] [] ((λW hS=>Dr x W))) (And.intro (λ(h1:(Ag x)=true)=>have GX:=RR h1;aI (Eq.refl g) (And.intro (λ(h2:kn=true)=>aI (Eq.refl g) (aI (vE (a:=(IntKind.i64.wrap (gc-x))) (b:=(gc-x)) (BE en)) (aI (Eq.refl g) (aI trivial ((show AO B R [] [] [] [] (.bool (decide ((gc-x)<=bd)))from by
     exactλW hS=>⟨by unfold Bt;simp[h1,h2],hS.bl⟩)))))) (λ(h3:kn=false)=>aI trivial ((show AO B R [] [] [] [] (vF)from by
     exactλW hS=>⟨by unfold Bt;simp[h1,h3],hS.bl⟩))))) (λ(h4:(Ag x)=false)=>aI trivial ((show AO B R [] [] [] [] (vF)from by
     exactλW hS=>⟨by unfold Bt;simp[h4],hS.bl⟩)))))))
theorem Jw(g:Nat)(bd no ro gc x:Int)(hx:Ag x=true)(w:World)(hS0:Sx (AH w [(g,[.int .i64 bd,.int .i64 no,.int .i64 ro,.int .i64 gc,.bool true])] []) w [(g,[.int .i64 bd,.int .i64 no,.int .i64 ro,.int .i64 gc,.bool true])] [] [] []):Calls Tryz.prog 96 #[.pointer (some ⟨g,0,none⟩),.int .i64 x] w (λe w'=> ∃ρ:Nat->Nat,e=.returned (.int .i64 7)/\Sx (AH w [(g,[.int .i64 bd,.int .i64 no,.int .i64 ro,.int .i64 gc,.bool true])] []) w' [(g,[.int .i64 bd,.int .i64 no,.int .i64 ro,.int .i64 gc,.bool true])] [] [] []):=by
 exact(let B:Base:=(AH w [(g,[.int .i64 bd,.int .i64 no,.int .i64 ro,.int .i64 gc,.bool true])] []);let R:Ending->World->Prop:=(λe w'=> ∃ρ:Nat->Nat,e=.returned (.int .i64 7)/\Sx (AH w [(g,[.int .i64 bd,.int .i64 no,.int .i64 ro,.int .i64 gc,.bool true])] []) w' [(g,[.int .i64 bd,.int .i64 no,.int .i64 ro,.int .i64 gc,.bool true])] [] [] []);AC (f:=96) (B:=B) (R:=R) (es:=[]) (c:=Tryz.f96.body.getD .skip) (tmps:=#[vP g,vI x,vN,vN,vN,vN,vN,vN,vN,vN,vN,vN,vN,vN,vN,vN,vN,vN,vN,vN,vN])
  (.s [.c,.c,.v,.c,.c,.c,.c,.c,.v,.call (.bool (Ag x)),.v,.v,.c,.setv 5 (vF),.c,.c,.c,.v,.v,.v,.own 0,.v,.c,.c,.c,.c,.v,.c] (.ret []))
  el hS0 ExX.nil Tryz.func96 el el (Eq.mp el (let e2:Nat×List Value:=(g,[vI bd,vI no,vI ro,vI gc,vT]);let bs1:AD:=[e2];aI (cv B bs1 [] [] [] ((λW hS=>Dr x W))) (aI (show Value.bool (!(Ag x))=vF from(by rw[(hx:(Ag x)=true)];rfl)) (aI (Eq.refl g) (aI trivial ((show AO B R bs1 [] [] [] (vI 7)from by
     exactλW hS=>⟨λ_=>0,rfl,(hS.sel [0] rfl eo).norows⟩))))))))
theorem Jz(g:Nat)(bd no ro gc x:Int)(hx:Ag x=true)(w:World)(hS0:Sx (AH w [(g,[.int .i64 bd,.int .i64 no,.int .i64 ro,.int .i64 gc,.bool false])] []) w [(g,[.int .i64 bd,.int .i64 no,.int .i64 ro,.int .i64 gc,.bool false])] [] [] []):Calls Tryz.prog 96 #[.pointer (some ⟨g,0,none⟩),.int .i64 x] w (λe w'=> ∃ρ:Nat->Nat,e=.returned (.int .i64 0)/\Sx (AH w [(g,[.int .i64 bd,.int .i64 no,.int .i64 ro,.int .i64 gc,.bool false])] []) w' [(g,[.int .i64 bd,.int .i64 no,.int .i64 ro,.int .i64 x,.bool true])] [] [] []):=by
 exact(let B:Base:=(AH w [(g,[.int .i64 bd,.int .i64 no,.int .i64 ro,.int .i64 gc,.bool false])] []);let R:Ending->World->Prop:=(λe w'=> ∃ρ:Nat->Nat,e=.returned (.int .i64 0)/\Sx (AH w [(g,[.int .i64 bd,.int .i64 no,.int .i64 ro,.int .i64 gc,.bool false])] []) w' [(g,[.int .i64 bd,.int .i64 no,.int .i64 ro,.int .i64 x,.bool true])] [] [] []);AC (f:=96) (B:=B) (R:=R) (es:=[]) (c:=Tryz.f96.body.getD .skip) (tmps:=#[vP g,vI x,vN,vN,vN,vN,vN,vN,vN,vN,vN,vN,vN,vN,vN,vN,vN,vN,vN,vN,vN])
  (.s [.c,.c,.v,.c,.c,.c,.c,.c,.v,.call (.bool (Ag x)),.v,.v,.c,.setv 5 (vF),.c,.c,.c,.v,.v,.v,.own 0,.v,.c,.c,.c,.c,.c,.c,.v,.v,.v,.v,.v,.put 0] (.s [.v,.v,.put 0] (.s [.c,.c,.c,.v,.c] (.ret []))))
  el hS0 ExX.nil Tryz.func96 el el (Eq.mp el (let e2:Nat×List Value:=(g,[vI bd,vI no,vI ro,vI gc,vF]);let bs1:AD:=[e2];aI (cv B bs1 [] [] [] ((λW hS=>Dr x W))) (aI (show Value.bool (!(Ag x))=vF from(by rw[(hx:(Ag x)=true)];rfl)) (aI (Eq.refl g) (aI (A_ g) (aI trivial (aI (A_ g) (aI trivial (let e6:Nat×List Value:=(g,[vI bd,vI no,vI ro,vI x,vT]);let bs5:AD:=[e6];aI trivial ((show AO B R bs5 [] [] [] (vI 0)from by
     exactλW hS=>⟨λ_=>0,rfl,(hS.sel [0] rfl eo).norows⟩))))))))))))
theorem Nn(bd no ro:Int)(w:World):Calls Tryz.prog 32 #[.int .i64 bd,.int .i64 no,.int .i64 ro] w (λe w'=> ∃r:Nat,e=.returned (.pointer (some ⟨r,0,none⟩))/\Sx (⟨w,λ_=>False⟩:Base) w' [(r,[.int .i64 (max bd 0),.int .i64 no,.int .i64 ro,.int .i64 0,.bool false])] [] [] []):=by
 exact(let B:Base:=(⟨w,λ_=>False⟩:Base);let R:Ending->World->Prop:=(λe w'=> ∃r:Nat,e=.returned (.pointer (some ⟨r,0,none⟩))/\Sx (⟨w,λ_=>False⟩:Base) w' [(r,[.int .i64 (max bd 0),.int .i64 no,.int .i64 ro,.int .i64 0,.bool false])] [] [] []);AC (f:=32) (B:=B) (R:=R) (es:=[]) (c:=Tryz.f32.body.getD .skip) (tmps:=#[vI bd,vI no,vI ro,vN,vN,vN,vN,vN,vN,vN,vN,vN,vN])
  (.s [.c,.c,.v,.c,.c,.c,.v,.v,.setv 8 (vI (max bd 0)),.v,.v,.v] (.new (λr1=>.s [.v,.c] (.ret []))))
  el (Sx.refl w _) ExX.nil Tryz.func32 el el (Eq.mp el (aI (vE (a:=(if 0>bd then 0 else bd)) (b:=(max bd 0)) (by rw[Int.max_def];split<;>split<;>omega)) (λ(r1:Nat)=>let e3:Nat×List Value:=(r1,[vI (max bd 0),vI no,vI ro,vI 0,vF]);let bs2:AD:=[e3];let rs4:Aw:=[(0,122,5)];aI trivial ((show AO B R bs2 [] rs4 [] (vP r1)from by
     exactλW hS=>⟨_,rfl,(hS.sel [0] rfl eo).norows⟩))))))
end
section
open Go.RowKit
def Dj(zs:List Int):Nat->Int
 |0=>0
 |k+1=>Dj zs k+zs.getD k 0
def EK(zs:List Int):Int:=Int.tdiv (Dj zs 16) 16
theorem FM{x:Int}(h:Ag x=true):90528<=x/\x<=430515:=by
 unfold Ag at h;simp only[Bool.and_eq_true,decide_eq_true_eq]at h;omega
theorem Mo{zs:List Int}(hz: ∀j,j<16->Ag (zs.getD j 0)=true): ∀k:Nat,k<=16->90528*(k:Int)<=Dj zs k/\Dj zs k<=430515*(k:Int):=by
 intro k
 induction k with
 |zero=>intro _;show _<=(0:Int)/\(0:Int)<=_;omega
 |succ k ih=>
  intro hk
  have a:=ih en
  have b:=FM (hz k en)
  show _<=Dj zs k+zs.getD k 0/\Dj zs k+zs.getD k 0<=_
  omega
theorem EU{zs:List Int}(hz: ∀j,j<16->Ag (zs.getD j 0)=true):Ag (EK zs)=true:=by
 have a:=Mo hz 16 en
 unfold Ag EK
 have h0:0<=Dj zs 16:=by omega
 rw[Int.tdiv_eq_ediv_of_nonneg h0]
 simp only[Bool.and_eq_true,decide_eq_true_eq]
 omega
theorem VN(zs:List Int)(hz: ∀j,j<16->Ag (zs.getD j 0)=true): -9223372036854775808<=Int.tdiv (Dj zs 16) 16/\Int.tdiv (Dj zs 16) 16<=9223372036854775807:=by
 have h:=FM (EU hz)
 unfold EK at h
 omega
theorem OL{P:Program}{b off:Nat}{ty:TypeId}{cs:List Value}{v:Value}{W:World}(hd:(P.underlying ty).map D3=some false)(hi:((P.info? ty).map (·.size)).isSome=true)(hv:cs[off]? =some v)
 (hc: ∀i v,cs[i]? =some v->W.cell? ⟨b,i,none⟩=some v):(Instr.loadAt ty (.pointer (some ⟨b,off,none⟩))).run P W=.ok v W:=by
 obtain⟨s,hs⟩:=Option.isSome_iff_exists.1 hi
 refine Cc (b:=b) (cs:=cs) (q:=b=b) ?_ rfl hc
 show(match(P.underlying ty).map D3,(P.info? ty).map (·.size)with
  |some true,some n=>if off+n<=cs.length then some (Value.agg ((cs.drop off).take n).toArray,b=b)else none
  |some false,some _=>(cs[off]?).map (·,b=b)
  |_,_=>none)=_
 rw[hd,hs,hv];rfl
theorem Qn(b n c k:Nat)(h:k<n):IJ Tryz.prog (do pure (.value (<-Instr.indexAt 42 (.slice (some ⟨b,0,none⟩) n c) (.int .i64 (k:Int))))) (.pointer (some ⟨b,k,none⟩)):=by
 intro W
 have hu:Tryz.prog.underlying 42=some (.slice 2):=by kernel_rfl
 simp[Instr.indexAt,run_underlying hu,asIntOf,h,Addr.add_lit]
theorem HK(es sb:AD){b k:Nat}{zs:List Int}(hm:(b,zs.map (Value.int .i64))∈es)(hk:k<zs.length):VR Tryz.prog es sb (do pure (.value (<-Instr.loadAt 2 (.pointer (some ⟨b,k,none⟩))))) (.int .i64 (zs.getD k 0)):=by
 intro W hW
 have:=OL (P:=Tryz.prog) (ty:=2) (cs:=zs.map (Value.int .i64)) (off:=k) (v:=.int .i64 (zs.getD k 0)) el el (by simp[List.getElem?_eq_getElem hk,List.getD_eq_getElem?_getD]) (hW.2 _ hm)
 simp[this]
set_option maxRecDepth 1000000 in
set_option maxHeartbeats 8000000 in
theorem TL(zs:List Int)(b c:Nat)(hl:zs.length=16)(hz: ∀j,j<16->Ag (zs.getD j 0)=true)(w:World)(hb:b<w.heap.size)(hc: ∀(i:Nat)(v:Value),(zs.map (Value.int .i64))[i]? =some v->w.cell? ⟨b,i,none⟩=some v):Calls Tryz.prog 93 #[.slice (some ⟨b,0,none⟩) 16 c] w (λe w'=>e=.returned (.tuple #[.int .i64 (EK zs),.int .i64 0])/\Below w.heap.size w w'):=by
 exact(let B:Base:=(⟨w,λ_=>False⟩:Base);let R:Ending->World->Prop:=(λe w'=>e=.returned (.tuple #[.int .i64 (EK zs),.int .i64 0])/\Below w.heap.size w w');let I2:Lt->Prop:= λζ=>ζ.k<=16;let M3:Lt->Nat:= λζ=>16-ζ.k;let S4:Lt->SD:= λζ=>(⟨#[vS b 16 c,vN,(ζ.u 2),(ζ.u 3),vI (Dj zs ζ.k),vN,(ζ.u 6),vS b 16 c,vI 16,vF,vS b 16 c,vI 16,vI ((ζ.k:Nat):Int),(ζ.u 13),(ζ.u 14),(ζ.u 15),(ζ.u 16),(ζ.u 17),(ζ.u 18),(ζ.u 19),(ζ.u 20),(ζ.u 21),(ζ.u 22),vN,vN,vN,vN],[],[],[],[]⟩:SD);let Z6:(Lt)->Lt:= λ(X1:Lt)=>(⟨X1.k+1,λ_=>0,lu [(2,[(X1.u 2),(X1.u 3)]),(6,[vI (zs.getD (X1.k) 0)]),(13,[vT,.pointer (some ⟨b,X1.k,none⟩),vI (zs.getD (X1.k) 0),vI (zs.getD (X1.k) 0),.bool (Ag (zs.getD (X1.k) 0)),vF,vI (Dj zs X1.k),vI (zs.getD (X1.k) 0),vI (Dj zs (X1.k+1)),vI ((X1.k+1:Nat):Int)])],λ_=>(none,0),λ_=>0,λ_=>[]⟩:Lt);AC (f:=93) (B:=B) (R:=R) (es:=[(b,(zs.map (Value.int .i64)))]) (c:=Tryz.f93.body.getD .skip) (tmps:=#[vS b 16 c,vN,vN,vN,vN,vN,vN,vN,vN,vN,vN,vN,vN,vN,vN,vN,vN,vN,vN,vN,vN,vN,vN,vN,vN,vN,vN])
  (.s [.c,.c,.v,.v,.c,.c,.c,.c,.v,.v,.v,.c,.c,.c,.c,.c,.v,.c,.c,.c,.c,.v,.v,.v,.c,.c,.c] (.loop (σ:=Lt) I2 M3 S4 (λX1=>.s [.c,.c,.v,.c,.c] (.split 13 (.s [.c,.c,.c,.c,.c,.c,.fact (.pointer (some ⟨b,X1.k,none⟩)),.ld (vI (zs.getD (X1.k) 0)),.v,.c,.c,.c,.c,.v,.call (.bool (Ag (zs.getD (X1.k) 0))),.v,.c,.setv 18 (vF),.c,.c,.c,.v,.v,.v,.setv 21 (vI (Dj zs (X1.k+1))),.v,.c,.c,.c,.v,.setv 22 (vI ((X1.k+1:Nat):Int)),.v,.c,.c] (.again 0)) (.s [.c,.c,.c,.c,.v,.v,.v,.v,.setv 26 (vI (EK zs)),.v,.v,.c] (.ret []))))))
  el (Sx.refl w _) (by exact ExX.cons ⟨hb,id,hc⟩ (ExX.nil)) Tryz.func93 el el (Eq.mp el (And.intro (Ij I2 S4 ((⟨0,λ_=>0,lu [(2,[vI 0,vI 0])],λ_=>(none,0),λ_=>0,λ_=>[]⟩:Lt)) (show(⟨0,λ_=>0,lu [(2,[vI 0,vI 0])],λ_=>(none,0),λ_=>0,λ_=>[]⟩:Lt).k<=16 from by(exact Nat.zero_le _)) [] [] [] (λ_ h=>h) (λ_ h=>h) el) (λ(X1:Lt)(hI0:X1.k<=16)=>And.intro (λ(h5:(decide (((X1.k:Nat):Int)<16))=true)=>have h5p:((X1.k:Nat):Int)<16:=(by simpa using h5);aI (Qn b 16 c X1.k en) (aI (HK [(b,(zs.map (Value.int .i64)))] [] (b:=b) (k:=X1.k) (zs:=zs) (List.mem_cons_self ..) en) (aI (cv B [] [] [] [] ((λW hS=>Dr (zs.getD (X1.k) 0) W))) (aI (show Value.bool (!(Ag (zs.getD (X1.k) 0)))=vF from(by rw[((hz X1.k en):(Ag (zs.getD (X1.k) 0))=true)];rfl)) (aI (vE (a:=(IntKind.i64.wrap ((Dj zs X1.k)+(zs.getD (X1.k) 0)))) (b:=(Dj zs (X1.k+1))) (show IntKind.i64.wrap ((Dj zs X1.k)+(zs.getD (X1.k) 0))=Dj zs (X1.k+1)from BE (by have A:=Mo hz X1.k en;have G:=FM (hz X1.k en);omega))) (aI (vE (a:=(IntKind.i64.wrap (((X1.k:Nat):Int)+1))) (b:=((X1.k+1:Nat):Int)) (by rw[BE en];rfl)) ((FY (Ax 14 [false] [.code (Tryz.f93.body.getD .skip)]) I2 M3 S4 X1 ((Z6 X1)) (show(Z6 X1).k<=16 from by(show X1.k+1<=16);(omega)) (show(16-(Z6 X1).k)<(16-X1.k)from by(show 16-(X1.k+1)<16-X1.k);(omega)) [] [] [] (λ_ h=>h) (λ_ h=>h) el)))))))) (λ(h7:(decide (((X1.k:Nat):Int)<16))=false)=>have h7p: ¬(((X1.k:Nat):Int)<16):=(by simpa using h7);aI (vE (a:=(IntKind.i64.wrap (Int.tdiv (Dj zs X1.k) 16))) (b:=(EK zs)) (show IntKind.i64.wrap (Int.tdiv (Dj zs X1.k) 16)=EK zs from by rw[show X1.k=16 from by omega];exact BE (VN zs hz))) (aI trivial ((show AO B R [] [] [] [] (.tuple #[vI (EK zs),vI 0])from by
     exactλW hS=>⟨rfl,hS.bl⟩))))))))
end
section
set_option maxRecDepth 1000000
set_option maxHeartbeats 8000000
open Go.RowKit
def tabL:List Int:=[430515,417754,405300,393149,381294,369731,358453,347455,336732,326279,316090,306161,296485,287058,277876,268933,260224,251746,243492,235459,227641,220036,212637,205441,198444,191640,185027,178600,172355,166288,160395,154672,149116,143723,138488,133409,128482,123703,119069,114577,110223,106004,101917,97958,94125,90414,86822]
def BG(x:Int):Nat:=tabL.findIdx λc=>decide (c<x)
theorem Ur{x:Int}{k:Nat}(hk:k<47)(h:decide (tabL.getD k 0<x)=true)(hj: ∀j,j<k->decide (tabL.getD j 0<x)=false):BG x=k:=by
 have hl:k<tabL.length:=hk
 unfold BG
 rw[List.findIdx_eq hl]
 refine⟨?_,λj hj'=> ?_⟩
 ·rw[List.getD_eq_getElem?_getD,List.getElem?_eq_getElem hl]at h;exact h
 have:=hj j hj'
 rw[List.getD_eq_getElem?_getD,List.getElem?_eq_getElem en]at this;exact this
theorem NT(c x:Int)(r:Nat)(w:World)(hr:r<w.heap.size)(hx: ∀(i:Nat)(v:Value),([.int .i64 x]:List Value)[i]? =some v->w.cell? ⟨r,i,none⟩=some v):Calls Tryz.prog 143 #[.int .i64 c,.pointer (some ⟨r,0,none⟩)] w (λe w'=>e=.returned (.bool (decide (c<x)))/\Below w.heap.size w w'):=by
 exact(let B:Base:=(⟨w,λ_=>False⟩:Base);let R:Ending->World->Prop:=(λe w'=>e=.returned (.bool (decide (c<x)))/\Below w.heap.size w w');AC (f:=143) (B:=B) (R:=R) (es:=[(r,[.int .i64 x])]) (c:=Tryz.f143.body.getD .skip) (tmps:=#[vI c,vP r,vN,vN,vN,vN,vN])
  (.s [.c,.c,.v,.c,.c,.c,.v,.ext 0,.v,.v,.c] (.ret []))
  el (Sx.refl w _) (by exact ExX.cons ⟨hr,id,hx⟩ (ExX.nil)) Tryz.func143 el el (Eq.mp el (aI (Eq.refl r) (aI trivial ((show AO B R [] [] [] [] (.bool (decide (c<x)))from by
     exactλW hS=>⟨rfl,hS.bl⟩))))))
theorem Qy{x:Int}{k:Nat}(hx:Ag x=true)(hk:k<=46)(h:decide (tabL.getD k 0<x)=false):k+1<=46:=by
 have g:=FM hx
 rcases Nat.lt_or_eq_of_le hk with q|q
 ·omega
 subst q
 rw[show tabL.getD 46 0=86822 from rfl]at h
 simp only[decide_eq_false_iff_not]at h
 omega
theorem Mv(x:Int)(g r:Nat)(hx0:Ag x=true)(w:World)(hg:g<w.heap.size)(hc: ∀(i:Nat)(v:Value),(tabL.map (Value.int .i64))[i]? =some v->w.cell? ⟨g,i,none⟩=some v)(hr:r<w.heap.size)(hx: ∀(i:Nat)(v:Value),([.int .i64 x]:List Value)[i]? =some v->w.cell? ⟨r,i,none⟩=some v):Calls Tryz.prog 142 #[.slice (some ⟨g,0,none⟩) 47 47,.func (.func 143) #[] #[.pointer (some ⟨r,0,none⟩)]] w (λe w'=>e=.returned (.int .i64 ((BG x:Nat):Int))/\Below w.heap.size w w'):=by
 exact(let B:Base:=(⟨w,λ_=>False⟩:Base);let R:Ending->World->Prop:=(λe w'=>e=.returned (.int .i64 ((BG x:Nat):Int))/\Below w.heap.size w w');let I2:Lt->Prop:= λζ=>(ζ.k<=46/\ ∀j,j<ζ.k->decide (tabL.getD j 0<x)=false);let M3:Lt->Nat:= λζ=>46-ζ.k;let S4:Lt->SD:= λζ=>(⟨#[vS g 47 47,.func (.func 143) #[] #[vP r],vN,vN,(ζ.u 4),(ζ.u 5),vS g 47 47,vI 47,vI ((ζ.k:Nat):Int),(ζ.u 9),(ζ.u 10),(ζ.u 11),(ζ.u 12),(ζ.u 13),(ζ.u 14),(ζ.u 15),(ζ.u 16),(ζ.u 17),(ζ.u 18)],[],[],[],[]⟩:SD);let Z7:(Lt)->Lt:= λ(X1:Lt)=>(⟨X1.k+1,λ_=>0,lu [(4,[(X1.u 4),vI ((X1.k:Nat):Int)]),(9,[vT,vI ((X1.k:Nat):Int),.func (.func 143) #[] #[vP r],vS g 47 47,vI ((X1.k:Nat):Int),.pointer (some ⟨g,X1.k,none⟩),vI (tabL.getD (X1.k) 0),vF,(X1.u 17),vI ((X1.k+1:Nat):Int)])],λ_=>(none,0),λ_=>0,λ_=>[]⟩:Lt);AC (f:=142) (B:=B) (R:=R) (es:=[(g,(tabL.map (Value.int .i64))),(r,[.int .i64 x])]) (c:=Tryz.f142.body.getD .skip) (tmps:=#[vS g 47 47,.func (.func 143) #[] #[vP r],vN,vN,vN,vN,vN,vN,vN,vN,vN,vN,vN,vN,vN,vN,vN,vN,vN])
  (.s [.c,.c,.v,.c,.c,.c,.c,.v,.v,.v,.c,.c,.c] (.loop (σ:=Lt) I2 M3 S4 (λX1=>.s [.c,.c,.v,.c,.c,.setv 9 (vT),.c,.c,.c,.c,.c,.c,.v,.v,.c,.c,.c,.v,.v,.v,.fact (.pointer (some ⟨g,X1.k,none⟩)),.ld (vI (tabL.getD (X1.k) 0)),.call (.bool (decide ((tabL.getD (X1.k) 0)<x))),.c] (.split 16 (.s [.c,.c,.c,.v,.v,.c] (.ret [])) (.s [.c,.c,.c,.c,.v,.setv 18 (vI ((X1.k+1:Nat):Int)),.v,.c,.c] (.again 0))))))
  el (Sx.refl w _) (by exact ExX.cons ⟨hg,id,hc⟩ (ExX.cons ⟨hr,id,hx⟩ (ExX.nil))) Tryz.func142 el el (Eq.mp el (And.intro (Ij I2 S4 ((⟨0,λ_=>0,lu [(4,[vI 0])],λ_=>(none,0),λ_=>0,λ_=>[]⟩:Lt)) (show((⟨0,λ_=>0,lu [(4,[vI 0])],λ_=>(none,0),λ_=>0,λ_=>[]⟩:Lt).k<=46/\ ∀j,j<(⟨0,λ_=>0,lu [(4,[vI 0])],λ_=>(none,0),λ_=>0,λ_=>[]⟩:Lt).k->decide (tabL.getD j 0<x)=false)from by(exact⟨Nat.zero_le _,λj hj=>absurd hj (Nat.not_lt_zero j)⟩)) [] [] [] (λ_ h=>h) (λ_ h=>h) el) (λ(X1:Lt)(hI0:(X1.k<=46/\ ∀j,j<X1.k->decide (tabL.getD j 0<x)=false))=>have K:=hI0.1;have GX:=FM hx0;aI (vB (a:=(decide (((X1.k:Nat):Int)<47))) (b:=true) (decide_eq_true en)) (aI (Qn g 47 47 X1.k en) (aI (HK [(g,(tabL.map (Value.int .i64))),(r,[vI x])] [] (b:=g) (k:=X1.k) (zs:=tabL) (List.mem_cons_self ..) (show X1.k<47 by omega)) (aI (cv B [] [] [] [] ((λW hS=>NT (tabL.getD (X1.k) 0) x r W (Nat.lt_of_lt_of_le hr hS.bx.size) (λi v h=>hS.oldc id (hx i v h))))) (And.intro (λ(h5:(decide ((tabL.getD (X1.k) 0)<x))=true)=>have h5p:(tabL.getD (X1.k) 0)<x:=(by simpa using h5);have MI:=Ur (x:=x) (k:=X1.k) en h5 hI0.2;aI trivial ((show AO B R [] [] [] [] (vI ((X1.k:Nat):Int))from by
     exactλW hS=>⟨by rw[MI],hS.bl⟩))) (λ(h6:(decide ((tabL.getD (X1.k) 0)<x))=false)=>have h6p: ¬((tabL.getD (X1.k) 0)<x):=(by simpa using h6);have MN:decide (tabL.getD X1.k 0<x)=false:=h6;have M46:=Qy hx0 K h6;aI (vE (a:=(IntKind.i64.wrap (((X1.k:Nat):Int)+1))) (b:=((X1.k+1:Nat):Int)) (by rw[BE en];rfl)) ((FY (Ax 7 [] [.code (Tryz.f142.body.getD .skip)]) I2 M3 S4 X1 ((Z7 X1)) (show((Z7 X1).k<=46/\ ∀j,j<(Z7 X1).k->decide (tabL.getD j 0<x)=false)from by(show X1.k+1<=46/\ ∀j,j<X1.k+1->decide (tabL.getD j 0<x)=false);(exact⟨M46,λj hj=>(Nat.lt_or_eq_of_le (Nat.le_of_lt_succ hj)).elim (hI0.2 j) (λe=>by rw[e];exact MN)⟩)) (show(46-(Z7 X1).k)<(46-X1.k)from by(show 46-(X1.k+1)<46-X1.k);(omega)) [] [] [] (λ_ h=>h) (λ_ h=>h) el)))))))))))
end
section
open Go.RowKit
theorem Na(g k:Nat)(h:k<47):IJ Tryz.prog (do pure (.value (<-Instr.indexAt 192 (.pointer (some ⟨g,0,none⟩)) (.int .i64 (k:Int))))) (.pointer (some ⟨g,k,none⟩)):=by
 intro W
 have hu:Tryz.prog.underlying 192=some (.array 47 2):=by kernel_rfl
 simp[Instr.indexAt,run_underlying hu,Instr.sureAddr,asIntOf,Addr.add_lit]
 intro h2;omega
theorem Rf(a b:Int)(hb: ¬b=0)(hq: -9223372036854775808<=Int.tdiv a b/\Int.tdiv a b<=9223372036854775807):
 IJ Tryz.prog (execOp (KX.ev ⟨[],#[.int .i64 a,.int .i64 b],[],[],[],[],.ctl⟩) {dst:=none,op:=.binOp .quo 2 (.tmp 0) (.tmp 1) 2,type:=2,pos:= "",after:=#[],guard:=none}) (.int .i64 (Int.tdiv a b)):=by
 intro W
 simp[go_sem,KX.ev,hb,BE hq]
end
section
open Go.RowKit
def Bp(x:Int):Int:= -562949953421312+((BG x-1:Nat):Int)*281474976710656+Int.tdiv (281474976710656*(tabL.getD (BG x-1) 0-x)) (tabL.getD (BG x-1) 0-tabL.getD (BG x) 0)
theorem P6: ∀i,i<46->1<=tabL.getD i 0-tabL.getD (i+1) 0/\tabL.getD i 0-tabL.getD (i+1) 0<=12761/\tabL.getD i 0<=430515:=by decide
theorem OC{x:Int}(hx:Ag x=true):1<=BG x/\BG x<=46:=by
 have g:=FM hx
 have hl:BG x<47:=by
  show tabL.findIdx _<tabL.length
  rw[List.findIdx_lt_length]
  exact⟨86822,by decide,by simp;omega⟩
 refine⟨?_,by omega⟩
 rcases Nat.eq_zero_or_pos (BG x)with h|h
 ·exfalso
  have q:=List.findIdx_getElem (xs:=tabL) (p:= λc=>decide (c<x)) (w:=hl)
  have e:tabL.findIdx (λc=>decide (c<x))=0:=h
  simp only[e,decide_eq_true_eq]at q
  have:(430515:Int)<x:=q
  omega
 exact h
theorem Qb{x:Int}(hx:Ag x=true):x<=tabL.getD (BG x-1) 0/\tabL.getD (BG x) 0<x/\1<=tabL.getD (BG x-1) 0-tabL.getD (BG x) 0/\tabL.getD (BG x-1) 0-tabL.getD (BG x) 0<=12761/\tabL.getD (BG x-1) 0<=430515:=by
 obtain⟨h1,h2⟩:=OC hx
 have hl:BG x<tabL.length:=show BG x<47 by omega
 have a:=List.findIdx_getElem (xs:=tabL) (p:= λc=>decide (c<x)) (w:=hl)
 have b:=List.not_of_lt_findIdx (xs:=tabL) (p:= λc=>decide (c<x)) (i:=BG x-1) (show BG x-1<BG x by omega)
 have s:=P6 (BG x-1) en
 rw[show BG x-1+1=BG x by omega]at s
 have ea:tabL.getD (BG x) 0<x:=by
  rw[List.getD_eq_getElem?_getD,List.getElem?_eq_getElem hl]
  show tabL[BG x]<x
  exact of_decide_eq_true a
 have eb:x<=tabL.getD (BG x-1) 0:=by
  rw[List.getD_eq_getElem?_getD,List.getElem?_eq_getElem en]
  show x<=tabL[BG x-1]
  have nb: ¬tabL[BG x-1]<x:=of_decide_eq_false b
  omega
 exact⟨eb,ea,s⟩
theorem Oq{x:Int}(hx:Ag x=true):0<=Int.tdiv (281474976710656*(tabL.getD (BG x-1) 0-x)) (tabL.getD (BG x-1) 0-tabL.getD (BG x) 0)/\Int.tdiv (281474976710656*(tabL.getD (BG x-1) 0-x)) (tabL.getD (BG x-1) 0-tabL.getD (BG x) 0)<=281474976710656*12761:=by
 obtain⟨a,b,c,d,_⟩:=Qb hx
 have h0:0<=281474976710656*(tabL.getD (BG x-1) 0-x):=by omega
 rw[Int.tdiv_eq_ediv_of_nonneg h0]
 have:=Int.ediv_le_self (b:=tabL.getD (BG x-1) 0-tabL.getD (BG x) 0) h0
 exact⟨Int.ediv_nonneg h0 en,by omega⟩
set_option maxRecDepth 1000000 in
set_option maxHeartbeats 8000000 in
theorem Gf(x:Int)(hx0:Ag x=true)(w:World)(hg:0<w.heap.size)(hc: ∀(i:Nat)(v:Value),(tabL.map (Value.int .i64))[i]? =some v->w.cell? ⟨0,i,none⟩=some v):Calls Tryz.prog 94 #[.int .i64 x] w (λe w'=>e=.returned (.tuple #[.int .i64 (Bp x),.int .i64 0])/\Below w.heap.size w w'):=by
 have IB:=OC hx0
 have TB:=Qb hx0
 have PB:=Oq hx0
 exact(let B:Base:=(⟨w,λ_=>False⟩:Base);let R:Ending->World->Prop:=(λe w'=>e=.returned (.tuple #[.int .i64 (Bp x),.int .i64 0])/\Below w.heap.size w w');AC (f:=94) (B:=B) (R:=R) (es:=[(0,(tabL.map (Value.int .i64)))]) (c:=Tryz.f94.body.getD .skip) (tmps:=#[vI x,vN,vN,vN,vN,vN,vN,vN,vN,vN,vN,vN,vN,vN,vN,vN,vN,vN,vN,vN,vN,vN,vN,vN,vN,vN,vN,vN,vN,vN,vN,vN,vN])
  (.s [.c,.c] (.new (λr1=>.s [.v,.v,.c,.c,.c,.c,.own 0,.call (.bool (Ag x)),.v,.c,.setv 8 (vF),.c,.c,.c,.c,.v,.v,.call (vI ((BG x:Nat):Int)),.v,.setv 12 (vI ((BG x-1:Nat):Int)),.v,.c,.c,.d [],.at 0 false,.v,.at 1 false,.fact (.pointer (some ⟨0,BG x-1,none⟩)),.at 2 false,.ld (vI (tabL.getD (BG x-1) 0)),.at 3 false,.own 0,.at 4 false,.v,.setv 17 (vI ((tabL.getD (BG x-1) 0)-x)),.at 5 false,.v,.setv 18 (vI (281474976710656*((tabL.getD (BG x-1) 0)-x))),.at 6 false,.v,.at 7 false,.fact (.pointer (some ⟨0,BG x-1,none⟩)),.at 8 false,.ld (vI (tabL.getD (BG x-1) 0)),.at 9 false,.v,.at 10 false,.v,.setv 23 (vI ((BG x:Nat):Int)),.at 11 false,.fact (.pointer (some ⟨0,BG x,none⟩)),.at 12 false,.ld (vI (tabL.getD (BG x) 0)),.at 13 false,.v,.setv 26 (vI ((tabL.getD (BG x-1) 0)-(tabL.getD (BG x) 0))),.at 14 false,.fact (vI (Int.tdiv (281474976710656*((tabL.getD (BG x-1) 0)-x)) ((tabL.getD (BG x-1) 0)-(tabL.getD (BG x) 0)))),.at 15 false,.v,.c,.c,.c,.v,.v,.setv 29 (vI (((BG x-1:Nat):Int)*281474976710656)),.v,.setv 30 (vI ((-562949953421312)+(((BG x-1:Nat):Int)*281474976710656))),.v,.v,.setv 32 (vI (((-562949953421312)+(((BG x-1:Nat):Int)*281474976710656))+(Int.tdiv (281474976710656*((tabL.getD (BG x-1) 0)-x)) ((tabL.getD (BG x-1) 0)-(tabL.getD (BG x) 0))))),.v,.v,.c] (.ret []))))
  el (Sx.refl w _) (by exact ExX.cons ⟨hg,id,hc⟩ (ExX.nil)) Tryz.func94 el el (Eq.mp el (λ(r1:Nat)=>let bs2:AD:=[(r1,[vI x])];let rs3:Aw:=[(0,2,1)];aI (Eq.refl r1) (aI (cv B bs2 [] rs3 [] ((λW hS=>Dr x W))) (aI (show Value.bool (!(Ag x))=vF from(by rw[(hx0:(Ag x)=true)];rfl)) (aI (cv B bs2 [] rs3 [] ((λW hS=>Mv x 0 r1 hx0 W (Nat.lt_of_lt_of_le hg hS.bx.size) (λi v h=>hS.oldc id (hc i v h)) (hS.lt (List.mem_of_getElem? (i:=0) rfl)) (λi v h=>hS.cell 0 i rfl h)))) (aI (vE (a:=(IntKind.i64.wrap (((BG x:Nat):Int)-1))) (b:=((BG x-1:Nat):Int)) (by rw[BE en];omega)) (aI (Na 0 (BG x-1) en) (aI (HK [(0,(tabL.map (Value.int .i64)))] bs2 (b:=0) (k:=BG x-1) (zs:=tabL) (List.mem_cons_self ..) (show BG x-1<47 by omega)) (aI (Eq.refl r1) (aI (vE (a:=(IntKind.i64.wrap ((tabL.getD (BG x-1) 0)-x))) (b:=((tabL.getD (BG x-1) 0)-x)) (BE en)) (aI (vE (a:=(IntKind.i64.wrap (281474976710656*((tabL.getD (BG x-1) 0)-x)))) (b:=(281474976710656*((tabL.getD (BG x-1) 0)-x))) (BE en)) (aI (Na 0 (BG x-1) en) (aI (HK [(0,(tabL.map (Value.int .i64)))] bs2 (b:=0) (k:=BG x-1) (zs:=tabL) (List.mem_cons_self ..) (show BG x-1<47 by omega)) (aI (vE (a:=(IntKind.i64.wrap (((BG x-1:Nat):Int)+1))) (b:=((BG x:Nat):Int)) (by rw[BE en];omega)) (aI (Na 0 (BG x) en) (aI (HK [(0,(tabL.map (Value.int .i64)))] bs2 (b:=0) (k:=BG x) (zs:=tabL) (List.mem_cons_self ..) (show BG x<47 by omega)) (aI (vE (a:=(IntKind.i64.wrap ((tabL.getD (BG x-1) 0)-(tabL.getD (BG x) 0)))) (b:=((tabL.getD (BG x-1) 0)-(tabL.getD (BG x) 0))) (BE en)) (aI (Rf (281474976710656*((tabL.getD (BG x-1) 0)-x)) ((tabL.getD (BG x-1) 0)-(tabL.getD (BG x) 0)) en en) (aI (vE (a:=(IntKind.i64.wrap (((BG x-1:Nat):Int)*281474976710656))) (b:=(((BG x-1:Nat):Int)*281474976710656)) (BE en)) (aI (vE (a:=(IntKind.i64.wrap ((-562949953421312)+(((BG x-1:Nat):Int)*281474976710656)))) (b:=((-562949953421312)+(((BG x-1:Nat):Int)*281474976710656))) (BE en)) (aI (vE (a:=(IntKind.i64.wrap (((-562949953421312)+(((BG x-1:Nat):Int)*281474976710656))+(Int.tdiv (281474976710656*((tabL.getD (BG x-1) 0)-x)) ((tabL.getD (BG x-1) 0)-(tabL.getD (BG x) 0)))))) (b:=(((-562949953421312)+(((BG x-1:Nat):Int)*281474976710656))+(Int.tdiv (281474976710656*((tabL.getD (BG x-1) 0)-x)) ((tabL.getD (BG x-1) 0)-(tabL.getD (BG x) 0))))) (BE en)) (aI trivial ((show AO B R bs2 [] rs3 [] (.tuple #[vI (((-562949953421312)+(((BG x-1:Nat):Int)*281474976710656))+(Int.tdiv (281474976710656*((tabL.getD (BG x-1) 0)-x)) ((tabL.getD (BG x-1) 0)-(tabL.getD (BG x) 0)))),vI 0])from by
     exactλW hS=>⟨rfl,hS.bl⟩)))))))))))))))))))))))))
end
end Go.Proofs.YtikajapjkdloaaaGreatDoor
