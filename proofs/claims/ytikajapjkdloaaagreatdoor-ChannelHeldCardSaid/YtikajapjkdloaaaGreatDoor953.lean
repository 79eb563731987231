/- Layer 20 (channel), plain: with Q in place of Loose a clipped count does what the last one that wasn't did, but for Held. -/
import Derived.Test.YtikajapjkdloaaaGreatDoor945
import Derived.Test.YtikajapjkdloaaaGreatDoor944
namespace Go.Proofs.YtikajapjkdloaaaGreatDoor
open Go.RowKit
set_option linter.unusedSimpArgs false
set_option linter.unusedVariables false
def Xy(c:Nat->Int)(i:Nat):Int:=cond (Nat.beq i 3) (c 0) (cond (Nat.beq i 4) (c 1) (cond (Nat.beq i 5) (c 2) (c i)))
theorem YC{c:Nat->Int}(hc: ∀i,Ai (c i))(i:Nat):Ai (Xy c i):=by
 unfold Xy
 cases Nat.beq i 3<;>cases Nat.beq i 4<;>cases Nat.beq i 5<;>exact hc _
theorem Yh{p d d':Nat->Int}(h0:d 0=d' 0)(h1:d 1=d' 1)(h2:d 2=d' 2):B0 p d=B0 p d'/\EN p d=EN p d':=by
 have a:Ab d=Ab d':=by unfold Ab;simp only[Fl,h0,h1,h2]
 have b:WA d=WA d':=by unfold WA;rw[h0,h1,h2]
 exact⟨funext λi=>by unfold B0;rw[a,b],by unfold EN;rw[a,b]⟩
theorem YZ(c p:Nat->Int)(b:Bool):Bm (Xy c) p b=Bm (Xy c) p false:=by
 cases b
 ·rfl
 have q:=Yh (p:=p) (d:=cQ true (Xy c)) (d':=cQ false (Xy c)) rfl rfl rfl
 unfold Bm
 rw[q.1,q.2]
theorem YP{c:Nat->Int}{S:Chs}{r:Int}{t t':Tk}(hq: ∀p b,Bm c p b=Bm c p false)(hl:CL c r t.a=false)(hl':CL c S.ru t'.a=false)(hi:BM c S.la t.a=BM c S.la t'.a)(h1:t'.has=t.has)(h2:t'.pr=t.pr)(h3:t'.sh=t.sh):
 CR c {S with ru:=r} t=CR c S t':=by
 obtain⟨a,has,pr,sh⟩:=t
 obtain⟨a',has',pr',sh'⟩:=t'
 dsimp only at*
 subst h1;subst h2;subst h3
 unfold CR
 dsimp only
 rw[hl,hl',hi,hq S.p (AU c a),hq S.p (AU c a')]
 rfl
def X7(c:Nat->Int)(T:Nat->Tk):Nat->Int
 |0=>c 25
 |k+1=>if AU c (T k).a=true then X7 c T k else(T k).a
def Xz(c:Nat->Int)(T:Nat->Tk)(k:Nat):Tk:=⟨X7 c T (k+1),(T k).has,(T k).pr,(T k).sh⟩
theorem X_{c:Nat->Int}(T:Nat->Tk)(hk:Ct c=0): ∀k,AU c (X7 c T k)=false
 |0=>by
  have:=He hk
  show AU c (c 25)=false
  unfold AU;rw[decide_eq_false (by omega),decide_eq_false (by omega)];rfl
 |k+1=>by
  show AU c (if AU c (T k).a=true then X7 c T k else(T k).a)=false
  split
  ·exact X_ T hk k
  rename_i h;simpa using h
def YN(t:Td):Td:={t with he:=false}
structure HeldR (c:Nat->Int) (T:Nat->Tk) (k:Nat):Prop where
 ru:(AB c (Xz c T) k).ru=0
 la:(AB c (Xz c T) k).la=FC c (X7 c T k)
 eq:AB c T k={AB c (Xz c T) k with ru:=BA c T k}
theorem YY{c:Nat->Int}{T:Nat->Tk}{k:Nat}(hh:0<=c 27)(h:BA c T (k+1)<=c 27):CL c (BA c T k) (T k).a=false:=by
 unfold CL
 cases q:AU c (T k).a
 ·rfl
 rw[show BA c T (k+1)=BA c T k+1 from if_pos q]at h
 simp only[Bool.true_and,decide_eq_false_iff_not];omega
theorem Yc{c:Nat->Int}{T:Nat->Tk}(hk:Ct c=0){k:Nat}{la:Int}(h:la=FC c (X7 c T k)):BM c la (T k).a=FC c (X7 c T (k+1))/\BM c la (Xz c T k).a=FC c (X7 c T (k+1)):=by
 constructor
 ·unfold BM X7
  split
  ·exact h
  rfl
 exact if_neg (by rw[show(Xz c T k).a=X7 c T (k+1)from rfl,X_ T hk (k+1)];simp)
theorem YQ{c:Nat->Int}{T:Nat->Tk}(hk:Ct c=0)(hq: ∀p b,Bm c p b=Bm c p false)(n:Nat)(hr: ∀j,j<=n->BA c T j<=c 27): ∀k,k<=n->HeldR c T k/\(0<k->YN (Am c T (k-1))=Am c (Xz c T) (k-1)):=by
 have hh:=K6 hk
 intro k
 induction k with
 |zero=>
  intro _
  refine⟨⟨rfl,?_,rfl⟩,λh=>absurd h (by decide)⟩
  show(0:Int)=(c 25-c 25)*c 24
  rw[Int.sub_self,Int.zero_mul]
 |succ k ih=>
  intro hn
  obtain⟨⟨h1,h2,h3⟩,_⟩:=ih (by omega)
  have f1:=YY (k:=k) hh.1 (hr (k+1) hn)
  have fr:AU c (Xz c T k).a=false:=X_ T hk (k+1)
  have f2:CL c (AB c (Xz c T) k).ru (Xz c T k).a=false:=by unfold CL;rw[fr];rfl
  obtain⟨i1,i2⟩:=Yc hk h2
  have M:=YP (S:=AB c (Xz c T) k) (r:=BA c T k) (t:=T k) (t':=Xz c T k) hq f1 f2 (i1.trans i2.symm) rfl rfl rfl
  have e1:AB c T (k+1)=(AA c {AB c (Xz c T) k with ru:=BA c T k} (T k)).1:=by
   show(AA c (AB c T k) (T k)).1=_
   rw[h3]
  have e2:Am c T k=(AA c {AB c (Xz c T) k with ru:=BA c T k} (T k)).2:=by
   show(AA c (AB c T k) (T k)).2=_
   rw[h3]
  have z1:E4 c (AB c (Xz c T) k).ru (Xz c T k).a=0:=if_neg (by rw[fr];simp)
  have z2:E4 c (BA c T k) (T k).a=BA c T (k+1):=rfl
  refine⟨⟨z1,i2,?_⟩,λ_=> ?_⟩
  ·rw[e1]
   show(QD c {AB c (Xz c T) k with ru:=BA c T k} (T k) (CR c {AB c (Xz c T) k with ru:=BA c T k} (T k))).1={(QD c (AB c (Xz c T) k) (Xz c T k) (CR c (AB c (Xz c T) k) (Xz c T k))).1 with ru:=BA c T (k+1)}
   rw[M]
   unfold QD
   dsimp only
   rw[i1,i2]
   rfl
  rw[Nat.add_sub_cancel,e2]
  show YN (QD c {AB c (Xz c T) k with ru:=BA c T k} (T k) (CR c {AB c (Xz c T) k with ru:=BA c T k} (T k))).2=(QD c (AB c (Xz c T) k) (Xz c T k) (CR c (AB c (Xz c T) k) (Xz c T k))).2
  rw[M]
  unfold QD YN
  dsimp only
  rw[fr]
theorem YO{c:Nat->Int}{T:Nat->Tk}(hk:Ct (Xy c)=0){n:Nat}(hr: ∀j,j<=n->BA (Xy c) T j<=c 27){k:Nat}(h:k<n):
 YN (Am (Xy c) T k)=Am (Xy c) (Xz (Xy c) T) k/\(Am (Xy c) T k).he=AU (Xy c) (T k).a/\(Am (Xy c) (Xz (Xy c) T) k).he=false:=
 ⟨(YQ hk (YZ c) n hr (k+1) h).2 (Nat.succ_pos k),rfl,X_ T hk (k+1)⟩
def X6(f:Nat->Td)(k j:Nat):Td:=if j<k then YN (f j)else f j
theorem Yi(f:Nat->Td):X6 f 0=f:=funext λj=>if_neg (Nat.not_lt_zero j)
theorem YK(f:Nat->Td)(k:Nat):X6 f k k=f k:=if_neg (Nat.lt_irrefl k)
theorem YJ(f:Nat->Td)(k:Nat):X6 f (k+1) k=YN (f k):=if_pos (Nat.lt_succ_self k)
theorem YV{f g:Nat->Td}: ∀n,(∀j,j<n->f j=g j)->DL f n=DL g n
 |0,_=>rfl
 |n+1,h=>by
  show DL f n++(f n).cells=DL g n++(g n).cells
  rw[YV n (λj hj=>h j (by omega)),h n (by omega)]
theorem YU(f:Nat->Td)(k:Nat): ∀n,k<n->DL (X6 f (k+1)) n=(DL (X6 f k) n).set (k*9+4) (.bool false)
 |0,h=>absurd h (Nat.not_lt_zero k)
 |n+1,h=>by
  show DL (X6 f (k+1)) n++(X6 f (k+1) n).cells=(DL (X6 f k) n++(X6 f k n).cells).set (k*9+4) (.bool false)
  rcases Nat.lt_or_eq_of_le (Nat.le_of_lt_succ h)with q|q
  ·rw[List.set_append_left _ _ (by rw[FQ];omega),<-YU f k n q]
   rw[show X6 f (k+1) n=X6 f k n by unfold X6;rw[if_neg (by omega),if_neg (by omega)]]
  subst q
  rw[List.set_append_right _ _ (by rw[FQ];omega),FQ,YJ,YK,show k*9+4-k*9=4 by omega]
  rw[YV (f:=X6 f (k+1)) (g:=X6 f k) k (λj hj=>by unfold X6;rw[if_pos hj,if_pos (by omega)])]
  rfl
theorem Yd{c:Nat->Int}{T:Nat->Tk}{k:Nat}(h:decide ((T k).a> -c 26)=false):BA c T (k+1)=BA c T k+1/\X7 c T (k+1)=X7 c T k:=by
 simp only[decide_eq_false_iff_not]at h
 have q:AU c (T k).a=true:=by unfold AU;rw[decide_eq_true (show(T k).a<= -c 26 by omega)];rfl
 exact⟨if_pos q,if_pos q⟩
theorem Ye{c:Nat->Int}{T:Nat->Tk}{k:Nat}(h:decide ((T k).a<c 26)=false):BA c T (k+1)=BA c T k+1/\X7 c T (k+1)=X7 c T k:=by
 simp only[decide_eq_false_iff_not]at h
 have q:AU c (T k).a=true:=by unfold AU;rw[decide_eq_true (show(T k).a>=c 26 by omega),Bool.or_true]
 exact⟨if_pos q,if_pos q⟩
theorem Yf{c:Nat->Int}{T:Nat->Tk}{k:Nat}(h:decide ((T k).a> -c 26)=true)(h2:decide ((T k).a<c 26)=true):BA c T (k+1)=0/\X7 c T (k+1)=(T k).a:=by
 simp only[decide_eq_true_eq]at h h2
 have q: ¬AU c (T k).a=true:=by unfold AU;rw[decide_eq_false (show¬(T k).a<= -c 26 by omega),decide_eq_false (show¬(T k).a>=c 26 by omega)];simp
 exact⟨if_neg q,if_neg q⟩
theorem YL{c:Nat->Int}{T:Nat->Tk}{k:Nat}{m:Int}(h: ∀j,j<=k->BA c T j<=m)(h2:BA c T (k+1)<=m): ∀j,j<=k+1->BA c T j<=m:= λj hj=>by
 rcases Nat.lt_or_eq_of_le hj with q|q
 ·exact h j (Nat.le_of_lt_succ q)
 subst q;exact h2
theorem YX{c:Nat->Int}{T:Nat->Tk}{k:Nat}(h:decide ((T k).a> -c 26)=false):BA (Xy c) T (k+1)=BA (Xy c) T k+1/\X7 (Xy c) T (k+1)=X7 (Xy c) T k:=Yd (c:=Xy c) h
theorem YW{c:Nat->Int}{T:Nat->Tk}{k:Nat}(h:decide ((T k).a<c 26)=false):BA (Xy c) T (k+1)=BA (Xy c) T k+1/\X7 (Xy c) T (k+1)=X7 (Xy c) T k:=Ye (c:=Xy c) h
theorem Ya{c:Nat->Int}{T:Nat->Tk}{k:Nat}(h:decide ((T k).a> -c 26)=true)(h2:decide ((T k).a<c 26)=true):BA (Xy c) T (k+1)=0/\X7 (Xy c) T (k+1)=(T k).a:=Yf (c:=Xy c) h h2
theorem YM{c:Nat->Int}{r x:Int}(h:r=x)(h2:decide (x>c 27)=false):r<=c 27:=by simp only[decide_eq_false_iff_not]at h2;omega
end Go.Proofs.YtikajapjkdloaaaGreatDoor
