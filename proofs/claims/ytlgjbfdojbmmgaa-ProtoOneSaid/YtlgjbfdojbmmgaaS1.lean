/- The law ProtoOne on typed data. No condition. -/
import Derived.Test.YtlgjbfdojbmmgaaRP
set_option linter.unusedSimpArgs false
set_option linter.unusedVariables false
set_option maxRecDepth 100000
namespace Go.Proofs.Ytlgjbfdojbmmgaa
open Go.SX
def cntN (f:Nat→Bool):Nat→Nat
 | 0=>0
 | k + 1=>cntN f k + if f k=true then 1 else 0
theorem zqQ (f:Nat→Bool):∀ n,cntN f n≤n
 | 0=>wG0 0
 | n + 1=>by
  have:=zqQ f n
  simp only [cntN]
  split<;>omega
theorem zle {f:Nat→Bool}:∀ {n},(∀ k,k<n→f k=false)→cntN f n=0
 | 0,_=>rfl
 | n + 1,h=>by
  simp only [cntN]
  rw [zle (fun k hk=>h k (by omega)),h n (by omega)]
  rfl
theorem znf {f:Nat→Bool}:∀ {n},(∀ i j,i<n→j<n→f i=true→f j=true→i=j)→cntN f n≤1
 | 0,_=>Nat.zero_le 1
 | n + 1,h=>by
  simp only [cntN]
  by_cases q:f n=true
  ·rw [zle fun k hk=>by
    cases r:f k
    ·rfl
    ·have:=h k n (by omega) (by omega) r q;omega,if_pos q]
   omega
  ·rw [if_neg q]
   exact znf fun i j hi hj=>h i j (by omega) (by omega)
section
variable {c h:Nat} {A:Nat→AL} {W:Nat→Wait} {ms:List Msg} {v:Nat→Int}
theorem zvu (K:Ok c h A W ms v) {l:Nat}(hl:l<h):∃ r w:Nat,zal (zbH (pr c h A W ms) (ls h v) (l:Int)) ((0:Int),(0:Int),(0:Int))=some (Sum.inl ((r:Int),(w:Int)))∧w≤1∧(w=1→r≤1):=by
 have c4:=K.c4
 obtain ⟨fr,hfr⟩:∃ fr,fr=fun n=>hasF (fun n l=>((A l).st n:Int)) W n l false:=⟨_,rfl⟩
 obtain ⟨fw,hfw⟩:∃ fw,fw=fun n=>hasF (fun n l=>((A l).st n:Int)) W n l true:=⟨_,rfl⟩
 have lp:=zaY (f:=zbH (pr c h A W ms) (ls h v) (l:Int)) (n:=c) (e:=Sum.inl ((cntN fr c:Int),(cntN fw c:Int))) (fun i=>((cntN fr i:Int),(cntN fw i:Int),(i:Int))) (fun i hi=>by
  have b1:=zqQ fr i
  have b2:=zqQ fw i
  have h1:=zsV (V:=fun n l=>(A l).va n) (H:=fun l=>(A l).ho) K.fit hi hl true
  have h2:=zsV (V:=fun n l=>(A l).va n) (H:=fun l=>(A l).ho) K.fit hi hl false
  have h3:=zwD (V:=fun n l=>(A l).va n) (H:=fun l=>(A l).ho) K.fit hi hl
  have hv:=zwM K hi hl (w:=false)
  unfold zbH
  simp only [zpP,zaX,show (i:Int)<(c:Int) by omega,decide_true,if_true,wC0,cntN,zaB (show i<4611686018427387904 by omega),zaB (show cntN fr i<4611686018427387904 by omega),zaB (show cntN fw i<4611686018427387904 by omega)]
  have h1':zdO (pr c h A W ms) (i:Int) (l:Int) true=some (fw i):=by rw [hfw];exact h1
  have h2':zdO (pr c h A W ms) (i:Int) (l:Int) false=some (fr i):=by rw [hfr];exact h2
  have h3':zgo (pr c h A W ms) (i:Int) (l:Int)=some (if fr i=true then ((A l).va i,0) else (0,8)):=by rw [hfr];exact h3
  have hv':fr i=true→(A l).va i=v l:=by rw [hfr];exact hv
  simp only [h1',h2',h3',wC0]
  cases q:fr i
  ·cases r:fw i<;>simp only [wA0,if_false,if_true,Nat.add_zero,cond_true,cond_false]<;>rfl
  ·rw [if_pos rfl,hv' q]
   simp only [decide_true,wH0,wA0,if_false,if_true,zi5 hl,zat hl,wC0]
   cases r:fw i<;>simp only [wA0,if_false,if_true,Nat.add_zero,cond_true,cond_false]<;>rfl) (by
  unfold zbH
  simp only [zpP,zaX,show ¬ (c:Int)<(c:Int) by omega,decide_false,wA0,if_false])
 have o1:cntN fw c≤1:=znf fun i j hi hj qi qj=>by
  rw [hfw] at qi qj
  exact zqq K hj hi hl qj qi
 refine ⟨_,_,lp,o1,fun q=>?_⟩
 by_cases z:∃ n,n<c∧fw n=true
 ·obtain ⟨n,hn,hq⟩:=z
  refine znf fun i j hi hj qi qj=>?_
  rw [hfw] at hq
  rw [hfr] at qi qj
  rw [zqq K hn hi hl hq qi,zqq K hn hj hl hq qj]
 ·rw [zle fun k hk=>by
   cases r:fw k
   ·rfl
   ·exact absurd ⟨k,hk,r⟩ z] at q
  omega
theorem zk6 (K:Ok c h A W ms v):zal (zbA (pr c h A W ms) (ls h v)) (0:Int)=some (Sum.inl ()):=by
 have h16:=K.h16
 have lp:=zaY (f:=zbA (pr c h A W ms) (ls h v)) (n:=h) (e:=Sum.inl ()) (fun i=>(i:Int)) (fun i hi=>by
  obtain ⟨r,w,e,o1,o2⟩:=zvu K hi
  unfold zbA
  simp only [zaX,show (i:Int)<(h:Int) by omega,decide_true,if_true,e,zaK,zaB (show i<4611686018427387904 by omega)]
  rw [if_neg]
  simp only [Bool.or_eq_true,wD0,decide_eq_true_eq]
  omega) (by
  unfold zbA
  simp only [zaX,show ¬ (h:Int)<(h:Int) by omega,decide_false,wA0,if_false])
 exact lp
end
noncomputable def oneF (l:List l10_Act) (s:Int×Proto×List Int):Int×Proto×List Int:=match zaR l s with
 | some (.inl t)=>t
 | _=>s
noncomputable def oneS (l:List l10_Act) (s:Int×Proto×List Int):Nat→Int×Proto×List Int
 | 0=>s
 | i + 1=>oneF l (oneS l s i)
theorem zwG {c h:Nat}{l:List l10_Act}(hl:∀ a∈l,zwv a) {A:Nat→AL}{W:Nat→Wait}{ms:List Msg}{v:Nat→Int}(K:Ok c h A W ms v):zal (zaR l) ((0:Int),pr c h A W ms,ls h v)=some (Sum.inl ()):=by
 have stp:∀ (i:Nat) (A:Nat→AL) (W:Nat→Wait) (ms:List Msg) (v:Nat→Int),Ok c h A W ms v→i<l.length→i<150→∃ A' W' ms' v',zaR l ((i:Int),pr c h A W ms,ls h v)=some (Sum.inl (((i + 1:Nat):Int),pr c h A' W' ms',ls h v'))∧Ok c h A' W' ms' v':=fun i A W ms v K hi hm=>by
  have O:=hl _ (List.getElem_mem hi)
  obtain ⟨A',W',ms',e,v',d,ok,hv⟩:=zx7 K O
  have h16:=K.h16
  obtain ⟨k,k1,k2,k3⟩:=remN O.2.2.1.1 O.2.2.1.2 (show 0<h from K.h1)
  have r3:=(znq (a:=l10_Act.Kind l[i]) (n:=8) O.1.1 (by omega)).1
  refine ⟨A',W',ms',v',?_,ok⟩
  unfold zaR
  simp only [show (i:Int)<(List.length l:Int) by omega,show (i:Int)<150 by omega,decide_true,Bool.and_self,if_true,zby hi,wC0,d,r3,zaX,k3,zaS k1,zi5 k1,zaZ k1]
  have fin:(if (if decide (l10_Act.Kind l[i] % 8=3)=true then some (decide (e=0)) else some false)=some true then some (ls h (up v k (l10_Act.Val l[i]))) else some (ls h v))=some (ls h v'):=by
   rw [hv,k2]
   by_cases q:l10_Act.Kind l[i] % 8=3
   ·by_cases r:e=0
    ·rw [if_pos (by rw [decide_eq_true q,if_pos rfl,decide_eq_true r]),if_pos ⟨q,r⟩];rfl
    ·rw [if_neg (by rw [decide_eq_true q,if_pos rfl,decide_eq_false r];simp),if_neg (fun s=>r s.2)]
   ·rw [if_neg (by rw [decide_eq_false q];simp),if_neg (fun s=>q s.1)]
  by_cases q:l10_Act.Kind l[i] % 8=3
  ·by_cases r:e=0
   ·simp only [q,r,decide_true,if_true,wC0] at fin ⊢
    rw [Option.some.inj fin,zk6 ok]
    simp only [zaK,zaB (show i<4611686018427387904 by omega)]
   ·simp only [q,r,decide_true,decide_false,if_true,wA0,if_false,wC0,wB0] at fin ⊢
    rw [fin,zk6 ok]
    simp only [zaK,zaB (show i<4611686018427387904 by omega)]
  ·simp only [q,decide_false,wA0,if_false,wC0,wB0] at fin ⊢
   rw [fin,zk6 ok]
   simp only [zaK,zaB (show i<4611686018427387904 by omega)]
 have inv:∀ i,i≤min l.length 150→∃ A' W' ms' v',oneS l ((0:Int),pr c h A W ms,ls h v) i=((i:Int),pr c h A' W' ms',ls h v')∧Ok c h A' W' ms' v':=fun i=>by
  induction i with
  | zero=>intro _;exact ⟨A,W,ms,v,rfl,K⟩
  | succ i ih =>
   intro hi
   obtain ⟨A',W',ms',v',e,ok⟩:=ih (by omega)
   obtain ⟨A2,W2,ms2,v2,e2,ok2⟩:=stp i A' W' ms' v' ok (by omega) (by omega)
   refine ⟨A2,W2,ms2,v2,?_,ok2⟩
   show oneF l (oneS l _ i)=_
   rw [e]
   unfold oneF
   rw [e2]
 have lp:=zaY (f:=zaR l) (n:=min l.length 150) (e:=(Sum.inl ():Unit⊕Bool)) (oneS l ((0:Int),pr c h A W ms,ls h v)) (fun i hi=>by
  obtain ⟨A',W',ms',v',e,ok⟩:=inv i (by omega)
  obtain ⟨A2,W2,ms2,v2,e2,ok2⟩:=stp i A' W' ms' v' ok (by omega) (by omega)
  show zaR l (oneS l _ i)=some (Sum.inl (oneF l (oneS l _ i)))
  rw [e]
  unfold oneF
  rw [e2]) (by
  obtain ⟨A',W',ms',v',e,ok⟩:=inv _ (wG0 _)
  rw [e]
  unfold zaR
  rw [if_neg (by simp only [wD0,decide_eq_true_eq];omega)])
 exact lp
theorem zvY {a:Int}(h0:0≤a) (h1:a<256):∃ k:Nat,1≤k∧k≤4∧remO a (4:Int)=some ((k:Int) - 1)∧w64 (w64 ((k:Int) - 1) + 1)=(k:Int):=by
 have r:=znq (a:=a) (n:=4) h0 (by omega)
 refine ⟨(a % 4).toNat + 1,by omega,by omega,?_,?_⟩
 ·rw [r.1];exact congrArg some (by omega)
 ·rw [zce (n:=_ - 1) (by omega) (by omega),zce (by omega) (by omega)];omega
theorem zov {a b:Int}(ha:0≤a∧a<256) (hb:0≤b∧b<256) {l:List l10_Act}(hl:∀ a∈l,zwv a):zgl a b l=some true:=by
 obtain ⟨c,c1,c4,e1,e2⟩:=zvY ha.1 ha.2
 obtain ⟨h,h1,h4,f1,f2⟩:=zvY hb.1 hb.2
 have rp:repO (0:Int) 4 (h:Int) (h:Int)=some (ls h fun _=>0):=by rw [zex (by omega) (by omega),zvS]
 unfold zgl zkH
 simp only [e1,e2,f1,f2,wC0,zw6 c1 c4 h1 (show h≤16 by omega),decide_true,wH0,wA0,if_false,zt8,zaX,rp,zwG hl (ok0 c1 c4 h1 (show h≤16 by omega)),zaK]
theorem zqm (x:Ty.Tup zcP.ps) (h:OkL zcP.ps x):zcP.sem x=some true :=
 zov ⟨h.1.1,Int.lt_of_le_of_lt h.1.2 (by decide)⟩ ⟨h.2.1.1,Int.lt_of_le_of_lt h.2.1.2 (by decide)⟩ (fun a ha=>by
  have q:=h.2.2.2 a ha
  exact ⟨⟨q.1.1,Int.lt_of_le_of_lt q.1.2 (by decide)⟩,⟨q.2.1.1,Int.lt_of_le_of_lt q.2.1.2 (by decide)⟩,⟨q.2.2.1.1,Int.lt_of_le_of_lt q.2.2.1.2 (by decide)⟩,⟨q.2.2.2.1.1,Int.lt_of_le_of_lt q.2.2.2.1.2 (by decide)⟩,⟨q.2.2.2.2.2.1,Int.lt_of_le_of_lt q.2.2.2.2.2.2 (by decide)⟩⟩)
end Go.Proofs.Ytlgjbfdojbmmgaa
