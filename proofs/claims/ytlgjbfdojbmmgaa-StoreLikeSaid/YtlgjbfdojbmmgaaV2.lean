/- Layer 14: banks as one row of words; words written one after the other. No program in sight, but in the last lemmas. -/
import Derived.Test.YtlgjbfdojbmmgaaV1
set_option linter.unusedSimpArgs false
set_option linter.unusedVariables false
namespace Go.Proofs.Ytlgjbfdojbmmgaa
open Go.SX
theorem zjD {s:Vault}(hs:VOk s) (h:zaz s=true) (hl:Banks.Lost (Vault.Banks s)=0):Good (bN (Vault.Banks s)) (bM (Vault.Banks s)) (Vault.Banks s) :=
 ⟨hs.b,(zam h).1,hl,rfl,rfl⟩
theorem zlL (b:Banks) (k a:Nat) (w:Int):bN (zbz b k a w)=bN b:=by unfold bN zbz;rw [Banks.Rows_mk,List.length_set]
theorem zpL (b:Banks) (k a:Nat) (w:Int):bM (zbz b k a w)=bM b:=by unfold bM zbz;rw [Banks.Par_mk,List.length_set]
theorem zn1 {n m:Nat}{b:Banks}(g:Good n m b) {p:Nat}(hp:p<n * m) (w:Int):allB (zbz b (p % n) (p / n) w)=(allB b).set p w:=by
 obtain rfl:bN b=n:=g.rl
 obtain rfl:bM b=m:=g.pl
 have hn:0<bN b:=Nat.pos_of_ne_zero fun e=>by rw [e] at hp;omega
 have hm:p % bN b<bN b:=Nat.mod_lt _ hn
 have hd:p / bN b<bM b:=by rw [Nat.div_lt_iff_lt_mul hn,Nat.mul_comm];exact hp
 have hrow:=g.row hm
 apply List.ext_getElem?
 intro i
 rw [List.getElem?_set]
 by_cases hi:i<bN b * bM b
 ·rw [zg5 (by rw [zlL,zpL];exact hi),zlL,zfH]
  by_cases h:p=i
  ·subst h
   rw [if_pos rfl,if_pos hp]
   unfold cell zbz
   rw [Banks.Rows_mk,rowAt_set hm,zhx (by rw [hrow];exact hd)]
  ·rw [if_neg h,zg5 hi]
   congr 1
   unfold cell zbz
   rw [Banks.Rows_mk]
   by_cases hk:p % bN b=i % bN b
   ·rw [← hk,rowAt_set hm,zew (fun h2=>h (by rw [← Nat.div_add_mod p (bN b),← Nat.div_add_mod i (bN b),hk,h2]))]
   ·rw [zeP hk]
 ·rw [List.getElem?_eq_none (by rw [zfH,zlL,zpL];omega),zfH,if_neg (by omega),List.getElem?_eq_none (by rw [zfH];omega)]
theorem zvk {b:Banks}(hb:BOk b):∀ x∈allB b,wd x:=by
 intro x hx
 unfold allB at hx
 rw [List.mem_map] at hx
 obtain ⟨p,_,rfl⟩:=hx
 exact zhw hb.rw _ _
noncomputable def putV (n:Nat) (u:Undo) (b:Banks):Banks:=zbz b ((Undo.At u).toNat % n) ((Undo.At u).toNat / n) (Undo.Val u)
theorem zjr {n m:Nat}{b:Banks}(g:Good n m b):∀ G:List Undo,(∀ u∈G,(Undo.At u).toNat<n * m∧wd (Undo.Val u))→Good n m (G.foldr (putV n) b)∧allB (G.foldr (putV n) b)=G.foldr putB (allB b)
 | [],_=>⟨g,rfl⟩
 | u::G,h=>by
  obtain ⟨h1,h2⟩:=zjr g G fun v hv=>h v (List.mem_cons_of_mem _ hv)
  obtain ⟨h3,h4⟩:=h u List.mem_cons_self
  have hn:0<n:=Nat.pos_of_ne_zero fun e=>by rw [e] at h3;omega
  rw [List.foldr_cons,List.foldr_cons]
  refine ⟨zk6 h1 (Nat.mod_lt _ hn) (by rw [Nat.div_lt_iff_lt_mul hn,Nat.mul_comm];exact h3) h4,?_⟩
  show allB (zbz _ _ _ _)=_
  rw [zn1 h1 h3,h2]
  rfl
theorem znt (x y:List Int):∀ G:List Undo,(∀ u∈G,(Undo.At u).toNat<x.length)→G.foldr putB (x++y)=G.foldr putB x++y
 | [],_=>rfl
 | u::G,h=>by
  rw [List.foldr_cons,List.foldr_cons,znt x y G fun v hv=>h v (List.mem_cons_of_mem _ hv)]
  unfold putB
  rw [List.set_append_left _ _ (by have:=ze4 x G;unfold putB at this;rw [this];exact h u List.mem_cons_self)]
theorem ziR {s:Vault}(hs:VOk s):(
  let v2:List (List Int):=Banks.Rows (Vault.Banks s)
  let v3:Int:=(List.length v2:Int)
  (zaA (zao v2 v3) ((0:Int),([]:List (List Int))):Option (List (List Int))).bind fun v4 =>
  (zaD 4 (Banks.Par (Vault.Banks s))).bind fun v7 =>
  (zaD 24 (Vault.Lst s)).bind fun v9 =>
  some ((Banks.Lost (Vault.Banks s),Vault.Words s,Vault.Span s,v4,v7,v9)):Option (Int×Int×Int×(List (List Int))×(List Int)×(List Undo)))=some (Banks.Lost (Vault.Banks s),Vault.Words s,Vault.Span s,Banks.Rows (Vault.Banks s),Banks.Par (Vault.Banks s),Vault.Lst s):=by
 have h1:=hs.b.rl
 have h2:=hs.b.pl
 have h3:=hs.l
 dsimp only
 rw [znJ (by omega) (fun r hr=>by have:=hs.b.el r hr;omega),wC0,zbT (by omega) (by omega),wC0,zbT (by omega) (by omega),wC0]
theorem zqH {s:Vault}(hs:VOk s) (a:Int):zdj s a=some (zaz s&&(decide (0≤a)&&decide (a<Vault.Words s))):=by
 unfold zdj
 rw [zct hs]
 cases zaz s
 ·rfl
 ·by_cases h:0≤a
  ·simp only [h,decide_true,wC0,if_true,Bool.true_and]
  ·simp only [h,decide_false,wC0,if_true,Bool.true_and,wA0,if_false,Bool.false_and]
theorem zn5 {s:Vault}(hs:VOk s) (a:Int):zcx s a=some (zaz s&&(decide (0≤a)&&decide (a≤Vault.Span s))):=by
 unfold zcx
 rw [zct hs]
 cases zaz s
 ·rfl
 ·by_cases h:0≤a
  ·simp only [h,decide_true,wC0,if_true,Bool.true_and]
  ·simp only [h,decide_false,wC0,if_true,Bool.true_and,wA0,if_false,Bool.false_and]
end Go.Proofs.Ytlgjbfdojbmmgaa
