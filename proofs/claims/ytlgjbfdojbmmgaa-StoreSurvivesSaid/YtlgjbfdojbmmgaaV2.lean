/- Layer 14: banks as one row of words; words written one after the other. No program in sight, but in the last lemmas. -/
import Derived.Test.YtlgjbfdojbmmgaaV1
set_option linter.unusedSimpArgs false
set_option linter.unusedVariables false
namespace Go.Proofs.Ytlgjbfdojbmmgaa
open Go.SX
theorem zkn {s:Vault}(hs:VOk s) (h:zaw s=true) (hl:Banks.Lost (Vault.Banks s)=0):Good (bN (Vault.Banks s)) (bM (Vault.Banks s)) (Vault.Banks s) :=
 ⟨hs.b,(zaj h).1,hl,rfl,rfl⟩
theorem zmJ (b:Banks) (k a:Nat) (w:Int):bN (zbL b k a w)=bN b:=by unfold bN zbL;rw [Banks.Rows_mk,List.length_set]
theorem zp0 (b:Banks) (k a:Nat) (w:Int):bM (zbL b k a w)=bM b:=by unfold bM zbL;rw [Banks.Par_mk,List.length_set]
theorem znr {n m:Nat}{b:Banks}(g:Good n m b) {p:Nat}(hp:p<n * m) (w:Int):allB (zbL b (p % n) (p / n) w)=(allB b).set p w:=by
 obtain rfl:bN b=n:=g.rl
 obtain rfl:bM b=m:=g.pl
 have hn:0<bN b:=Nat.pos_of_ne_zero fun e=>by rw [e] at hp;omega
 have hm:p % bN b<bN b:=Nat.mod_lt _ hn
 have hd:p / bN b<bM b:=by rw [Nat.div_lt_iff_lt_mul hn,Nat.mul_comm];exact hp
 have hrow:=g.row hm
 apply List.ext_getElem?
 intro i
 rw [List.getElem?_set]
 by_cases hi:i<bN b * bM b
 ·rw [zgV (by rw [zmJ,zp0];exact hi),zmJ,zfS]
  by_cases h:p=i
  ·subst h
   rw [if_pos rfl,if_pos hp]
   unfold cell zbL
   rw [Banks.Rows_mk,rowAt_set hm,zik (by rw [hrow];exact hd)]
  ·rw [if_neg h,zgV hi]
   congr 1
   unfold cell zbL
   rw [Banks.Rows_mk]
   by_cases hk:p % bN b=i % bN b
   ·rw [← hk,rowAt_set hm,zet (fun h2=>h (by rw [← Nat.div_add_mod p (bN b),← Nat.div_add_mod i (bN b),hk,h2]))]
   ·rw [zdP hk]
 ·rw [List.getElem?_eq_none (by rw [zfS,zmJ,zp0];omega),zfS,if_neg (by omega),List.getElem?_eq_none (by rw [zfS];omega)]
theorem zvR {b:Banks}(hb:BOk b):∀ x∈allB b,wd x:=by
 intro x hx
 unfold allB at hx
 rw [List.mem_map] at hx
 obtain ⟨p,_,rfl⟩:=hx
 exact zgG hb.rw _ _
noncomputable def putV (n:Nat) (u:Undo) (b:Banks):Banks:=zbL b ((Undo.At u).toNat % n) ((Undo.At u).toNat / n) (Undo.Val u)
theorem zke {n m:Nat}{b:Banks}(g:Good n m b):∀ G:List Undo,(∀ u∈G,(Undo.At u).toNat<n * m∧wd (Undo.Val u))→Good n m (G.foldr (putV n) b)∧allB (G.foldr (putV n) b)=G.foldr putB (allB b)
 | [],_=>⟨g,rfl⟩
 | u::G,h=>by
  obtain ⟨h1,h2⟩:=zke g G fun v hv=>h v (List.mem_cons_of_mem _ hv)
  obtain ⟨h3,h4⟩:=h u List.mem_cons_self
  have hn:0<n:=Nat.pos_of_ne_zero fun e=>by rw [e] at h3;omega
  rw [List.foldr_cons,List.foldr_cons]
  refine ⟨zlA h1 (Nat.mod_lt _ hn) (by rw [Nat.div_lt_iff_lt_mul hn,Nat.mul_comm];exact h3) h4,?_⟩
  show allB (zbL _ _ _ _)=_
  rw [znr h1 h3,h2]
  rfl
theorem zn5 (x y:List Int):∀ G:List Undo,(∀ u∈G,(Undo.At u).toNat<x.length)→G.foldr putB (x++y)=G.foldr putB x++y
 | [],_=>rfl
 | u::G,h=>by
  rw [List.foldr_cons,List.foldr_cons,zn5 x y G fun v hv=>h v (List.mem_cons_of_mem _ hv)]
  unfold putB
  rw [List.set_append_left _ _ (by have:=zcQ x G;unfold putB at this;rw [this];exact h u List.mem_cons_self)]
theorem zfE {s:Vault}(hs:VOk s):(
  let v2:List (List Int):=Banks.Rows (Vault.Banks s)
  let v3:Int:=(List.length v2:Int)
  (zaz (zae v2 v3) ((0:Int),([]:List (List Int))):Option (List (List Int))).bind fun v4 =>
  (zaO 4 (Banks.Par (Vault.Banks s))).bind fun v7 =>
  (zaO 24 (Vault.Lst s)).bind fun v9 =>
  some ((Banks.Lost (Vault.Banks s),Vault.Words s,Vault.Span s,v4,v7,v9)):Option (Int×Int×Int×(List (List Int))×(List Int)×(List Undo)))=some (Banks.Lost (Vault.Banks s),Vault.Words s,Vault.Span s,Banks.Rows (Vault.Banks s),Banks.Par (Vault.Banks s),Vault.Lst s):=by
 have h1:=hs.b.rl
 have h2:=hs.b.pl
 have h3:=hs.l
 dsimp only
 rw [zn0 (by omega) (fun r hr=>by have:=hs.b.el r hr;omega),wC0,zdN (by omega) (by omega),wC0,zdN (by omega) (by omega),wC0]
theorem zp5 {s:Vault}(hs:VOk s) (a:Int):zdu s a=some (zaw s&&(decide (0≤a)&&decide (a<Vault.Words s))):=by
 unfold zdu
 rw [zaZ hs]
 cases zaw s
 ·rfl
 ·by_cases h:0≤a
  ·simp only [h,decide_true,wC0,if_true,Bool.true_and]
  ·simp only [h,decide_false,wC0,if_true,Bool.true_and,wA0,if_false,Bool.false_and]
theorem zn6 {s:Vault}(hs:VOk s) (a:Int):zcF s a=some (zaw s&&(decide (0≤a)&&decide (a≤Vault.Span s))):=by
 unfold zcF
 rw [zaZ hs]
 cases zaw s
 ·rfl
 ·by_cases h:0≤a
  ·simp only [h,decide_true,wC0,if_true,Bool.true_and]
  ·simp only [h,decide_false,wC0,if_true,Bool.true_and,wA0,if_false,Bool.false_and]
end Go.Proofs.Ytlgjbfdojbmmgaa
