/- Layer 14: banks as one row of words; words written one after the other. No program in sight, but in the last lemmas. -/
import Derived.Test.YtlgjbfdojbmmgaaV1
set_option linter.unusedSimpArgs false
set_option linter.unusedVariables false
namespace Go.Proofs.Ytlgjbfdojbmmgaa
open Go.SX
theorem zjU {s:Vault}(hs:VOk s) (h:zax s=true) (hl:Banks.Lost (Vault.Banks s)=0):Good (bN (Vault.Banks s)) (bM (Vault.Banks s)) (Vault.Banks s) :=
 ⟨hs.b,(zan h).1,hl,rfl,rfl⟩
theorem zlE (b:Banks) (k a:Nat) (w:Int):bN (zbw b k a w)=bN b:=by unfold bN zbw;rw [Banks.Rows_mk,List.length_set]
theorem zp1 (b:Banks) (k a:Nat) (w:Int):bM (zbw b k a w)=bM b:=by unfold bM zbw;rw [Banks.Par_mk,List.length_set]
theorem zod {n m:Nat}{b:Banks}(g:Good n m b) {p:Nat}(hp:p<n * m) (w:Int):allB (zbw b (p % n) (p / n) w)=(allB b).set p w:=by
 obtain rfl:bN b=n:=g.rl
 obtain rfl:bM b=m:=g.pl
 have hn:0<bN b:=Nat.pos_of_ne_zero fun e=>by rw [e] at hp;omega
 have hm:p % bN b<bN b:=Nat.mod_lt _ hn
 have hd:p / bN b<bM b:=by rw [Nat.div_lt_iff_lt_mul hn,Nat.mul_comm];exact hp
 have hrow:=g.row hm
 apply List.ext_getElem?
 intro i
 rw [List.getElem?_set]
 by_cases hi:i<bN b * bM b
 ·rw [zg2 (by rw [zlE,zp1];exact hi),zlE,zfx]
  by_cases h:p=i
  ·subst h
   rw [if_pos rfl,if_pos hp]
   unfold cell zbw
   rw [Banks.Rows_mk,rowAt_set hm,zho (by rw [hrow];exact hd)]
  ·rw [if_neg h,zg2 hi]
   congr 1
   unfold cell zbw
   rw [Banks.Rows_mk]
   by_cases hk:p % bN b=i % bN b
   ·rw [← hk,rowAt_set hm,zee (fun h2=>h (by rw [← Nat.div_add_mod p (bN b),← Nat.div_add_mod i (bN b),hk,h2]))]
   ·rw [ze3 hk]
 ·rw [List.getElem?_eq_none (by rw [zfx,zlE,zp1];omega),zfx,if_neg (by omega),List.getElem?_eq_none (by rw [zfx];omega)]
theorem zvg {b:Banks}(hb:BOk b):∀ x∈allB b,wd x:=by
 intro x hx
 unfold allB at hx
 rw [List.mem_map] at hx
 obtain ⟨p,_,rfl⟩:=hx
 exact zht hb.rw _ _
noncomputable def putV (n:Nat) (u:Undo) (b:Banks):Banks:=zbw b ((Undo.At u).toNat % n) ((Undo.At u).toNat / n) (Undo.Val u)
theorem zj5 {n m:Nat}{b:Banks}(g:Good n m b):∀ G:List Undo,(∀ u∈G,(Undo.At u).toNat<n * m∧wd (Undo.Val u))→Good n m (G.foldr (putV n) b)∧allB (G.foldr (putV n) b)=G.foldr putB (allB b)
 | [],_=>⟨g,rfl⟩
 | u::G,h=>by
  obtain ⟨h1,h2⟩:=zj5 g G fun v hv=>h v (List.mem_cons_of_mem _ hv)
  obtain ⟨h3,h4⟩:=h u List.mem_cons_self
  have hn:0<n:=Nat.pos_of_ne_zero fun e=>by rw [e] at h3;omega
  rw [List.foldr_cons,List.foldr_cons]
  refine ⟨zle h1 (Nat.mod_lt _ hn) (by rw [Nat.div_lt_iff_lt_mul hn,Nat.mul_comm];exact h3) h4,?_⟩
  show allB (zbw _ _ _ _)=_
  rw [zod h1 h3,h2]
  rfl
theorem znJ (x y:List Int):∀ G:List Undo,(∀ u∈G,(Undo.At u).toNat<x.length)→G.foldr putB (x++y)=G.foldr putB x++y
 | [],_=>rfl
 | u::G,h=>by
  rw [List.foldr_cons,List.foldr_cons,znJ x y G fun v hv=>h v (List.mem_cons_of_mem _ hv)]
  unfold putB
  rw [List.set_append_left _ _ (by have:=zeL x G;unfold putB at this;rw [this];exact h u List.mem_cons_self)]
theorem ziA {s:Vault}(hs:VOk s):(
  let v2:List (List Int):=Banks.Rows (Vault.Banks s)
  let v3:Int:=(List.length v2:Int)
  (zay (zak v2 v3) ((0:Int),([]:List (List Int))):Option (List (List Int))).bind fun v4 =>
  (zaA 4 (Banks.Par (Vault.Banks s))).bind fun v7 =>
  (zaA 24 (Vault.Lst s)).bind fun v9 =>
  some ((Banks.Lost (Vault.Banks s),Vault.Words s,Vault.Span s,v4,v7,v9)):Option (Int×Int×Int×(List (List Int))×(List Int)×(List Undo)))=some (Banks.Lost (Vault.Banks s),Vault.Words s,Vault.Span s,Banks.Rows (Vault.Banks s),Banks.Par (Vault.Banks s),Vault.Lst s):=by
 have h1:=hs.b.rl
 have h2:=hs.b.pl
 have h3:=hs.l
 dsimp only
 rw [znO (by omega) (fun r hr=>by have:=hs.b.el r hr;omega),wC0,zbQ (by omega) (by omega),wC0,zbQ (by omega) (by omega),wC0]
theorem zp3 {s:Vault}(hs:VOk s) (a:Int):zdk s a=some (zax s&&(decide (0≤a)&&decide (a<Vault.Words s))):=by
 unfold zdk
 rw [zcq hs]
 cases zax s
 ·rfl
 ·by_cases h:0≤a
  ·simp only [h,decide_true,wC0,if_true,Bool.true_and]
  ·simp only [h,decide_false,wC0,if_true,Bool.true_and,wA0,if_false,Bool.false_and]
theorem zn1 {s:Vault}(hs:VOk s) (a:Int):zcv s a=some (zax s&&(decide (0≤a)&&decide (a≤Vault.Span s))):=by
 unfold zcv
 rw [zcq hs]
 cases zax s
 ·rfl
 ·by_cases h:0≤a
  ·simp only [h,decide_true,wC0,if_true,Bool.true_and]
  ·simp only [h,decide_false,wC0,if_true,Bool.true_and,wA0,if_false,Bool.false_and]
end Go.Proofs.Ytlgjbfdojbmmgaa
