/- Part 4 of a checked symbolic executor: what a function's code does is read off as a tree over plain data. No condition. -/
import Derived.Test.YtkgflipalefmfaaSx3
import Derived.Tactics
import Derived.ChangeArms
import Derived.ProofKit

/- Roots get other names. -/
namespace Go.SX
open Go.RowKit (Below)

/-! ### Names -/
theorem look_mem {rh : List (Nat × Nat)} {l h : Nat} (e : look rh l = some h) : (l, h) ∈ rh := by
  induction rh with
  | nil => simp [look] at e
  | cons p r ih =>
    obtain ⟨a, b⟩ := p
    simp only [look] at e
    split at e
    · rename_i hb
      injection e with e
      rw [nat_beq hb, e]
      simp
    · exact List.mem_cons_of_mem _ (ih e)
theorem lookBack_mem {rh : List (Nat × Nat)} {l h : Nat} (e : lookBack rh h = some l) : (l, h) ∈ rh := by
  induction rh with
  | nil => simp [lookBack] at e
  | cons p r ih =>
    obtain ⟨a, b⟩ := p
    simp only [lookBack] at e
    split at e
    · rename_i hb
      injection e with e
      rw [nat_beq hb, e]
      simp
    · exact List.mem_cons_of_mem _ (ih e)
theorem rhOk_inj {base n : Nat} : ∀ {rh : List (Nat × Nat)}, rhOk base n rh = true → (∀ l h h', (l, h) ∈ rh → (l, h') ∈ rh → h = h') ∧ (∀ l l' h, (l, h) ∈ rh → (l', h) ∈ rh → l = l') ∧ (∀ l h, (l, h) ∈ rh → (l = h ∨ base ≤ h) ∧ h < n)
  | [], _ => by simp
  | (l0, h0) :: r, hk => by
    simp only [rhOk, Bool.and_eq_true, Bool.or_eq_true, Bool.not_eq_true', List.any_eq_false, Nat.ble_eq, Nat.blt_eq] at hk
    obtain ⟨⟨⟨h1, h2⟩, h3⟩, h4⟩ := hk
    obtain ⟨i1, i2, i3⟩ := rhOk_inj h4
    have no : ∀ l h, (l, h) ∈ r → l ≠ l0 ∧ h ≠ h0 := fun l h hm => by
      have := h3 (l, h) hm
      exact ⟨fun e => this (.inl (by rw [e]; exact Nat.beq_refl _)), fun e => this (.inr (by rw [e]; exact Nat.beq_refl _))⟩
    refine ⟨fun l h h' m1 m2 => ?_, fun l l' h m1 m2 => ?_, fun l h m1 => ?_⟩
    · rcases List.mem_cons.1 m1 with m1 | m1 <;> rcases List.mem_cons.1 m2 with m2 | m2
      · injection m1 with _ a; injection m2 with _ b; rw [a, b]
      · injection m1 with a _; exact absurd a (no _ _ m2).1
      · injection m2 with a _; exact absurd a (no _ _ m1).1
      · exact i1 l h h' m1 m2
    · rcases List.mem_cons.1 m1 with m1 | m1 <;> rcases List.mem_cons.1 m2 with m2 | m2
      · injection m1 with a _; injection m2 with b _; rw [a, b]
      · injection m1 with _ a; exact absurd a (no _ _ m2).2
      · injection m2 with _ a; exact absurd a (no _ _ m1).2
      · exact i2 l l' h m1 m2
    · rcases List.mem_cons.1 m1 with m1 | m1
      · injection m1 with a b
        subst a b
        exact ⟨h1.imp nat_beq id, h2⟩
      · exact i3 l h m1
theorem look_of {rh : List (Nat × Nat)} {l h : Nat} (hm : (l, h) ∈ rh) : ∃ h', look rh l = some h' := by
  induction rh with
  | nil => simp at hm
  | cons p r ih =>
    obtain ⟨a, b⟩ := p
    simp only [look]
    by_cases hb : Nat.beq a l = true
    · exact ⟨b, by rw [if_pos hb]⟩
    · rw [if_neg hb]
      rcases List.mem_cons.1 hm with hm | hm
      · injection hm with e _
        exact absurd (by rw [e]; exact Nat.beq_refl _) hb
      · exact ih hm
theorem lookBack_of {rh : List (Nat × Nat)} {l h : Nat} (hm : (l, h) ∈ rh) : ∃ l', lookBack rh h = some l' := by
  induction rh with
  | nil => simp at hm
  | cons p r ih =>
    obtain ⟨a, b⟩ := p
    simp only [lookBack]
    by_cases hb : Nat.beq b h = true
    · exact ⟨a, by rw [if_pos hb]⟩
    · rw [if_neg hb]
      rcases List.mem_cons.1 hm with hm | hm
      · injection hm with _ e
        exact absurd (by rw [e]; exact Nat.beq_refl _) hb
      · exact ih hm

theorem renMem_get {base : Nat} {rh : List (Nat × Nat)} {m : List Root} : ∀ (n h j : Nat), j < n → (renMem base rh m n h)[j]? = some (match lookBack rh (h + j) with | some l => (memFn m l).ren base m rh (h + j) | none => .dead)
  | 0, _, _, hj => by omega
  | n + 1, h, 0, _ => by
    simp only [renMem, Nat.add_zero, List.getElem?_cons_zero]
    cases lookBack rh h <;> rfl
  | n + 1, h, j + 1, hj => by
    simp only [renMem, List.getElem?_cons_succ]
    rw [renMem_get n (h + 1) j (by omega), show h + 1 + j = h + (j + 1) by omega]
theorem renMem_length {base : Nat} {rh : List (Nat × Nat)} {m : List Root} : ∀ (n h : Nat), (renMem base rh m n h).length = n
  | 0, _ => rfl
  | n + 1, h => by simp [renMem, renMem_length n]

section
variable {base n : Nat} {m : List Root} {rh : List (Nat × Nat)}

theorem Root.ren_own (h : Nat) (R : Root) (p : Pl) : (R.ren base m rh h).own p = R.own p := by cases R <;> rfl
theorem Root.ren_there (h : Nat) (R : Root) : (R.ren base m rh h).there = R.there := by cases R <;> rfl
theorem Root.ren_row (h : Nat) (R : Root) : (R.ren base m rh h).row? = R.row? := by cases R <;> rfl
theorem Root.ren_mat {h : Nat} {R : Root} {e : Ty} {a : At} {g : Nat} (hR : R.ren base m rh h = .mat e a g) : ∃ g', R = .mat e a g' ∧ g = gen0 base h g' := by
  cases R <;> simp only [Root.ren, reduceCtorEq, Root.mat.injEq] at hR
  obtain ⟨h1, h2, h3⟩ := hR
  subst h1 h2
  exact ⟨_, rfl, h3.symm⟩

/-- The context under the new names. -/
def Ctx.ren (X : Ctx) (base n : Nat) (m : List Root) (rh : List (Nat × Nat)) : Ctx :=
  { E := X.E, w := X.w, μ := memFn (renMem base rh m n 0), β := fun h => match lookBack rh h with | some l => X.β l | none => X.β h, A := fun r => r < n, F := X.F }

variable {X : Ctx}

theorem ren_at (hk : rhOk base n rh = true) {l h : Nat} (hm : (l, h) ∈ rh) : (X.ren base n m rh).μ h = (memFn m l).ren base m rh h ∧ (X.ren base n m rh).β h = X.β l ∧ h < n := by
  obtain ⟨i1, i2, i3⟩ := rhOk_inj hk
  obtain ⟨l', hl'⟩ := lookBack_of hm
  have : l' = l := i2 _ _ _ (lookBack_mem hl') hm
  subst this
  have hlt := (i3 _ _ hm).2
  refine ⟨?_, ?_, hlt⟩
  · show memFn (renMem base rh m n 0) h = _
    rw [memFn_get (renMem_get n 0 h hlt)]
    simp only [Nat.zero_add, hl']
  · simp only [Ctx.ren, hl']

/-- Each root is one of before, or nothing. -/
theorem ren_cases (r : Nat) : (∃ l, (l, r) ∈ rh ∧ r < n ∧ (X.ren base n m rh).μ r = (memFn m l).ren base m rh r ∧ (X.ren base n m rh).β r = X.β l) ∨ (X.ren base n m rh).μ r = .dead := by
  by_cases hr : r < n
  · cases hl : lookBack rh r with
    | none =>
      right
      show memFn (renMem base rh m n 0) r = _
      rw [memFn_get (renMem_get n 0 r hr)]
      simp only [Nat.zero_add, hl]
    | some l =>
      refine .inl ⟨l, lookBack_mem hl, hr, ?_, by simp only [Ctx.ren, hl]⟩
      show memFn (renMem base rh m n 0) r = _
      rw [memFn_get (renMem_get n 0 r hr)]
      simp only [Nat.zero_add, hl]
  · right
    exact memFn_out (by rw [renMem_length]; omega)

theorem ren_M (_hk : rhOk base n rh = true) (hμ : X.μ = memFn m) (hA : ∀ r, X.A r ↔ r < m.length) {b : Nat} (h : (X.ren base n m rh).M b) : X.M b := by
  rcases h with h | ⟨r, h1, h2⟩
  · exact .inl h
  · rcases ren_cases (X := X) (base := base) (n := n) (m := m) (rh := rh) r with ⟨l, q1, q2, q3, q4⟩ | q
    · rw [q3, q4, Root.ren_own, ← hμ] at h2
      refine .inr ⟨l, (hA l).2 (there_lt fun hd => ?_), h2⟩
      rw [hμ, hd] at h2
      simp [Root.own] at h2
    · rw [q] at h2
      simp [Root.own] at h2

theorem ren_K (hk : rhOk base n rh = true) (hμ : X.μ = memFn m) (hA : ∀ r, X.A r ↔ r < m.length) : Keeps X.w (X.ren base n m rh).w X.M (X.ren base n m rh).M := ⟨fun _ _ h _ => h, fun _ _ _ h h' => h (ren_M hk hμ hA h')⟩

theorem genOf_mat {r g : Nat} (h : genOf m r = some g) : ∃ e a, memFn m r = .mat e a g := by
  unfold genOf at h
  split at h
  · rename_i e a g' hm
    injection h with h
    exact ⟨e, a, by rw [hm, h]⟩
  · cases h

/-- A reference under its new name. -/
theorem ren_ref (hk : rhOk base n rh = true) (hμ : X.μ = memFn m) (hA : ∀ r, X.A r ↔ r < m.length) {s : SV} {v : Value} (h : Ref X s v) : s.ren base m rh = .un 1 ∨ Ref (X.ren base n m rh) (s.ren base m rh) v := by
  cases s <;> simp only [SV.ren] <;> try (right; simp only [Ref] at h ⊢; done)
  case h e r vw =>
    cases hl : look rh r with
    | none => exact .inl rfl
    | some r' =>
      right
      obtain ⟨q1, q2, q3⟩ := ren_at (X := X) hk (look_mem hl)
      simp only [Ref] at h ⊢
      refine ⟨h.1, q3, fun ht => ?_⟩
      rw [q1, Root.ren_there, ← hμ] at ht
      obtain ⟨a, d, h1, h2, h3⟩ := h.2.2 ht
      refine ⟨a, d, by rw [q1, Root.ren_row, ← hμ]; exact h1, h2, ?_⟩
      rw [q2]
      exact h3
  case hc e r hi =>
    cases hl : look rh r with
    | none => exact .inl rfl
    | some r' =>
      right
      obtain ⟨q1, q2, q3⟩ := ren_at (X := X) hk (look_mem hl)
      simp only [Ref] at h ⊢
      refine ⟨h.1, q3, fun ht => ?_⟩
      rw [q1, Root.ren_there, ← hμ] at ht
      obtain ⟨a, d, h1, h2, h3⟩ := h.2.2 ht
      refine ⟨a, d, by rw [q1, Root.ren_row, ← hμ]; exact h1, h2, ?_⟩
      rw [q2]
      exact h3
  case z e a => right; simp only [Ref] at h ⊢; exact h
  case pd T a =>
    right
    simp only [Ref] at h ⊢
    obtain ⟨ad, d, xs, h1, h2, h3, h4, h5⟩ := h
    exact ⟨ad, d, xs, h1, h2, h3.keep (ren_K hk hμ hA), h4, fun hx hM => h5 hx (ren_M hk hμ hA hM)⟩
  case p R T r q =>
    cases hl : look rh r with
    | none => exact .inl rfl
    | some r' =>
      right
      obtain ⟨q1, q2, q3⟩ := ren_at (X := X) hk (look_mem hl)
      simp only [Ref] at h ⊢
      obtain ⟨_, b, off, h1, h2, h3⟩ := h
      exact ⟨q3, b, off, h1, by rw [q2]; exact h2, h3⟩
  case hb R e k r q =>
    cases hl : look rh r with
    | none => exact .inl rfl
    | some r' =>
      right
      obtain ⟨q1, q2, q3⟩ := ren_at (X := X) hk (look_mem hl)
      simp only [Ref] at h ⊢
      obtain ⟨_, h1, h2, b, h3, h4⟩ := h
      exact ⟨q3, h1, h2, b, by rw [q2]; exact h3, h4⟩
  case hr e r ix g =>
    cases hl : look rh r with
    | none => exact .inl rfl
    | some r' =>
      cases hg : genOf m r with
      | none => exact .inl rfl
      | some g' =>
        simp only
        split
        · rename_i hb
          have := nat_beq hb
          subst this
          right
          obtain ⟨q1, q2, q3⟩ := ren_at (X := X) hk (look_mem hl)
          obtain ⟨em, am, hm⟩ := genOf_mat hg
          simp only [Ref] at h ⊢
          refine ⟨h.1, q3, fun e' a' g2 hm2 => ?_⟩
          rw [q1, hm] at hm2
          simp only [Root.ren, Root.mat.injEq] at hm2
          obtain ⟨e1, e2, e3⟩ := hm2
          subst e1 e2 e3
          refine ⟨Nat.le_refl _, fun _ => ?_⟩
          obtain ⟨_, hh⟩ := h.2.2 em am g (by rw [hμ]; exact hm)
          obtain ⟨he, k, i, ds, d, o, h1, h2, h3, h4, h5⟩ := hh rfl
          exact ⟨he, k, i, ds, d, o, h1, h2, h3, by rw [q2]; exact h4, h5⟩
        · exact .inl rfl
  case pm e T r ix q g =>
    cases hl : look rh r with
    | none => exact .inl rfl
    | some r' =>
      cases hg : genOf m r with
      | none => exact .inl rfl
      | some g' =>
        simp only
        split
        · rename_i hb
          have := nat_beq hb
          subst this
          right
          obtain ⟨q1, q2, q3⟩ := ren_at (X := X) hk (look_mem hl)
          obtain ⟨em, am, hm⟩ := genOf_mat hg
          simp only [Ref] at h ⊢
          refine ⟨h.1, q3, fun e' a' g2 hm2 => ?_⟩
          rw [q1, hm] at hm2
          simp only [Root.ren, Root.mat.injEq] at hm2
          obtain ⟨e1, e2, e3⟩ := hm2
          subst e1 e2 e3
          refine ⟨Nat.le_refl _, fun _ => ?_⟩
          obtain ⟨_, hh⟩ := h.2.2 em am g (by rw [hμ]; exact hm)
          obtain ⟨he, k, i, b, off, h1, h2, h3⟩ := hh rfl
          exact ⟨he, k, i, b, off, h1, by rw [q2]; exact h2, h3⟩
        · exact .inl rfl

theorem ren_cell (hk : rhOk base n rh = true) (hμ : X.μ = memFn m) (hA : ∀ r, X.A r ↔ r < m.length) {s : SV} {cs : List Value} (h : ∃ v, cs = [v] ∧ Ref X s v) (hs : ∀ s' : SV, s' = s.ren base m rh → (∃ n, s' = .un n) ∨ (∀ cs, (∃ v, cs = [v] ∧ Ref (X.ren base n m rh) s' v) → CRep (X.ren base n m rh) s' cs)) : CRep (X.ren base n m rh) (s.ren base m rh) cs := by
  obtain ⟨v, e, hv⟩ := h
  subst e
  rcases ren_ref (n := n) hk hμ hA hv with h1 | h1
  · rw [h1]
    simp only [CRep]
    exact ⟨rfl, fun u hu => by simp at hu; subst hu; exact hv.one⟩
  · rcases hs _ rfl with ⟨k, h2⟩ | h2
    · rw [h2] at h1
      simp only [Ref] at h1
    · exact h2 _ ⟨v, rfl, h1⟩

theorem ren_hasTy {s : SV} {T : Ty} {cs : List Value} (ht : s.hasTy T) (hc : CRep X s cs) : (s.ren base m rh).hasTy T := by
  have key : ∀ {s' : SV}, s.ren base m rh = s' → s'.hasTy T ∨ (s' = .un 1 ∧ T.size = 1) → (s.ren base m rh).hasTy T := fun e h => by
    rw [e]
    rcases h with h | ⟨h, h1⟩
    · exact h
    · rw [h]; exact h1.symm
  have one : T.size = 1 → ∀ {o : Option Nat} {f : Nat → SV}, (∀ r', (f r').hasTy T) → (match o with | some r' => f r' | none => SV.un 1).hasTy T := fun h1 o f hf => by
    cases o with
    | none => exact h1.symm
    | some r => exact hf r
  cases s <;> simp only [SV.ren] <;> simp only [SV.hasTy] at ht <;> try (subst ht)
  case h e r vw => cases look rh r <;> simp [SV.hasTy, Ty.size]
  case hc e r i => cases look rh r <;> simp [SV.hasTy, Ty.size]
  case p R T r q => cases look rh r <;> simp [SV.hasTy, Ty.size]
  case hb R e k r q => cases look rh r <;> simp [SV.hasTy, Ty.size]
  case hr e r i g =>
    cases look rh r <;> cases genOf m r <;> first | rfl | (simp only; split <;> rfl)
  case pm e T r i q g =>
    cases look rh r <;> cases genOf m r <;> first | rfl | (simp only; split <;> rfl)
  all_goals simp only [SV.hasTy]

mutual
theorem ren_crep (hk : rhOk base n rh = true) (hμ : X.μ = memFn m) (hA : ∀ r, X.A r ↔ r < m.length) : ∀ {s : SV} {cs : List Value}, CRep X s cs → CRep (X.ren base n m rh) (s.ren base m rh) cs
  | .un _, cs, h => by simpa only [SV.ren, CRep] using h
  | .cv _, cs, h => by simpa only [SV.ren, CRep] using h
  | .d T a, cs, h => by
    simp only [SV.ren, CRep] at h ⊢
    obtain ⟨d, h1, h2⟩ := h
    exact ⟨d, h1, h2.keep (ren_K hk hμ hA)⟩
  | .ag T l, cs, h => by
    cases T <;> simp only [SV.ren, CRep] at h ⊢
    exact ren_crepL hk hμ hA h
  | .fn f u l, cs, h => by
    simp only [SV.ren, CRep] at h ⊢
    obtain ⟨us, vs, h1, h2, h3⟩ := h
    exact ⟨us, vs, h1, ren_vrepL hk hμ hA h2, ren_vrepL hk hμ hA h3⟩
  | .tu _, _, h => by simp only [CRep] at h
  | .z e a, cs, h => by
    simp only [SV.ren, CRep, Ref] at h ⊢
    exact h
  | .pd T a, cs, h => by
    have h' : ∃ v, cs = [v] ∧ Ref X (.pd T a) v := by simpa only [CRep] using h
    exact ren_cell hk hμ hA h' fun s' e => .inr fun cs hh => by subst e; simp only [SV.ren, CRep] at hh ⊢; exact hh
  | .h e r vw, cs, h => by
    have h' : ∃ v, cs = [v] ∧ Ref X (.h e r vw) v := by simpa only [CRep] using h
    refine ren_cell hk hμ hA h' fun s' e => ?_
    subst e
    simp only [SV.ren]
    cases look rh r with
    | none => exact .inl ⟨1, rfl⟩
    | some r' => exact .inr fun cs hh => by simp only [CRep]; exact hh
  | .hc e r i, cs, h => by
    have h' : ∃ v, cs = [v] ∧ Ref X (.hc e r i) v := by simpa only [CRep] using h
    refine ren_cell hk hμ hA h' fun s' e => ?_
    subst e
    simp only [SV.ren]
    cases look rh r with
    | none => exact .inl ⟨1, rfl⟩
    | some r' => exact .inr fun cs hh => by simp only [CRep]; exact hh
  | .p R T r q, cs, h => by
    have h' : ∃ v, cs = [v] ∧ Ref X (.p R T r q) v := by simpa only [CRep] using h
    refine ren_cell hk hμ hA h' fun s' e => ?_
    subst e
    simp only [SV.ren]
    cases look rh r with
    | none => exact .inl ⟨1, rfl⟩
    | some r' => exact .inr fun cs hh => by simp only [CRep]; exact hh
  | .hb R e k r q, cs, h => by
    have h' : ∃ v, cs = [v] ∧ Ref X (.hb R e k r q) v := by simpa only [CRep] using h
    refine ren_cell hk hμ hA h' fun s' e => ?_
    subst e
    simp only [SV.ren]
    cases look rh r with
    | none => exact .inl ⟨1, rfl⟩
    | some r' => exact .inr fun cs hh => by simp only [CRep]; exact hh
  | .hr e r i g, cs, h => by
    have h' : ∃ v, cs = [v] ∧ Ref X (.hr e r i g) v := by simpa only [CRep] using h
    refine ren_cell hk hμ hA h' fun s' e => ?_
    subst e
    simp only [SV.ren]
    cases look rh r with
    | none => exact .inl ⟨1, rfl⟩
    | some r' =>
      cases genOf m r with
      | none => exact .inl ⟨1, rfl⟩
      | some g' =>
        simp only
        split
        · exact .inr fun cs hh => by simp only [CRep]; exact hh
        · exact .inl ⟨1, rfl⟩
  | .pm e T r i q g, cs, h => by
    have h' : ∃ v, cs = [v] ∧ Ref X (.pm e T r i q g) v := by simpa only [CRep] using h
    refine ren_cell hk hμ hA h' fun s' e => ?_
    subst e
    simp only [SV.ren]
    cases look rh r with
    | none => exact .inl ⟨1, rfl⟩
    | some r' =>
      cases genOf m r with
      | none => exact .inl ⟨1, rfl⟩
      | some g' =>
        simp only
        split
        · exact .inr fun cs hh => by simp only [CRep]; exact hh
        · exact .inl ⟨1, rfl⟩
theorem ren_crepL (hk : rhOk base n rh = true) (hμ : X.μ = memFn m) (hA : ∀ r, X.A r ↔ r < m.length) : ∀ {l : List SV} {Ts : List Ty} {cs : List Value}, CRepL X l Ts cs → CRepL (X.ren base n m rh) (SV.renL base m rh l) Ts cs
  | [], [], cs, h => by simpa only [SV.renL, CRepL] using h
  | s :: l, T :: Ts, cs, h => by
    simp only [SV.renL, CRepL] at h ⊢
    obtain ⟨c1, c2, e, h0, h1, h2⟩ := h
    exact ⟨c1, c2, e, ren_hasTy h0 h1, ren_crep hk hμ hA h1, ren_crepL hk hμ hA h2⟩
  | [], _ :: _, _, h => by simp only [CRepL] at h
  | _ :: _, [], _, h => by simp only [CRepL] at h
theorem ren_vrep (hk : rhOk base n rh = true) (hμ : X.μ = memFn m) (hA : ∀ r, X.A r ↔ r < m.length) : ∀ {s : SV} {v : Value}, VRep X s v → VRep (X.ren base n m rh) (s.ren base m rh) v
  | .un _, v, h => by simp only [SV.ren, VRep]
  | .cv v', v, h => by simpa only [SV.ren, VRep] using h
  | .d T a, v, h => by
    simp only [SV.ren]
    obtain ⟨d, h1, h2⟩ := VRep.data.1 h
    exact VRep.data.2 ⟨d, h1, h2.keep (ren_K hk hμ hA)⟩
  | .ag T l, v, h => by
    cases T <;> simp only [SV.ren, VRep] at h ⊢
    obtain ⟨cs, h1, h2⟩ := h
    exact ⟨cs, h1, ren_crepL hk hμ hA h2⟩
  | .fn f u l, v, h => by
    simp only [SV.ren, VRep] at h ⊢
    obtain ⟨us, vs, h1, h2, h3⟩ := h
    exact ⟨us, vs, h1, ren_vrepL hk hμ hA h2, ren_vrepL hk hμ hA h3⟩
  | .tu l, v, h => by
    simp only [SV.ren, VRep] at h ⊢
    obtain ⟨vs, h1, h2⟩ := h
    exact ⟨vs, h1, ren_vrepL hk hμ hA h2⟩
  | .z e a, cs, h => by
    simp only [SV.ren, VRep, Ref] at h ⊢
    exact h
  | .pd T a, v, h => by
    have h' : Ref X (.pd T a) v := by simpa only [VRep] using h
    rcases ren_ref (n := n) hk hμ hA h' with h1 | h1
    · rw [h1]; simp only [VRep]
    · simp only [SV.ren, VRep] at h1 ⊢; exact h1
  | .h e r vw, v, h => by
    have h' : Ref X (.h e r vw) v := by simpa only [VRep] using h
    rcases ren_ref (n := n) hk hμ hA h' with h1 | h1
    · rw [h1]; simp only [VRep]
    · simp only [SV.ren] at h1 ⊢
      cases hl : look rh r with
      | none => simp only [VRep]
      | some r' => rw [hl] at h1; simp only [VRep]; exact h1
  | .hc e r i, v, h => by
    have h' : Ref X (.hc e r i) v := by simpa only [VRep] using h
    rcases ren_ref (n := n) hk hμ hA h' with h1 | h1
    · rw [h1]; simp only [VRep]
    · simp only [SV.ren] at h1 ⊢
      cases hl : look rh r with
      | none => simp only [VRep]
      | some r' => rw [hl] at h1; simp only [VRep]; exact h1
  | .p R T r q, v, h => by
    have h' : Ref X (.p R T r q) v := by simpa only [VRep] using h
    rcases ren_ref (n := n) hk hμ hA h' with h1 | h1
    · rw [h1]; simp only [VRep]
    · simp only [SV.ren] at h1 ⊢
      cases hl : look rh r with
      | none => simp only [VRep]
      | some r' => rw [hl] at h1; simp only [VRep]; exact h1
  | .hb R e k r q, v, h => by
    have h' : Ref X (.hb R e k r q) v := by simpa only [VRep] using h
    rcases ren_ref (n := n) hk hμ hA h' with h1 | h1
    · rw [h1]; simp only [VRep]
    · simp only [SV.ren] at h1 ⊢
      cases hl : look rh r with
      | none => simp only [VRep]
      | some r' => rw [hl] at h1; simp only [VRep]; exact h1
  | .hr e r i g, v, h => by
    have h' : Ref X (.hr e r i g) v := by simpa only [VRep] using h
    rcases ren_ref (n := n) hk hμ hA h' with h1 | h1
    · rw [h1]; simp only [VRep]
    · simp only [SV.ren] at h1 ⊢
      cases hl : look rh r with
      | none => simp only [VRep]
      | some r' =>
        cases hg : genOf m r with
        | none => simp only [VRep]
        | some g' =>
          rw [hl, hg] at h1
          simp only at h1 ⊢
          split
          · rename_i hb; rw [if_pos hb] at h1; simp only [VRep]; exact h1
          · simp only [VRep]
  | .pm e T r i q g, v, h => by
    have h' : Ref X (.pm e T r i q g) v := by simpa only [VRep] using h
    rcases ren_ref (n := n) hk hμ hA h' with h1 | h1
    · rw [h1]; simp only [VRep]
    · simp only [SV.ren] at h1 ⊢
      cases hl : look rh r with
      | none => simp only [VRep]
      | some r' =>
        cases hg : genOf m r with
        | none => simp only [VRep]
        | some g' =>
          rw [hl, hg] at h1
          simp only at h1 ⊢
          split
          · rename_i hb; rw [if_pos hb] at h1; simp only [VRep]; exact h1
          · simp only [VRep]
theorem ren_vrepL (hk : rhOk base n rh = true) (hμ : X.μ = memFn m) (hA : ∀ r, X.A r ↔ r < m.length) : ∀ {l : List SV} {vs : List Value}, VRepL X l vs → VRepL (X.ren base n m rh) (SV.renL base m rh l) vs
  | [], vs, h => by simpa only [SV.renL, VRepL] using h
  | s :: l, vs, h => by
    simp only [SV.renL, VRepL] at h ⊢
    obtain ⟨v, r, e, h1, h2⟩ := h
    exact ⟨v, r, e, ren_vrep hk hμ hA h1, ren_vrepL hk hμ hA h2⟩
end

theorem ren_mem {B0 : Nat} (hk : rhOk base n rh = true) (hμ : X.μ = memFn m) (hA : ∀ r, X.A r ↔ r < m.length) (hm : Mem B0 X) : Mem B0 (X.ren base n m rh) where
  rep := fun r _ => by
    rcases ren_cases (X := X) (base := base) (n := n) (m := m) (rh := rh) r with ⟨l, q1, q2, q3, q4⟩ | q
    · rw [q3]
      have K := ren_K (X := X) hk hμ hA
      by_cases hd : memFn m l = .dead
      · rw [hd]; trivial
      · have hAl := (hA l).2 (there_lt hd)
        have h := hm.rep l hAl
        rw [hμ] at h
        cases hR : memFn m l with
        | dead => exact absurd hR hd
        | box T v =>
          rw [hR] at h
          obtain ⟨b, c, te, h1, h2, h3, h4⟩ := h
          exact ⟨b, c, te, by rw [q4]; exact h1, h2, ren_hasTy h3 h4, ren_crep hk hμ hA h4⟩
        | row e a =>
          rw [hR] at h
          obtain ⟨d, h1, h2⟩ := h
          refine ⟨d, h1, ?_⟩
          rw [q4]
          rcases h2 with h2 | ⟨b, c, te, fr, l', xs, p1, p2, p3, p4, p5, p6⟩
          · exact .inl h2
          · exact .inr ⟨b, c, te, fr, l', xs, p1, p2, p3, p4, p5.keep K, p6⟩
        | fz e a =>
          rw [hR] at h
          obtain ⟨⟨d, h1, h2⟩, h3⟩ := h
          refine ⟨⟨d, h1, ?_⟩, fun b hb hM => h3 b (by rw [q4] at hb; exact hb) (ren_M hk hμ hA hM)⟩
          rw [q4]
          rcases h2 with h2 | ⟨b, c, te, fr, l', xs, p1, p2, p3, p4, p5, p6⟩
          · exact .inl h2
          · exact .inr ⟨b, c, te, fr, l', xs, p1, p2, p3, p4, p5.keep K, p6⟩
        | mat e a g =>
          rw [hR] at h
          obtain ⟨d, h1, h2⟩ := h
          refine ⟨d, h1, ?_⟩
          rw [q4]
          rcases h2 with h2 | ⟨b, c, te, l', xs, p1, p2, p3, p4, p5⟩
          · exact .inl h2
          · exact .inr ⟨b, c, te, l', xs, p1, p2, p3, p4.keep K (fun _ _ => rfl), p5⟩
    · rw [q]; trivial
  apart := fun r r' b h1 h2 h3 h4 => by
    rcases ren_cases (X := X) (base := base) (n := n) (m := m) (rh := rh) r with ⟨l, q1, q2, q3, q4⟩ | q
    · rcases ren_cases (X := X) (base := base) (n := n) (m := m) (rh := rh) r' with ⟨l', p1, p2, p3, p4⟩ | p
      · rw [q3, q4, Root.ren_own, ← hμ] at h3
        rw [p3, p4, Root.ren_own, ← hμ] at h4
        have hl : X.A l := (hA l).2 (there_lt fun hd => by rw [hμ, hd] at h3; simp [Root.own] at h3)
        have hl' : X.A l' := (hA l').2 (there_lt fun hd => by rw [hμ, hd] at h4; simp [Root.own] at h4)
        have := hm.apart l l' b hl hl' h3 h4
        subst this
        exact (rhOk_inj hk).1 l r r' q1 p1
      · rw [p] at h4; simp [Root.own] at h4
    · rw [q] at h3; simp [Root.own] at h3
  once := fun r _ => by
    rcases ren_cases (X := X) (base := base) (n := n) (m := m) (rh := rh) r with ⟨l, q1, q2, q3, q4⟩ | q
    · rw [q3, q4, Root.ren_own, ← hμ]
      by_cases hd : memFn m l = .dead
      · rw [hμ, hd]; simp [Root.own]
      · exact hm.once l ((hA l).2 (there_lt hd))
    · rw [q]; simp [Root.own]
  low := fun r b _ h2 => by
    rcases ren_cases (X := X) (base := base) (n := n) (m := m) (rh := rh) r with ⟨l, q1, q2, q3, q4⟩ | q
    · rw [q3, q4, Root.ren_own, ← hμ] at h2
      exact hm.low l b ((hA l).2 (there_lt fun hd => by rw [hμ, hd] at h2; simp [Root.own] at h2)) h2
    · rw [q] at h2; simp [Root.own] at h2
  frame := hm.frame

theorem ren_ext {Xe : Ctx} (hk : rhOk base n rh = true) (hμ : X.μ = memFn m) (hA : ∀ r, X.A r ↔ r < m.length) (hbn : base ≤ n) (hXe : ∀ r, Xe.A r → r < base) (x : Ext Xe X) : Ext Xe (X.ren base n m rh) := by
  have K := ren_K (X := X) hk hμ hA
  -- the caller's roots keep their names, or are gone
  have low : ∀ r, Xe.A r → ((X.ren base n m rh).μ r = (X.μ r).ren base m rh r ∧ (X.ren base n m rh).β r = X.β r) ∨ ((X.ren base n m rh).μ r = .dead ∧ (X.ren base n m rh).β r = X.β r) := fun r hr => by
    have hb := hXe r hr
    cases hl : lookBack rh r with
    | none =>
      refine .inr ⟨?_, by simp only [Ctx.ren, hl]⟩
      show memFn (renMem base rh m n 0) r = _
      rw [memFn_get (renMem_get n 0 r (by omega))]
      simp only [Nat.zero_add, hl]
    | some l =>
      have hm := lookBack_mem hl
      have : l = r := by
        rcases ((rhOk_inj hk).2.2 l r hm).1 with h | h
        · exact h
        · omega
      subst this
      refine .inl ⟨?_, by simp only [Ctx.ren, hl]⟩
      show memFn (renMem base rh m n 0) l = _
      rw [memFn_get (renMem_get n 0 l (by omega)), hμ]
      simp only [Nat.zero_add, hl]
  have gk : ∀ r g, Xe.A r → gen0 base r g = g := fun r g hr => by
    unfold gen0
    rw [if_pos (by rw [Nat.blt_eq]; exact hXe r hr)]
  exact
    { E := x.E
      K := ⟨fun a v h hm => K.cell a v (x.K.cell a v h hm) (x.K.free a v h hm), fun a v h hm => K.free a v (x.K.cell a v h hm) (x.K.free a v h hm)⟩
      F := x.F
      A := fun r hr => Nat.lt_of_lt_of_le (hXe r hr) hbn
      β := fun r hr => by
        rcases low r hr with ⟨h1, h2⟩ | ⟨h1, h2⟩
        · exact ⟨fun ht => (x.β r hr).1 (by rw [h1, Root.ren_there] at ht; exact ht), by rw [h2]; exact (x.β r hr).2⟩
        · exact ⟨fun ht => (by rw [h1] at ht; cases ht), by rw [h2]; exact (x.β r hr).2⟩
      row := fun r e a d hr ht h1 h2 => by
        rcases low r hr with ⟨q1, q2⟩ | ⟨q1, q2⟩
        · rw [q1, Root.ren_there] at ht
          rw [q1, Root.ren_row]
          exact x.row r e a d hr ht h1 h2
        · rw [q1] at ht; cases ht
      mat := fun r e a' g hr h1 => by
        rcases low r hr with ⟨q1, q2⟩ | ⟨q1, q2⟩
        · rw [q1] at h1
          obtain ⟨g', e1, e2⟩ := Root.ren_mat h1
          rw [gk r g' hr] at e2
          subst e2
          rw [q2]
          exact x.mat r e a' g hr e1
        · rw [q1] at h1; cases h1
      gen := fun r e a g e' a' g' hr h1 h2 => by
        rcases low r hr with ⟨q1, q2⟩ | ⟨q1, q2⟩
        · rw [q1] at h2
          obtain ⟨g2, e1, e2⟩ := Root.ren_mat h2
          rw [gk r g2 hr] at e2
          subst e2
          exact x.gen r e a g e' a' g' hr h1 e1
        · rw [q1] at h2; cases h2
      size := fun r b k hr ht hb hk' => by
        rcases low r hr with ⟨q1, q2⟩ | ⟨q1, q2⟩
        · exact x.size r b k hr (by rw [q1, Root.ren_there] at ht; exact ht) hb hk'
        · rw [q1] at ht; cases ht }
end

end Go.SX

/- A state fits another one. -/
namespace Go.SX
open Go.RowKit (Below)

/-- Bindings that are primitive operations, the latest one first. -/
def evPrims : List Bd → List D → Option (List D)
  | [], E => some E
  | .prim p as :: l, E => match evPrims l E with
    | none => none
    | some E1 => match gets E1 as with
      | none => none
      | some vs => match p.run vs with
        | none => none
        | some d => some (E1 ++ [d])
  | _ :: _, _ => none

section
variable {C : FuncId → List D → Option (List D)} {k : Nat}

theorem ev_prims : ∀ {bs : List Bd} {t : Tree} {E : List D}, primsOnly bs = true → ev C k (bdsOn bs t) E = match evPrims bs E with | some E1 => ev C k t E1 | none => none
  | [], t, E, _ => rfl
  | .prim p as :: l, t, E, h => by
    simp only [primsOnly] at h
    simp only [bdsOn, Bd.on]
    rw [ev_prims h]
    simp only [evPrims]
    cases evPrims l E with
    | none => rfl
    | some E1 =>
      simp only [ev]
      cases gets E1 as with
      | none => rfl
      | some vs =>
        simp only
        cases p.run vs with
        | none => rfl
        | some d => rfl
  | .call .. :: _, _, _, h => by simp [primsOnly] at h
  | .sub .. :: _, _, _, h => by simp [primsOnly] at h

theorem evPrims_sat : ∀ {bs : List Bd} {E E1 : List D}, evPrims bs E = some E1 → ∃ G, E1 = E ++ G ∧ G.length = outsL bs ∧ Sat C k E1 bs E1.length
  | [], E, E1, h => by
    simp only [evPrims, Option.some.injEq] at h
    subst h
    exact ⟨[], by simp, rfl, trivial⟩
  | .prim p as :: l, E, E1, h => by
    simp only [evPrims] at h
    cases h1 : evPrims l E with
    | none => simp [h1] at h
    | some E2 =>
      simp only [h1] at h
      cases h2 : gets E2 as with
      | none => simp [h2] at h
      | some vs =>
        simp only [h2] at h
        cases h3 : p.run vs with
        | none => simp [h3] at h
        | some d =>
          simp only [h3, Option.some.injEq] at h
          subst h
          obtain ⟨G, g1, g2, g3⟩ := evPrims_sat h1
          refine ⟨G ++ [d], by rw [g1, List.append_assoc], by simp [outsL, Bd.outs, g2, Nat.add_comm], E2.length, by simp [Bd.outs], ⟨vs, d, gets_app h2, h3, by simp⟩, g3.app⟩
  | .call .. :: _, _, _, h => by simp [evPrims] at h
  | .sub .. :: _, _, _, h => by simp [evPrims] at h
end

/-! ### Slots, as a list -/
theorem slots_list {X : Ctx} : ∀ {sl : List SV} {vs : List Value}, vs.length = sl.length → (∀ t : Nat, VRep X ((sl[t]?).getD (.un 1)) ((vs[t]?).getD undef)) → VRepL X sl vs
  | [], vs, hl, _ => by
    simp only [VRepL]
    exact List.eq_nil_of_length_eq_zero (by simpa using hl)
  | s :: sl, [], hl, _ => by simp at hl
  | s :: sl, v :: vs, hl, h => by
    simp only [VRepL]
    exact ⟨v, vs, rfl, h 0, slots_list (by simpa using hl) fun t => h (t + 1)⟩
theorem slots_at {X : Ctx} : ∀ {sl : List SV} {vs : List Value}, VRepL X sl vs → ∀ t : Nat, VRep X ((sl[t]?).getD (.un 1)) ((vs[t]?).getD undef)
  | [], vs, _, t => by simp [VRep]
  | s :: sl, vs, h, t => by
    simp only [VRepL] at h
    obtain ⟨v, r, e, h1, h2⟩ := h
    subst e
    cases t with
    | zero => exact h1
    | succ t => exact slots_at h2 t
theorem leSlots {X : Ctx} : ∀ {a b : List SV} {vs : List Value}, slotsLe a b = true → VRepL X a vs → VRepL X b vs
  | [], [], _, _, h => h
  | x :: a, y :: b, vs, hle, h => by
    simp only [slotsLe, Bool.and_eq_true] at hle
    simp only [VRepL] at h ⊢
    obtain ⟨v, r, e, h1, h2⟩ := h
    exact ⟨v, r, e, leSlot_vrep hle.1 h1, leSlots hle.2 h2⟩
  | [], _ :: _, _, hle, _ => by simp [slotsLe] at hle
  | _ :: _, [], _, hle, _ => by simp [slotsLe] at hle
theorem memLe_get : ∀ {a b : List Root}, memLe a b = true → a.length = b.length ∧ ∀ r, (memFn a r).le (memFn b r) = true
  | [], [], _ => ⟨rfl, fun r => by simp [memFn, Root.le]⟩
  | x :: a, y :: b, h => by
    simp only [memLe, Bool.and_eq_true] at h
    obtain ⟨h1, h2⟩ := memLe_get h.2
    refine ⟨by simp [h1], fun r => ?_⟩
    cases r with
    | zero => exact h.1
    | succ r => exact h2 r
  | [], _ :: _, h => by simp [memLe] at h
  | _ :: _, [], h => by simp [memLe] at h
theorem memFn_map {n0 : Nat} {sg : List At} (l : List Root) (r : Nat) : memFn (l.map (Root.inst n0 sg)) r = (memFn l r).inst n0 sg := by
  unfold memFn
  rw [List.getElem?_map]
  cases l[r]? <;> rfl
theorem sgOf_length (sg : List (Nat × At)) : ∀ (n j : Nat), (sgOf sg n j).length = n
  | 0, _ => rfl
  | n + 1, j => by simp [sgOf, sgOf_length sg n]
theorem gets_length {E : List D} : ∀ {as : List At} {vs : List D}, gets E as = some vs → vs.length = as.length
  | [], vs, h => by rw [gets_nil h]; rfl
  | a :: l, vs, h => by
    obtain ⟨d, ds, _, h2, h3⟩ := gets_cons h
    subst h3
    simp [gets_length h2]
theorem gets_get {E : List D} : ∀ {as : List At} {vs : List D} {j : Nat} {a : At}, gets E as = some vs → as[j]? = some a → a.get E = vs[j]?
  | [], _, _, _, _, h => by simp at h
  | b :: l, vs, j, a, h, hj => by
    obtain ⟨d, ds, h1, h2, h3⟩ := gets_cons h
    subst h3
    cases j with
    | zero => simp at hj; subst hj; simpa using h1
    | succ j => simpa using gets_get h2 (by simpa using hj)

/-- A state that fits another one is the other one, with values for its variables. -/
theorem fit_sound {B0 : Nat} {w0 : World} {Xe : Ctx} (hB0 : B0 ≤ w0.heap.size) {n0 : Nat} {H L : St} {sg : List At} {bs : List Bd} (h : fit n0 H L = some (sg, bs)) (hok : H.okAt = true) (hn : n0 ≤ H.nv) {E0 F : List D} (hE0 : E0.length = n0) (hEl : (E0 ++ F).length = L.nv)
    (hXe : ∀ (i : Nat) (d : D), Xe.E[i]? = some d → E0[i]? = some d) (hXA : ∀ r, Xe.A r → r < L.base) {E1 : List D} (hev : evPrims bs (E0 ++ F) = some E1) {vs : List D} (hg : gets E1 sg = some vs) {a : Act} {w : World}
    (hinv : Inv B0 w0 Xe (E0 ++ F) L.slots L.root (fun r => r < L.mem.length) a w) : vs.length = H.nv - n0 ∧ H.base = L.base ∧ Inv B0 w0 Xe (E0 ++ vs) H.slots H.root (fun r => r < H.mem.length) a w := by
  unfold fit at h
  generalize h1 : coL H.mem H.slots L.slots ⟨L.mem, L.nv, []⟩ = p1 at h
  obtain ⟨s1, c1⟩ := p1
  simp only at h
  generalize hc2 : coRoots H (mtAll n0 H s1 c1.m).rh c1 = c2 at h
  generalize hc3 : coRoots H ((mtAll n0 H s1 c2.m).rh.drop (mtAll n0 H s1 c1.m).rh.length) c2 = c3 at h
  generalize (mtAll n0 H s1 c3.m).rh = rh at h
  generalize hsg : sgOf (mtAll n0 H s1 c3.m).sg (H.nv - n0) 0 = sg' at h
  split at h
  · rename_i hc
    injection h with h
    injection h with e1 e2
    subst e1 e2
    simp only [Bool.and_eq_true] at hc
    obtain ⟨⟨⟨⟨⟨⟨k1, k2⟩, k3⟩, k4⟩, k5⟩, k6⟩, k7⟩ := hc
    have hsl : sg'.length = H.nv - n0 := by rw [← hsg]; exact sgOf_length _ _ _
    have hvl : vs.length = H.nv - n0 := by rw [gets_length hg, hsl]
    have hb := nat_beq k4
    rw [Nat.ble_eq] at k5
    refine ⟨hvl, hb, ?_⟩
    obtain ⟨X, x1, x2, x3, x4, x5, x6, x7, x8, x9, x10⟩ := hinv
    have hB : B0 ≤ X.w.heap.size := by rw [x2]; exact Nat.le_trans hB0 x7.size
    -- all variables
    obtain ⟨G, g1, g2, g3⟩ := evPrims_sat (C := fun _ _ => none) (k := 0) hev
    have hnv : c3.nv = E1.length := by rw [nat_beq k3, g1, List.length_append, hEl, g2]
    rw [← hnv] at g3
    obtain ⟨y1, m1⟩ := x5.moreE hB (E' := E1) (fun i d hi => by rw [x1] at hi; rw [g1]; exact get_app hi)
    have c0 : CoOk B0 (fun _ _ => none) 0 { X with E := E1 } ⟨L.mem, L.nv, []⟩ := ⟨by show X.μ = _; rw [x3]; rfl, x4, m1, hB⟩
    have hv0 : VRepL { X with E := E1 } L.slots a.tmps.toList := VRepL.ext y1 (slots_list (by simpa using x8) fun t => by
      have := x10 t
      rw [Array.getD_eq_getD_getElem?, ← Array.getElem?_toList] at this
      exact this)
    -- made alike
    have g3' : Sat (fun _ _ => none) 0 ({ X with E := E1 } : Ctx).E c3.bs c3.nv := g3
    have s2 := coRoots_sat hc3 g3'
    have s1' := coRoots_sat hc2 s2
    obtain ⟨X1, t1, ok1, hv1⟩ := coL_sound _ _ _ h1 c0 s1' hv0
    obtain ⟨X2, e2, f2, y2, ok2⟩ := coRoots_sound hc2 ok1 (by rw [t1.E]; exact s2)
    obtain ⟨X3, e3, f3, y3, ok3⟩ := coRoots_sound hc3 ok2 (by rw [e2, t1.E]; exact g3')
    have hv3 := VRepL.ext (y2.trans y3) hv1
    have hE3 : X3.E = E1 := by rw [e3, e2, t1.E]
    have hw3 : X3.w = w := by rw [f3, f2, t1.w]; exact x2
    have xe3 : Ext Xe X3 := (((x6.trans y1).trans t1.ext).trans y2).trans y3
    -- renamed
    have hv4 := ren_vrepL (n := H.mem.length) k1 ok3.μ ok3.A hv3
    have m4 := ren_mem k1 ok3.μ ok3.A ok3.mem
    have xe4 := ren_ext k1 ok3.μ ok3.A k5 hXA xe3
    -- says less
    obtain ⟨hlen, hle⟩ := memLe_get k7
    obtain ⟨y5, m5⟩ := m4.weakenAll (X := X3.ren L.base H.mem.length c3.m rh) (by show B0 ≤ X3.w.heap.size; exact ok3.B) (μ' := memFn (H.mem.map (Root.inst n0 sg'))) (N := H.mem.length) (fun r hr => hr) (fun r _ => .inr (hle r))
    have hv5 := leSlots k6 (VRepL.ext y5 hv4)
    -- its own variables
    unfold St.okAt at hok
    simp only [Bool.and_eq_true] at hok
    have tr : Tr H.nv n0 sg' { X3.ren L.base H.mem.length c3.m rh with μ := memFn (H.mem.map (Root.inst n0 sg')) } { X3.ren L.base H.mem.length c3.m rh with E := E0 ++ vs, μ := H.root } :=
      { at_ := fun at_ ha => by
          show (at_.inst n0 sg').get X3.E = at_.get (E0 ++ vs)
          rw [hE3]
          cases at_ with
          | c d => rfl
          | v i =>
            simp only [At.okAt, Nat.blt_eq] at ha
            simp only [At.inst]
            by_cases hi : n0 ≤ i
            · rw [if_pos (by rw [Nat.ble_eq]; exact hi)]
              have hlt : i - n0 < sg'.length := by omega
              rw [List.getElem?_eq_getElem hlt]
              simp only [Option.getD_some]
              rw [gets_get hg (List.getElem?_eq_getElem hlt)]
              simp only [At.get]
              rw [List.getElem?_append_right (by omega), hE0]
            · rw [if_neg (by rw [Nat.ble_eq]; exact hi)]
              simp only [At.get]
              rw [g1, List.append_assoc, List.getElem?_append_left (by omega), List.getElem?_append_left (by omega)]
        w := rfl
        A := fun _ => Iff.rfl
        β := rfl
        F := rfl
        μ := fun r _ => memFn_map _ _
        ok := fun r _ => rootsOkAt_get hok.2 }
    have hv6 := tr.vrepL hok.1 hv5
    refine ⟨{ X3.ren L.base H.mem.length c3.m rh with E := E0 ++ vs, μ := H.root }, rfl, hw3, rfl, fun r => Iff.rfl, tr.mem m5, tr.ext (xe4.trans y5) (fun i d hi => get_app (hXe i d hi)), x7, ?_, x9, fun t => ?_⟩
    · have := VRepL.length hv6
      simpa using this
    · rw [Array.getD_eq_getD_getElem?, ← Array.getElem?_toList]
      exact slots_at hv6 t
  · cases h

end Go.SX

/- Trees: their ends turned into others. -/
namespace Go.SX
open Go.RowKit (Below)

section
variable {C : FuncId → List D → Option (List D)} {k : Nat}

def Res.isFin : Res → Prop
  | .fin .. => True
  | .jmp .. => False

/-- How a tree's result becomes another tree's. -/
def Rel (f : St → List D → Option Res) (r0 r : Res) : Prop :=
  match r0 with
  | .fin .normal st E => f st E = some r
  | r0 => r = r0

theorem Rel.jmp {f : St → List D → Option Res} {l : Nat} {b : Bool} {vs : List D} {r : Res} (h : Rel f (.jmp l b vs) r) : r = .jmp l b vs := h
theorem iter_rel {f : St → List D → Option Res} {g g' : List D → Option Res} (hf : ∀ st E r, f st E = some r → ∀ vs, r ≠ .jmp 0 true vs) (hg : ∀ vs r, g' vs = some r → ∃ r0, g vs = some r0 ∧ Rel f r0 r) : ∀ (n : Nat) (vs : List D) (r : Res), iter g' n vs = some r → ∃ r0, iter g n vs = some r0 ∧ Rel f r0 r
  | 0, vs, r, h => by simp [iter] at h
  | n + 1, vs, r, h => by
    simp only [iter] at h
    split at h
    · rename_i vs' hq
      obtain ⟨r0, h1, h2⟩ := hg vs _ hq
      cases r0 with
      | jmp l b ws =>
        have := h2.jmp
        injection this with e1 e2 e3
        subst e1 e2 e3
        obtain ⟨r1, h3, h4⟩ := iter_rel hf hg n _ r h
        exact ⟨r1, by simp only [iter, h1]; exact h3, h4⟩
      | fin x st E =>
        cases x with
        | normal => exact absurd rfl (hf st E _ h2 vs')
        | exit id => cases h2
        | ret => cases h2
    · rename_i hne
      obtain ⟨r0, h1, h2⟩ := hg vs r h
      refine ⟨r0, ?_, h2⟩
      simp only [iter, h1]
      split
      · rename_i vs' heq
        injection heq with heq
        subst heq
        have := h2.jmp
        subst this
        exact absurd h (hne vs')
      · rfl

/-- A tree goes on at its normal ends. -/
theorem ev_andThen {f : St → Tree} (hf : ∀ st E r, ev C k (f st) E = some r → r.isFin) : ∀ {t : Tree} {E : List D} {r : Res}, ev C k (t.andThen f) E = some r → ∃ r0, ev C k t E = some r0 ∧ Rel (fun st E => ev C k (f st) E) r0 r
  | .prim p as t, E, r, h => by
    simp only [Tree.andThen, ev] at h ⊢
    cases h1 : gets E as with
    | none => simp [h1] at h
    | some vs =>
      simp only [h1] at h ⊢
      cases h2 : p.run vs with
      | none => simp [h2] at h
      | some d => simp only [h2] at h ⊢; exact ev_andThen hf h
  | .call g as m t, E, r, h => by
    simp only [Tree.andThen, ev] at h ⊢
    cases h1 : gets E as with
    | none => simp [h1] at h
    | some vs =>
      simp only [h1] at h ⊢
      cases h2 : C g vs with
      | none => simp [h2] at h
      | some ds =>
        simp only [h2] at h ⊢
        split at h
        · rename_i hl; rw [if_pos hl]; exact ev_andThen hf h
        · cases h
  | .sub t m u, E, r, h => by
    simp only [Tree.andThen, ev] at h ⊢
    cases h1 : ev C k (t.andThen f) E with
    | none => simp [h1] at h
    | some r1 =>
      simp only [h1] at h
      obtain ⟨r0, q1, q2⟩ := ev_andThen hf h1
      rw [q1]
      cases r0 with
      | jmp l b vs =>
        have := q2.jmp
        subst this
        cases l with
        | zero =>
          simp only at h ⊢
          split at h
          · rename_i hl; rw [if_pos hl]; exact ev_andThen hf h
          · cases h
        | succ l =>
          simp only [Res.up, Option.some.injEq] at h ⊢
          exact ⟨_, rfl, h.symm⟩
      | fin x st E' =>
        cases x with
        | normal =>
          have hfin := hf st E' r1 q2
          cases r1 with
          | jmp _ _ _ => exact hfin.elim
          | fin y st1 E1 =>
            simp only [Res.up, Option.some.injEq] at h ⊢
            subst h
            exact ⟨_, rfl, q2⟩
        | exit id =>
          have : r1 = .fin (.exit id) st E' := q2
          subst this
          simp only [Res.up, Option.some.injEq] at h ⊢
          exact ⟨_, rfl, h.symm⟩
        | ret =>
          have : r1 = .fin .ret st E' := q2
          subst this
          simp only [Res.up, Option.some.injEq] at h ⊢
          exact ⟨_, rfl, h.symm⟩
  | .loop i b, E, r, h => by
    simp only [Tree.andThen, ev] at h ⊢
    cases h1 : gets E i with
    | none => simp [h1] at h
    | some vs =>
      simp only [h1] at h ⊢
      cases h2 : iter (fun vs => ev C k (b.andThen f) (E ++ vs)) k vs with
      | none => simp [h2] at h
      | some r1 =>
        simp only [h2] at h
        obtain ⟨r0, q1, q2⟩ := iter_rel (f := fun st E => ev C k (f st) E) (g := fun vs => ev C k b (E ++ vs)) (fun st E r hr vs e => by have := hf st E r hr; rw [e] at this; exact this) (fun vs r hr => ev_andThen hf hr) k vs r1 h2
        rw [q1]
        cases r0 with
        | jmp l b' ws =>
          have := q2.jmp
          subst this
          cases l with
          | zero => simp [Res.up] at h
          | succ l =>
            simp only [Res.up, Option.some.injEq] at h ⊢
            exact ⟨_, rfl, h.symm⟩
        | fin x st E' =>
          cases x with
          | normal =>
            have hfin := hf st E' r1 q2
            cases r1 with
            | jmp _ _ _ => exact hfin.elim
            | fin y st1 E1 =>
              simp only [Res.up, Option.some.injEq] at h ⊢
              subst h
              exact ⟨_, rfl, q2⟩
          | exit id =>
            have : r1 = .fin (.exit id) st E' := q2
            subst this
            simp only [Res.up, Option.some.injEq] at h ⊢
            exact ⟨_, rfl, h.symm⟩
          | ret =>
            have : r1 = .fin .ret st E' := q2
            subst this
            simp only [Res.up, Option.some.injEq] at h ⊢
            exact ⟨_, rfl, h.symm⟩
  | .ite c a b, E, r, h => by
    simp only [Tree.andThen, ev] at h ⊢
    split at h
    · exact ev_andThen hf h
    · exact ev_andThen hf h
    · cases h
  | .jmp l b as, E, r, h => by
    simp only [Tree.andThen, ev] at h ⊢
    split at h
    · cases h
    · rename_i vs hg
      injection h with h
      exact ⟨_, rfl, h.symm⟩
  | .fin .normal st, E, r, h => by
    simp only [Tree.andThen] at h
    exact ⟨_, rfl, h⟩
  | .fin (.exit id) st, E, r, h => by
    simp only [Tree.andThen, ev, Option.some.injEq] at h
    exact ⟨_, rfl, h.symm⟩
  | .fin .ret st, E, r, h => by
    simp only [Tree.andThen, ev, Option.some.injEq] at h
    exact ⟨_, rfl, h.symm⟩
  | .fail n, E, r, h => by simp [Tree.andThen, ev] at h

/-- A jump from wherever it stands. -/
def Shifts (C : FuncId → List D → Option (List D)) (k : Nat) (f : Nat → St → Tree) : Prop :=
  ∀ st E, (∀ d, ev C k (f d st) E = none) ∨ ∃ b vs, ∀ d, ev C k (f d st) E = some (.jmp d b vs)

theorem Rel.conv {f : Nat → St → Tree} (hf : Shifts C k f) {d : Nat} {r0 r : Res} (h : Rel (fun st E => ev C k (f (d + 1) st) E) r0 r) :
    (∃ st E b vs, r0 = .fin .normal st E ∧ r = .jmp (d + 1) b vs ∧ ev C k (f d st) E = some (.jmp d b vs)) ∨ (r = r0 ∧ ∀ st E, r0 ≠ .fin .normal st E) := by
  cases r0 with
  | jmp l b vs => exact .inr ⟨h, fun _ _ h => by cases h⟩
  | fin x st E =>
    cases x with
    | normal =>
      left
      have h : ev C k (f (d + 1) st) E = some r := h
      rcases hf st E with h1 | ⟨b, vs, h1⟩
      · rw [h1] at h; cases h
      · rw [h1] at h
        injection h with h
        exact ⟨st, E, b, vs, rfl, h.symm, h1 d⟩
    | exit id => exact .inr ⟨h, fun _ _ h => by cases h⟩
    | ret => exact .inr ⟨h, fun _ _ h => by cases h⟩

theorem Rel.of_ne {f : St → List D → Option Res} {r0 : Res} (h : ∀ st E, r0 ≠ .fin .normal st E) : Rel f r0 r0 := by
  cases r0 with
  | jmp l b vs => rfl
  | fin x st E =>
    cases x with
    | normal => exact absurd rfl (h st E)
    | exit id => rfl
    | ret => rfl

theorem iter_conv {f : Nat → St → Tree} (hf : Shifts C k f) {d : Nat} {g g' : List D → Option Res} (hg : ∀ vs r, g' vs = some r → ∃ r0, g vs = some r0 ∧ Rel (fun st E => ev C k (f (d + 1) st) E) r0 r) : ∀ (n : Nat) (vs : List D) (r : Res), iter g' n vs = some r → ∃ r0, iter g n vs = some r0 ∧ Rel (fun st E => ev C k (f (d + 1) st) E) r0 r
  | 0, vs, r, h => by simp [iter] at h
  | n + 1, vs, r, h => by
    simp only [iter] at h
    split at h
    · rename_i vs' hq
      obtain ⟨r0, h1, h2⟩ := hg vs _ hq
      rcases h2.conv hf with ⟨st, E, b, ws, q1, q2, _⟩ | ⟨q1, q2⟩
      · cases q2
      · subst q1
        obtain ⟨r1, h3, h4⟩ := iter_conv hf hg n _ r h
        exact ⟨r1, by simp only [iter, h1]; exact h3, h4⟩
    · rename_i hne
      obtain ⟨r0, h1, h2⟩ := hg vs r h
      refine ⟨r0, ?_, h2⟩
      simp only [iter, h1]
      split
      · rename_i vs' heq
        injection heq with heq
        subst heq
        have := h2.jmp
        subst this
        exact absurd h (hne vs')
      · rfl

/-- Normal ends become jumps. -/
theorem ev_conv {f : Nat → St → Tree} (hf : Shifts C k f) : ∀ {t : Tree} {d : Nat} {E : List D} {r : Res}, ev C k (t.conv f d) E = some r → ∃ r0, ev C k t E = some r0 ∧ Rel (fun st E => ev C k (f d st) E) r0 r
  | .prim p as t, d, E, r, h => by
    simp only [Tree.conv, ev] at h ⊢
    cases h1 : gets E as with
    | none => simp [h1] at h
    | some vs =>
      simp only [h1] at h ⊢
      cases h2 : p.run vs with
      | none => simp [h2] at h
      | some d => simp only [h2] at h ⊢; exact ev_conv hf h
  | .call g as m t, d, E, r, h => by
    simp only [Tree.conv, ev] at h ⊢
    cases h1 : gets E as with
    | none => simp [h1] at h
    | some vs =>
      simp only [h1] at h ⊢
      cases h2 : C g vs with
      | none => simp [h2] at h
      | some ds =>
        simp only [h2] at h ⊢
        split at h
        · rename_i hl; rw [if_pos hl]; exact ev_conv hf h
        · cases h
  | .sub t m u, d, E, r, h => by
    simp only [Tree.conv, ev] at h ⊢
    cases h1 : ev C k (t.conv f (d + 1)) E with
    | none => simp [h1] at h
    | some r1 =>
      simp only [h1] at h
      obtain ⟨r0, q1, q2⟩ := ev_conv hf h1
      rw [q1]
      rcases q2.conv hf with ⟨st, E', b, vs, p1, p2, p3⟩ | ⟨p1, p2⟩
      · subst p1 p2
        simp only [Res.up, Option.some.injEq] at h ⊢
        subst h
        exact ⟨_, rfl, p3⟩
      · subst p1
        cases r1 with
        | jmp l b vs =>
          cases l with
          | zero =>
            simp only at h ⊢
            split at h
            · rename_i hl; rw [if_pos hl]; exact ev_conv hf h
            · cases h
          | succ l =>
            simp only [Res.up, Option.some.injEq] at h ⊢
            exact ⟨_, rfl, h.symm⟩
        | fin x st E' =>
          simp only [Res.up, Option.some.injEq] at h ⊢
          subst h
          exact ⟨_, rfl, Rel.of_ne p2⟩
  | .loop i b, d, E, r, h => by
    simp only [Tree.conv, ev] at h ⊢
    cases h1 : gets E i with
    | none => simp [h1] at h
    | some vs =>
      simp only [h1] at h ⊢
      cases h2 : iter (fun vs => ev C k (b.conv f (d + 1)) (E ++ vs)) k vs with
      | none => simp [h2] at h
      | some r1 =>
        simp only [h2] at h
        obtain ⟨r0, q1, q2⟩ := iter_conv hf (d := d) (g := fun vs => ev C k b (E ++ vs)) (fun vs r hr => ev_conv hf hr) k vs r1 h2
        rw [q1]
        rcases q2.conv hf with ⟨st, E', b', ws, p1, p2, p3⟩ | ⟨p1, p2⟩
        · subst p1 p2
          simp only [Res.up, Option.some.injEq] at h ⊢
          subst h
          exact ⟨_, rfl, p3⟩
        · subst p1
          cases r1 with
          | jmp l b' ws =>
            cases l with
            | zero => simp [Res.up] at h
            | succ l =>
              simp only [Res.up, Option.some.injEq] at h ⊢
              exact ⟨_, rfl, h.symm⟩
          | fin x st E' =>
            simp only [Res.up, Option.some.injEq] at h ⊢
            subst h
            exact ⟨_, rfl, Rel.of_ne p2⟩
  | .ite c a b, d, E, r, h => by
    simp only [Tree.conv, ev] at h ⊢
    split at h
    · exact ev_conv hf h
    · exact ev_conv hf h
    · cases h
  | .jmp l b as, d, E, r, h => by
    simp only [Tree.conv, ev] at h ⊢
    split at h
    · cases h
    · rename_i vs hg
      injection h with h
      exact ⟨_, rfl, h.symm⟩
  | .fin .normal st, d, E, r, h => by
    simp only [Tree.conv] at h
    exact ⟨_, rfl, h⟩
  | .fin (.exit id) st, d, E, r, h => by
    simp only [Tree.conv, ev, Option.some.injEq] at h
    exact ⟨_, rfl, h.symm⟩
  | .fin .ret st, d, E, r, h => by
    simp only [Tree.conv, ev, Option.some.injEq] at h
    exact ⟨_, rfl, h.symm⟩
  | .fail n, d, E, r, h => by simp [Tree.conv, ev] at h

/-- Ends under other names. -/
def Res.ends (f : Ex → Ex) : Res → Res
  | .fin x st E => .fin (f x) st E
  | r => r
theorem iter_ends {f : Ex → Ex} {g g' : List D → Option Res} (hg : ∀ vs r, g' vs = some r → ∃ r0, g vs = some r0 ∧ r = r0.ends f) : ∀ (n : Nat) (vs : List D) (r : Res), iter g' n vs = some r → ∃ r0, iter g n vs = some r0 ∧ r = r0.ends f
  | 0, vs, r, h => by simp [iter] at h
  | n + 1, vs, r, h => by
    simp only [iter] at h
    split at h
    · rename_i vs' hq
      obtain ⟨r0, h1, h2⟩ := hg vs _ hq
      cases r0 with
      | fin x st E => cases h2
      | jmp l b ws =>
        simp only [Res.ends] at h2
        injection h2 with e1 e2 e3
        subst e1 e2 e3
        obtain ⟨r1, h3, h4⟩ := iter_ends hg n _ r h
        exact ⟨r1, by simp only [iter, h1]; exact h3, h4⟩
    · rename_i hne
      obtain ⟨r0, h1, h2⟩ := hg vs r h
      refine ⟨r0, ?_, h2⟩
      simp only [iter, h1]
      split
      · rename_i vs' heq
        injection heq with heq
        subst heq
        simp only [Res.ends] at h2
        subst h2
        exact absurd h (hne vs')
      · rfl
theorem ev_ends {f : Ex → Ex} : ∀ {t : Tree} {E : List D} {r : Res}, ev C k (t.ends f) E = some r → ∃ r0, ev C k t E = some r0 ∧ r = r0.ends f
  | .prim p as t, E, r, h => by
    simp only [Tree.ends, ev] at h ⊢
    cases h1 : gets E as with
    | none => simp [h1] at h
    | some vs =>
      simp only [h1] at h ⊢
      cases h2 : p.run vs with
      | none => simp [h2] at h
      | some d => simp only [h2] at h ⊢; exact ev_ends h
  | .call g as m t, E, r, h => by
    simp only [Tree.ends, ev] at h ⊢
    cases h1 : gets E as with
    | none => simp [h1] at h
    | some vs =>
      simp only [h1] at h ⊢
      cases h2 : C g vs with
      | none => simp [h2] at h
      | some ds =>
        simp only [h2] at h ⊢
        split at h
        · rename_i hl; rw [if_pos hl]; exact ev_ends h
        · cases h
  | .sub t m u, E, r, h => by
    simp only [Tree.ends, ev] at h ⊢
    cases h1 : ev C k (t.ends f) E with
    | none => simp [h1] at h
    | some r1 =>
      simp only [h1] at h
      obtain ⟨r0, q1, q2⟩ := ev_ends h1
      rw [q1]
      subst q2
      cases r0 with
      | jmp l b vs =>
        simp only [Res.ends] at h
        cases l with
        | zero =>
          simp only at h ⊢
          split at h
          · rename_i hl; rw [if_pos hl]; exact ev_ends h
          · cases h
        | succ l =>
          simp only [Res.up, Option.some.injEq] at h ⊢
          exact ⟨_, rfl, h.symm⟩
      | fin x st E' =>
        simp only [Res.ends, Res.up, Option.some.injEq] at h ⊢
        exact ⟨_, rfl, h.symm⟩
  | .loop i b, E, r, h => by
    simp only [Tree.ends, ev] at h ⊢
    cases h1 : gets E i with
    | none => simp [h1] at h
    | some vs =>
      simp only [h1] at h ⊢
      cases h2 : iter (fun vs => ev C k (b.ends f) (E ++ vs)) k vs with
      | none => simp [h2] at h
      | some r1 =>
        simp only [h2] at h
        obtain ⟨r0, q1, q2⟩ := iter_ends (g := fun vs => ev C k b (E ++ vs)) (fun vs r hr => ev_ends hr) k vs r1 h2
        rw [q1]
        subst q2
        cases r0 with
        | jmp l b' ws =>
          simp only [Res.ends] at h
          cases l with
          | zero => simp [Res.up] at h
          | succ l =>
            simp only [Res.up, Option.some.injEq] at h ⊢
            exact ⟨_, rfl, h.symm⟩
        | fin x st E' =>
          simp only [Res.ends, Res.up, Option.some.injEq] at h ⊢
          exact ⟨_, rfl, h.symm⟩
  | .ite c a b, E, r, h => by
    simp only [Tree.ends, ev] at h ⊢
    split at h
    · exact ev_ends h
    · exact ev_ends h
    · cases h
  | .jmp l b as, E, r, h => by
    simp only [Tree.ends, ev] at h ⊢
    split at h
    · cases h
    · rename_i vs hg
      injection h with h
      exact ⟨_, rfl, h.symm⟩
  | .fin x st, E, r, h => by
    simp only [Tree.ends, ev, Option.some.injEq] at h
    exact ⟨_, rfl, h.symm⟩
  | .fail n, E, r, h => by simp [Tree.ends, ev] at h

/-! ### Jumps that lead nowhere -/
/-- All jumps lead to a place inside. -/
def Tree.shut : Nat → Tree → Bool
  | n, .prim _ _ k => k.shut n
  | n, .call _ _ _ k => k.shut n
  | n, .sub t _ k => t.shut (n + 1) && k.shut n
  | n, .loop _ b => b.shut (n + 1)
  | n, .ite _ a b => a.shut n && b.shut n
  | n, .jmp l _ _ => Nat.blt l n
  | _, .fin _ _ => true
  | _, .fail _ => true

theorem iter_shut {f : List D → Option Res} {n : Nat} (hf : ∀ vs r, f vs = some r → r.isFin ∨ ∃ l b ws, r = .jmp l b ws ∧ l < n + 1) : ∀ (j : Nat) (vs : List D) (r : Res), iter f j vs = some r → r.isFin ∨ ∃ l b ws, r = .jmp l b ws ∧ l < n + 1
  | 0, vs, r, h => by simp [iter] at h
  | j + 1, vs, r, h => by
    simp only [iter] at h
    split at h
    · exact iter_shut hf j _ r h
    · exact hf _ _ h
theorem ev_shut : ∀ {t : Tree} {n : Nat} {E : List D} {r : Res}, t.shut n = true → ev C k t E = some r → r.isFin ∨ ∃ l b vs, r = .jmp l b vs ∧ l < n
  | .prim p as t, n, E, r, ho, h => by
    simp only [Tree.shut] at ho
    simp only [ev] at h
    cases h1 : gets E as with
    | none => simp [h1] at h
    | some vs =>
      simp only [h1] at h
      cases h2 : p.run vs with
      | none => simp [h2] at h
      | some d => simp only [h2] at h; exact ev_shut ho h
  | .call f as m t, n, E, r, ho, h => by
    simp only [Tree.shut] at ho
    simp only [ev] at h
    cases h1 : gets E as with
    | none => simp [h1] at h
    | some vs =>
      simp only [h1] at h
      cases h2 : C f vs with
      | none => simp [h2] at h
      | some ds =>
        simp only [h2] at h
        split at h
        · exact ev_shut ho h
        · cases h
  | .sub t m u, n, E, r, ho, h => by
    simp only [Tree.shut, Bool.and_eq_true] at ho
    simp only [ev] at h
    cases h1 : ev C k t E with
    | none => simp [h1] at h
    | some r' =>
      simp only [h1] at h
      rcases ev_shut ho.1 h1 with hf | ⟨l, b, vs, e, hl⟩
      · cases r' with
        | jmp _ _ _ => exact hf.elim
        | fin x st E' =>
          simp only [Res.up, Option.some.injEq] at h
          subst h
          exact .inl trivial
      · subst e
        cases l with
        | zero =>
          simp only at h
          split at h
          · exact ev_shut ho.2 h
          · cases h
        | succ l =>
          simp only [Res.up, Option.some.injEq] at h
          exact .inr ⟨l, b, vs, h.symm, by omega⟩
  | .loop init t, n, E, r, ho, h => by
    simp only [Tree.shut] at ho
    simp only [ev] at h
    cases h1 : gets E init with
    | none => simp [h1] at h
    | some vs =>
      simp only [h1] at h
      cases h2 : iter (fun vs => ev C k t (E ++ vs)) k vs with
      | none => simp [h2] at h
      | some r' =>
        simp only [h2] at h
        rcases iter_shut (n := n) (fun vs r hr => ev_shut ho hr) k vs r' h2 with hf | ⟨l, b, ws, e, hl⟩
        · cases r' with
          | jmp _ _ _ => exact hf.elim
          | fin x st E' =>
            simp only [Res.up, Option.some.injEq] at h
            subst h
            exact .inl trivial
        · subst e
          cases l with
          | zero => simp [Res.up] at h
          | succ l =>
            simp only [Res.up, Option.some.injEq] at h
            exact .inr ⟨l, b, ws, h.symm, by omega⟩
  | .ite c a b, n, E, r, ho, h => by
    simp only [Tree.shut, Bool.and_eq_true] at ho
    simp only [ev] at h
    split at h
    · exact ev_shut ho.1 h
    · exact ev_shut ho.2 h
    · cases h
  | .jmp l b as, n, E, r, ho, h => by
    simp only [Tree.shut, Nat.blt_eq] at ho
    simp only [ev] at h
    split at h
    · cases h
    · rename_i vs _
      injection h with h
      exact .inr ⟨l, b, vs, h.symm, ho⟩
  | .fin x st, n, E, r, ho, h => by
    simp only [ev, Option.some.injEq] at h
    subst h
    exact .inl trivial
  | .fail _, n, E, r, ho, h => by simp [ev] at h
theorem shut_fin {t : Tree} {E : List D} {r : Res} (hs : t.shut 0 = true) (h : ev C k t E = some r) : r.isFin := by
  rcases ev_shut hs h with h | ⟨_, _, _, _, h⟩
  · exact h
  · omega

theorem shut_andThen {f : St → Tree} (hf : ∀ st n, (f st).shut n = true) : ∀ {t : Tree} {n : Nat}, t.shut n = true → (t.andThen f).shut n = true
  | .prim p as t, n, h => by simp only [Tree.andThen, Tree.shut] at h ⊢; exact shut_andThen hf h
  | .call g as m t, n, h => by simp only [Tree.andThen, Tree.shut] at h ⊢; exact shut_andThen hf h
  | .sub t m u, n, h => by
    simp only [Tree.andThen, Tree.shut, Bool.and_eq_true] at h ⊢
    exact ⟨shut_andThen hf h.1, shut_andThen hf h.2⟩
  | .loop i b, n, h => by simp only [Tree.andThen, Tree.shut] at h ⊢; exact shut_andThen hf h
  | .ite c a b, n, h => by
    simp only [Tree.andThen, Tree.shut, Bool.and_eq_true] at h ⊢
    exact ⟨shut_andThen hf h.1, shut_andThen hf h.2⟩
  | .jmp l b as, n, h => h
  | .fin .normal st, n, _ => hf st n
  | .fin (.exit id) st, n, _ => rfl
  | .fin .ret st, n, _ => rfl
  | .fail n, _, _ => rfl
theorem shut_ends {f : Ex → Ex} : ∀ {t : Tree} {n : Nat}, t.shut n = true → (t.ends f).shut n = true
  | .prim p as t, n, h => by simp only [Tree.ends, Tree.shut] at h ⊢; exact shut_ends h
  | .call g as m t, n, h => by simp only [Tree.ends, Tree.shut] at h ⊢; exact shut_ends h
  | .sub t m u, n, h => by
    simp only [Tree.ends, Tree.shut, Bool.and_eq_true] at h ⊢
    exact ⟨shut_ends h.1, shut_ends h.2⟩
  | .loop i b, n, h => by simp only [Tree.ends, Tree.shut] at h ⊢; exact shut_ends h
  | .ite c a b, n, h => by
    simp only [Tree.ends, Tree.shut, Bool.and_eq_true] at h ⊢
    exact ⟨shut_ends h.1, shut_ends h.2⟩
  | .jmp l b as, n, h => h
  | .fin x st, n, _ => rfl
  | .fail n, _, _ => rfl
theorem shut_conv {f : Nat → St → Tree} (hf : ∀ d st, (f d st).shut (d + 1) = true) : ∀ {t : Tree} {d : Nat}, t.shut d = true → (t.conv f d).shut (d + 1) = true
  | .prim p as t, n, h => by simp only [Tree.conv, Tree.shut] at h ⊢; exact shut_conv hf h
  | .call g as m t, n, h => by simp only [Tree.conv, Tree.shut] at h ⊢; exact shut_conv hf h
  | .sub t m u, n, h => by
    simp only [Tree.conv, Tree.shut, Bool.and_eq_true] at h ⊢
    exact ⟨shut_conv hf h.1, shut_conv hf h.2⟩
  | .loop i b, n, h => by simp only [Tree.conv, Tree.shut] at h ⊢; exact shut_conv hf h
  | .ite c a b, n, h => by
    simp only [Tree.conv, Tree.shut, Bool.and_eq_true] at h ⊢
    exact ⟨shut_conv hf h.1, shut_conv hf h.2⟩
  | .jmp l b as, n, h => by
    simp only [Tree.conv, Tree.shut, Nat.blt_eq] at h ⊢
    omega
  | .fin .normal st, n, _ => hf n st
  | .fin (.exit id) st, n, _ => rfl
  | .fin .ret st, n, _ => rfl
  | .fail n, _, _ => rfl
/-- What is shut stays so in more places. -/
theorem shut_mono : ∀ {t : Tree} {n m : Nat}, n ≤ m → t.shut n = true → t.shut m = true
  | .prim p as t, n, m, hle, h => by simp only [Tree.shut] at h ⊢; exact shut_mono hle h
  | .call g as q t, n, m, hle, h => by simp only [Tree.shut] at h ⊢; exact shut_mono hle h
  | .sub t q u, n, m, hle, h => by
    simp only [Tree.shut, Bool.and_eq_true] at h ⊢
    exact ⟨shut_mono (by omega) h.1, shut_mono hle h.2⟩
  | .loop i b, n, m, hle, h => by simp only [Tree.shut] at h ⊢; exact shut_mono (by omega) h
  | .ite c a b, n, m, hle, h => by
    simp only [Tree.shut, Bool.and_eq_true] at h ⊢
    exact ⟨shut_mono hle h.1, shut_mono hle h.2⟩
  | .jmp l b as, n, m, hle, h => by
    simp only [Tree.shut, Nat.blt_eq] at h ⊢
    omega
  | .fin x st, _, _, _, _ => rfl
  | .fail n, _, _, _, _ => rfl
theorem only_shut : ∀ {t : Tree} {n : Nat}, t.only n = true → t.shut n = true
  | .prim p as t, n, h => by simp only [Tree.only, Tree.shut] at h ⊢; exact only_shut h
  | .call g as q t, n, h => by simp only [Tree.only, Tree.shut] at h ⊢; exact only_shut h
  | .sub t q u, n, h => by
    simp only [Tree.only, Tree.shut, Bool.and_eq_true] at h ⊢
    exact ⟨only_shut h.1, only_shut h.2⟩
  | .loop i b, n, h => by simp only [Tree.only, Tree.shut] at h ⊢; exact only_shut h
  | .ite c a b, n, h => by
    simp only [Tree.only, Tree.shut, Bool.and_eq_true] at h ⊢
    exact ⟨only_shut h.1, only_shut h.2⟩
  | .jmp l b as, n, h => h
  | .fin x st, _, _ => rfl
  | .fail n, _, _ => rfl
theorem shut_bds : ∀ {bs : List Bd} {t : Tree} {n : Nat}, bdsOk bs = true → t.shut n = true → (bdsOn bs t).shut n = true
  | [], t, n, _, h => h
  | b :: l, t, n, hb, h => by
    obtain ⟨hb1, hb2⟩ := bdsOk_cons hb
    simp only [bdsOn]
    refine shut_bds hb2 ?_
    cases b with
    | prim p as => exact h
    | call f as m => exact h
    | sub t' m =>
      simp only [bdsOk, Bool.and_true] at hb1
      simp only [Bd.on, Tree.shut, Bool.and_eq_true]
      exact ⟨shut_mono (by omega) (only_shut hb1), h⟩
theorem prims_ok : ∀ {bs : List Bd}, primsOnly bs = true → bdsOk bs = true
  | [], _ => rfl
  | .prim p as :: l, h => by simp only [primsOnly] at h; simp only [bdsOk]; exact prims_ok h
  | .call .. :: _, h => by simp [primsOnly] at h
  | .sub .. :: _, h => by simp [primsOnly] at h
end

end Go.SX

/- Code: the tree tells what it does. -/
namespace Go.SX
open Go.RowKit (Below)

def exOf : Ex → Exit
  | .normal => .normal
  | .exit id => .exit id
  | .ret => .ret

/-! ### Loops -/
def LoopWp (P : Program) (c : Code) (Q : Exit → Act → World → Prop) (a : Act) (w : World) : Prop :=
  ∀ (b : Frame) (k : List Item) (cs : List Frame), ∃ e a' w', Q e a' w' ∧ Arrives P (lone (b.at a (.code c :: .inLoop c :: k)) cs w) b k cs e a' w'
theorem loop_round {P : Program} {c : Code} {Q : Exit → Act → World → Prop} {a : Act} {w : World} (h : c.wp P (Exit.then (LoopWp P c Q) Q) a w) : LoopWp P c Q a w := by
  intro b k cs
  obtain ⟨e, a₁, w₁, hq, harr⟩ := h b (.inLoop c :: k) cs
  cases e with
  | normal =>
    obtain ⟨e₂, a₂, w₂, hq₂, harr₂⟩ := hq b k cs
    exact ⟨e₂, a₂, w₂, hq₂, .of_steps (Steps.trans harr (.one step_inLoop)) harr₂⟩
  | exit id => exact ⟨_, a₁, w₁, hq, .pass (x := .inLoop c) rfl (fun _ _ => .inl (by simp)) harr⟩
  | goto l => exact ⟨_, a₁, w₁, hq, .pass (x := .inLoop c) rfl (fun _ _ => .inl (by simp)) harr⟩
  | ret => exact ⟨_, a₁, w₁, hq, .pass (x := .inLoop c) rfl (fun _ _ => .inl (by simp)) harr⟩
  | panic ch => exact ⟨_, a₁, w₁, hq, .pass (x := .inLoop c) rfl (fun _ _ => .inl (by simp)) harr⟩
  | outgrown => exact ⟨_, a₁, w₁, hq, .pass (x := .inLoop c) rfl (fun _ _ => .inl (by simp)) harr⟩
theorem loop_of {P : Program} {c : Code} {Q : Exit → Act → World → Prop} {a : Act} {w : World} (h : LoopWp P c Q a w) : (Code.loop c).wp P Q a w := fun b k cs =>
  let ⟨e, a', w', hq, harr⟩ := h b k cs
  ⟨e, a', w', hq, .of_steps (.one step_loop) harr⟩

section
variable {C : FuncId → List D → Option (List D)} {k B0 : Nat} {w0 : World} {Xe : Ctx} {cx : Cx} {inl : FuncId → List SV → Nat → List Root → Option Inl}

def InvS (B0 : Nat) (w0 : World) (Xe : Ctx) (st : St) (E : List D) (a : Act) (w : World) : Prop := Inv B0 w0 Xe E st.slots st.root (fun r => r < st.mem.length) a w

theorem InvS.pre {st : St} {E : List D} {a : Act} {w : World} (h : InvS B0 w0 Xe st E a w) : ∀ (i : Nat) (d : D), Xe.E[i]? = some d → E[i]? = some d := by
  obtain ⟨X, x1, _, _, _, _, x6, _⟩ := h
  intro i d hi
  rw [← x1]
  exact x6.E i d hi
theorem InvS.more {st : St} {E F : List D} {a : Act} {w : World} (hB0 : B0 ≤ w0.heap.size) (h : InvS B0 w0 Xe st E a w) : InvS B0 w0 Xe st (E ++ F) a w := by
  obtain ⟨X, x1, x2, x3, x4, x5, x6, x7, x8, x9, x10⟩ := h
  obtain ⟨y, m⟩ := x5.moreE (by rw [x2]; exact Nat.le_trans hB0 x7.size) (E' := E ++ F) (fun i d hi => by rw [x1] at hi; exact get_app hi)
  exact ⟨{ X with E := E ++ F }, rfl, x2, x3, x4, m, x6.trans y, x7, x8, x9, fun t => VRep.ext y (x10 t)⟩
theorem InvS.drew {st : St} {E : List D} {a : Act} {w : World} (hB0 : B0 ≤ w0.heap.size) (h : InvS B0 w0 Xe st E a w) : InvS B0 w0 Xe st E a { w with drawn := w.drawn + 1 } := by
  obtain ⟨X, x1, x2, x3, x4, x5, x6, x7, x8, x9, x10⟩ := h
  subst x2
  obtain ⟨y, m⟩ := x5.world (Nat.le_trans hB0 x7.size) (w' := X.w.drew) (Below.refl _ _).drew
  exact ⟨{ X with w := X.w.drew }, x1, rfl, x3, x4, m, x6.trans y, x7.drew, x8, x9, fun t => VRep.ext y (x10 t)⟩

/-! ### Fits -/
theorem fit_facts {n0 : Nat} {H L : St} {sg : List At} {bs : List Bd} (h : fit n0 H L = some (sg, bs)) : primsOnly bs = true ∧ sg.length = H.nv - n0 ∧ H.base = L.base := by
  unfold fit at h
  generalize coL H.mem H.slots L.slots ⟨L.mem, L.nv, []⟩ = p1 at h
  obtain ⟨s1, c1⟩ := p1
  simp only at h
  generalize coRoots H (mtAll n0 H s1 c1.m).rh c1 = c2 at h
  generalize coRoots H ((mtAll n0 H s1 c2.m).rh.drop (mtAll n0 H s1 c1.m).rh.length) c2 = c3 at h
  split at h
  · rename_i hc
    injection h with h
    injection h with e1 e2
    subst e1 e2
    simp only [Bool.and_eq_true] at hc
    obtain ⟨⟨⟨⟨⟨⟨k1, k2⟩, k3⟩, k4⟩, k5⟩, k6⟩, k7⟩ := hc
    exact ⟨k2, sgOf_length _ _ _, nat_beq k4⟩
  · cases h

theorem fitJ_shifts (n0 : Nat) (H : St) (back : Bool) : Shifts C k (fitJ n0 H back) := by
  intro st E
  unfold fitJ
  cases hf : fit n0 H st with
  | none => exact .inl fun d => by simp [ev]
  | some p =>
    obtain ⟨sg, bs⟩ := p
    obtain ⟨h1, _, _⟩ := fit_facts hf
    simp only
    cases he : evPrims bs E with
    | none => exact .inl fun d => by rw [ev_prims h1, he]
    | some E1 =>
      cases hg : gets E1 sg with
      | none => exact .inl fun d => by rw [ev_prims h1, he]; simp [ev, hg]
      | some vs => exact .inr ⟨back, vs, fun d => by rw [ev_prims h1, he]; simp [ev, hg]⟩
theorem fitJ_shut (n0 : Nat) (H : St) (back : Bool) (d : Nat) (st : St) : (fitJ n0 H back d st).shut (d + 1) = true := by
  unfold fitJ
  cases hf : fit n0 H st with
  | none => rfl
  | some p =>
    obtain ⟨sg, bs⟩ := p
    obtain ⟨h1, _, _⟩ := fit_facts hf
    refine shut_bds (prims_ok h1) ?_
    simp [Tree.shut]
theorem fitJ_ev {n0 : Nat} {H : St} {back : Bool} {d : Nat} {st : St} {E : List D} {r : Res} (h : ev C k (fitJ n0 H back d st) E = some r) : ∃ sg bs E1 vs, fit n0 H st = some (sg, bs) ∧ evPrims bs E = some E1 ∧ gets E1 sg = some vs ∧ r = .jmp d back vs ∧ vs.length = H.nv - n0 ∧ H.base = st.base := by
  unfold fitJ at h
  cases hf : fit n0 H st with
  | none => simp [hf, ev] at h
  | some p =>
    obtain ⟨sg, bs⟩ := p
    obtain ⟨h1, h2, h3⟩ := fit_facts hf
    simp only [hf] at h
    rw [ev_prims h1] at h
    cases he : evPrims bs E with
    | none => simp [he] at h
    | some E1 =>
      simp only [he, ev] at h
      cases hg : gets E1 sg with
      | none => simp [hg] at h
      | some vs =>
        simp only [hg, Option.some.injEq] at h
        exact ⟨sg, bs, E1, vs, rfl, he, hg, h.symm, by rw [gets_length hg, h2], h3⟩

/-! ### What is shut -/
theorem joinN_shut {n0 : Nat} {t : Tree} (h : t.shut 0 = true) : (joinN n0 t).shut 0 = true := by
  unfold joinN
  split
  · exact h
  · exact h
  · split
    · simp only
      split
      · simp only [Tree.shut, Bool.and_true]
        exact shut_conv (fitJ_shut _ _ _) h
      · exact h
    · exact h
theorem loopAt_shut {body : St → Tree} (hb : ∀ st, (body st).shut 0 = true) (st H : St) (sg : List At) : (loopAt body st H sg).shut 0 = true := by
  unfold loopAt
  simp only [Tree.shut]
  exact shut_conv (fitJ_shut _ _ _) (hb H)
theorem loopT_shut {body : St → Tree} (hb : ∀ st, (body st).shut 0 = true) (st : St) : (loopT body st).shut 0 = true := by
  unfold loopT
  simp only
  split
  · split
    · exact loopAt_shut hb _ _ _
    · rename_i sg bs hf
      obtain ⟨h1, _, _⟩ := fit_facts hf
      split
      · split
        · simp only [Tree.shut, Bool.and_eq_true]
          exact ⟨shut_bds (prims_ok h1) (by simp [Tree.shut]), loopAt_shut hb _ _ _⟩
        · rfl
      · rfl
    · rfl
  · rfl
theorem regionT_shut {draw : Bool} {ops : List Oper} {bf : List Nat} : ∀ {rest : List Oper} {i : Nat} {st : St} {kn : List (At × Bool)} {log : List Eff}, (regionT cx inl draw ops bf rest i st kn log).shut 0 = true
  | [], i, st, kn, log => by
    simp only [regionT]
    split <;> rfl
  | o :: rest, i, st, kn, log => by
    have go : ∀ kn, (match stepEff cx inl kn st.slot st.root st.nv st.mem.length i o with
        | none => Tree.fail (stepWhy cx inl kn st.slot st.root st.nv st.mem.length o)
        | some e => bdsOn e.bs (regionT cx inl draw ops bf rest (i + 1) (st.after e) kn (e :: log))).shut 0 = true := fun kn => by
      split
      · rfl
      · rename_i e he
        obtain ⟨s, _, _, _, _, _, _, _, _, _, _, _, hb⟩ := stepEff_some he
        exact shut_bds hb regionT_shut
    simp only [regionT]
    split
    · exact go kn
    · exact regionT_shut
    · rename_i a want _
      simp only [Tree.shut, Bool.and_eq_true]
      cases want with
      | true => simp only [if_true]; exact ⟨go _, regionT_shut⟩
      | false => simp only [Bool.false_eq_true, if_false]; exact ⟨regionT_shut, go _⟩
    · rfl
theorem exec_shut : ∀ (c : Code) (st : St), (exec cx inl c st).shut 0 = true
  | .skip, st => rfl
  | .label _, st => rfl
  | .region _ ops draw, st => by
    simp only [exec]
    split
    · rfl
    · exact joinN_shut regionT_shut
  | .seq a b, st => by
    simp only [exec]
    exact shut_andThen (fun st n => shut_mono (Nat.zero_le n) (exec_shut b st)) (exec_shut a st)
  | .cond c x y, st => by
    simp only [exec]
    split
    · exact exec_shut x st
    · exact exec_shut y st
    · refine joinN_shut ?_
      simp only [Tree.shut, Bool.and_eq_true]
      exact ⟨exec_shut x st, exec_shut y st⟩
    · rfl
  | .block id b, st => by
    simp only [exec]
    exact joinN_shut (shut_ends (exec_shut b st))
  | .loop b, st => by
    simp only [exec]
    exact loopT_shut (exec_shut b) st
  | .exit _, st => rfl
  | .ret, st => rfl
  | .rangeFunc .., st => rfl
  | .scope _, st => rfl
  | .goto _, st => rfl
  | .refuse _, st => rfl

/-! ### What comes out -/
/-- The end's state, and more variables. -/
def Shape (E : List D) (base : Nat) (r : Res) : Prop := ∃ x st' F, r = .fin x st' (E ++ F) ∧ (E ++ F).length = st'.nv ∧ st'.base = base

theorem joinN_shape {n0 : Nat} {t : Tree} {E : List D} {base : Nat} (hE : E.length = n0) (ht : ∀ r, ev C k t E = some r → Shape E base r) {r : Res} (h : ev C k (joinN n0 t) E = some r) : Shape E base r := by
  unfold joinN at h
  split at h
  · exact ht r h
  · exact ht r h
  · split at h
    · simp only at h
      split at h
      · rename_i hc
        simp only [Bool.and_eq_true, Nat.ble_eq] at hc
        simp only [ev] at h
        split at h
        · cases h
        · rename_i vs h1
          split at h
          · rename_i hl
            injection h with h
            subst h
            obtain ⟨r0, q1, q2⟩ := ev_conv (fitJ_shifts _ _ _) h1
            obtain ⟨x, st', F, e, e2, e3⟩ := ht r0 q1
            subst e
            cases x with
            | normal =>
              have q2 : ev C k (fitJ _ _ _ _ st') (E ++ F) = some _ := q2
              obtain ⟨sg, bs, E1, vs', f1, f2, f3, f4, f5, f6⟩ := fitJ_ev q2
              exact ⟨.normal, _, vs, rfl, by rw [List.length_append, hE, hl]; omega, by rw [f6, e3]⟩
            | exit id => cases q2
            | ret => cases q2
          · cases h
        · rename_i r1 hne h1
          obtain ⟨r0, q1, q2⟩ := ev_conv (fitJ_shifts _ _ _) h1
          obtain ⟨x, st', F, e, e2, e3⟩ := ht r0 q1
          subst e
          cases x with
          | normal =>
            have q2 : ev C k (fitJ _ _ _ _ st') (E ++ F) = some _ := q2
            obtain ⟨sg, bs, E1, vs', f1, f2, f3, f4, f5, f6⟩ := fitJ_ev q2
            exact absurd f4 (hne _ _)
          | exit id =>
            have q2 : r1 = _ := q2
            subst q2
            simp only [Res.up, Option.some.injEq] at h
            exact ⟨_, st', F, h.symm, e2, e3⟩
          | ret =>
            have q2 : r1 = _ := q2
            subst q2
            simp only [Res.up, Option.some.injEq] at h
            exact ⟨_, st', F, h.symm, e2, e3⟩
      · exact ht r h
    · exact ht r h

theorem loopAt_shape {body : St → Tree} (hb : ∀ st E r, ev C k (body st) E = some r → E.length = st.nv → Shape E st.base r) {st H : St} {sg : List At} {E : List D} (hE : E.length = st.nv) (hn : st.nv ≤ H.nv) (hsg : sg.length = H.nv - st.nv) {r : Res} (h : ev C k (loopAt body st H sg) E = some r) : Shape E H.base r := by
  unfold loopAt at h
  simp only [ev] at h
  split at h
  · cases h
  · rename_i vs0 hg
    split at h
    · cases h
    · rename_i r' hi
      have main : ∀ (n : Nat) (vs : List D) (r' : Res), vs.length = H.nv - st.nv → iter (fun vs => ev C k ((body H).conv (fitJ st.nv H true) 0) (E ++ vs)) n vs = some r' → r'.up = some r → Shape E H.base r := by
        intro n
        induction n with
        | zero => intro vs r' _ h; simp [iter] at h
        | succ n ih =>
          intro vs r' hvl hi hup
          simp only [iter] at hi
          have step : ∀ q, ev C k ((body H).conv (fitJ st.nv H true) 0) (E ++ vs) = some q → (∃ vs', q = .jmp 0 true vs' ∧ vs'.length = H.nv - st.nv) ∨ ∃ x st' F, q = .fin x st' (E ++ F) ∧ (E ++ F).length = st'.nv ∧ st'.base = H.base := fun q hq => by
            obtain ⟨r0, q1, q2⟩ := ev_conv (fitJ_shifts _ _ _) hq
            obtain ⟨x, st', F, e, e2, e3⟩ := hb H _ r0 q1 (by rw [List.length_append, hE, hvl]; omega)
            subst e
            cases x with
            | normal =>
              have q2 : ev C k (fitJ _ _ _ _ st') (E ++ vs ++ F) = some _ := q2
              obtain ⟨sg, bs, E1, vs', f1, f2, f3, f4, f5, f6⟩ := fitJ_ev q2
              exact .inl ⟨vs', f4, f5⟩
            | exit id => exact .inr ⟨_, st', vs ++ F, by rw [← List.append_assoc]; exact q2, by rw [← List.append_assoc]; exact e2, e3⟩
            | ret => exact .inr ⟨_, st', vs ++ F, by rw [← List.append_assoc]; exact q2, by rw [← List.append_assoc]; exact e2, e3⟩
          split at hi
          · rename_i vs' hq
            rcases step _ hq with ⟨vs2, e, hl⟩ | ⟨x, st', F, e, _⟩
            · injection e with _ _ e
              subst e
              exact ih _ _ hl hi hup
            · cases e
          · rename_i hne
            rcases step _ hi with ⟨vs2, e, hl⟩ | ⟨x, st', F, e, e2, e3⟩
            · subst e
              exact absurd hi (hne vs2)
            · subst e
              simp only [Res.up, Option.some.injEq] at hup
              exact ⟨x, st', F, hup.symm, e2, e3⟩
      exact main k vs0 r' (by rw [gets_length hg, hsg]) hi h

theorem loopT_shape {body : St → Tree} (hb : ∀ st E r, ev C k (body st) E = some r → E.length = st.nv → Shape E st.base r) {st : St} {E : List D} (hE : E.length = st.nv) {r : Res} (h : ev C k (loopT body st) E = some r) : Shape E st.base r := by
  unfold loopT at h
  simp only at h
  split at h
  · rename_i hc
    simp only [Bool.and_eq_true, Nat.ble_eq] at hc
    split at h
    · rename_i sg hf
      obtain ⟨h1, h2, h3⟩ := fit_facts hf
      rw [← h3]
      exact loopAt_shape hb hE hc.2 h2 h
    · rename_i sg bs _ hf
      obtain ⟨h1, h2, h3⟩ := fit_facts hf
      split at h
      · rename_i hc2
        simp only [Bool.and_eq_true, Nat.ble_eq] at hc2
        split at h
        · rename_i sg' hf2
          obtain ⟨g1, g2, g3⟩ := fit_facts hf2
          simp only [ev] at h
          rw [ev_prims h1] at h
          cases he : evPrims bs E with
          | none => simp [he] at h
          | some E1 =>
            simp only [he] at h
            cases hg : gets E1 sg with
            | none => simp [ev, hg] at h
            | some vs =>
              simp only [ev, hg] at h
              split at h
              · rename_i hl
                obtain ⟨x, st', F, e, e2, e3⟩ := loopAt_shape hb (E := E ++ vs) (by rw [List.length_append, hE, hl]; omega) hc2.2 g2 h
                exact ⟨x, st', vs ++ F, by rw [← List.append_assoc]; exact e, by rw [← List.append_assoc]; exact e2, by rw [e3, g3, h3]⟩
              · cases h
        · simp [ev] at h
      · simp [ev] at h
    · simp [ev] at h
  · simp [ev] at h

theorem exec_shape : ∀ (c : Code) (st : St) (E : List D) (r : Res), ev C k (exec cx inl c st) E = some r → E.length = st.nv → Shape E st.base r
  | .skip, st, E, r, h, hE => by simp only [exec, ev, Option.some.injEq] at h; exact ⟨.normal, st, [], by rw [List.append_nil]; exact h.symm, by rw [List.append_nil]; exact hE, rfl⟩
  | .label _, st, E, r, h, hE => by simp only [exec, ev, Option.some.injEq] at h; exact ⟨.normal, st, [], by rw [List.append_nil]; exact h.symm, by rw [List.append_nil]; exact hE, rfl⟩
  | .exit id, st, E, r, h, hE => by simp only [exec, ev, Option.some.injEq] at h; exact ⟨.exit id, st, [], by rw [List.append_nil]; exact h.symm, by rw [List.append_nil]; exact hE, rfl⟩
  | .ret, st, E, r, h, hE => by simp only [exec, ev, Option.some.injEq] at h; exact ⟨.ret, st, [], by rw [List.append_nil]; exact h.symm, by rw [List.append_nil]; exact hE, rfl⟩
  | .region _ ops draw, st, E, r, h, hE => by
    simp only [exec] at h
    split at h
    · simp [ev] at h
    · refine joinN_shape hE (fun r hr => ?_) h
      obtain ⟨stf, F, es, e1, e2, e3, _⟩ := region_path hr hE (fun a b hm => by simp at hm)
      exact ⟨.normal, stf, F, e1, e2, e3.all.2.2.2.2.2⟩
  | .seq a b, st, E, r, h, hE => by
    simp only [exec] at h
    obtain ⟨r0, q1, q2⟩ := ev_andThen (fun st E r hr => shut_fin (exec_shut b st) hr) h
    obtain ⟨x, st', F, e, e2, e3⟩ := exec_shape a st E r0 q1 hE
    subst e
    cases x with
    | normal =>
      obtain ⟨y, st2, F2, f1, f2, f3⟩ := exec_shape b st' _ r q2 e2
      exact ⟨y, st2, F ++ F2, by rw [← List.append_assoc]; exact f1, by rw [← List.append_assoc]; exact f2, by rw [f3, e3]⟩
    | exit id => exact ⟨_, st', F, q2, e2, e3⟩
    | ret => exact ⟨_, st', F, q2, e2, e3⟩
  | .cond c x y, st, E, r, h, hE => by
    simp only [exec] at h
    split at h
    · exact exec_shape x st E r h hE
    · exact exec_shape y st E r h hE
    · refine joinN_shape hE (fun r hr => ?_) h
      simp only [ev] at hr
      split at hr
      · exact exec_shape x st E r hr hE
      · exact exec_shape y st E r hr hE
      · cases hr
    · simp [ev] at h
  | .block id b, st, E, r, h, hE => by
    simp only [exec] at h
    refine joinN_shape hE (fun r hr => ?_) h
    obtain ⟨r0, q1, q2⟩ := ev_ends hr
    obtain ⟨x, st', F, e, e2, e3⟩ := exec_shape b st E r0 q1 hE
    subst e
    exact ⟨_, st', F, q2, e2, e3⟩
  | .loop b, st, E, r, h, hE => by
    simp only [exec] at h
    exact loopT_shape (fun st E r => exec_shape b st E r) hE h
  | .rangeFunc .., st, E, r, h, hE => by simp [exec, ev] at h
  | .scope _, st, E, r, h, hE => by simp [exec, ev] at h
  | .goto _, st, E, r, h, hE => by simp [exec, ev] at h
  | .refuse _, st, E, r, h, hE => by simp [exec, ev] at h
end

end Go.SX

/- Code: it does what its tree tells. -/
namespace Go.SX
open Go.RowKit (Below)

section
variable {C : FuncId → List D → Option (List D)} {k B0 : Nat} {w0 : World} {Xe : Ctx} {cx : Cx} {inl : FuncId → List SV → Nat → List Root → Option Inl}

/-- How a way ends: as the tree does. -/
def EndsAs (B0 : Nat) (w0 : World) (Xe : Ctx) (x : Ex) (st : St) (E : List D) : Exit → Act → World → Prop := fun e a w => e = exOf x ∧ InvS B0 w0 Xe st E a w

theorem fit_inv (hB0 : B0 ≤ w0.heap.size) {n0 : Nat} {H L : St} {sg : List At} {bs : List Bd} (h : fit n0 H L = some (sg, bs)) (hok : H.okAt = true) (hn : n0 ≤ H.nv) {E0 F : List D} (hE0 : E0.length = n0) (hEl : (E0 ++ F).length = L.nv)
    (hXe : ∀ (i : Nat) (d : D), Xe.E[i]? = some d → E0[i]? = some d) (hXA : ∀ r, Xe.A r → r < L.base) {E1 : List D} (hev : evPrims bs (E0 ++ F) = some E1) {vs : List D} (hg : gets E1 sg = some vs) {a : Act} {w : World}
    (hinv : InvS B0 w0 Xe L (E0 ++ F) a w) : InvS B0 w0 Xe H (E0 ++ vs) a w :=
  (fit_sound hB0 h hok hn hE0 hEl hXe hXA hev hg hinv).2.2

/-- A join. -/
theorem joinN_sound (hB0 : B0 ≤ w0.heap.size) {c : Code} {n0 base : Nat} {t : Tree} {E : List D} (hE : E.length = n0) (hXe : ∀ (i : Nat) (d : D), Xe.E[i]? = some d → E[i]? = some d) (hXA : ∀ r, Xe.A r → r < base) {a : Act} {w : World}
    (hs : ∀ r, ev C k t E = some r → Shape E base r) (ht : ∀ x st' F, ev C k t E = some (.fin x st' (E ++ F)) → c.wp cx.P (EndsAs B0 w0 Xe x st' (E ++ F)) a w)
    {x : Ex} {st' : St} {F : List D} (h : ev C k (joinN n0 t) E = some (.fin x st' (E ++ F))) : c.wp cx.P (EndsAs B0 w0 Xe x st' (E ++ F)) a w := by
  unfold joinN at h
  split at h
  · exact ht _ _ _ h
  · exact ht _ _ _ h
  · split at h
    · simp only at h
      split at h
      · rename_i hc
        simp only [Bool.and_eq_true, Nat.ble_eq] at hc
        simp only [ev] at h
        split at h
        · cases h
        · rename_i vs h1
          split at h
          · rename_i hl
            injection h with h
            injection h with e1 e2 e3
            subst e1 e2
            have e3 := List.append_cancel_left e3
            subst e3
            obtain ⟨r0, q1, q2⟩ := ev_conv (fitJ_shifts _ _ _) h1
            obtain ⟨x, st1, F1, e, e2, e3⟩ := hs r0 q1
            subst e
            cases x with
            | normal =>
              have q2 : ev C k (fitJ _ _ _ _ st1) (E ++ F1) = some _ := q2
              obtain ⟨sg, bs, E1, vs', f1, f2, f3, f4, f5, f6⟩ := fitJ_ev q2
              injection f4 with _ _ f4
              subst f4
              refine wp_mono (ht _ _ _ q1) fun e a' w' ⟨he, hinv⟩ => ⟨he, ?_⟩
              exact fit_inv hB0 f1 hc.1.1 hc.1.2 hE e2 hXe (fun r hr => by rw [e3]; exact hXA r hr) f2 f3 hinv
            | exit id => cases q2
            | ret => cases q2
          · cases h
        · rename_i r1 hne h1
          obtain ⟨r0, q1, q2⟩ := ev_conv (fitJ_shifts _ _ _) h1
          obtain ⟨y, st1, F1, e, e2, e3⟩ := hs r0 q1
          subst e
          cases y with
          | normal =>
            have q2 : ev C k (fitJ _ _ _ _ st1) (E ++ F1) = some _ := q2
            obtain ⟨sg, bs, E1, vs', f1, f2, f3, f4, f5, f6⟩ := fitJ_ev q2
            exact absurd f4 (hne _ _)
          | exit id =>
            have q2 : r1 = _ := q2
            subst q2
            simp only [Res.up, Option.some.injEq] at h
            rw [h] at q1
            exact ht _ _ _ q1
          | ret =>
            have q2 : r1 = _ := q2
            subst q2
            simp only [Res.up, Option.some.injEq] at h
            rw [h] at q1
            exact ht _ _ _ q1
      · exact ht _ _ _ h
    · exact ht _ _ _ h

/-- A loop, from its head on. -/
theorem loopAt_sound (hB0 : B0 ≤ w0.heap.size) {b : Code} {body : St → Tree} {base : Nat} (hXA : ∀ r, Xe.A r → r < base) (hb : ∀ st E r, ev C k (body st) E = some r → E.length = st.nv → Shape E st.base r)
    (hbs : ∀ st E a w x st' E', ev C k (body st) E = some (.fin x st' E') → E.length = st.nv → st.base = base → InvS B0 w0 Xe st E a w → b.wp cx.P (EndsAs B0 w0 Xe x st' E') a w)
    {st H : St} {sg : List At} {E : List D} (hE : E.length = st.nv) (hXe : ∀ (i : Nat) (d : D), Xe.E[i]? = some d → E[i]? = some d) (hn : st.nv ≤ H.nv) (hok : H.okAt = true) (hbase : H.base = base) {vs0 : List D} (hg : gets E sg = some vs0) (hl0 : vs0.length = H.nv - st.nv)
    {x : Ex} {st' : St} {E' : List D} (h : ev C k (loopAt body st H sg) E = some (.fin x st' E')) {a : Act} {w : World} (hinv : InvS B0 w0 Xe H (E ++ vs0) a w) : (Code.loop b).wp cx.P (EndsAs B0 w0 Xe x st' E') a w := by
  unfold loopAt at h
  simp only [ev, hg] at h
  split at h
  · cases h
  · rename_i r' hi
    refine loop_of ?_
    have main : ∀ (n : Nat) (vs : List D) (r' : Res) (a : Act) (w : World), vs.length = H.nv - st.nv → iter (fun vs => ev C k ((body H).conv (fitJ st.nv H true) 0) (E ++ vs)) n vs = some r' → r'.up = some (.fin x st' E') → InvS B0 w0 Xe H (E ++ vs) a w →
        LoopWp cx.P b (EndsAs B0 w0 Xe x st' E') a w := by
      intro n
      induction n with
      | zero => intro vs r' a w _ h; simp [iter] at h
      | succ n ih =>
        intro vs r' a w hvl hi hup hinv
        simp only [iter] at hi
        have hlen : (E ++ vs).length = H.nv := by rw [List.length_append, hE, hvl]; omega
        -- one round
        have step : ∀ q, ev C k ((body H).conv (fitJ st.nv H true) 0) (E ++ vs) = some q →
            (∃ vs', q = .jmp 0 true vs' ∧ vs'.length = H.nv - st.nv ∧ ((∀ a' w', InvS B0 w0 Xe H (E ++ vs') a' w' → LoopWp cx.P b (EndsAs B0 w0 Xe x st' E') a' w') → LoopWp cx.P b (EndsAs B0 w0 Xe x st' E') a w)) ∨
            ∃ y st1 E1, y ≠ .normal ∧ q = .fin y st1 E1 ∧ b.wp cx.P (EndsAs B0 w0 Xe y st1 E1) a w := fun q hq => by
          obtain ⟨r0, q1, q2⟩ := ev_conv (fitJ_shifts _ _ _) hq
          obtain ⟨y, st1, F, e, e2, e3⟩ := hb H _ r0 q1 hlen
          subst e
          have hwp := hbs H _ a w y st1 _ q1 hlen hbase hinv
          cases y with
          | normal =>
            have q2 : ev C k (fitJ _ _ _ _ st1) (E ++ vs ++ F) = some _ := q2
            obtain ⟨sg', bs', E1, vs', f1, f2, f3, f4, f5, f6⟩ := fitJ_ev q2
            refine .inl ⟨vs', f4, f5, fun hnext => loop_round (wp_mono hwp fun e a' w' ⟨he, hinv'⟩ => ?_)⟩
            subst he
            refine hnext a' w' ?_
            rw [List.append_assoc] at f2 hinv' e2
            exact fit_inv hB0 f1 hok hn hE e2 hXe (fun r hr => by rw [e3, hbase]; exact hXA r hr) f2 f3 hinv'
          | exit id => exact .inr ⟨_, st1, _, by simp, q2, hwp⟩
          | ret => exact .inr ⟨_, st1, _, by simp, q2, hwp⟩
        split at hi
        · rename_i vs' hq
          rcases step _ hq with ⟨vs2, e, hl, hgo⟩ | ⟨y, st1, E1, _, e, _⟩
          · injection e with _ _ e
            subst e
            exact hgo fun a' w' hinv' => ih _ _ a' w' hl hi hup hinv'
          · cases e
        · rename_i hne
          rcases step _ hi with ⟨vs2, e, hl, hgo⟩ | ⟨y, st1, E1, hy, e, hwp⟩
          · subst e
            exact absurd hi (hne vs2)
          · subst e
            simp only [Res.up, Option.some.injEq] at hup
            injection hup with e1 e2 e3
            subst e1 e2 e3
            refine loop_round (wp_mono hwp fun e a' w' ⟨he, hinv'⟩ => ?_)
            subst he
            cases y with
            | normal => exact absurd rfl hy
            | exit id => exact ⟨rfl, hinv'⟩
            | ret => exact ⟨rfl, hinv'⟩
    exact main k vs0 r' a w hl0 hi h hinv

theorem loopT_sound (hB0 : B0 ≤ w0.heap.size) {b : Code} {body : St → Tree} {base : Nat} (hXA : ∀ r, Xe.A r → r < base) (hb : ∀ st E r, ev C k (body st) E = some r → E.length = st.nv → Shape E st.base r)
    (hbs : ∀ st E a w x st' E', ev C k (body st) E = some (.fin x st' E') → E.length = st.nv → st.base = base → InvS B0 w0 Xe st E a w → b.wp cx.P (EndsAs B0 w0 Xe x st' E') a w)
    {st : St} {E : List D} (hE : E.length = st.nv) (hbase : st.base = base) {x : Ex} {st' : St} {E' : List D} (h : ev C k (loopT body st) E = some (.fin x st' E')) {a : Act} {w : World} (hinv : InvS B0 w0 Xe st E a w) : (Code.loop b).wp cx.P (EndsAs B0 w0 Xe x st' E') a w := by
  have hXe := hinv.pre
  unfold loopT at h
  simp only at h
  split at h
  · rename_i hc
    simp only [Bool.and_eq_true, Nat.ble_eq] at hc
    split at h
    · rename_i sg hf
      obtain ⟨h1, h2, h3⟩ := fit_facts hf
      have hg : ∃ vs, gets E sg = some vs := by
        unfold loopAt at h
        simp only [ev] at h
        cases hg : gets E sg with
        | none => simp [hg] at h
        | some vs => exact ⟨vs, rfl⟩
      obtain ⟨vs, hg⟩ := hg
      have hinvH := fit_inv hB0 (F := []) hf hc.1 hc.2 hE (by rw [List.append_nil]; exact hE) hXe (fun r hr => by rw [hbase]; exact hXA r hr) (E1 := E) (by rw [List.append_nil]; rfl) hg (by rw [List.append_nil]; exact hinv)
      exact loopAt_sound hB0 hXA hb hbs hE hXe hc.2 hc.1 (by rw [h3, hbase]) hg (by rw [gets_length hg, h2]) h hinvH
    · rename_i sg bs _ hf
      obtain ⟨h1, h2, h3⟩ := fit_facts hf
      split at h
      · rename_i hc2
        simp only [Bool.and_eq_true, Nat.ble_eq] at hc2
        split at h
        · rename_i sg' hf2
          obtain ⟨g1, g2, g3⟩ := fit_facts hf2
          simp only [ev] at h
          rw [ev_prims h1] at h
          cases he : evPrims bs E with
          | none => simp [he] at h
          | some E1 =>
            simp only [he] at h
            cases hg : gets E1 sg with
            | none => simp [ev, hg] at h
            | some vs =>
              simp only [ev, hg] at h
              split at h
              · rename_i hl
                have hinvH := fit_inv hB0 (F := []) hf hc.1 hc.2 hE (by rw [List.append_nil]; exact hE) hXe (fun r hr => by rw [hbase]; exact hXA r hr) (E1 := E1) (by rw [List.append_nil]; exact he) hg (by rw [List.append_nil]; exact hinv)
                have hE' : (E ++ vs).length = (headOf body st 8 st).nv := by rw [List.length_append, hE, hl]; omega
                have hXe' := hinvH.pre
                have hb' : (headOf body st 8 st).base = base := by rw [h3, hbase]
                have hg' : ∃ vs', gets (E ++ vs) sg' = some vs' := by
                  unfold loopAt at h
                  simp only [ev] at h
                  cases hg : gets (E ++ vs) sg' with
                  | none => simp [hg] at h
                  | some vs => exact ⟨vs, rfl⟩
                obtain ⟨vs', hg'⟩ := hg'
                have hinvH' := fit_inv hB0 (F := []) hf2 hc2.1 hc2.2 hE' (by rw [List.append_nil]; exact hE') hXe' (fun r hr => by rw [hb']; exact hXA r hr) (E1 := E ++ vs) (by rw [List.append_nil]; rfl) hg' (by rw [List.append_nil]; exact hinvH)
                exact loopAt_sound hB0 hXA hb hbs hE' hXe' hc2.2 hc2.1 (by rw [g3, hb']) hg' (by rw [gets_length hg', g2]) h hinvH'
              · cases h
        · simp [ev] at h
      · simp [ev] at h
    · simp [ev] at h
  · simp [ev] at h

/-- Code does what its tree tells. -/
theorem exec_sound (ty : TysOk cx) (hC : CallsOk cx C) (hI : InlOk cx C k inl) (hmix : cx.P.follows .mixedOrders = true) (hB0 : B0 ≤ w0.heap.size) {base : Nat} (hXA : ∀ r, Xe.A r → r < base) :
    ∀ (c : Code) (st : St) (E : List D) (a : Act) (w : World) (x : Ex) (st' : St) (E' : List D), ev C k (exec cx inl c st) E = some (.fin x st' E') → E.length = st.nv → st.base = base → InvS B0 w0 Xe st E a w → c.wp cx.P (EndsAs B0 w0 Xe x st' E') a w
  | .skip, st, E, a, w, x, st', E', h, hE, hb, hinv => by
    simp only [exec, ev, Option.some.injEq] at h
    injection h with e1 e2 e3
    subst e1 e2 e3
    exact wp_skip ⟨rfl, hinv⟩
  | .label _, st, E, a, w, x, st', E', h, hE, hb, hinv => by
    simp only [exec, ev, Option.some.injEq] at h
    injection h with e1 e2 e3
    subst e1 e2 e3
    exact wp_label ⟨rfl, hinv⟩
  | .exit id, st, E, a, w, x, st', E', h, hE, hb, hinv => by
    simp only [exec, ev, Option.some.injEq] at h
    injection h with e1 e2 e3
    subst e1 e2 e3
    exact wp_exit ⟨rfl, hinv⟩
  | .ret, st, E, a, w, x, st', E', h, hE, hb, hinv => by
    simp only [exec, ev, Option.some.injEq] at h
    injection h with e1 e2 e3
    subst e1 e2 e3
    exact wp_ret ⟨rfl, hinv⟩
  | .region id ops draw, st, E, a, w, x, st', E', h, hE, hb, hinv => by
    obtain ⟨x', st1, F, e, e2, e3⟩ := exec_shape _ _ _ _ h hE
    injection e with q1 q2 q3
    subst q1 q2 q3
    simp only [exec] at h
    split at h
    · simp [ev] at h
    · rename_i hed
      have hs : ∀ r, ev C k (regionT cx inl draw ops.toList (if draw = true then beforeL ops.toList [] else []) ops.toList 0 st [] []) E = some r → Shape E st.base r := fun r hr => by
        obtain ⟨stf, F, es, e1, e2, e3, _⟩ := region_path hr hE (fun a b hm => by simp at hm)
        exact ⟨.normal, stf, F, e1, e2, e3.all.2.2.2.2.2⟩
      refine joinN_sound hB0 (base := st.base) hE hinv.pre (fun r hr => by rw [hb]; exact hXA r hr) hs (fun y st1 F1 hr => ?_) h
      obtain ⟨stf, F2, es, e1, e2, e3, e4⟩ := region_path hr hE (fun a b hm => by simp at hm)
      injection e1 with p1 p2 p3
      subst p1 p2
      have p3 := List.append_cancel_left p3
      subst p3
      cases draw with
      | false => exact wp_region (region_text ty hC hI hB0 e3 (fun a w h => ⟨rfl, h⟩) (hinv.more hB0))
      | true =>
        simp only [if_true, List.reverse_nil, List.nil_append, true_implies] at e4
        refine wp_region_any hmix (region_any ty hC hI hB0 e3 e4 ?_ (fun a w h => ⟨rfl, h⟩) ((hinv.more hB0).drew hB0))
        simpa using hed
  | .seq c1 c2, st, E, a, w, x, st', E', h, hE, hb, hinv => by
    simp only [exec] at h
    obtain ⟨r0, q1, q2⟩ := ev_andThen (fun st E r hr => shut_fin (exec_shut c2 st) hr) h
    obtain ⟨y, st1, F, e, e2, e3⟩ := exec_shape c1 st E r0 q1 hE
    subst e
    have h1 := exec_sound ty hC hI hmix hB0 hXA c1 st E a w _ _ _ q1 hE hb hinv
    refine wp_seq (wp_mono h1 fun e a' w' ⟨he, hinv'⟩ => ?_)
    subst he
    cases y with
    | normal => exact exec_sound ty hC hI hmix hB0 hXA c2 st1 _ a' w' _ _ _ q2 e2 (by rw [e3, hb]) hinv'
    | exit id =>
      have q2 : (Res.fin x st' E') = _ := q2
      injection q2 with p1 p2 p3
      subst p1 p2 p3
      exact ⟨rfl, hinv'⟩
    | ret =>
      have q2 : (Res.fin x st' E') = _ := q2
      injection q2 with p1 p2 p3
      subst p1 p2 p3
      exact ⟨rfl, hinv'⟩
  | .cond c c1 c2, st, E, a, w, x, st', E', h, hE, hb, hinv => by
    obtain ⟨x', st1, F, e, e2, e3⟩ := exec_shape _ _ _ _ h hE
    injection e with q1 q2 q3
    subst q1 q2 q3
    obtain ⟨X, x1, x2, x3, x4, x5, x6, x7, x8, x9, x10⟩ := id hinv
    have hv := simple_rep (opnd_rep (ρ := st.slot) x10 c)
    simp only [exec] at h
    split at h
    · rename_i hc
      rw [hc] at hv
      obtain ⟨d, hd, hdv⟩ := VRep.data.1 hv
      simp only [At.get, Option.some.injEq] at hd
      subst hd
      obtain ⟨b', h1, h2⟩ := hdv.bool
      injection h1 with h1
      subst h1
      exact wp_cond_true h2 (exec_sound ty hC hI hmix hB0 hXA c1 st E a w _ _ _ h hE hb hinv)
    · rename_i hc
      rw [hc] at hv
      obtain ⟨d, hd, hdv⟩ := VRep.data.1 hv
      simp only [At.get, Option.some.injEq] at hd
      subst hd
      obtain ⟨b', h1, h2⟩ := hdv.bool
      injection h1 with h1
      subst h1
      exact wp_cond_false h2 (exec_sound ty hC hI hmix hB0 hXA c2 st E a w _ _ _ h hE hb hinv)
    · rename_i at_ _ _ hc
      rw [hc] at hv
      obtain ⟨d, hd, hdv⟩ := VRep.data.1 hv
      obtain ⟨b', h1, h2⟩ := hdv.bool
      subst h1
      rw [x1] at hd
      have hs : ∀ r, ev C k (.ite at_ (exec cx inl c1 st) (exec cx inl c2 st)) E = some r → Shape E st.base r := fun r hr => by
        simp only [ev] at hr
        split at hr
        · exact exec_shape c1 st E r hr hE
        · exact exec_shape c2 st E r hr hE
        · cases hr
      refine joinN_sound hB0 (base := st.base) hE hinv.pre (fun r hr => by rw [hb]; exact hXA r hr) hs (fun y st1 F1 hr => ?_) h
      simp only [ev, hd] at hr
      cases b' with
      | true => exact wp_cond_true h2 (exec_sound ty hC hI hmix hB0 hXA c1 st E a w _ _ _ hr hE hb hinv)
      | false => exact wp_cond_false h2 (exec_sound ty hC hI hmix hB0 hXA c2 st E a w _ _ _ hr hE hb hinv)
    · simp [ev] at h
  | .block id b, st, E, a, w, x, st', E', h, hE, hb, hinv => by
    obtain ⟨x', st1, F, e, e2, e3⟩ := exec_shape _ _ _ _ h hE
    injection e with q1 q2 q3
    subst q1 q2 q3
    simp only [exec] at h
    have hs : ∀ r, ev C k ((exec cx inl b st).ends fun | .exit id' => if Nat.beq id id' then .normal else .exit id' | x => x) E = some r → Shape E st.base r := fun r hr => by
      obtain ⟨r0, q1, q2⟩ := ev_ends hr
      obtain ⟨x, st', F, e, e2, e3⟩ := exec_shape b st E r0 q1 hE
      subst e
      exact ⟨_, st', F, q2, e2, e3⟩
    refine joinN_sound hB0 (base := st.base) hE hinv.pre (fun r hr => by rw [hb]; exact hXA r hr) hs (fun y st1 F1 hr => ?_) h
    obtain ⟨r0, q1, q2⟩ := ev_ends hr
    obtain ⟨z, st2, F2, e, e2, e3⟩ := exec_shape b st E r0 q1 hE
    subst e
    simp only [Res.ends] at q2
    injection q2 with p1 p2 p3
    subst p1 p2
    have p3 := List.append_cancel_left p3
    subst p3
    have h1 := exec_sound ty hC hI hmix hB0 hXA b st E a w _ _ _ q1 hE hb hinv
    refine wp_block (wp_mono h1 fun e a' w' ⟨he, hinv'⟩ => ?_)
    subst he
    cases z with
    | normal => exact ⟨rfl, hinv'⟩
    | ret => exact ⟨rfl, hinv'⟩
    | exit id' =>
      simp only [exOf, Exit.inBlock]
      by_cases hid : id' = id
      · subst hid
        rw [if_pos rfl, if_pos (Nat.beq_refl _)]
        exact ⟨rfl, hinv'⟩
      · rw [if_neg hid, if_neg (fun hq => hid (nat_beq hq).symm)]
        exact ⟨rfl, hinv'⟩
  | .loop b, st, E, a, w, x, st', E', h, hE, hb, hinv => by
    simp only [exec] at h
    exact loopT_sound hB0 hXA (fun st E r => exec_shape b st E r) (fun st E a w x st' E' h1 h2 h3 h4 => exec_sound ty hC hI hmix hB0 hXA b st E a w x st' E' h1 h2 h3 h4) hE hb h hinv
  | .rangeFunc .., st, E, a, w, x, st', E', h, hE, hb, hinv => by simp [exec, ev] at h
  | .scope _, st, E, a, w, x, st', E', h, hE, hb, hinv => by simp [exec, ev] at h
  | .goto _, st, E, a, w, x, st', E', h, hE, hb, hinv => by simp [exec, ev] at h
  | .refuse _, st, E, a, w, x, st', E', h, hE, hb, hinv => by simp [exec, ev] at h
end

end Go.SX

/- Functions: run in place, or by contract. -/
namespace Go.SX
open Go.RowKit (Below)

theorem resultTmps_some : ∀ {rs : List ResultVar} {ts : List Tmp}, resultTmps rs = some ts → rs = ts.map .tmp
  | [], ts, h => by simp only [resultTmps, Option.some.injEq] at h; subst h; rfl
  | .tmp t :: l, ts, h => by
    simp only [resultTmps] at h
    split at h
    · rename_i r hr
      injection h with h
      subst h
      rw [List.map_cons, ← resultTmps_some hr]
    · cases h
  | .cell .. :: _, ts, h => by simp [resultTmps] at h

theorem resVal_size {vs : List Value} : (if h : vs.toArray.size = 1 then vs.toArray[0]'(by omega) else .tuple vs.toArray) = resVal vs := by
  match vs with
  | [] => rfl
  | [u] => rfl
  | u :: v :: r => rw [dif_neg (by simp)]; rfl

theorem mapM_tmps (tmps : Array Value) (P : Program) (w : World) : ∀ ts : List Tmp, (List.mapM (fun t => (pure (tmps.getD t undef) : Sem Value)) ts).run P w = .ok (ts.map fun t => tmps.getD t undef) w
  | [] => by simp
  | t :: ts => by
    have ih := mapM_tmps tmps P w ts
    simp only [List.mapM_cons, List.map_cons]
    simp

theorem results_run {fn : Func} {ts : List Tmp} (h : resultTmps fn.results.toList = some ts) (tmps : Array Value) (P : Program) (w : World) :
    (results fn tmps).run P w = .ok (resVal (ts.map fun t => tmps.getD t undef)) w := by
  have h' : fn.results = (ts.map ResultVar.tmp).toArray := by rw [← resultTmps_some h]
  have hm := mapM_tmps tmps P w ts
  simp only [Array.getD_eq_getD_getElem?] at hm ⊢
  unfold results
  rw [h']
  simp [Function.comp_def]
  match ts with
  | [] => rfl
  | [u] => rfl
  | u :: v :: r => rw [dif_neg (by simp)]; rfl

section
variable {C : FuncId → List D → Option (List D)} {k B0 : Nat} {X : Ctx} {cx : Cx}

theorem getD_map {ts : List Tmp} {f : Tmp → SV} {t : Nat} (h : t < ts.length) : ((ts.map f)[t]?).getD (.un 1) = f ts[t] := by simp [h]

theorem VRepL_of {X : Ctx} : ∀ {l : List SV} {vs : List Value}, vs.length = l.length → (∀ t, t < l.length → VRep X ((l[t]?).getD (.un 1)) ((vs[t]?).getD undef)) → VRepL X l vs
  | [], vs, hl, _ => by
    simp only [VRepL]
    exact List.eq_nil_of_length_eq_zero hl
  | s :: l, [], hl, _ => by simp at hl
  | s :: l, v :: r, hl, h => by
    simp only [VRepL]
    refine ⟨v, r, rfl, by simpa using h 0 (by simp), VRepL_of (by simpa using hl) fun t ht => ?_⟩
    have := h (t + 1) (by simpa using ht)
    simpa using this

/-- What stands in the slots at a function's beginning. -/
theorem entry_rep {X : Ctx} {fn : Func} {args : List SV} {vals : Array Value} (h : VRepL X args vals.toList) :
    (vals ++ Array.replicate (fn.ntmps - vals.size) undef).size = (args ++ List.replicate (fn.ntmps - args.length) (SV.un 1)).length ∧
      ∀ t, VRep X (((args ++ List.replicate (fn.ntmps - args.length) (SV.un 1))[t]?).getD (.un 1)) ((vals ++ Array.replicate (fn.ntmps - vals.size) undef).getD t undef) := by
  have hl : vals.size = args.length := by simpa using VRepL.length h
  refine ⟨by simp [hl], fun t => ?_⟩
  rcases Nat.lt_or_ge t args.length with hlt | hge
  · rw [List.getElem?_append_left hlt, List.getElem?_eq_getElem hlt]
    obtain ⟨v, e, hv⟩ := h.get (List.getElem?_eq_getElem hlt)
    have e' : vals[t]? = some v := by simpa using e
    simp only [Array.getD_eq_getD_getElem?]
    rw [Array.getElem?_append_left (by omega), e']
    exact hv
  · rw [List.getElem?_append_right hge, List.getElem?_replicate]
    have : ((if t - args.length < fn.ntmps - args.length then some (SV.un 1) else none).getD (.un 1)) = .un 1 := by split <;> rfl
    rw [this]
    simp only [VRep]

/-- The results as slots. -/
theorem InvS.res {w0 : World} {Xe : Ctx} {st : St} {E : List D} {a : Act} {w : World} (h : InvS B0 w0 Xe st E a w) (ts : List Tmp) :
    InvS B0 w0 Xe { st with slots := ts.map st.slot } E { tmps := (ts.map fun t => a.tmps.getD t undef).toArray, defers := [] } w := by
  obtain ⟨X, x1, x2, x3, x4, x5, x6, x7, x8, x9, x10⟩ := h
  refine ⟨X, x1, x2, x3, x4, x5, x6, x7, by simp, rfl, fun t => ?_⟩
  simp only
  rcases Nat.lt_or_ge t ts.length with hlt | hge
  · rw [getD_map hlt]
    have : ((ts.map fun t => a.tmps.getD t undef).toArray).getD t undef = a.tmps.getD ts[t] undef := by simp [Array.getD_eq_getD_getElem?, hlt]
    rw [this]
    exact x10 _
  · rw [List.getElem?_eq_none (by simpa using hge)]
    simp only [Option.getD_none, VRep]
theorem InvS.vals {w0 : World} {Xe : Ctx} {st : St} {E : List D} {vs : List Value} {w : World} (h : InvS B0 w0 Xe st E { tmps := vs.toArray, defers := [] } w) :
    ∃ X : Ctx, X.E = E ∧ X.w = w ∧ X.μ = st.root ∧ (∀ r, X.A r ↔ r < st.mem.length) ∧ Mem B0 X ∧ Ext Xe X ∧ Below B0 w0 w ∧ VRepL X st.slots vs := by
  obtain ⟨X, x1, x2, x3, x4, x5, x6, x7, x8, x9, x10⟩ := h
  refine ⟨X, x1, x2, x3, x4, x5, x6, x7, VRepL_of (by simpa using x8) fun t ht => ?_⟩
  have := x10 t
  simp only [Array.getD_eq_getD_getElem?] at this
  simpa using this

theorem withRes_fin {fn : Func} {st : St} {E : List D} {r : Res} (h : ev C k (withRes fn st) E = some r) : ∃ ts, resultTmps fn.results.toList = some ts ∧ r = .fin .normal { st with slots := ts.map st.slot } E := by
  unfold withRes resultSVs at h
  cases hr : resultTmps fn.results.toList with
  | none => simp [hr, ev] at h
  | some ts =>
    simp only [hr, ev, Option.some.injEq] at h
    exact ⟨ts, rfl, h.symm⟩

/-- A function's ends. -/
theorem body_ends {inl : FuncId → List SV → Nat → List Root → Option Inl} {c : Code} {st : St} {E : List D} (hE : E.length = st.nv) {r0 : Res} (h : ev C k ((exec cx inl c st).ends retN) E = some r0) :
    ∃ x st' F, ev C k (exec cx inl c st) E = some (.fin x st' (E ++ F)) ∧ r0 = .fin (retN x) st' (E ++ F) ∧ (E ++ F).length = st'.nv ∧ st'.base = st.base := by
  obtain ⟨r2, q1, q2⟩ := ev_ends h
  obtain ⟨x, st', F, e, e2, e3⟩ := exec_shape c st E r2 q1 hE
  subst e
  exact ⟨x, st', F, q1, q2, e2, e3⟩

theorem body_calls {inl : FuncId → List SV → Nat → List Root → Option Inl} (ty : TysOk cx) (hC : CallsOk cx C) (hI : InlOk cx C k inl) (hmix : cx.P.follows .mixedOrders = true) {f : FuncId} {fn : Func} {c : Code} (hf : cx.P.funcs[f]? = some fn) (hb : fn.body = some c)
    {args : List SV} {nv : Nat} {mem : List Root} (hE : X.E.length = nv) (hA : ∀ r, X.A r ↔ r < mem.length) (hμ : X.μ = memFn mem) (m : Mem B0 X) (hB : B0 ≤ X.w.heap.size) {vals : Array Value} (hv : VRepL X args vals.toList)
    {x : Ex} (hx : retN x = .normal) {st' : St} {E' : List D} (h : ev C k (exec cx inl c (entrySt fn args nv mem)) X.E = some (.fin x st' E')) {ts : List Tmp} (hts : resultTmps fn.results.toList = some ts) :
    Calls cx.P f vals X.w fun e w' => ∃ vs : List Value, e = .returned (resVal vs) ∧ InvS B0 X.w X { st' with slots := ts.map st'.slot } E' { tmps := vs.toArray, defers := [] } w' := by
  refine calls_of_wp hf hb ?_
  obtain ⟨e1, e2⟩ := entry_rep (fn := fn) hv
  have hinv : InvS B0 X.w X (entrySt fn args nv mem) X.E { tmps := vals ++ Array.replicate (fn.ntmps - vals.size) undef, defers := [] } X.w :=
    ⟨X, rfl, rfl, hμ, hA, m, Ext.refl _, Below.refl _ _, e1, rfl, e2⟩
  refine wp_mono (exec_sound ty hC hI hmix hB (base := mem.length) (fun r hr => (hA r).1 hr) c _ X.E _ X.w x st' E' h hE rfl hinv) fun e a' w' ⟨he, hi⟩ => ?_
  have key : a'.defers = [] ∧ ∃ v, (results fn a'.tmps).run cx.P w' = .ok v w' ∧ ∃ vs : List Value, Ending.returned v = .returned (resVal vs) ∧ InvS B0 X.w X { st' with slots := ts.map st'.slot } E' { tmps := vs.toArray, defers := [] } w' := by
    have hd : a'.defers = [] := by
      obtain ⟨X, x1, x2, x3, x4, x5, x6, x7, x8, x9, x10⟩ := hi
      exact x9
    exact ⟨hd, _, results_run hts a'.tmps cx.P w', _, rfl, hi.res ts⟩
  subst he
  cases x with
  | normal => exact key
  | ret => exact key
  | exit id => cases hx

theorem body_res {inl : FuncId → List SV → Nat → List Root → Option Inl} {fn : Func} {c : Code} {st : St} {E : List D} (hE : E.length = st.nv) {r : Res} (h : ev C k (((exec cx inl c st).ends retN).andThen (withRes fn)) E = some r) :
    (∃ id st' E', r = .fin (.exit id) st' E') ∨ ∃ x st' F ts, retN x = .normal ∧ ev C k (exec cx inl c st) E = some (.fin x st' (E ++ F)) ∧ resultTmps fn.results.toList = some ts ∧
      r = .fin .normal { st' with slots := ts.map st'.slot } (E ++ F) ∧ (E ++ F).length = st'.nv ∧ st'.base = st.base := by
  obtain ⟨r0, q1, q2⟩ := ev_andThen (fun st E r hr => by
    obtain ⟨ts, _, e⟩ := withRes_fin hr
    subst e
    exact True.intro) h
  obtain ⟨x, st', F, e1, e2, e3, e4⟩ := body_ends hE q1
  subst e2
  cases x with
  | exit id => exact .inl ⟨id, st', E ++ F, q2⟩
  | normal =>
    obtain ⟨ts, h1, h2⟩ := withRes_fin q2
    exact .inr ⟨.normal, st', F, ts, rfl, e1, h1, h2, e3, e4⟩
  | ret =>
    obtain ⟨ts, h1, h2⟩ := withRes_fin q2
    exact .inr ⟨.ret, st', F, ts, rfl, e1, h1, h2, e3, e4⟩

theorem descOk_for {cx : Cx} {f : FuncId} {t : TypeId} : ∀ {T : Ty}, descOk cx t T → descOk (cxFor cx f) t T
  | .int _, h => h
  | .bool, h => h
  | .str, h => h
  | .sl _, h => h
  | .arr _ _, h => h
  | .st _, h => h
  | .no, h => h
theorem TysOk.for_ {cx : Cx} (ty : TysOk cx) (f : FuncId) : TysOk (cxFor cx f) := fun t hn => by
  obtain ⟨i, h⟩ := ty t hn
  exact ⟨i, ⟨h.info, h.size, h.zero, h.known, descOk_for h.desc⟩⟩
theorem CallsOk.for_ {cx : Cx} (hC : CallsOk cx C) (f : FuncId) : CallsOk (cxFor cx f) C := hC
theorem InlOk.for_ {cx : Cx} {inl : FuncId → List SV → Nat → List Root → Option Inl} (hI : InlOk cx C k inl) (f : FuncId) : InlOk (cxFor cx f) C k inl := hI

/-- What a body's tree tells. -/
def BodyTells (cx : Cx) (C : FuncId → List D → Option (List D)) (k : Nat) (f : FuncId) (args : List SV) (nv : Nat) (mem : List Root) (t : Tree) : Prop :=
  ∀ (B0 : Nat) (X : Ctx) (vals : Array Value), X.E.length = nv → (∀ r, X.A r ↔ r < mem.length) → X.μ = memFn mem → Mem B0 X → B0 ≤ X.w.heap.size → VRepL X args vals.toList →
    ∀ r, ev C k t X.E = some r → (∃ id st' E', r = .fin (.exit id) st' E') ∨ ∃ st' F, r = .fin .normal st' (X.E ++ F) ∧ (X.E ++ F).length = st'.nv ∧ st'.base = mem.length ∧
      Calls cx.P f vals X.w fun e w' => ∃ us : List Value, e = .returned (resVal us) ∧ InvS B0 X.w X st' (X.E ++ F) { tmps := us.toArray, defers := [] } w'

theorem body_tells {inl : FuncId → List SV → Nat → List Root → Option Inl} (ty : TysOk cx) (hC : CallsOk cx C) (hI : InlOk cx C k inl) (hmix : cx.P.follows .mixedOrders = true) {f : FuncId} {fn : Func} {c : Code} (hf : cx.P.funcs[f]? = some fn) (hb : fn.body = some c)
    (args : List SV) (nv : Nat) (mem : List Root) : BodyTells cx C k f args nv mem (((exec cx inl c (entrySt fn args nv mem)).ends retN).andThen (withRes fn)) := by
  intro B0 X vals hE hA hμ m hB hv r hev
  rcases body_res (st := entrySt fn args nv mem) hE hev with h | ⟨x, st', F, ts, hx, h1, h2, e, h3, h4⟩
  · exact .inl h
  · exact .inr ⟨_, F, e, h3, h4, body_calls ty hC hI hmix hf hb hE hA hμ m hB hv hx h1 h2⟩

theorem inlOf_ok {f : FuncId} {args : List SV} {nv : Nat} {mem : List Root} {t : Tree} {ls : List (St × Bool)} (hbody : BodyTells cx C k f args nv mem t) {i : Inl} (hi : inlOf nv mem t ls = some i) :
    ∀ (B0 : Nat) (X : Ctx) (vals : Array Value), X.E.length = nv → (∀ r, X.A r ↔ r < mem.length) → X.μ = memFn mem → Mem B0 X → B0 ≤ X.w.heap.size → VRepL X args vals.toList →
      ∀ bk vs, ev C k i.t X.E = some (.jmp 0 bk vs) → vs.length = i.m →
        Calls cx.P f vals X.w fun e w' => ∃ v, e = .returned v ∧ ∃ X' : Ctx, X'.E = X.E ++ vs ∧ X'.w = w' ∧ (∀ r, X'.A r ↔ r < i.mem.length) ∧ X'.μ = memFn i.mem ∧ Ext X X' ∧ Mem B0 X' ∧ Below B0 X.w w' ∧ VRep X' i.res v := by
  intro B0 X vals hE hA hμ m hB hv bk vs hev hvs
  unfold inlOf at hi
  split at hi
  · injection hi with hi
    subst hi
    rcases hbody B0 X vals hE hA hμ m hB hv _ hev with ⟨id, st', E', e⟩ | ⟨st', F, e, _⟩
    · cases e
    · cases e
  · revert hi
    simp only
    generalize mergeAll nv mem.length _ = H
    intro hi
    split at hi
    · rename_i hc
      injection hi with hi
      subst hi
      simp only [Bool.and_eq_true, Nat.ble_eq] at hc
      have hev : ev C k (t.conv (fitJ nv H false) 0) X.E = some (.jmp 0 bk vs) := hev
      obtain ⟨r0, q1, q2⟩ := ev_conv (fitJ_shifts _ _ _) hev
      rcases hbody B0 X vals hE hA hμ m hB hv _ q1 with ⟨id, st', E', e⟩ | ⟨st', F, e, h3, h4, hcalls⟩
      · subst e
        cases q2
      · subst e
        have q2 : ev C k (fitJ nv H false 0 st') (X.E ++ F) = some (.jmp 0 bk vs) := q2
        obtain ⟨sg, bs, E1, vs', f1, f2, f3, f4, f5, f6⟩ := fitJ_ev q2
        injection f4 with _ _ f4
        subst f4
        refine hcalls.mono fun e w' ⟨us, he, hi⟩ => ?_
        have hi2 := fit_inv hB f1 hc.1 hc.2 hE h3 (fun _ _ h => h) (fun r hr => by
          rw [h4]
          exact (hA r).1 hr) f2 f3 hi
        obtain ⟨X', x1, x2, x3, x4, x5, x6, x7, x8⟩ := hi2.vals
        exact ⟨_, he, X', x1, x2, x4, x3, x6, x5, x7, resSV_rep x8⟩
    · cases hi

theorem inlF_ok (ty : TysOk cx) (hC : CallsOk cx C) (hmix : cx.P.follows .mixedOrders = true) : ∀ n, InlOk cx C k (inlF cx n)
  | 0 => fun f args nv mem i hi => by simp [inlF] at hi
  | n + 1 => fun f args nv mem i hi hlen => by
    simp only [inlF] at hi
    split at hi
    · cases hi
    rename_i fn hf
    split at hi
    · cases hi
    rename_i c hb
    have hIn : InlOk (cxFor cx f) C k (inlF cx n) := (inlF_ok ty hC hmix n).for_ f
    have hbody : BodyTells cx C k f args nv mem _ := body_tells (cx := cxFor cx f) (ty.for_ f) (hC.for_ f) hIn hmix hf hb args nv mem
    exact inlOf_ok hbody hi

/-! ### By contract -/
theorem backT_ev {fn : Func} {Ts : List Ty} {d : Nat} {st : St} {E : List D} {r : Res} (h : ev C k (backT fn Ts d st) E = some r) :
    ∃ ts as s foot E1 rs, resultTmps fn.results.toList = some ts ∧ (SV.viewL true Ts (ts.map st.slot)).run st.root ⟨[], st.nv, [], st.mem.length⟩ = some (as, s, foot) ∧ primsOnly s.bs = true ∧ evPrims s.bs E = some E1 ∧ gets E1 as = some rs ∧ r = .jmp d false rs := by
  unfold backT resultSVs at h
  cases hr : resultTmps fn.results.toList with
  | none => simp [hr, ev] at h
  | some ts =>
    simp only [hr] at h
    split at h
    · simp [ev] at h
    · rename_i as s foot hv
      split at h
      · rename_i hp
        rw [ev_prims hp] at h
        cases he : evPrims s.bs E with
        | none => simp [he] at h
        | some E1 =>
          simp only [he, ev] at h
          cases hg : gets E1 as with
          | none => simp [hg] at h
          | some rs =>
            simp only [hg, Option.some.injEq] at h
            exact ⟨ts, as, s, foot, E1, rs, rfl, hv, hp, he, hg, h.symm⟩
      · simp [ev] at h
theorem backT_shifts (fn : Func) (Ts : List Ty) : Shifts C k (backT fn Ts) := by
  intro st E
  cases h : ev C k (backT fn Ts 0 st) E with
  | none =>
    refine .inl fun d => ?_
    cases h' : ev C k (backT fn Ts d st) E with
    | none => rfl
    | some r =>
      obtain ⟨ts, as, s, foot, E1, rs, h1, h2, h3, h4, h5, h6⟩ := backT_ev h'
      exfalso
      unfold backT resultSVs at h
      simp only [h1, h2, h3, if_true] at h
      rw [ev_prims h3, h4] at h
      simp [ev, h5] at h
  | some r =>
    obtain ⟨ts, as, s, foot, E1, rs, h1, h2, h3, h4, h5, h6⟩ := backT_ev h
    refine .inr ⟨false, rs, fun d => ?_⟩
    unfold backT resultSVs
    simp only [h1, h2, h3, if_true]
    rw [ev_prims h3, h4]
    simp [ev, h5]

/-- What a function tells, by its tree; d: how deep calls may go. C0: contracts that are given. -/
def callF (cx : Cx) (k n : Nat) (C0 : FuncId → List D → Option (List D)) : Nat → FuncId → List D → Option (List D)
  | 0, f, ds => C0 f ds
  | d + 1, f, ds => match C0 f ds with
    | some rs => some rs
    | none => match treeOf cx n f with
      | none => none
      | some t => match ev (callF cx k n C0 d) k t ds with
        | some (.jmp _ _ rs) => some rs
        | _ => none

theorem DVals.dlen {w : World} {M : Nat → Prop} : ∀ {Ts : List Ty} {ds : List D} {vs : List Value}, DVals w M Ts ds vs → ds.length = Ts.length
  | [], [], [], _ => rfl
  | T :: Ts, d :: ds, v :: vs, h => by simp [DVals.dlen h.2]
  | [], [], _ :: _, h | [], _ :: _, _, h | _ :: _, [], _, h | _ :: _, _ :: _, [], h => h.elim

theorem tree_ok (ty : TysOk cx) (hC : CallsOk cx C) (hmix : cx.P.follows .mixedOrders = true) {n : Nat} {f : FuncId} {fn : Func} {t : Tree} (hf : cx.P.funcs[f]? = some fn) (ht : treeOf cx n f = some t) {ds rs : List D} {l : Nat} {b : Bool} (hev : ev C k t ds = some (.jmp l b rs))
    {w : World} {args : Array Value} {M : Nat → Prop} (hM : ∀ b, M b → b < w.heap.size) (hv : DVals w M (paramTys cx fn) ds args.toList) :
    Calls cx.P f args w fun e w' => ∃ v, e = .returned v ∧ Below w.heap.size w w' ∧ ResIs w' M (resTys cx fn) rs v := by
  unfold treeOf at ht
  simp only [hf] at ht
  split at ht
  · cases ht
  rename_i c hb
  split at ht
  · rename_i hd
    injection ht with ht
    subst ht
    obtain ⟨r0, q1, q2⟩ := ev_conv (backT_shifts _ _) hev
    have hIn : InlOk (cxFor cx f) C k (inlF cx n) := (inlF_ok ty hC hmix n).for_ f
    have hE : ds.length = (paramTys cx fn).length := hv.dlen
    obtain ⟨x, st', F, e1, e2, e3, e4⟩ := body_ends (st := entrySt fn (frozen (paramTys cx fn) 0) (paramTys cx fn).length []) hE q1
    subst e2
    let X : Ctx := ⟨ds, w, memFn [], fun _ => ⟨none, []⟩, fun _ => False, M⟩
    have m : Mem w.heap.size X := ⟨fun _ h => h.elim, fun _ _ _ h => h.elim, fun _ h => h.elim, fun _ _ h => h.elim, hM⟩
    have hXM : Keeps w w M X.M := ⟨fun _ _ h _ => h, fun a v _ hm => by
      rintro (h | ⟨r, h, _⟩)
      · exact hm h
      · exact h⟩
    have hv' : VRepL X (frozen (paramTys cx fn) 0) args.toList := frozen_rep (hv.keep hXM) fun j d hj => by rw [Nat.zero_add]; exact hj
    have main : retN x = .normal → Calls cx.P f args w fun e w' => ∃ v, e = .returned v ∧ Below w.heap.size w w' ∧ ResIs w' M (resTys cx fn) rs v := fun hx => by
      rw [hx] at q2
      have q2 : ev C k (backT fn (resTys cx fn) 0 st') (ds ++ F) = some _ := q2
      obtain ⟨ts, as, s, foot, E1, rs', h1, h2, h3, h4, h5, h6⟩ := backT_ev q2
      injection h6 with _ _ h6
      subst h6
      refine (body_calls (cx := cxFor cx f) (X := X) (ty.for_ f) (hC.for_ f) hIn hmix hf hb hE (fun r => by simp [X]) rfl m (Nat.le_refl _) hv' hx e1 h1).mono fun e w' ⟨us, he, hi⟩ => ?_
      obtain ⟨Y, x1, x2, x3, x4, x5, x6, x7, x8⟩ := hi.vals
      have hBY : w.heap.size ≤ Y.w.heap.size := by rw [x2]; exact x7.size
      obtain ⟨G, g1, g2, g3⟩ := evPrims_sat (C := C) (k := k) h4
      obtain ⟨y1, y2⟩ := x5.moreE hBY (E' := E1) (fun i d hj => by rw [x1] at hj; rw [g1]; exact get_app hj)
      have hnv : E1.length = s.nv := by
        have := _root_.Go.SX.X.run_outs _ _ _ h2
        simp only [outsL, Nat.add_zero] at this
        rw [g1, List.length_append, e3, g2, this]
      rw [hnv] at g3
      have hmv : ({ Y with E := E1 } : Ctx).mv [] = { Y with E := E1 } := rfl
      have hμY : ({ Y with E := E1 } : Ctx).μ = st'.root := x3
      obtain ⟨z1, z2, _, _, rs2, z5, z6⟩ := viewL_vals (C := C) (k := k) (B0 := w.heap.size) (X := { Y with E := E1 }) hBY (σ := ⟨[], st'.nv, [], st'.mem.length⟩) (by rw [hμY]; exact ⟨foot, h2⟩) g3 y2 (VRepL.ext y1 x8)
      have hrs : rs2 = rs := by
        have z5 : gets E1 as = some rs2 := z5
        rw [h5] at z5
        injection z5 with z5
        exact z5.symm
      subst hrs
      refine ⟨_, he, x7, us, ?_, rfl⟩
      have hF : ∀ b, M b → (({ Y with E := E1 } : Ctx).mv s.up).M b := fun b hb => .inl (by
        show Y.F b
        rw [x6.F]
        exact hb)
      have z6 : DVals Y.w (({ Y with E := E1 } : Ctx).mv s.up).M _ _ _ := z6
      rw [x2] at z6
      exact z6.keep ⟨fun _ _ h _ => h, fun a v _ hm hM => hm (hF _ hM)⟩
    cases x with
    | exit id => cases q2
    | normal => exact main rfl
    | ret => exact main rfl
  · cases ht

theorem callF_ok (ty : TysOk cx) (hmix : cx.P.follows .mixedOrders = true) {C0 : FuncId → List D → Option (List D)} (h0 : CallsOk cx C0) (k n : Nat) : ∀ d, CallsOk cx (callF cx k n C0 d)
  | 0 => h0
  | d + 1 => fun f fn ds rs hf hcan hdat h w args M hM hv => by
    simp only [callF] at h
    split at h
    · rename_i rs' h'
      injection h with h
      subst h
      exact h0 f fn ds _ hf hcan hdat h' w args M hM hv
    · split at h
      · cases h
      · rename_i t ht
        split at h
        · rename_i hev
          injection h with h
          subst h
          exact tree_ok ty (callF_ok ty hmix h0 k n d) hmix hf ht hev hM hv
        · cases h

end
end Go.SX

/- Rows: what stands in the statement's words as data. -/
namespace Go.SX
open Go.RowKit (Below)

/-! ### Data of a type -/
mutual
def Wt : Ty → D → Prop
  | .int k, .int k' n => k' = k ∧ (Lit.int k n).wf = true
  | .bool, .bool _ => True
  | .str, .str s => s.size ≤ maxLen
  | .sl _, .nil => True
  | .sl e, .sl ds => ds.length ≤ maxLen ∧ WtA e ds
  | .arr n e, .agg ds => ds.length = n ∧ WtA e ds
  | .st Ts, .agg ds => WtL Ts ds
  | _, _ => False
def WtA (e : Ty) : List D → Prop
  | [] => True
  | d :: ds => Wt e d ∧ WtA e ds
def WtL : List Ty → List D → Prop
  | [], [] => True
  | T :: Ts, d :: ds => Wt T d ∧ WtL Ts ds
  | _, _ => False
end

section
variable {H : Type} {enc : TypeId × Value → H} {cx : Cx} {w : World} {sp : Nat → Bool} {held : Bool}

theorem trod_array {P : Program} {t e : TypeId} {n fuel : Nat} {cs : List Value} {x : DataW H × List MemPlace} (ht : P.underlying t = some (.array n e)) (h : DataW.trod enc P w 0 sp held fuel t cs = some x) :
    ∃ m, fuel = m + 1 ∧ cs.length = P.cellsOf t ∧ ∀ i, i < n → ∃ y, DataW.trod enc P w 0 sp held m e ((cs.drop (i * P.cellsOf e)).take (P.cellsOf e)) = some y := by
  cases fuel with
  | zero => simp [DataW.trod] at h
  | succ m =>
    unfold DataW.trod at h
    rw [ht] at h
    split at h <;> simp_all
    rename_i heq
    obtain ⟨e1, e2⟩ := heq
    subst e1 e2
    obtain ⟨hl, xs, hp, hd⟩ := h
    intro i hi
    have := mapM_some_get hp i i (by simp [hi])
    have hlen : xs.length = n := by simpa using mapM_some_length hp
    have hx : xs[i]? = some xs[i] := List.getElem?_eq_getElem (by omega)
    rw [hx] at this
    exact ⟨_, _, this⟩

theorem TyFact.cells {cx : Cx} {t : TypeId} {T : Ty} {i : TypeInfo} (h : TyFact cx t T i) : cx.P.cellsOf t = T.size := by
  simp [Program.cellsOf, h.info, h.size]

/-- Rows of data, from its parts. -/
theorem rows_of {M : Nat → Prop} {e : Ty} : ∀ (n : Nat) (cs : List Value), cs.length = n * e.size → (∀ i, i < n → ∃ d, DRep w M e d ((cs.drop (i * e.size)).take e.size) ∧ Wt e d) → ∃ ds : List D, ds.length = n ∧ DRepA w M e ds cs ∧ WtA e ds
  | 0, cs, hl, _ => ⟨[], rfl, by simp only [DRepA]; exact List.eq_nil_of_length_eq_zero (by omega), trivial⟩
  | n + 1, cs, hl, h => by
    have hl' : cs.length = n * e.size + e.size := by rw [hl, Nat.succ_mul]
    obtain ⟨d, h1, h2⟩ := h 0 (by omega)
    obtain ⟨ds, g1, g2, g3⟩ := rows_of (e := e) n (cs.drop e.size) (by rw [List.length_drop]; omega) fun i hi => by
      obtain ⟨d, q1, q2⟩ := h (i + 1) (by omega)
      refine ⟨d, ?_, q2⟩
      rw [List.drop_drop]
      rw [Nat.succ_mul, Nat.add_comm] at q1
      exact q1
    refine ⟨d :: ds, by simp [g1], ?_, h2, g3⟩
    simp only [DRepA]
    refine ⟨cs.take e.size, cs.drop e.size, (List.take_append_drop _ _).symm, ?_, g2⟩
    simpa using h1

theorem cells_some {a : Addr} : ∀ {n : Nat} {cs : List Value}, w.cells? 0 a n = some cs → cs.length = n ∧ ∀ j, j < n → w.cell? (a.add j) = cs[j]? := by
  intro n cs h
  simp only [World.cells?, Nat.zero_le, if_true] at h
  exact ⟨by simpa using mapM_some_length h, fun j hj => mapM_some_get h j j (by simp [hj])⟩

theorem flat_get {n s : Nat} (f : Nat → List Value) (hf : ∀ i, i < n → (f i).length = s) : ∀ (m : Nat), m ≤ n → ((List.range m).flatMap f).length = m * s ∧ ∀ i j, i < m → j < s → ((List.range m).flatMap f)[i * s + j]? = (f i)[j]?
  | 0, _ => ⟨by simp, fun i j hi => by omega⟩
  | m + 1, hm => by
    obtain ⟨h1, h2⟩ := flat_get f hf m (by omega)
    have e : (List.range (m + 1)).flatMap f = (List.range m).flatMap f ++ f m := by simp [List.range_succ, List.flatMap_append]
    rw [e]
    refine ⟨by rw [List.length_append, h1, hf m (by omega), Nat.succ_mul], fun i j hi hj => ?_⟩
    rcases Nat.lt_or_ge i m with hlt | hge
    · have : i * s + j < m * s := by
        have : (i + 1) * s ≤ m * s := Nat.mul_le_mul_right s hlt
        rw [Nat.succ_mul] at this
        omega
      rw [List.getElem?_append_left (by rw [h1]; exact this)]
      exact h2 i j hlt hj
    · have : i = m := by omega
      subst this
      rw [List.getElem?_append_right (by rw [h1]; omega), h1]
      congr 1
      omega

theorem known_of {T : Ty} (h : T.known = true) : T ≠ .no := by
  rintro rfl
  cases h

/-- What reads as data is data. -/
theorem trod_data (ty : TysOk cx) : ∀ (fuel : Nat) (t : TypeId) (T : Ty) (cs : List Value) (x : DataW H × List MemPlace), cx.T t = T → T.known = true → DataW.trod enc cx.P w 0 sp held fuel t cs = some x → ∃ d, DRep w (fun _ => False) T d cs ∧ Wt T d
  | 0, t, T, cs, x, _, _, h => by simp [DataW.trod] at h
  | fuel + 1, t, T, cs, x, hT, hn, h => by
    obtain ⟨i, tf⟩ := ty.get hT (known_of hn)
    have hdesc := tf.desc
    cases T with
    | no => cases hn
    | int k =>
      obtain ⟨n, e1, _, e3⟩ := DataW.trod_int hdesc h
      exact ⟨.int k n, ⟨rfl, e1⟩, rfl, e3⟩
    | bool =>
      obtain ⟨b, e1, _⟩ := DataW.trod_bool hdesc h
      exact ⟨.bool b, e1, trivial⟩
    | str =>
      obtain ⟨s, e1, _, e3⟩ := DataW.trod_string hdesc h
      exact ⟨.str s, e1, e3⟩
    | sl e =>
      obtain ⟨E, hu, hE⟩ := hdesc
      have hne : e.known = true := by simpa [Ty.known] using hn
      obtain ⟨i', tf'⟩ := ty.get hE (known_of hne)
      rcases DataW.trod_slice hu h with ⟨e1, _⟩ | ⟨a, len, cap, elems, rest, m, e1, e2, e3, e4, e5, e6, e7, e8, _⟩
      · exact ⟨.nil, e1, trivial⟩
      · injection e1 with e1
        subst e1
        rw [tf'.cells] at e8
        have one : ∀ i, i < len → ∃ cs', w.cells? 0 (a.add (i * e.size)) e.size = some cs' ∧ ∃ d, DRep w (fun _ => False) e d cs' ∧ Wt e d := fun i hi => by
          have := e8 i hi
          rw [List.getElem?_eq_getElem (by omega), Option.bind_eq_some_iff] at this
          obtain ⟨cs', h1, h2⟩ := this
          obtain ⟨d, h3, h4⟩ := trod_data ty fuel E e cs' _ hE hne h2
          exact ⟨cs', h1, d, h3, h4⟩
        let f : Nat → List Value := fun i => (w.cells? 0 (a.add (i * e.size)) e.size).getD []
        have hf : ∀ i, i < len → (f i).length = e.size := fun i hi => by
          obtain ⟨cs', h1, _⟩ := one i hi
          simp only [f, h1, Option.getD_some]
          exact (cells_some h1).1
        obtain ⟨g1, g2⟩ := flat_get f hf len (Nat.le_refl _)
        obtain ⟨ds, q1, q2, q3⟩ := rows_of (w := w) (M := fun _ => False) (e := e) len ((List.range len).flatMap f) g1 fun i hi => by
          obtain ⟨cs', h1, d, h3, h4⟩ := one i hi
          refine ⟨d, ?_, h4⟩
          have : (((List.range len).flatMap f).drop (i * e.size)).take e.size = cs' := by
            have hl := (cells_some h1).1
            apply List.ext_getElem?
            intro j
            rw [List.getElem?_take]
            split
            · rename_i hj
              rw [List.getElem?_drop, g2 i j hi hj]
              simp only [f, h1, Option.getD_some]
            · rename_i hj
              rw [List.getElem?_eq_none (by omega)]
          rw [this]
          exact h3
        refine ⟨.sl ds, ⟨a, cap, (List.range len).flatMap f, by rw [q1]; exact e2, by rw [q1]; exact e5, q2, fun j v hj => ?_, fun _ h => h⟩, by omega, q3⟩
        have hjl : j < len * e.size := by rw [← g1]; exact (List.getElem?_eq_some_iff.1 hj).1
        have hpos : 0 < e.size := by
          rcases Nat.eq_zero_or_pos e.size with h0 | h0
          · rw [h0, Nat.mul_zero] at hjl; omega
          · exact h0
        have hdiv : j / e.size < len := by
          rw [Nat.div_lt_iff_lt_mul hpos]
          exact hjl
        have hmod := Nat.mod_lt j hpos
        have hjj : j / e.size * e.size + j % e.size = j := by rw [Nat.mul_comm]; exact Nat.div_add_mod j e.size
        have := g2 _ _ hdiv hmod
        rw [hjj, hj] at this
        obtain ⟨cs', h1, _⟩ := one _ hdiv
        simp only [f, h1, Option.getD_some] at this
        have := ((cells_some h1).2 _ hmod).trans this.symm
        rw [add_add, hjj] at this
        exact this
    | arr n e =>
      obtain ⟨E, hu, hE⟩ := hdesc
      have hne : e.known = true := by simpa [Ty.known] using hn
      obtain ⟨i', tf'⟩ := ty.get hE (known_of hne)
      obtain ⟨m, e1, e2, e3⟩ := trod_array hu h
      injection e1 with e1
      subst e1
      rw [tf.cells] at e2
      rw [tf'.cells] at e3
      obtain ⟨ds, q1, q2, q3⟩ := rows_of (w := w) (M := fun _ => False) (e := e) n cs (by simpa [Ty.size] using e2) fun i hi => by
        obtain ⟨y, hy⟩ := e3 i hi
        exact trod_data ty fuel E e _ _ hE hne hy
      exact ⟨.agg ds, ⟨q1, q2⟩, q1, q3⟩
    | st Ts =>
      obtain ⟨fs, hu, hTs, hoff⟩ := hdesc
      obtain ⟨xs, m, e1, _, e3, e4, e5⟩ := DataW.trod_struct hu h
      injection e1 with e1
      subst e1
      rw [tf.cells] at e3
      have hkn : Ty.knownL Ts = true := by simpa [Ty.known] using hn
      have main : ∀ (l : List Field) (n k : Nat), offsOk cx.T l n = true → n ≤ cs.length → (cs.length = n + Ty.sizeL (l.map fun f => cx.T f.type)) → Ty.knownL (l.map fun f => cx.T f.type) = true →
          (∀ i f, l[i]? = some f → fs[k + i]? = some f) → ∃ ds, DRepL w (fun _ => False) (l.map fun f => cx.T f.type) ds (cs.drop n) ∧ WtL (l.map fun f => cx.T f.type) ds := by
        intro l
        induction l with
        | nil =>
          intro n k _ _ hlen _ _
          refine ⟨[], ?_, trivial⟩
          simp only [List.map_nil, DRepL]
          simp only [List.map_nil, Ty.sizeL, Nat.add_zero] at hlen
          exact List.drop_eq_nil_of_le (by omega)
        | cons f l ih =>
          intro n k ho hle hlen hk hfs
          simp only [offsOk, Bool.and_eq_true] at ho
          simp only [List.map_cons, Ty.sizeL] at hlen
          simp only [List.map_cons, Ty.knownL, Bool.and_eq_true] at hk
          have hoffs := nat_beq ho.1
          obtain ⟨i'', tf''⟩ := ty.get (T := cx.T f.type) rfl (known_of hk.1)
          have hf0 := hfs 0 f rfl
          rw [Nat.add_zero] at hf0
          have hx := e5 k f hf0
          rw [tf''.cells, hoffs] at hx
          have hkl : k < xs.length := by
            rw [e4]
            exact (Array.getElem?_eq_some_iff.1 hf0).1
          rw [List.getElem?_eq_getElem hkl] at hx
          obtain ⟨d, h1, h2⟩ := trod_data ty fuel f.type (cx.T f.type) _ _ rfl hk.1 hx
          obtain ⟨ds, h3, h4⟩ := ih (n + (cx.T f.type).size) (k + 1) ho.2 (by omega) (by omega) hk.2 fun i g hg => by
            have := hfs (i + 1) g (by simpa using hg)
            rw [← this]
            congr 1
            omega
          refine ⟨d :: ds, ?_, h2, h4⟩
          simp only [List.map_cons, DRepL]
          refine ⟨_, _, (List.take_append_drop (cx.T f.type).size _).symm, h1, ?_⟩
          rw [List.drop_drop]
          exact h3
      rw [hTs] at hkn e3
      simp only [Ty.size] at e3
      obtain ⟨ds, h1, h2⟩ := main fs.toList 0 0 hoff (Nat.zero_le _) (by rw [e3, Nat.zero_add]) hkn fun i f hf => by
        rw [Nat.zero_add]
        simpa using hf
      rw [List.drop_zero, ← hTs] at h1
      rw [← hTs] at h2
      exact ⟨.agg ds, h1, h2⟩

end
end Go.SX

/- Rows: a law that is true whatever comes in. -/
namespace Go.SX
open Go.RowKit (Below okWide_bool_mk ok_one shut_bool)

section
variable {H : Type} {enc : TypeId × Value → H} {cx : Cx} {w : World} {sp : Nat → Bool} {held : Bool}

/-- A value of a type's outer form. -/
theorem val_of {t : TypeId} {T : Ty} {i : TypeInfo} {M : Nat → Prop} {r : Reach} {base : Nat} {v : Value} {d : D} (tf : TyFact cx t T i) (hval : Value.okWide cx.P w r base t v) (h : DRep w M T d v.cells.toList) : DVal w M T d v := by
  have hdesc := tf.desc
  unfold DVal
  cases T with
  | no => cases hdesc
  | int k =>
    have hu : cx.P.underlying t = some (.int k) := hdesc
    simp only [Value.okWide, hu, Cell.okWide] at hval
    cases v <;> simp only [Cell.ok, hu] at hval
    simp only [Ty.isAgg, Bool.false_eq_true, if_false]
    exact ⟨⟨nofun, nofun⟩, h⟩
  | bool =>
    have hu : cx.P.underlying t = some .bool := hdesc
    simp only [Value.okWide, hu, Cell.okWide] at hval
    cases v <;> simp only [Cell.ok, hu] at hval
    simp only [Ty.isAgg, Bool.false_eq_true, if_false]
    exact ⟨⟨nofun, nofun⟩, h⟩
  | str =>
    have hu : cx.P.underlying t = some .string := hdesc
    simp only [Value.okWide, hu, Cell.okWide] at hval
    cases v <;> simp only [Cell.ok, hu] at hval
    simp only [Ty.isAgg, Bool.false_eq_true, if_false]
    exact ⟨⟨nofun, nofun⟩, h⟩
  | sl e =>
    obtain ⟨E, hu, _⟩ := hdesc
    simp only [Value.okWide, hu, Cell.okWide] at hval
    cases v <;> simp only [Cell.ok, hu] at hval
    simp only [Ty.isAgg, Bool.false_eq_true, if_false]
    exact ⟨⟨nofun, nofun⟩, h⟩
  | arr n e =>
    obtain ⟨E, hu, _⟩ := hdesc
    simp only [Value.okWide, hu] at hval
    obtain ⟨cs, e1, _⟩ := hval
    subst e1
    simp only [Ty.isAgg, if_true]
    exact ⟨cs, rfl, h⟩
  | st Ts =>
    obtain ⟨fs, hu, _⟩ := hdesc
    simp only [Value.okWide, hu] at hval
    obtain ⟨cs, e1, _⟩ := hval
    subst e1
    simp only [Ty.isAgg, if_true]
    exact ⟨cs, rfl, h⟩

theorem args_data (ty : TysOk cx) {r : Reach} {base : Nat} : ∀ {ts : List TypeId} {vs : List Value} {ds : List (DataW H)} {ps : List MemPlace}, Ty.knownL (ts.map cx.T) = true → (∀ (j : Nat) t v, ts[j]? = some t → vs[j]? = some v → Value.okWide cx.P w r base t v) →
    DataW.TrodAll enc cx.P w 0 sp held ts vs ds ps → ∃ Ds, DVals w (fun _ => False) (ts.map cx.T) Ds vs ∧ WtL (ts.map cx.T) Ds
  | [], [], [], ps, _, _, h => ⟨[], trivial, trivial⟩
  | t :: ts, v :: vs, d :: ds, ps, hk, hval, h => by
    simp only [List.map_cons, Ty.knownL, Bool.and_eq_true] at hk
    obtain ⟨p, q, ⟨fuel, h1⟩, h2, _⟩ := h
    obtain ⟨i, tf⟩ := ty.get (T := cx.T t) rfl (known_of hk.1)
    obtain ⟨D1, g1, g2⟩ := trod_data ty fuel t (cx.T t) _ _ rfl hk.1 h1
    obtain ⟨Ds, g3, g4⟩ := args_data ty hk.2 (fun j t' v' hj hv => hval (j + 1) t' v' (by simpa using hj) (by simpa using hv)) h2
    exact ⟨D1 :: Ds, ⟨val_of tf (hval 0 t v rfl rfl) g1, g3⟩, g2, g4⟩
  | [], _ :: _, _, _, _, _, h | [], [], _ :: _, _, _, _, h | _ :: _, [], _, _, _, _, h | _ :: _, _ :: _, [], _, _, _, h => by simp [DataW.TrodAll] at h

theorem args_stay {P : Program} (hl : laidOutB P = true) {w' : World} : ∀ {ts : List TypeId} {vs : List Value} {ds : List (DataW H)} {ps : List MemPlace}, ts.all (fun t => P.readableRec t && Nat.blt t P.types.size) = true →
    DataW.TrodAll enc P w 0 (fun _ => true) true ts vs ds ps → Below w.heap.size w w' → (∀ x ∈ ps, x.block < w.heap.size) → DataW.TrodAll enc P w' 0 (fun b => decide (b < w.heap.size)) true ts vs ds ps
  | [], [], [], ps, _, h, _, _ => h
  | t :: ts, v :: vs, d :: ds, ps, hk, h, hb, hlt => by
    simp only [List.all_cons, Bool.and_eq_true, Nat.blt_eq] at hk
    obtain ⟨p, q, h1, h2, e⟩ := h
    subst e
    exact ⟨p, q, Go.RowKit.Below.trod hl hk.1.1 hk.1.2 h1 hb (fun x hx => hlt x (List.mem_append.2 (.inl hx))), args_stay hl (by simpa using hk.2) h2 hb (fun x hx => hlt x (List.mem_append.2 (.inr hx))), rfl⟩
  | [], _ :: _, _, _, _, h, _, _ | [], [], _ :: _, _, _, h, _, _ | _ :: _, [], _, _, _, h, _, _ | _ :: _, _ :: _, [], _, _, h, _, _ => by simp [DataW.TrodAll] at h

theorem TrodAll.dlen {P : Program} {base : Nat} : ∀ {ts : List TypeId} {vs : List Value} {ds : List (DataW H)} {ps : List MemPlace}, DataW.TrodAll enc P w base sp held ts vs ds ps → ds.length = ts.length
  | [], [], [], ps, _ => rfl
  | t :: ts, v :: vs, d :: ds, ps, h => by
    obtain ⟨p, q, _, h2, _⟩ := h
    simp [TrodAll.dlen h2]
  | [], _ :: _, _, _, h | [], [], _ :: _, _, h | _ :: _, [], _, _, h | _ :: _, _ :: _, [], _, h => by simp [DataW.TrodAll] at h

end

/-- A law that tells true of all data is true of whatever comes in. -/
theorem lift_true {cx : Cx} {C : Checked} (hP : cx.P = C.prog) (ty : TysOk cx) (hmix : C.prog.follows .mixedOrders = true) {C0 : FuncId → List D → Option (List D)} (h0 : CallsOk cx C0) (n : Nat)
    {os : Os} {f : FuncId} {fn : Func} {H : Type} {enc : TypeId × Value → H} {s : ChangeSpec} {conds : List PathCond}
    (own : ownKnob C.prog.godebug = none) (hl : laidOutB C.prog = true) (started : os.Started) (noInit : C.prog.inits.idxOf? f = none) (hfn : C.prog.funcs[f]? = some fn)
    (hcan : canCall fn = true) (hdat : isData cx f fn = true) (hread : fn.params.toList.all (fun t => C.prog.readableRec t && Nat.blt t C.prog.types.size) = true)
    {tb : TypeId} (hres : fn.resultTypes = #[tb]) (htb : C.prog.underlying tb = some .bool) (hTb : cx.T tb = .bool) (hvars : s.vars = [])
    (hspec : ∀ ds : List (DataW H), ds.length = fn.params.toList.length → s.fn H ds = { results := [.lit (.bool true)], args := ds })
    (hlaw : ∀ Ds, WtL (paramTys cx fn) Ds → ∃ k d, callF cx k n C0 d f Ds = some [.bool true])
    (witness : ∃ (w : World) (tape : Tape) (i : Input), w.os = os ∧ (w.forCall tape i).Shaped C.prog ∧ i.vars = [] ∧ Input.okWide C.prog (w.forCall tape i) .any w.heap.size f i ∧
      s.pre6 enc C.prog fn conds false (w.forCall tape i).memory i.args ∧ ({} : Assume).holds C.prog (lone (Frame.enter C.prog f i.args .normal) [] (w.forCall tape i))) :
    ReturnsInHanded {} C os f .any (s.pre6 enc C.prog fn conds false) (s.post enc C.prog fn false true false false) := by
  refine returnsInHanded_of_change own started noInit hfn witness ?_
  intro W base args ds gs before hval hW _ _
  have hW' := hW
  obtain ⟨p, q, hA, hV, e, hfz, hnd⟩ := hW
  rw [hvars] at hV
  have hgs : gs = [] ∧ q = [] := by
    cases gs with
    | nil => exact ⟨rfl, hV⟩
    | cons g gs => simp [DataW.TrodVars] at hV
  obtain ⟨hg, hq⟩ := hgs
  subst hg hq
  rw [List.append_nil] at e
  subst e
  have hkn : Ty.knownL (fn.params.toList.map cx.T) = true := by
    unfold isData at hdat
    simp only [Bool.and_eq_true] at hdat
    exact hdat.1.2
  rw [← hP] at hA hval
  obtain ⟨Ds, g1, g2⟩ := args_data ty hkn (fun j t v hj hv => hval j t v (by simpa using hj) (by simpa using hv)) hA
  rw [hP] at hA hval
  obtain ⟨k, d, hlaw'⟩ := hlaw Ds g2
  have hcalls := callF_ok ty (by rw [hP]; exact hmix) h0 k n d f fn Ds _ (by rw [hP]; exact hfn) hcan hdat hlaw' W args (fun _ => False) (fun _ h => h.elim) g1
  rw [hP] at hcalls
  refine hcalls.mono fun e W' ⟨v, he, hb, vs, hv, hr⟩ => ⟨v, he, ?_⟩
  have hrt : resTys cx fn = [.bool] := by
    unfold resTys
    rw [hres]
    simp [hTb]
  rw [hrt] at hv
  have hvt : v = .bool true := by
    cases vs with
    | nil => exact hv.elim
    | cons u us =>
      obtain ⟨hu, hus⟩ := hv
      cases us with
      | cons _ _ => exact hus.elim
      | nil =>
        have : u = .bool true := by
          simp only [DVal, Ty.isAgg, Bool.false_eq_true, if_false, DRep] at hu
          simpa using hu.2
        rw [hr, this]
        rfl
  subst hvt
  have hlen : (ds ++ ([] : List (DataW H))).length = fn.params.toList.length := by rw [List.append_nil]; exact TrodAll.dlen hA
  have hs := hspec _ hlen
  refine ⟨ds, [], before, [], before, [], hW', ?_, ?_, ?_, hb.frame _, nofun⟩
  · rw [hs, hres]
    exact Go.ChangeShapes.trodAll_mk1 (shut_bool htb true)
  · rw [hs]
    simp only [List.append_nil]
    exact args_stay hl hread hA hb (fun x hx => hW'.lt x hx)
  · rw [hvars, hs]
    exact rfl

end Go.SX

/- Trees without a bound on rounds and depth: equations to reckon by. -/
namespace Go.SX

theorem iter_mono {f g : List D → Option Res} (h : ∀ vs r, f vs = some r → g vs = some r) : ∀ {k k' : Nat} {vs : List D} {r : Res}, k ≤ k' → iter f k vs = some r → iter g k' vs = some r
  | 0, _, _, _, _, hi => by simp [iter] at hi
  | k + 1, 0, _, _, hk, _ => by omega
  | k + 1, k' + 1, vs, r, hk, hi => by
    simp only [iter] at hi ⊢
    split at hi
    · rename_i vs' hq
      rw [h _ _ hq]
      exact iter_mono h (by omega) hi
    · rename_i hne
      have := h _ _ hi
      rw [this]
      split
      · rename_i vs' hq
        injection hq with hq
        subst hq
        exact absurd hi (hne vs')
      · rfl

theorem ev_mono {C C' : FuncId → List D → Option (List D)} (hC : ∀ f ds rs, C f ds = some rs → C' f ds = some rs) {k k' : Nat} (hk : k ≤ k') : ∀ {t : Tree} {E : List D} {r : Res}, ev C k t E = some r → ev C' k' t E = some r
  | .prim p as t, E, r, h => by
    simp only [ev] at h ⊢
    split at h
    · cases h
    · split at h
      · cases h
      · exact ev_mono hC hk h
  | .call f as m t, E, r, h => by
    simp only [ev] at h ⊢
    split at h
    · cases h
    · split at h
      · cases h
      · rename_i vs _ ds hq
        rw [hC _ _ _ hq]
        split at h
        · rename_i hl
          simp only [hl, if_true]
          exact ev_mono hC hk h
        · cases h
  | .sub t m u, E, r, h => by
    simp only [ev] at h ⊢
    split at h
    · cases h
    · rename_i b vs hq
      rw [ev_mono hC hk hq]
      simp only
      split at h
      · rename_i hl
        simp only [hl, if_true]
        exact ev_mono hC hk h
      · cases h
    · rename_i r0 hne hq
      rw [ev_mono hC hk hq]
      cases r0 with
      | jmp l b vs =>
        cases l with
        | zero => exact absurd rfl (hne b vs)
        | succ l => exact h
      | fin x st E' => exact h
  | .loop init b, E, r, h => by
    simp only [ev] at h ⊢
    split at h
    · cases h
    · split at h
      · cases h
      · rename_i vs _ r0 hq
        rw [iter_mono (fun vs r hv => ev_mono hC hk hv) hk hq]
        exact h
  | .ite c a b, E, r, h => by
    simp only [ev] at h ⊢
    split at h
    · exact ev_mono hC hk h
    · exact ev_mono hC hk h
    · cases h
  | .jmp l b as, E, r, h => h
  | .fin x st, E, r, h => h
  | .fail _, E, r, h => h

section
variable (cx : Cx) (n : Nat) (C0 : FuncId → List D → Option (List D))

theorem callF_mono {k k' : Nat} (hk : k ≤ k') : ∀ {d d' : Nat} {f : FuncId} {ds rs : List D}, d ≤ d' → callF cx k n C0 d f ds = some rs → callF cx k' n C0 d' f ds = some rs
  | 0, d', f, ds, rs, _, h => by
    have h : C0 f ds = some rs := h
    cases d' with
    | zero => exact h
    | succ d' => simp only [callF, h]
  | d + 1, 0, _, _, _, hd, _ => by omega
  | d + 1, d' + 1, f, ds, rs, hd, h => by
    simp only [callF] at h ⊢
    cases h0 : C0 f ds with
    | some rs' =>
      simp only [h0] at h ⊢
      exact h
    | none =>
      simp only [h0] at h ⊢
      cases ht : treeOf cx n f with
      | none => simp [ht] at h
      | some t =>
        simp only [ht] at h ⊢
        split at h
        · rename_i hq
          rw [ev_mono (fun f ds rs hr => callF_mono hk (Nat.le_of_succ_le_succ hd) hr) hk hq]
          exact h
        · cases h

open Classical in
/-- What comes of it with rounds and depth enough. -/
noncomputable def lim {α : Type} (f : Nat → Nat → Option α) : Option α := if h : ∃ r, ∃ k d, f k d = some r then some h.choose else none
def Grows {α : Type} (f : Nat → Nat → Option α) : Prop := ∀ k k' d d' r, k ≤ k' → d ≤ d' → f k d = some r → f k' d' = some r
theorem lim_some {α : Type} {f : Nat → Nat → Option α} (hf : Grows f) {r : α} : lim f = some r ↔ ∃ k d, f k d = some r := by
  unfold lim
  split
  · rename_i h
    obtain ⟨k, d, hr⟩ := h.choose_spec
    constructor
    · intro e
      injection e with e
      exact ⟨k, d, by rw [← e]; exact hr⟩
    · rintro ⟨k', d', hr'⟩
      have h1 := hf _ (max k k') _ (max d d') _ (by omega) (by omega) hr
      have h2 := hf _ (max k k') _ (max d d') _ (by omega) (by omega) hr'
      rw [h1] at h2
      exact h2
  · rename_i h
    constructor
    · intro e; cases e
    · rintro ⟨k, d, hr⟩
      exact absurd ⟨r, k, d, hr⟩ h

noncomputable def callL (f : FuncId) (ds : List D) : Option (List D) := lim fun k d => callF cx k n C0 d f ds
noncomputable def evL (t : Tree) (E : List D) : Option Res := lim fun k d => ev (callF cx k n C0 d) k t E
noncomputable def loopL (b : Tree) (E vs : List D) : Option Res := lim fun k d => iter (fun vs => ev (callF cx k n C0 d) k b (E ++ vs)) k vs

theorem callL_some {f : FuncId} {ds rs : List D} : callL cx n C0 f ds = some rs ↔ ∃ k d, callF cx k n C0 d f ds = some rs := lim_some fun _ _ _ _ _ hk hd h => callF_mono cx n C0 hk hd h
theorem evL_some {t : Tree} {E : List D} {r : Res} : evL cx n C0 t E = some r ↔ ∃ k d, ev (callF cx k n C0 d) k t E = some r :=
  lim_some (f := fun k d => ev (callF cx k n C0 d) k t E) fun _ _ _ _ _ hk hd h => ev_mono (fun _ _ _ h => callF_mono cx n C0 hk hd h) hk h
theorem loopL_some {b : Tree} {E vs : List D} {r : Res} : loopL cx n C0 b E vs = some r ↔ ∃ k d, iter (fun vs => ev (callF cx k n C0 d) k b (E ++ vs)) k vs = some r :=
  lim_some (f := fun k d => iter (fun vs => ev (callF cx k n C0 d) k b (E ++ vs)) k vs) fun _ _ _ _ _ hk hd h => iter_mono (fun _ _ h => ev_mono (fun _ _ _ h => callF_mono cx n C0 hk hd h) hk h) hk h

theorem evL_prim {p : Prim} {as : List At} {t : Tree} {E : List D} : evL cx n C0 (.prim p as t) E = match gets E as with
    | some vs => match p.run vs with
      | some d => evL cx n C0 t (E ++ [d])
      | none => none
    | none => none := by
  apply Option.ext
  intro r
  rw [evL_some]
  simp only [ev]
  cases gets E as with
  | none => simp
  | some vs =>
    simp only
    cases p.run vs with
    | none => simp
    | some d => simp only; rw [evL_some]

theorem evL_call {f : FuncId} {as : List At} {m : Nat} {t : Tree} {E : List D} : evL cx n C0 (.call f as m t) E = match gets E as with
    | some vs => match callL cx n C0 f vs with
      | some ds => if ds.length = m then evL cx n C0 t (E ++ ds) else none
      | none => none
    | none => none := by
  apply Option.ext
  intro r
  rw [evL_some]
  simp only [ev]
  cases gets E as with
  | none => simp
  | some vs =>
    simp only
    constructor
    · rintro ⟨k, d, h⟩
      split at h
      · cases h
      · rename_i ds hq
        rw [(callL_some cx n C0).2 ⟨k, d, hq⟩]
        simp only
        split at h
        · rename_i hl
          simp only [hl, if_true]
          exact (evL_some cx n C0).2 ⟨k, d, h⟩
        · cases h
    · intro h
      split at h
      · rename_i ds hq
        obtain ⟨k, d, hq⟩ := (callL_some cx n C0).1 hq
        split at h
        · rename_i hl
          obtain ⟨k', d', h⟩ := (evL_some cx n C0).1 h
          refine ⟨max k k', max d d', ?_⟩
          rw [callF_mono cx n C0 (by omega) (by omega) hq]
          simp only [hl, if_true]
          exact ev_mono (fun _ _ _ => callF_mono cx n C0 (by omega) (by omega)) (by omega) h
        · cases h
      · cases h

theorem evL_sub {t : Tree} {m : Nat} {u : Tree} {E : List D} : evL cx n C0 (.sub t m u) E = match evL cx n C0 t E with
    | some (.jmp 0 _ vs) => if vs.length = m then evL cx n C0 u (E ++ vs) else none
    | some r => r.up
    | none => none := by
  apply Option.ext
  intro r
  rw [evL_some]
  simp only [ev]
  constructor
  · rintro ⟨k, d, h⟩
    split at h
    · cases h
    · rename_i b vs hq
      rw [(evL_some cx n C0).2 ⟨k, d, hq⟩]
      simp only
      split at h
      · rename_i hl
        simp only [hl, if_true]
        exact (evL_some cx n C0).2 ⟨k, d, h⟩
      · cases h
    · rename_i r0 hne hq
      rw [(evL_some cx n C0).2 ⟨k, d, hq⟩]
      cases r0 with
      | jmp l b vs =>
        cases l with
        | zero => exact absurd rfl (hne b vs)
        | succ l => exact h
      | fin x st E' => exact h
  · intro h
    split at h
    · rename_i b vs hq
      obtain ⟨k, d, hq⟩ := (evL_some cx n C0).1 hq
      split at h
      · rename_i hl
        obtain ⟨k', d', h⟩ := (evL_some cx n C0).1 h
        refine ⟨max k k', max d d', ?_⟩
        rw [ev_mono (fun _ _ _ => callF_mono cx n C0 (by omega : k ≤ max k k') (by omega : d ≤ max d d')) (by omega) hq]
        simp only [hl, if_true]
        exact ev_mono (fun _ _ _ => callF_mono cx n C0 (by omega) (by omega)) (by omega) h
      · cases h
    · rename_i r0 hne hq
      obtain ⟨k, d, hq⟩ := (evL_some cx n C0).1 hq
      refine ⟨k, d, ?_⟩
      rw [hq]
      cases r0 with
      | jmp l b vs =>
        cases l with
        | zero => exact absurd rfl (hne b vs)
        | succ l => exact h
      | fin x st E' => exact h
    · cases h

theorem evL_loop {init : List At} {b : Tree} {E : List D} : evL cx n C0 (.loop init b) E = match gets E init with
    | some vs => match loopL cx n C0 b E vs with
      | some r => r.up
      | none => none
    | none => none := by
  apply Option.ext
  intro r
  rw [evL_some]
  simp only [ev]
  cases gets E init with
  | none => simp
  | some vs =>
    simp only
    constructor
    · rintro ⟨k, d, h⟩
      split at h
      · cases h
      · rename_i r0 hq
        rw [(loopL_some cx n C0).2 ⟨k, d, hq⟩]
        exact h
    · intro h
      split at h
      · rename_i r0 hq
        obtain ⟨k, d, hq⟩ := (loopL_some cx n C0).1 hq
        exact ⟨k, d, by rw [hq]; exact h⟩
      · cases h

theorem loopL_eq {b : Tree} {E vs : List D} : loopL cx n C0 b E vs = match evL cx n C0 b (E ++ vs) with
    | some (.jmp 0 true vs') => loopL cx n C0 b E vs'
    | r => r := by
  apply Option.ext
  intro r
  rw [loopL_some]
  constructor
  · rintro ⟨k, d, h⟩
    cases k with
    | zero => simp [iter] at h
    | succ k =>
      simp only [iter] at h
      split at h
      · rename_i vs' hq
        rw [(evL_some cx n C0).2 ⟨_, _, hq⟩]
        exact (loopL_some cx n C0).2 ⟨k + 1, d, iter_mono (fun _ _ h => h) (by omega) h⟩
      · rename_i hne
        rw [(evL_some cx n C0).2 ⟨_, _, h⟩]
        split
        · rename_i vs' hq
          injection hq with hq
          subst hq
          exact absurd h (hne vs')
        · rfl
  · intro h
    split at h
    · rename_i vs' hq
      obtain ⟨k, d, hq⟩ := (evL_some cx n C0).1 hq
      obtain ⟨k', d', h⟩ := (loopL_some cx n C0).1 h
      have hq' := ev_mono (fun _ _ _ => callF_mono cx n C0 (by omega : k ≤ max k k' + 1) (by omega : d ≤ max d d')) (by omega : k ≤ max k k' + 1) hq
      refine ⟨max k k' + 1, max d d', ?_⟩
      simp only [iter]
      rw [hq']
      simp only
      exact iter_mono (fun _ _ h => ev_mono (fun _ _ _ => callF_mono cx n C0 (by omega) (by omega)) (by omega) h) (by omega) h
    · rename_i hne
      obtain ⟨k, d, h⟩ := (evL_some cx n C0).1 h
      refine ⟨k + 1, d, ?_⟩
      simp only [iter]
      rw [ev_mono (fun _ _ _ => callF_mono cx n C0 (by omega : k ≤ k + 1) (Nat.le_refl d)) (by omega : k ≤ k + 1) h]
      split
      · rename_i vs' hq
        injection hq with hq
        subst hq
        exact absurd ((evL_some cx n C0).2 ⟨k, d, h⟩) (hne vs')
      · rfl

theorem evL_ite {c : At} {t u : Tree} {E : List D} : evL cx n C0 (.ite c t u) E = match c.get E with
    | some (.bool true) => evL cx n C0 t E
    | some (.bool false) => evL cx n C0 u E
    | _ => none := by
  apply Option.ext
  intro r
  rw [evL_some]
  simp only [ev]
  cases c.get E with
  | none => simp
  | some x =>
    cases x with
    | bool b => cases b <;> (simp only; rw [evL_some])
    | _ => simp

theorem evL_jmp {l : Nat} {b : Bool} {as : List At} {E : List D} : evL cx n C0 (.jmp l b as) E = match gets E as with
    | some vs => some (.jmp l b vs)
    | none => none := by
  apply Option.ext
  intro r
  rw [evL_some]
  simp only [ev]
  cases gets E as <;> simp

/-- A function, by its tree. -/
theorem callL_eq {f : FuncId} {t : Tree} (ht : treeOf cx n f = some t) {ds : List D} (h0 : C0 f ds = none) : callL cx n C0 f ds = match evL cx n C0 t ds with
    | some (.jmp _ _ rs) => some rs
    | _ => none := by
  apply Option.ext
  intro r
  rw [callL_some]
  constructor
  · rintro ⟨k, d, h⟩
    cases d with
    | zero =>
      have h : C0 f ds = some r := h
      rw [h0] at h
      cases h
    | succ d =>
      simp only [callF, h0, ht] at h
      split at h
      · rename_i hq
        rw [(evL_some cx n C0).2 ⟨k, d, hq⟩]
        exact h
      · cases h
  · intro h
    split at h
    · rename_i hq
      obtain ⟨k, d, hq⟩ := (evL_some cx n C0).1 hq
      refine ⟨k, d + 1, ?_⟩
      simp only [callF, h0, ht, hq]
      exact h
    · cases h

end
end Go.SX

/- What is of a type, opened. -/
namespace Go.SX

theorem Wt.toInt {k : IntKind} {d : D} (h : Wt (.int k) d) : ∃ n : Int, d = .int k n ∧ k.min ≤ n ∧ n ≤ k.max := by
  cases d with
  | int k' n =>
    obtain ⟨h1, h2⟩ := h
    subst h1
    simp only [Lit.wf, Bool.and_eq_true, decide_eq_true_eq] at h2
    exact ⟨n, rfl, h2.1, h2.2⟩
  | _ => exact h.elim
theorem Wt.toBool {d : D} (h : Wt .bool d) : ∃ b : Bool, d = .bool b := by
  cases d with
  | bool b => exact ⟨b, rfl⟩
  | _ => exact h.elim
theorem Wt.toStr {d : D} (h : Wt .str d) : ∃ s : ByteArray, d = .str s ∧ s.size ≤ maxLen := by
  cases d with
  | str s => exact ⟨s, rfl, h⟩
  | _ => exact h.elim
theorem Wt.toSl {e : Ty} {d : D} (h : Wt (.sl e) d) : d = .nil ∨ ∃ ds, d = .sl ds ∧ ds.length ≤ maxLen ∧ WtA e ds := by
  cases d with
  | nil => exact .inl rfl
  | sl ds => exact .inr ⟨ds, rfl, h.1, h.2⟩
  | _ => exact h.elim
theorem Wt.toArr {n : Nat} {e : Ty} {d : D} (h : Wt (.arr n e) d) : ∃ ds, d = .agg ds ∧ ds.length = n ∧ WtA e ds := by
  cases d with
  | agg ds => exact ⟨ds, rfl, h.1, h.2⟩
  | _ => exact h.elim
theorem Wt.toSt {Ts : List Ty} {d : D} (h : Wt (.st Ts) d) : ∃ ds, d = .agg ds ∧ WtL Ts ds := by
  cases d with
  | agg ds => exact ⟨ds, rfl, h⟩
  | _ => exact h.elim
theorem WtL.toCons {T : Ty} {Ts : List Ty} {Ds : List D} (h : WtL (T :: Ts) Ds) : ∃ d ds, Ds = d :: ds ∧ Wt T d ∧ WtL Ts ds := by
  cases Ds with
  | nil => exact h.elim
  | cons d ds => exact ⟨d, ds, rfl, h.1, h.2⟩
theorem WtL.toNil {Ds : List D} (h : WtL [] Ds) : Ds = [] := by
  cases Ds with
  | nil => rfl
  | cons d ds => exact h.elim
theorem WtA.all {e : Ty} : ∀ {ds : List D}, WtA e ds → ∀ d ∈ ds, Wt e d
  | [], _, d, hd => by cases hd
  | x :: l, h, d, hd => by
    rcases List.mem_cons.1 hd with hd | hd
    · subst hd; exact h.1
    · exact WtA.all h.2 d hd
theorem WtA.take {e : Ty} : ∀ {ds : List D} (n : Nat), WtA e ds → WtA e (ds.take n)
  | [], _, _ => by simp [WtA]
  | _ :: _, 0, _ => trivial
  | _ :: _, n + 1, h => ⟨h.1, WtA.take n h.2⟩

end Go.SX
