/- Layer 2: the law IsaRight on data. -/
import Derived.Test.YtkgflipalefmfaaIsa5
set_option linter.unusedSimpArgs false
set_option linter.unusedVariables false
namespace Go.Proofs.Ytkgflipalefmfaa
open Go.SX

section
variable {d : D} {xs : List D} {ps : List (List InsN)}

theorem refall_is (h : IsProgs d xs ps) : CA 25 [d] = some [.bool (allB ps)] := by
  rw [call_of t25]
  have hm : maxLen ≤ 9223372036854775807 := by decide
  have hll := h.max
  rw [h.len] at hll
  have hlen := plen_is h
  have step : ∀ i (hi : i < ps.length), EV T25L1 [d, .int .i64 i] = if decide (i ≤ 3) && rightB (ps[i]) then some (.jmp 0 true [.int .i64 ((i + 1 : Nat) : Int)]) else some (.jmp 2 false [.bool false]) := fun i hi => by
    obtain ⟨x, hx, hp⟩ := pget_is h hi
    have hr := refright_is x _ hp
    have hl2 := lss_lt .i64 hi
    have hadd := add1_is i ps.length hi (by omega)
    have hg : Prim.run (.bin .gtr) [.int .i64 i, .int .i64 3] = some (.bool (!decide (i ≤ 3))) := by
      rw [gtr_is]
      refine congrArg (fun b => some (D.bool b)) ?_
      rw [← decide_not]
      exact decide_eq_decide.2 (by omega)
    generalize ((i + 1 : Nat) : Int) = i1 at hadd ⊢
    cases e1 : decide (i ≤ 3) with
    | false =>
      rw [e1] at hg
      have hg : Prim.run (.bin .gtr) [.int .i64 i, .int .i64 3] = some (.bool true) := hg
      simp [T25L1, evL_prim, evL_ite, evL_jmp, evL_sub, gets, At.get, hlen, hl2, hg]
    | true =>
      rw [e1] at hg
      have hg : Prim.run (.bin .gtr) [.int .i64 i, .int .i64 3] = some (.bool false) := hg
      cases e : rightB (ps[i]) <;> rw [e] at hr <;> simp [T25L1, evL_prim, evL_ite, evL_jmp, evL_call, evL_sub, gets, At.get, hlen, hx, hr, hl2, hadd, hg, not_is]
  have hgtr : Prim.run (.bin .gtr) [.int .i64 ps.length, .int .i64 0] = some (.bool (decide (ps.length ≥ 1))) := by
    rw [gtr_is]
    exact congrArg (fun b => some (D.bool b)) (decide_eq_decide.2 (by omega))
  rcases all_or (fun i => if hi : i < ps.length then decide (i ≤ 3) && rightB (ps[i]) else true) ps.length with ha | ⟨i, hi, hf, ha⟩
  · have hloop : loopL cx 12 noC T25L1 [d] [.int .i64 0] = some (.jmp 1 false [.int .i64 ps.length, .int .i64 ps.length, .bool false]) := by
      have := loop_to (b := T25L1) (E := [d]) (fun m => [.int .i64 (m : Int)]) (i := 0) (j := ps.length) (by omega) fun m _ hm' => by
        have hs := step m hm'
        have hp := ha m hm'
        simp only [hm', dif_pos] at hp
        rw [hp] at hs
        exact hs
      refine this.trans ?_
      refine loop_off (E := [_]) (vs := [_]) ?_ (by simp)
      have hlss := lss_self .i64 (ps.length : Int)
      simp [T25L1, evL_prim, evL_ite, evL_jmp, gets, At.get, hlen, hlss]
    have hall : ps.all rightB = true := all_nat ps _ (fun i => if hi : i < ps.length then rightB (ps[i]) else true) (fun i hi => by simp [hi]) (fun i hi => by
      have := ha i hi
      simp only [hi, dif_pos, Bool.and_eq_true] at this ⊢
      exact this.2)
    have h4 : decide (ps.length ≤ 4) = true := by
      apply decide_eq_true
      rcases Nat.lt_or_ge 4 ps.length with h5 | h5
      · have := ha 4 h5
        simp [h5] at this
      · exact h5
    unfold allB
    rw [hall, h4]
    simp [T25, evL_prim, evL_jmp, evL_sub, evL_loop, gets, At.get, hlen, hloop, Res.up, hgtr]
  · have hloop : loopL cx 12 noC T25L1 [d] [.int .i64 0] = some (.jmp 2 false [.bool false]) := by
      have := loop_to (b := T25L1) (E := [d]) (fun m => [.int .i64 (m : Int)]) (i := 0) (j := i) (by omega) fun m _ hm' => by
        have hs := step m (by omega)
        have hp := ha m hm'
        simp only [show m < ps.length by omega, dif_pos] at hp
        rw [hp] at hs
        exact hs
      refine this.trans ?_
      have hs := step i hi
      simp only [hi, dif_pos] at hf
      rw [hf] at hs
      exact loop_off (E := [_]) (vs := [_]) hs (by simp)
    have hall : allB ps = false := by
      unfold allB
      simp only [hi, dif_pos, Bool.and_eq_false_iff] at hf
      rcases hf with hf | hf
      · have : decide (ps.length ≤ 4) = false := by
          simp only [decide_eq_false_iff_not] at hf ⊢
          omega
        rw [this]; simp
      · rw [any_nat ps _ hi hf]; simp
    rw [hall]
    simp [T25, evL_sub, evL_loop, gets, At.get, hloop, Res.up]

theorem isa_right (x : InsN) (hx : x.Ok) (many : Int) (hmany : many ≤ 9223372036854775807) (h : IsProgs d xs ps) : CA 7 [x.d, .int .i64 many, d] = some [.bool true] := by
  rw [call_of t7]
  have hm : maxLen ≤ 9223372036854775807 := by decide
  have hll := h.max
  rw [h.len] at hll
  have hlen := plen_is h
  have h1 := short_is h
  have h2 := all_is h
  have h3 := refall_is h
  have h4 : CA 22 [x.d, .int .i64 many] = some [.bool (mayB x.op x.a x.b x.c x.k many)] := may_is _ _ _ _ _ _ hx.1 hx.2 hmany
  have h5 : CA 23 [x.d, .int .i64 many] = some [.bool (mayB x.op x.a x.b x.c x.k many)] := refmay_is _ _ _ _ _ _ hx.1 hx.2
  generalize x.d = xd at h4 h5 ⊢
  have hloop : loopL cx 12 noC T7L1 [xd, .int .i64 many, d, .bool true, .bool false, .bool true, .bool false] [.int .i64 0] = some (.jmp 1 false [.int .i64 ps.length, .int .i64 ps.length, .bool false]) := by
    have := loop_to (b := T7L1) (E := [xd, .int .i64 many, d, .bool true, .bool false, .bool true, .bool false]) (fun m => [.int .i64 (m : Int)]) (i := 0) (j := ps.length) (by omega) fun m _ hi => by
      obtain ⟨y, hy, hp⟩ := pget_is h hi
      have hr := right_is y _ hp
      have hr2 := refright_is y _ hp
      have hl2 := lss_lt .i64 hi
      have hadd := add1_is m ps.length hi (by omega)
      generalize ((m + 1 : Nat) : Int) = i1 at hadd ⊢
      simp [T7L1, evL_prim, evL_ite, evL_jmp, evL_call, gets, At.get, hlen, hy, hr, hr2, hl2, hadd, neqB_is]
    refine this.trans ?_
    refine loop_off (E := [_, _, _, _, _, _, _]) (vs := [_]) ?_ (by simp)
    have hlss := lss_self .i64 (ps.length : Int)
    simp [T7L1, evL_prim, evL_ite, evL_jmp, gets, At.get, hlen, hlss]
  cases hs : shortB ps with
  | false =>
    rw [hs] at h1
    simp [T7, evL_prim, evL_ite, evL_jmp, evL_call, gets, At.get, awake2, h1, not_is]
  | true =>
    rw [hs] at h1
    simp [T7, evL_prim, evL_ite, evL_jmp, evL_call, evL_sub, evL_loop, gets, At.get, awake2, h1, h2, h3, h4, h5, hloop, Res.up, not_is, eqlB_is]

end

/-- What is of programs. -/
theorem ins_of {x : D} (h : Wt (.st [.int .i64, .int .i64, .int .i64, .int .i64, .int .u32]) x) : ∃ i : InsN, x = i.d ∧ i.Ok := by
  obtain ⟨ds, rfl, h⟩ := h.toSt
  obtain ⟨d1, l1, rfl, h1, h⟩ := h.toCons
  obtain ⟨d2, l2, rfl, h2, h⟩ := h.toCons
  obtain ⟨d3, l3, rfl, h3, h⟩ := h.toCons
  obtain ⟨d4, l4, rfl, h4, h⟩ := h.toCons
  obtain ⟨d5, l5, rfl, h5, h⟩ := h.toCons
  obtain rfl := h.toNil
  obtain ⟨op, rfl, _⟩ := h1.toInt
  obtain ⟨a, rfl, _⟩ := h2.toInt
  obtain ⟨b, rfl, _⟩ := h3.toInt
  obtain ⟨c, rfl, _⟩ := h4.toInt
  obtain ⟨k, rfl, k1, k2⟩ := h5.toInt
  exact ⟨⟨op, a, b, c, k⟩, rfl, k1, k2⟩
theorem inss_of : ∀ {l : List D}, WtA (.st [.int .i64, .int .i64, .int .i64, .int .i64, .int .u32]) l → ∃ is : List InsN, l = progD is ∧ ∀ i ∈ is, i.Ok
  | [], _ => ⟨[], rfl, by simp⟩
  | x :: l, h => by
    obtain ⟨i, e, hi⟩ := ins_of h.1
    obtain ⟨is, e2, his⟩ := inss_of h.2
    refine ⟨i :: is, by rw [e, e2]; rfl, fun j hj => ?_⟩
    rcases List.mem_cons.1 hj with hj | hj
    · rw [hj]; exact hi
    · exact his j hj
theorem prog_of {d : D} (h : Wt (.sl (.st [.int .i64, .int .i64, .int .i64, .int .i64, .int .u32])) d) : ∃ l, IsProg d l := by
  rcases h.toSl with h | ⟨ds, h, h1, h2⟩
  · exact ⟨[], .inr ⟨h, rfl⟩, by simp, by simp⟩
  · obtain ⟨is, e, his⟩ := inss_of h2
    subst e
    exact ⟨is, .inl h, his, by simpa [progD] using h1⟩
theorem progs_of {d : D} (h : Wt (.sl (.sl (.st [.int .i64, .int .i64, .int .i64, .int .i64, .int .u32]))) d) : ∃ xs ps, IsProgs d xs ps := by
  have main : ∀ l : List D, WtA (.sl (.st [.int .i64, .int .i64, .int .i64, .int .i64, .int .u32])) l → ∃ ps : List (List InsN), l.length = ps.length ∧ ∀ i (h : i < l.length) (h' : i < ps.length), IsProg l[i] ps[i] := by
    intro l
    induction l with
    | nil => exact fun _ => ⟨[], rfl, fun i h => by simp at h⟩
    | cons x l ih =>
      intro hl
      obtain ⟨p, hp⟩ := prog_of hl.1
      obtain ⟨ps, e, hps⟩ := ih hl.2
      refine ⟨p :: ps, by simp [e], fun i h h' => ?_⟩
      cases i with
      | zero => exact hp
      | succ i => exact hps i (by simpa using h) (by simpa using h')
  rcases h.toSl with h | ⟨ds, h, h1, h2⟩
  · exact ⟨[], [], .inr ⟨h, rfl⟩, rfl, fun i h => by simp at h, by simp⟩
  · obtain ⟨ps, e, hps⟩ := main ds h2
    exact ⟨ds, ps, .inl h, e, hps, h1⟩

end Go.Proofs.Ytkgflipalefmfaa
