/- Layer 7: the law ParityTurns on typed data. -/
import Derived.Test.YtflnpiknckdmfaaP07f
import Derived.Test.YtflnpiknckdmfaaD074
set_option linter.unusedSimpArgs false
set_option linter.unusedVariables false
namespace Go.Proofs.Ytflnpiknckdmfaa
open Go.SX

theorem write_rows {b : Banks} (k a : Nat) (w : Int) : Banks.Rows (writeB b k a w) = (Banks.Rows b).set k ((rowAt (Banks.Rows b) k).set a w) := rfl
/-- Words at places that aren't the same, in either order. -/
theorem write_turn {n m : Nat} {b : Banks} (g : Good n m b) {i k x y : Nat} (hi : i < n) (hk : k < n) (hx : x < m) (hy : y < m) {p q : Int} (hp : wd p) (hq : wd q) (hne : i ≠ k ∨ x ≠ y) :
    writeB (writeB b i x p) k y q = writeB (writeB b k y q) i x p := by
  refine good_eq (good_write (good_write g hi hx hp) hk hy hq) (good_write (good_write g hk hy hq) hi hx hp) ?_
  have hir : i < (Banks.Rows b).length := by rw [g.rl]; exact hi
  have hkr : k < (Banks.Rows b).length := by rw [g.rl]; exact hk
  rw [write_rows, write_rows, write_rows, write_rows]
  by_cases h : i = k
  · subst h
    have hxy : x ≠ y := hne.resolve_left fun h => h rfl
    rw [rowAt_set hir, rowAt_set hir, List.set_set, List.set_set, List.set_comm _ _ hxy]
  · rw [rowAt_set_ne h, rowAt_set_ne (Ne.symm h), List.set_comm _ _ h]
/-- A word that is written as it is. -/
theorem write_same {n m : Nat} {b : Banks} (g : Good n m b) {k y : Nat} (hk : k < n) (hy : y < m) {q : Int} (hq : wd q) (h : cell (Banks.Rows b) k y = q) : writeB b k y q = b := by
  refine good_eq (good_write g hk hy hq) g ?_
  have hkr : k < (Banks.Rows b).length := by rw [g.rl]; exact hk
  have hrl := g.row hk
  rw [rowAt_in hkr] at hrl
  have hyr : y < (Banks.Rows b)[k].length := by rw [hrl]; exact hy
  have hc : (Banks.Rows b)[k][y] = q := by rw [← h]; unfold cell; rw [rowAt_in hkr, wordAt_in hyr]
  rw [write_rows, rowAt_in hkr, ← hc, List.set_getElem_self, List.set_getElem_self]
theorem write_cell {n m : Nat} {b : Banks} (g : Good n m b) {k y : Nat} (hk : k < n) (hy : y < m) (q : Int) : cell (Banks.Rows (writeB b k y q)) k y = q := by
  have hkr : k < (Banks.Rows b).length := by rw [g.rl]; exact hk
  unfold cell
  rw [write_rows, rowAt_set hkr, wordAt_set (by rw [g.row hk]; exact hy)]

theorem alone_loop {n m : Nat} {b : Banks} (g : Good n m b) : loopD (l07_ParityTurns_L1 (n : Int) (m : Int) b) (0 : Int) = some (.inl ()) := by
  have hm : m ≤ 80 := by rw [← g.pl]; exact g.ok.pl
  by_cases h1 : n = 1
  · subst h1
    have lp := loop_good (f := l07_ParityTurns_L1 ((1 : Nat) : Int) (m : Int) b) (n := m) (e := (.inl () : Unit ⊕ Bool)) (fun y => (y : Int)) (fun y hy => by
      have hlt : (y : Int) < (m : Int) := by omega
      have hyp : y < (Banks.Par b).length := by rw [g.pl]; exact hy
      have hrd := good_read g (k := 0) (by omega) hy
      rw [show ((0 : Nat) : Int) = 0 from rfl] at hrd
      have hc : cell (Banks.Rows b) 0 y = (Banks.Par b)[y] := by
        have := g.par hy
        rw [wordAt_in hyp] at this
        rw [← this]
        have c1 : ¬ (((0 : Nat) : Int) = -1) := by omega
        rw [colTo, if_neg c1]
        exact (zero_xo (cell_wd g.ok.rw 0 y)).symm
      unfold l07_ParityTurns_L1
      simp only [hlt, decide_true, Bool.and_self, if_true, hrd, getO_in hyp, Option.bind_some, hc, Bool.not_true, Bool.false_eq_true, if_false, show ((1 : Nat) : Int) = 1 from rfl, w64_succ (show y < 4611686018427387904 by omega)]) (by
      unfold l07_ParityTurns_L1
      simp only [show ¬ (m : Int) < (m : Int) by omega, decide_false, Bool.false_and, Bool.false_eq_true, if_false])
    simpa using lp
  · have lp := loop_good (f := l07_ParityTurns_L1 (n : Int) (m : Int) b) (n := 0) (e := (.inl () : Unit ⊕ Bool)) (fun y => (y : Int)) (fun y hy => by omega) (by
      unfold l07_ParityTurns_L1
      simp only [show ¬ (n : Int) = 1 by omega, decide_false, Bool.and_false, Bool.false_eq_true, if_false])
    simpa using lp

theorem parityTurns_all (p0 p1 : Nat) (p q : l07_Put) (h0 : p0 ≤ 255) (h1 : p1 ≤ 255) (hp : POk p) (hq : POk q) : l07_ParityTurns (p0 : Int) (p1 : Int) p q = some true := by
  have e8 := rem_nat (x := p0) (n := 8) (by omega)
  have e16 := rem_nat (x := p1) (n := 16) (by omega)
  rw [show ((8 : Nat) : Int) = 8 from rfl] at e8
  rw [show ((16 : Nat) : Int) = 16 from rfl] at e16
  have l8 := Nat.mod_lt p0 (show 0 < 8 by omega)
  have l16 := Nat.mod_lt p1 (show 0 < 16 by omega)
  obtain ⟨q0, hq0⟩ : ∃ q, q = p0 % 8 := ⟨_, rfl⟩
  obtain ⟨q1, hq1⟩ : ∃ q, q = p1 % 16 := ⟨_, rfl⟩
  rw [← hq0] at e8 l8
  rw [← hq1] at e16 l16
  have hn : 1 ≤ q0 + 1 ∧ q0 + 1 ≤ 8 := by omega
  have hm : 1 ≤ q1 + 1 ∧ q1 + 1 ≤ 64 := by omega
  have g0 := good_new hn hm
  have hnp : newP ((q0 + 1 : Nat) : Int) ((q1 + 1 : Nat) : Int) = true := by
    unfold newP
    rw [decide_eq_true_eq]
    omega
  have ni := new_inline ((q0 + 1 : Nat) : Int) ((q1 + 1 : Nat) : Int)
  rw [hnp, if_pos rfl, Int.toNat_natCast, Int.toNat_natCast] at ni
  obtain ⟨⟨b1, b2⟩, ⟨a1, a2⟩, wp⟩ := hp
  obtain ⟨⟨d1, d2⟩, ⟨c1, c2⟩, wq⟩ := hq
  obtain ⟨i0, hi0⟩ : ∃ k : Nat, l07_Put.Bank p = (k : Int) := ⟨(l07_Put.Bank p).toNat, by omega⟩
  obtain ⟨k0, hk0⟩ : ∃ k : Nat, l07_Put.Bank q = (k : Int) := ⟨(l07_Put.Bank q).toNat, by omega⟩
  obtain ⟨x0, hx0⟩ : ∃ k : Nat, l07_Put.At p = (k : Int) := ⟨(l07_Put.At p).toNat, by omega⟩
  obtain ⟨y0, hy0⟩ : ∃ k : Nat, l07_Put.At q = (k : Int) := ⟨(l07_Put.At q).toNat, by omega⟩
  have ei := rem_nat (x := i0) (n := q0 + 1) (by omega)
  have ek := rem_nat (x := k0) (n := q0 + 1) (by omega)
  have ex := rem_nat (x := x0) (n := q1 + 1) (by omega)
  have ey := rem_nat (x := y0) (n := q1 + 1) (by omega)
  have hi := Nat.mod_lt i0 (show 0 < q0 + 1 by omega)
  have hk := Nat.mod_lt k0 (show 0 < q0 + 1 by omega)
  have hx := Nat.mod_lt x0 (show 0 < q1 + 1 by omega)
  have hy := Nat.mod_lt y0 (show 0 < q1 + 1 by omega)
  obtain ⟨i, ii⟩ : ∃ i, i = i0 % (q0 + 1) := ⟨_, rfl⟩
  obtain ⟨k, kk⟩ : ∃ k, k = k0 % (q0 + 1) := ⟨_, rfl⟩
  obtain ⟨x, xx⟩ : ∃ x, x = x0 % (q1 + 1) := ⟨_, rfl⟩
  obtain ⟨y, yy⟩ : ∃ y, y = y0 % (q1 + 1) := ⟨_, rfl⟩
  rw [← ii] at hi ei
  rw [← kk] at hk ek
  rw [← xx] at hx ex
  rw [← yy] at hy ey
  obtain ⟨n, hnn⟩ : ∃ n, n = q0 + 1 := ⟨_, rfl⟩
  obtain ⟨m, hmm⟩ : ∃ m, m = q1 + 1 := ⟨_, rfl⟩
  rw [← hnn] at ni g0 hi hk ei ek
  rw [← hmm] at ni g0 hx hy ex ey
  have u1 := good_write g0 hi hx wp
  have u2 := good_write u1 hk hy wq
  have u3 := good_write g0 hk hy wq
  have u4 := good_write u3 hi hx wp
  have et : Banks.mk (Banks.Rows (newB n m)) (Banks.Par (newB n m)) 0 = newB n m := rfl
  have hrd := good_read u2 hk hy
  rw [write_cell u1 hk hy] at hrd
  have hws := write_same u2 hk hy wq (write_cell u1 hk hy _)
  have turn : (if (!decide ((i : Int) = (k : Int))) = true then (r07_Same (writeB (writeB (newB n m) i x (l07_Put.Word p)) k y (l07_Put.Word q)) (writeB (writeB (newB n m) k y (l07_Put.Word q)) i x (l07_Put.Word p))).bind fun v43 => some (!v43)
      else if (!decide ((x : Int) = (y : Int))) = true then (r07_Same (writeB (writeB (newB n m) i x (l07_Put.Word p)) k y (l07_Put.Word q)) (writeB (writeB (newB n m) k y (l07_Put.Word q)) i x (l07_Put.Word p))).bind fun v44 => some (!v44) else some false) = some false := by
    by_cases h1 : i = k
    · by_cases h2 : x = y
      · simp [h1, h2]
      · have h2' : ¬ (x : Int) = (y : Int) := by omega
        rw [write_turn g0 hi hk hx hy wp wq (.inr h2), same_ok u4.ok]
        simp [h1, h2']
    · have h1' : ¬ (i : Int) = (k : Int) := by omega
      rw [write_turn g0 hi hk hx hy wp wq (.inl h1), same_ok u4.ok]
      simp [h1']
  unfold l07_ParityTurns
  rw [show l07_ParityRebuilds_L5 = r07_New_L1 from rfl]
  simp only [l07_awake, Bool.not_true, Bool.false_eq_true, if_false, e8, e16, Option.bind_some, w64_nat (show q0 < 4611686018427387904 by omega), w64_nat (show q1 < 4611686018427387904 by omega), w64_succ (show q0 < 4611686018427387904 by omega), w64_succ (show q1 < 4611686018427387904 by omega), ← hnn, ← hmm, ni, decide_true, hi0, hk0, hx0, hy0,
    w64_nat (show i0 < 4611686018427387904 by omega), w64_nat (show k0 < 4611686018427387904 by omega), w64_nat (show x0 < 4611686018427387904 by omega), w64_nat (show y0 < 4611686018427387904 by omega), ei, ek, ex, ey, et, good_writeS g0 hi hx, good_writeS u1 hk hy, good_writeS g0 hk hy, good_writeS u3 hi hx, turn, hrd, good_writeS u2 hk hy, hws, same_ok u2.ok, alone_loop u2, orExit_inl]

theorem parityTurns_int (p0 p1 : Int) (p q : l07_Put) (h0 : 0 ≤ p0 ∧ p0 ≤ 255) (h1 : 0 ≤ p1 ∧ p1 ≤ 255) (hp : POk p) (hq : POk q) : l07_ParityTurns p0 p1 p q = some true := by
  have := parityTurns_all p0.toNat p1.toNat p q (by omega) (by omega) hp hq
  rwa [Int.toNat_of_nonneg h0.1, Int.toNat_of_nonneg h1.1] at this
theorem put_ok {p : l07_Put} (h : OkT tl07_Put p) : POk p := ⟨⟨h.1.1, Int.le_trans h.1.2 (by decide)⟩, ⟨h.2.1.1, Int.le_trans h.2.1.2 (by decide)⟩, ⟨h.2.2.1, Int.lt_of_le_of_lt h.2.2.2 (by decide)⟩⟩
theorem parityTurns_ok (x : Ty.Tup F_l07_ParityTurns.ps) (h : OkL F_l07_ParityTurns.ps x) : F_l07_ParityTurns.sem x = some true :=
  parityTurns_int x.1 x.2.1 x.2.2.1 x.2.2.2 ⟨h.1.1, Int.le_trans h.1.2 (by decide)⟩ ⟨h.2.1.1, Int.le_trans h.2.1.2 (by decide)⟩ (put_ok h.2.2.1) (put_ok h.2.2.2)

end Go.Proofs.Ytflnpiknckdmfaa
