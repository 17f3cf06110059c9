/- Layer 7: the law ParityRebuilds on typed data. -/
import Derived.Test.YtflnpiknckdmfaaP07e
import Derived.Test.YtflnpiknckdmfaaD073
set_option linter.unusedSimpArgs false
set_option linter.unusedVariables false
namespace Go.Proofs.Ytflnpiknckdmfaa
open Go.SX

theorem rem_nat {x n : Nat} (hn : 0 < n) : remO (x : Int) (n : Int) = some ((x % n : Nat) : Int) := by
  rw [(rem_pos (by omega) (by omega)).1, Int.natCast_emod]
theorem map_setL {α : Type} {n i : Nat} (hi : i < n) (G : Nat → α) (v : α) : ((List.range n).map G).set i v = (List.range n).map fun a => if a = i then v else G a := by
  apply List.ext_getElem?
  intro j
  rw [List.getElem?_set]
  simp only [List.length_map, List.length_range]
  by_cases hj : i = j
  · subst hj
    rw [if_pos rfl, if_pos hi, List.getElem?_map, List.getElem?_range hi]
    simp
  · rw [if_neg hj, List.getElem?_map, List.getElem?_map]
    by_cases hjn : j < n
    · rw [List.getElem?_range hjn]
      simp [Ne.symm hj]
    · rw [List.getElem?_eq_none (by simpa using hjn)]
      rfl
theorem map_rep {α : Type} {n : Nat} (v : α) : List.replicate n v = (List.range n).map fun _ => v := by
  apply List.ext_getElem (by simp)
  intro i h1 h2
  simp
theorem model_loop {n m : Nat} (hn : n ≤ 1000) (hm : m ≤ 1000) : loopD (l07_ParityRebuilds_L4 (n : Int) (m : Int)) ((0 : Int), List.replicate n ([] : List Int)) = some (List.replicate n (List.replicate m 0)) := by
  rw [map_rep, map_rep]
  have lp := loop_good (f := l07_ParityRebuilds_L4 (n : Int) (m : Int)) (n := n) (e := (List.range n).map fun _ => List.replicate m (0 : Int)) (fun i => ((i : Int), (List.range n).map fun a => if a < i then List.replicate m (0 : Int) else [])) (fun i hi => by
    have hlt : (i : Int) < (n : Int) := by omega
    have r1 := repO_small (z := (0 : Int)) (b := 4) (n := m) (by omega) (by omega)
    have hl : ((List.range n).map fun a => if a < i then List.replicate m (0 : Int) else []).length = n := by simp
    have hs : setO ((List.range n).map fun a => if a < i then List.replicate m (0 : Int) else []) (i : Int) (List.replicate m (0 : Int)) = some ((List.range n).map fun a => if a < i + 1 then List.replicate m (0 : Int) else []) := by
      rw [setO_in (by rw [hl]; exact hi), map_setL hi]
      congr 1
      apply List.map_congr_left
      intro a _
      by_cases ha : a = i
      · rw [if_pos ha, if_pos (by omega)]
      · by_cases hb : a < i
        · rw [if_neg ha, if_pos hb, if_pos (by omega)]
        · rw [if_neg ha, if_neg hb, if_neg (by omega)]
    unfold l07_ParityRebuilds_L4
    simp only [hlt, decide_true, if_true, r1, Option.bind_some, hl, idxO_in hi, hs, w64_succ (show i < 4611686018427387904 by omega)]) (by
    unfold l07_ParityRebuilds_L4
    simp only [show ¬ (n : Int) < (n : Int) by omega, decide_false, Bool.false_eq_true, if_false]
    congr 2
    apply List.map_congr_left
    intro a ha
    rw [if_pos (List.mem_range.1 ha)])
  simpa using lp

/-! ### Words are written -/
noncomputable def putB (n m : Nat) (b : Banks) (p : l07_Put) : Banks := writeB b ((l07_Put.Bank p).toNat % n) ((l07_Put.At p).toNat % m) (l07_Put.Word p)
noncomputable def putsB (n m : Nat) (b : Banks) (l : List l07_Put) : Banks := l.foldl (putB n m) b
structure POk (p : l07_Put) : Prop where
  b : 0 ≤ l07_Put.Bank p ∧ l07_Put.Bank p ≤ 255
  a : 0 ≤ l07_Put.At p ∧ l07_Put.At p ≤ 255
  w : wd (l07_Put.Word p)
theorem good_put {n m : Nat} (hn : 0 < n) (hm : 0 < m) {b : Banks} (g : Good n m b) {p : l07_Put} (hp : POk p) : Good n m (putB n m b p) := good_write g (Nat.mod_lt _ hn) (Nat.mod_lt _ hm) hp.w
theorem good_puts {n m : Nat} (hn : 0 < n) (hm : 0 < m) : ∀ (l : List l07_Put) {b : Banks}, Good n m b → (∀ p ∈ l, POk p) → Good n m (putsB n m b l)
  | [], b, g, _ => g
  | p :: l, b, g, h => good_puts hn hm l (good_put hn hm g (h p (by simp))) fun q hq => h q (by simp [hq])
theorem puts_take {n m : Nat} {b : Banks} {l : List l07_Put} {i : Nat} (h : i < l.length) : putsB n m b (l.take (i + 1)) = putB n m (putsB n m b (l.take i)) l[i] := by
  unfold putsB
  rw [take_succ_get h, List.foldl_append]
  rfl
theorem puts_loop {n m : Nat} (hn : 0 < n) (hm : 0 < m) {b : Banks} (g : Good n m b) {l : List l07_Put} (hl : ∀ p ∈ l, POk p) :
    loopD (l07_ParityRebuilds_L3 l (n : Int) (m : Int)) ((0 : Int), Banks.Rows b, Banks.Par b, Banks.Lost b, Banks.Rows b) =
      some (.inl (Banks.Rows (putsB n m b (l.take (min l.length 150))), Banks.Par (putsB n m b (l.take (min l.length 150))), Banks.Lost (putsB n m b (l.take (min l.length 150))), Banks.Rows (putsB n m b (l.take (min l.length 150))))) := by
  have lp := loop_good (f := l07_ParityRebuilds_L3 l (n : Int) (m : Int)) (n := min l.length 150) (e := (.inl (Banks.Rows (putsB n m b (l.take (min l.length 150))), Banks.Par (putsB n m b (l.take (min l.length 150))), Banks.Lost (putsB n m b (l.take (min l.length 150))), Banks.Rows (putsB n m b (l.take (min l.length 150))))))
    (fun i => ((i : Int), Banks.Rows (putsB n m b (l.take i)), Banks.Par (putsB n m b (l.take i)), Banks.Lost (putsB n m b (l.take i)), Banks.Rows (putsB n m b (l.take i)))) (fun i hi => by
    have hil : i < l.length := by omega
    have hi1 : (i : Int) < (l.length : Int) := by omega
    have hi2 : (i : Int) < 150 := by omega
    obtain ⟨c, hc⟩ : ∃ c, c = putsB n m b (l.take i) := ⟨_, rfl⟩
    have gc : Good n m c := by rw [hc]; exact good_puts hn hm _ g fun p hp => hl p (List.mem_of_mem_take hp)
    rw [puts_take hil, ← hc]
    have hp := hl _ (List.getElem_mem hil)
    obtain ⟨⟨b1, b2⟩, ⟨a1, a2⟩, hw⟩ := hp
    unfold putB
    obtain ⟨k, hk⟩ : ∃ k : Nat, l07_Put.Bank l[i] = (k : Int) := ⟨(l07_Put.Bank l[i]).toNat, by omega⟩
    obtain ⟨a, ha⟩ : ∃ a : Nat, l07_Put.At l[i] = (a : Int) := ⟨(l07_Put.At l[i]).toNat, by omega⟩
    have hkn := Nat.mod_lt k hn
    have ham := Nat.mod_lt a hm
    have hkr : k % n < (Banks.Rows c).length := by rw [gc.rl]; exact hkn
    have hrl := gc.row hkn
    rw [rowAt_in hkr] at hrl
    have har : a % m < (Banks.Rows c)[k % n].length := by rw [hrl]; exact ham
    have hr : Banks.Rows (writeB c (k % n) (a % m) (l07_Put.Word l[i])) = (Banks.Rows c).set (k % n) ((Banks.Rows c)[k % n].set (a % m) (l07_Put.Word l[i])) := by
      unfold writeB
      rw [Banks.Rows_mk, rowAt_in hkr]
    rw [hk, ha, Int.toNat_natCast, Int.toNat_natCast]
    unfold l07_ParityRebuilds_L3
    simp only [hi1, hi2, decide_true, Bool.and_self, if_true, getO_in hil, Option.bind_some, hk, ha, w64_nat (show k < 4611686018427387904 by omega), w64_nat (show a < 4611686018427387904 by omega), rem_nat hn, rem_nat hm, Banks.eta, good_writeS gc hkn ham, Bool.not_true, Bool.false_eq_true, if_false, idxO_in hkr, getO_in hkr, idxO_in har, setO_in har, setO_in hkr, hr, w64_succ (show i < 4611686018427387904 by omega)]) (by
    have hc : ((decide (((min l.length 150 : Nat) : Int) < (List.length l : Int))) && (decide (((min l.length 150 : Nat) : Int) < (150 : Int)))) = false := by
      rw [Bool.and_eq_false_iff]
      rcases Nat.lt_or_ge l.length 150 with h | h
      · exact .inl (decide_eq_false (by omega))
      · exact .inr (decide_eq_false (by omega))
    unfold l07_ParityRebuilds_L3
    simp only [hc, Bool.false_eq_true, if_false])
  rw [show (((0 : Nat) : Int)) = 0 from rfl, List.take_zero] at lp
  exact lp

/-! ### What is read then -/
theorem read_inner {n m : Nat} {b : Banks} (g : Good n m b) {k x : Nat} (hk : k < n) (hx : x < n) : loopD (l07_ParityRebuilds_L1 (m : Int) (Banks.Rows b) (k : Int) (loseB b k) b (x : Int)) (0 : Int) = some (.inl ()) := by
  have hm : m ≤ 80 := by rw [← g.pl]; exact g.ok.pl
  have lp := loop_good (f := l07_ParityRebuilds_L1 (m : Int) (Banks.Rows b) (k : Int) (loseB b k) b (x : Int)) (n := m) (e := (.inl () : Unit ⊕ Int ⊕ Unit ⊕ Bool)) (fun y => (y : Int)) (fun y hy => by
    have hlt : (y : Int) < (m : Int) := by omega
    have hxr : x < (Banks.Rows b).length := by rw [g.rl]; exact hx
    have hrl := g.row hx
    rw [rowAt_in hxr] at hrl
    have hyr : y < (Banks.Rows b)[x].length := by rw [hrl]; exact hy
    have hc : cell (Banks.Rows b) x y = (Banks.Rows b)[x][y] := by unfold cell; rw [rowAt_in hxr, wordAt_in hyr]
    unfold l07_ParityRebuilds_L1
    simp only [hlt, decide_true, if_true, lose_read g hk hx hy, good_read g hx hy, Option.bind_some, Bool.not_true, Bool.false_eq_true, if_false, idxO_in hxr, getO_in hxr, idxO_in hyr, getO_in hyr, hc, w64_succ (show y < 4611686018427387904 by omega)]
    by_cases h : x = k
    · subst h
      simp only [if_true, decide_true, Bool.not_true, Bool.false_eq_true, if_false, Option.bind_some]
    · have h' : ¬ (x : Int) = (k : Int) := by omega
      simp only [h, h', if_false, decide_false, Bool.not_false, if_true, decide_true, Bool.not_true, Bool.false_eq_true, Option.bind_some]) (by
    unfold l07_ParityRebuilds_L1
    simp only [show ¬ (m : Int) < (m : Int) by omega, decide_false, Bool.false_eq_true, if_false])
  simpa using lp
theorem read_outer {n m : Nat} {b : Banks} (g : Good n m b) {k : Nat} (hk : k < n) : loopD (l07_ParityRebuilds_L2 (n : Int) (m : Int) (Banks.Rows b) (k : Int) (loseB b k) b) (0 : Int) = some (.inl ()) := by
  have hn : n ≤ 10 := by rw [← g.rl]; exact g.ok.rl
  have lp := loop_good (f := l07_ParityRebuilds_L2 (n : Int) (m : Int) (Banks.Rows b) (k : Int) (loseB b k) b) (n := n) (e := (.inl () : Unit ⊕ Bool)) (fun x => (x : Int)) (fun x hx => by
    have hlt : (x : Int) < (n : Int) := by omega
    unfold l07_ParityRebuilds_L2
    simp only [hlt, decide_true, if_true, read_inner g hk hx, orExit_inl, w64_succ (show x < 4611686018427387904 by omega)]) (by
    unfold l07_ParityRebuilds_L2
    simp only [show ¬ (n : Int) < (n : Int) by omega, decide_false, Bool.false_eq_true, if_false])
  simpa using lp

theorem parityRebuilds_all (p0 p1 : Nat) (l : List l07_Put) (p3 : Nat) (h0 : p0 ≤ 255) (h1 : p1 ≤ 255) (h3 : p3 ≤ 255) (hl : ∀ p ∈ l, POk p) : l07_ParityRebuilds (p0 : Int) (p1 : Int) l (p3 : Int) = some true := by
  have e8 := rem_nat (x := p0) (n := 8) (by omega)
  have e16 := rem_nat (x := p1) (n := 16) (by omega)
  rw [show ((8 : Nat) : Int) = 8 from rfl] at e8
  rw [show ((16 : Nat) : Int) = 16 from rfl] at e16
  have l8 := Nat.mod_lt p0 (show 0 < 8 by omega)
  have l16 := Nat.mod_lt p1 (show 0 < 16 by omega)
  obtain ⟨q0, hq0⟩ : ∃ q, q = p0 % 8 := ⟨_, rfl⟩
  obtain ⟨q1, hq1⟩ : ∃ q, q = p1 % 16 := ⟨_, rfl⟩
  rw [← hq0] at e8 l8
  rw [← hq1] at e16 l16
  have hn : 1 ≤ q0 + 1 ∧ q0 + 1 ≤ 8 := by omega
  have hm : 1 ≤ q1 + 1 ∧ q1 + 1 ≤ 64 := by omega
  have g0 := good_new hn hm
  have hnp : newP ((q0 + 1 : Nat) : Int) ((q1 + 1 : Nat) : Int) = true := by
    unfold newP
    rw [decide_eq_true_eq]
    omega
  have ni := new_inline ((q0 + 1 : Nat) : Int) ((q1 + 1 : Nat) : Int)
  rw [hnp, if_pos rfl, Int.toNat_natCast, Int.toNat_natCast] at ni
  have r1 := repO_small (z := ([] : List Int)) (b := 24) (n := q0 + 1) (by omega) (by omega)
  have ml := model_loop (n := q0 + 1) (m := q1 + 1) (by omega) (by omega)
  have pl := puts_loop (n := q0 + 1) (m := q1 + 1) (by omega) (by omega) g0 hl
  have gb := good_puts (n := q0 + 1) (m := q1 + 1) (by omega) (by omega) (l.take (min l.length 150)) g0 fun p hp => hl p (List.mem_of_mem_take hp)
  obtain ⟨b, hb⟩ : ∃ b, b = putsB (q0 + 1) (q1 + 1) (newB (q0 + 1) (q1 + 1)) (l.take (min l.length 150)) := ⟨_, rfl⟩
  rw [← hb] at pl gb
  have hk := Nat.mod_lt p3 (show 0 < q0 + 1 by omega)
  have e3 := rem_nat (x := p3) (n := q0 + 1) (by omega)
  obtain ⟨k, hkk⟩ : ∃ k, k = p3 % (q0 + 1) := ⟨_, rfl⟩
  rw [← hkk] at hk e3
  have hk2 := Nat.mod_lt (k + 1) (show 0 < q0 + 1 by omega)
  have hlw := lost_write gb hk hk2 (show 0 < q1 + 1 by omega) 7
  rw [show ((0 : Nat) : Int) = 0 from rfl] at hlw
  have pl : loopD (l07_ParityRebuilds_L3 l ((q0 + 1 : Nat) : Int) ((q1 + 1 : Nat) : Int)) ((0 : Int), Banks.Rows (newB (q0 + 1) (q1 + 1)), Banks.Par (newB (q0 + 1) (q1 + 1)), (0 : Int), List.replicate (q0 + 1) (List.replicate (q1 + 1) (0 : Int))) = some (.inl (Banks.Rows b, Banks.Par b, Banks.Lost b, Banks.Rows b)) := pl
  unfold l07_ParityRebuilds
  rw [show l07_ParityRebuilds_L5 = r07_New_L1 from rfl]
  simp only [l07_awake, Bool.not_true, Bool.false_eq_true, if_false, e8, e16, Option.bind_some, w64_nat (show q0 < 4611686018427387904 by omega), w64_nat (show q1 < 4611686018427387904 by omega), w64_succ (show q0 < 4611686018427387904 by omega), w64_succ (show q1 < 4611686018427387904 by omega), ni, decide_true, r1, ml, pl, orExit_inl,
    w64_nat (show p3 < 4611686018427387904 by omega), e3, Banks.eta, lose_eq gb hk, w64_succ (show k < 4611686018427387904 by omega), rem_nat (show 0 < q0 + 1 by omega), hlw, lost_lose gb hk, lost_rebuild gb hk, parity_Right_eq (loseB_ok gb.ok k), parity_Right_eq gb.ok, lose_right gb hk, gb.right, read_outer gb hk]

theorem parityRebuilds_int (p0 p1 : Int) (l : List l07_Put) (p3 : Int) (h0 : 0 ≤ p0 ∧ p0 ≤ 255) (h1 : 0 ≤ p1 ∧ p1 ≤ 255) (h3 : 0 ≤ p3 ∧ p3 ≤ 255) (hl : ∀ p ∈ l, POk p) : l07_ParityRebuilds p0 p1 l p3 = some true := by
  have := parityRebuilds_all p0.toNat p1.toNat l p3.toNat (by omega) (by omega) (by omega) hl
  rwa [Int.toNat_of_nonneg h0.1, Int.toNat_of_nonneg h1.1, Int.toNat_of_nonneg h3.1] at this
theorem parityRebuilds_ok (x : Ty.Tup F_l07_ParityRebuilds.ps) (h : OkL F_l07_ParityRebuilds.ps x) : F_l07_ParityRebuilds.sem x = some true :=
  parityRebuilds_int x.1 x.2.1 x.2.2.1 x.2.2.2 ⟨h.1.1, Int.le_trans h.1.2 (by decide)⟩ ⟨h.2.1.1, Int.le_trans h.2.1.2 (by decide)⟩ ⟨h.2.2.2.1, Int.le_trans h.2.2.2.2 (by decide)⟩ fun p hp => by
    have := h.2.2.1.2 p hp
    exact ⟨⟨this.1.1, Int.le_trans this.1.2 (by decide)⟩, ⟨this.2.1.1, Int.le_trans this.2.1.2 (by decide)⟩, ⟨this.2.2.1, Int.lt_of_le_of_lt this.2.2.2 (by decide)⟩⟩

end Go.Proofs.Ytflnpiknckdmfaa
