/- Layer 9: the law DirecAll on typed data. -/
import Derived.Test.YtklkpogdghiagaaP09d
set_option linter.unusedSimpArgs false
set_option linter.unusedVariables false
namespace Go.Proofs.Ytklkpogdghiagaa
open Go.SX

/-- What holds behind i reads. -/
structure AllI (n : Nat) (i : Nat) (first : Int) (e : Entry) (rd : List Bool) : Prop where
  len : rd.length = n
  may : mayB e (n : Int) = true
  own : Entry.Owner e = first + 1
  fst : (i = 0 → first = -1 ∧ ∀ c : Nat, (Entry.Share e)[c]? ≠ some true) ∧ (0 < i → 0 ≤ first ∧ first < n)
  shr : ∀ c : Nat, (Entry.Share e)[c]? = some true ↔ rd[c]? = some true ∧ (c : Int) ≠ first

theorem othersN_none {l : List Bool} {k : Int} (h : ∀ c : Nat, l[c]? ≠ some true) : ∀ m, othersN l k m = []
  | 0 => rfl
  | m + 1 => by
    simp only [othersN]
    rw [if_neg (fun hc => h m hc.1), othersN_none h m]

theorem all_step {l : List Int} (hl : l.length ≤ 50) (hb : ∀ x ∈ l, 0 ≤ x ∧ x ≤ 255) {n : Nat} (hn : 1 ≤ n ∧ n ≤ 4) {i : Nat} (hi : i < l.length) {first : Int} {e : Entry} {rd : List Bool} (h : AllI n i first e rd) :
    ∃ first' e' rd', l09_DirecAll_L2 l (n : Int) (first, (i : Int), e, rd) = some (.inl (first', (i : Int) + 1, e', rd')) ∧ AllI n (i + 1) first' e' rd' := by
  obtain ⟨⟨m1, m2, m3, m4, m5⟩, m6⟩ := mayB_iff.1 h.may
  have hlt : (i : Int) < (l.length : Int) := by omega
  have hw : w64 ((i : Int) + 1) = i + 1 := w64_id (by omega) (by omega)
  obtain ⟨x, hx⟩ : ∃ x, l[i]? = some x := ⟨_, List.getElem?_eq_getElem hi⟩
  obtain ⟨hx0, hx1⟩ := hb x (List.mem_of_getElem? hx)
  have hwx : w64 x = x := w64_id (by omega) (by omega)
  obtain ⟨hk, hk0, hk1⟩ := rem_lt (a := x) (n := (n : Int)) (by omega) (by omega)
  obtain ⟨k, hkn⟩ : ∃ k : Nat, x % (n : Int) = k := ⟨(x % (n : Int)).toNat, by omega⟩
  rw [hkn] at hk hk0 hk1
  have hle : (Entry.Share e).length ≤ 1000 := by omega
  have hkr : k < rd.length := by rw [h.len]; omega
  have hix : idxO (rd.length : Int) (k : Int) = some (k : Int) := idxO_lt (by omega) (by omega)
  have hset : setO rd (k : Int) true = some (rd.set k true) := by
    rw [setO_lt (by omega) (by omega)]; simp
  have hh := hasB_of h.may hk0 hk1
  have hks : k < (Entry.Share e).length := by omega
  unfold l09_DirecAll_L2
  simp only [hlt, decide_true, if_true, getO_nat, hx, Option.bind_some, hwx, hk, direc_Read_eq _ _ hle, hix, hset, hw]
  rcases Nat.eq_zero_or_pos i with hi0 | hip
  · obtain ⟨g1, g2⟩ := h.fst.1 hi0
    subst hi0 g1
    have ho : Entry.Owner e = 0 := by rw [h.own]; rfl
    have hr : readS e (k : Int) = (Entry.mk ((k : Int) + 1) (List.replicate (Entry.Share e).length false), 0, 0) := by
      unfold readS
      rw [if_pos hh, if_pos ⟨ho, othersN_none g2 _⟩]
    have hwk : w64 ((k : Int) + 1) = k + 1 := w64_id (by omega) (by omega)
    refine ⟨k, Entry.mk ((k : Int) + 1) (List.replicate (Entry.Share e).length false), rd.set k true, ?_, ⟨by simp [h.len], mayB_iff.2 ⟨?_, .inr ?_⟩, by simp, ⟨fun h => by omega, fun _ => by omega⟩, fun c => ?_⟩⟩
    · simp [hr, hwk]
    · simp; omega
    · simp only [Entry.Owner_mk, Entry.Share_mk]
      rw [List.getElem?_replicate]
      split <;> simp
    · have h1 : (Entry.Share (Entry.mk ((k : Int) + 1) (List.replicate (Entry.Share e).length false)))[c]? ≠ some true := by
        simp only [Entry.Share_mk]
        rw [List.getElem?_replicate]
        split <;> simp
      have h2 : ¬ (rd[c]? = some true ∧ (c : Int) ≠ -1) := fun hc => g2 c ((h.shr c).2 hc)
      have h3 : rd[c]? ≠ some true := fun hc => h2 ⟨hc, by omega⟩
      refine ⟨fun hc => absurd hc h1, fun ⟨hc, hne⟩ => ?_⟩
      rw [List.getElem?_set_ne (by omega)] at hc
      exact absurd hc h3
  · obtain ⟨g1, g2⟩ := h.fst.2 hip
    have hneg : ¬ first < 0 := by omega
    have hwf : w64 (first + 1) = first + 1 := w64_id (by omega) (by omega)
    have hown := h.own
    by_cases hkf : (k : Int) = first
    · have hr : readS e (k : Int) = (e, (k : Int) + 1, 0) := by
        unfold readS
        rw [if_pos hh, if_neg (by omega), if_pos (by omega)]
      refine ⟨first, e, rd.set k true, ?_, ⟨by simp [h.len], h.may, h.own, ⟨fun h => by omega, fun _ => ⟨g1, g2⟩⟩, fun c => ?_⟩⟩
      · have hi' : ¬ (i : Int) = 0 := by omega
        have hi2 : 0 < i := hip
        have hi3 : ¬ i = 0 := by omega
        simp only [hr]
        simp [hneg, hwf, hown, hkf, hi', hi2, hi3]
      · rw [h.shr c]
        rw [List.getElem?_set]
        split
        · rename_i hc
          subst hc
          simp [hkf]
        · exact Iff.rfl
    · have hr : readS e (k : Int) = (Entry.mk (Entry.Owner e) ((Entry.Share e).set k true), Entry.Owner e, 0) := by
        unfold readS
        rw [if_pos hh, if_neg (by omega), if_neg (by omega)]
        simp
      have hf6 := (readS_facts h.may hk0 hk1).2.2.2.2.2
      rw [hr] at hf6
      refine ⟨first, _, rd.set k true, ?_, ⟨by simp [h.len], hf6, by simp [hown], ⟨fun h => by omega, fun _ => ⟨g1, g2⟩⟩, fun c => ?_⟩⟩
      · have hi' : ¬ (i : Int) = 0 := by omega
        have hi2 : 0 < i := hip
        have hi3 : ¬ i = 0 := by omega
        simp only [hr]
        simp [hneg, hwf, hown, hkf, hi', hi2, hi3]
      · simp only [Entry.Share_mk]
        rw [List.getElem?_set, List.getElem?_set]
        by_cases hc : k = c
        · subst hc
          simp [hks, hkr, hkf]
        · rw [if_neg hc, if_neg hc]
          exact h.shr c

theorem all_L1 {n : Nat} (hn : n ≤ 4) {first k : Int} {e : Entry} {rd : List Bool} (hle : (Entry.Share e).length = n) (hlr : rd.length = n) (h : ∀ c : Nat, (Entry.Share e)[c]? = some true ↔ rd[c]? = some true ∧ (c : Int) ≠ first) :
    loopD (l09_DirecAll_L1 (n : Int) first rd k) ((0 : Int), (0 : Int)) = some ((othersN (Entry.Share e) k n).length : Int) := by
  have := loop_to (f := l09_DirecAll_L1 (n : Int) first rd k) (fun i => (((othersN (Entry.Share e) k i).length : Int), (i : Int))) (n := 0) (m := n) (by omega) fun i _ hi => by
    have hlt : (i : Int) < n := by omega
    have hw : w64 ((i : Int) + 1) = i + 1 := w64_id (by omega) (by omega)
    have ho := othersN_len (Entry.Share e) k i
    have hw2 : w64 (((othersN (Entry.Share e) k i).length : Int) + 1) = ((othersN (Entry.Share e) k i).length : Int) + 1 := w64_id (by omega) (by omega)
    have hix : idxO (rd.length : Int) (i : Int) = some (i : Int) := idxO_lt (by omega) (by omega)
    have hi2 : i < rd.length := by omega
    have h1 := h i
    rw [List.getElem?_eq_getElem hi2] at h1
    unfold l09_DirecAll_L1
    rw [hix]
    simp only [othersN, h1, Option.bind_some, getO_nat, List.getElem?_eq_getElem hi2, hlt, decide_true, if_true, hw, hw2]
    cases rd[i] <;> by_cases hk : (i : Int) = k <;> by_cases hf : (i : Int) = first <;> simp [hk, hf]
    all_goals (subst hk; simp_all)
  refine this.trans (loop_out ?_)
  unfold l09_DirecAll_L1
  simp

theorem direcAll_all (c : Int) (l : List Int) (w : Int) (hc : 0 ≤ c ∧ c ≤ 255) (hb : ∀ x ∈ l, 0 ≤ x ∧ x ≤ 255) (hw : 0 ≤ w ∧ w ≤ 255) : l09_DirecAll c l w = some true := by
  obtain ⟨h1, h2, h3⟩ := rem_lt (a := c) (n := 4) hc.1 (by omega)
  generalize c % 4 = r at h1 h2 h3
  have hw1 : w64 r = r := w64_id (by omega) (by omega)
  obtain ⟨n, hn⟩ : ∃ n : Nat, r + 1 = (n : Int) := ⟨(r + 1).toNat, by omega⟩
  have hw2 : w64 (r + 1) = (n : Int) := by rw [w64_id (by omega) (by omega), hn]
  have hnew : direc_New (n : Int) = some (Entry.mk 0 (List.replicate n false), 0) := by
    unfold direc_New
    have : ¬ (decide ((n : Int) < 1) || decide (4 < (n : Int))) = true := by simp; omega
    rw [if_neg this, rep1 (by omega)]
    rfl
  unfold l09_DirecAll
  by_cases hlen : (50 : Int) < (l.length : Int)
  · simp [l09_awake, h1, hw1, hw2, hnew, hlen]
  have start : AllI n 0 (-1) (Entry.mk 0 (List.replicate n false)) (List.replicate n false) := by
    have hrep : ∀ c : Nat, (List.replicate n false)[c]? ≠ some true := fun c => by
      rw [List.getElem?_replicate]
      split <;> simp
    refine ⟨by simp, mayB_iff.2 ⟨?_, .inl (by simp)⟩, by simp, ⟨fun _ => ⟨rfl, fun c => by simpa using hrep c⟩, fun h => by omega⟩, fun c => ?_⟩
    · simp; omega
    · simp only [Entry.Share_mk]
      exact ⟨fun h => absurd h (hrep c), fun h => absurd h.1 (hrep c)⟩
  have hloop : ∃ r, loopD (l09_DirecAll_L2 l (n : Int)) ((-1 : Int), (0 : Int), Entry.mk 0 (List.replicate n false), List.replicate n false) = some r ∧ ∃ first e rd, r = Sum.inl (first, e, rd) ∧ AllI n l.length first e rd := by
    refine loop_rule (f := l09_DirecAll_L2 l (n : Int)) (fun s : Int × Int × Entry × List Bool => ∃ i : Nat, s.2.1 = i ∧ i ≤ l.length ∧ AllI n i s.1 s.2.2.1 s.2.2.2) (fun s : Int × Int × Entry × List Bool => l.length - s.2.1.toNat) (fun r => ∃ first e rd, r = Sum.inl (first, e, rd) ∧ AllI n l.length first e rd) (fun s ⟨i, e1, e2, e3⟩ => ?_) (s := ((-1 : Int), (0 : Int), Entry.mk 0 (List.replicate n false), List.replicate n false)) ⟨0, rfl, by omega, start⟩
    obtain ⟨s1, s2, s3, s4⟩ := s
    simp only at e1 e3
    subst e1
    by_cases hi : i < l.length
    · obtain ⟨f', e', rd', g1, g2⟩ := all_step (by omega) hb (n := n) (by omega) hi e3
      exact .inl ⟨_, g1, ⟨i + 1, by simp, by omega, g2⟩, by simp only; omega⟩
    · have hil : i = l.length := by omega
      subst hil
      refine .inr ⟨_, ?_, s1, s3, s4, rfl, e3⟩
      unfold l09_DirecAll_L2
      simp
  obtain ⟨r', hr1, first, e, rd, hr2, inv⟩ := hloop
  subst hr2
  obtain ⟨⟨m1, m2, m3, m4, m5⟩, m6⟩ := mayB_iff.1 inv.may
  have hww : w64 w = w := w64_id (by omega) (by omega)
  obtain ⟨hk, hk0, hk1⟩ := rem_lt (a := w) (n := (n : Int)) hw.1 (by omega)
  generalize w % (n : Int) = k at hk hk0 hk1
  obtain ⟨f1, f2, f3⟩ := writeS_facts inv.may hk0 hk1
  have hwk : w64 (k + 1) = k + 1 := w64_id (by omega) (by omega)
  have hle : (Entry.Share e).length ≤ 1000 := by omega
  have hlen' : (Entry.Share e).length = n := by omega
  rw [hlen'] at f1 f2 f3
  have hown := inv.own
  have hwf : w64 (first + 1) = first + 1 := w64_id (by omega) (by omega)
  have hL1 := all_L1 (n := n) (by omega) (k := k) hlen' inv.len inv.shr
  have hrep : repO false 1 (n : Int) (n : Int) = some (List.replicate n false) := rep1 (by omega)
  simp [l09_awake, h1, hw1, hw2, hnew, hlen, hrep, hr1, hww, hk, direc_Write_eq _ _ hle, f1, hwk, direc_Alone_eq, f3, hL1, hlen', hown, hwf]

theorem direcAll_ok (x : Ty.Tup F_l09_DirecAll.ps) (h : OkL F_l09_DirecAll.ps x) : F_l09_DirecAll.sem x = some true :=
  direcAll_all x.1 x.2.1 x.2.2 h.1 h.2.1.2 h.2.2

end Go.Proofs.Ytklkpogdghiagaa
