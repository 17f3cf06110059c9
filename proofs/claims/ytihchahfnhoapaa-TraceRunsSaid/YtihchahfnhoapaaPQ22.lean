/- Layer 21 on layer 4: the law TraceRuns on typed data. -/
import Derived.Test.YtihchahfnhoapaaPQ04d
import Derived.Test.YtihchahfnhoapaaPQ21d
import Derived.Test.YtihchahfnhoapaaD212
set_option linter.unusedSimpArgs false
set_option linter.unusedVariables false
namespace Go.Proofs.Ytihchahfnhoapaa
open Go.SX

theorem wantA_at {ps : List (List Ins)} (hps : progsOk ps) {a : Atom} (ha : AOk a) {n : Nat} (hc : n < (Atom.Cores a).length) (hm : 1 ≤ (Atom.Mem a).length) (hk : 1 ≤ Want.Kind (wantA ps a n) ∧ Want.Kind (wantA ps a n) ≤ 3) :
    0 ≤ Want.At (wantA ps a n) ∧ Want.At (wantA ps a n) < ((Atom.Mem a).length : Int) := by
  obtain ⟨c1, c2⟩ := coreAt_get hc
  unfold wantA wantF at hk ⊢
  cases h : goesC (progAt ps n) (coreAt (Atom.Cores a) n)
  · rw [h, if_neg (by simp)] at hk
    exact absurd hk (by decide)
  · obtain ⟨hr, hh⟩ := goesC_yes h
    obtain ⟨k, x, f1, f2, f3, f4, f5⟩ := rightC_facts hr
    obtain ⟨m1, m2, m3, m4⟩ := may_facts f5
    rw [h, if_pos rfl, insAt_is f1 f4] at hk
    rw [if_pos rfl, insAt_is f1 f4]
    have := wantS_in (x := x) (ha.regs _ c2) m3 (n := ((Atom.Mem a).length : Int)) (by omega)
    exact this.1

def touchB (w : Want) : Bool := decide (1 ≤ Want.Kind w) && decide (Want.Kind w ≤ 3)
theorem touch_iff {w : Want} : touchB w = true ↔ 1 ≤ Want.Kind w ∧ Want.Kind w ≤ 3 := by unfold touchB; rw [Bool.and_eq_true, decide_eq_true_eq, decide_eq_true_eq]
def deedA (ps : List (List Ins)) (a : Atom) (n : Nat) : Deed := Deed.mk (n : Int) (Want.Kind (wantA ps a n)) (Want.At (wantA ps a n)) (memN (Atom.Mem a) (Want.At (wantA ps a n))) (memN (Atom.Mem (stepA ps a n)) (Want.At (wantA ps a n)))
theorem memN_get {mem : List Int} {i : Int} (h0 : 0 ≤ i) (h1 : i < (mem.length : Int)) : getO mem i = some (memN mem i) := by
  rw [getO_lt h0 h1]
  unfold memN
  rw [List.getElem?_eq_getElem (by omega)]
  rfl
theorem deed_holds {ps : List (List Ins)} {a : Atom} {n : Nat} (hn : n < 4) (hk : 1 ≤ Want.Kind (wantA ps a n) ∧ Want.Kind (wantA ps a n) ≤ 3) (hat : 0 ≤ Want.At (wantA ps a n) ∧ Want.At (wantA ps a n) < ((Atom.Mem a).length : Int)) :
    doneB (Atom.Mem a) (deedA ps a n) = true ∧ putD (Atom.Mem a) (deedA ps a n) = Atom.Mem (stepA ps a n) := by
  obtain ⟨w, hw⟩ : ∃ w, w = wantA ps a n := ⟨_, rfl⟩
  have hmem : Atom.Mem (stepA ps a n) = (actS (Atom.Mem a) w).1 := by rw [hw]; rfl
  have hd : deedA ps a n = Deed.mk (n : Int) (Want.Kind w) (Want.At w) (memN (Atom.Mem a) (Want.At w)) (memN (actS (Atom.Mem a) w).1 (Want.At w)) := by
    unfold deedA
    rw [← hw, hmem]
  rw [← hw] at hk hat
  have hlt : (Want.At w).toNat < (Atom.Mem a).length := by omega
  constructor
  · rw [hd]
    unfold doneB
    rw [Bool.and_eq_true, Bool.and_eq_true, Bool.or_eq_true]
    have hnn : (0 : Int) ≤ (n : Int) := by omega
    have hn4 : (n : Int) < 4 := by omega
    refine ⟨decide_eq_true (show 0 ≤ (n : Int) ∧ (n : Int) < 4 ∧ 0 ≤ Want.At w ∧ Want.At w < ((Atom.Mem a).length : Int) ∧ 1 ≤ Want.Kind w ∧ Want.Kind w ≤ 3 from ⟨hnn, hn4, hat.1, hat.2, hk.1, hk.2⟩), decide_eq_true rfl, ?_⟩
    by_cases h1 : Want.Kind w = 1
    · right
      refine decide_eq_true ?_
      show memN (actS (Atom.Mem a) w).1 (Want.At w) = memN (Atom.Mem a) (Want.At w)
      rw [actS_read h1]
    · left
      rw [Bool.not_eq_true']
      exact decide_eq_false h1
  · rw [hd, hmem]
    unfold putD
    simp only [Deed.At_mk, Deed.Val_mk]
    have hon : actOk (Atom.Mem a) w = true := by
      unfold actOk
      simp only [Bool.and_eq_true, decide_eq_true_eq]
      exact ⟨hk.1, hk.2, hat.1, hat.2⟩
    rw [actS_on hon]
    dsimp only
    split
    · unfold memN
      rw [List.getElem?_set_self hlt]
      rfl
    · unfold memN
      rw [List.getElem?_eq_getElem hlt]
      simp

def trailStep (ps : List (List Ins)) (s : Atom × List Deed) (v : Int) : Atom × List Deed :=
  (stepA ps s.1 v.toNat, if touchB (wantA ps s.1 v.toNat) = true then s.2 ++ [deedA ps s.1 v.toNat] else s.2)
def trailS (ps : List (List Ins)) (a0 : Atom) (picks : List Int) : Atom × List Deed := picks.foldl (trailStep ps) (a0, [])
theorem trail_take {ps : List (List Ins)} {a : Atom} {picks : List Int} {i : Nat} (h : i < picks.length) : trailS ps a (picks.take (i + 1)) = trailStep ps (trailS ps a (picks.take i)) picks[i] := by
  unfold trailS
  rw [take_succ_get h, List.foldl_append]
  rfl
structure TInv (ps : List (List Ins)) (N : Nat) (m : Nat) (s : Atom × List Deed) : Prop where
  ok : AOk s.1
  cl : (Atom.Cores s.1).length = ps.length
  right : rightA ps s.1 = true
  ml : (Atom.Mem s.1).length = N
  ol : (Atom.Outs s.1).length ≤ m
  holds : holdsL (List.replicate N 0) s.2 = true
  run : runD (List.replicate N 0) s.2 = Atom.Mem s.1
  dl : s.2.length ≤ m
theorem runD_append (mem : List Int) (l m : List Deed) : runD mem (l ++ m) = runD (runD mem l) m := by
  unfold runD
  rw [List.foldl_append]
theorem tinv_step {ps : List (List Ins)} (hps : progsOk ps) (h4 : ps.length ≤ 4) {N m : Nat} (hN : 1 ≤ N) {s : Atom × List Deed} (I : TInv ps N m s) {n : Nat} (hn : n < ps.length) : TInv ps N (m + 1) (trailStep ps s (n : Int)) := by
  have hc : n < (Atom.Cores s.1).length := by have := I.cl; omega
  obtain ⟨l1, l2, l3⟩ := step_lens ps s.1 n
  have ho := I.ol
  have hd := I.dl
  have hml := I.ml
  have e : trailStep ps s (n : Int) = (stepA ps s.1 n, if touchB (wantA ps s.1 n) = true then s.2 ++ [deedA ps s.1 n] else s.2) := rfl
  rw [e]
  by_cases ht : touchB (wantA ps s.1 n) = true
  · rw [if_pos ht]
    have hk := touch_iff.1 ht
    obtain ⟨d1, d2⟩ := deed_holds (ps := ps) (a := s.1) (n := n) (by omega) hk (wantA_at hps I.ok hc (by omega) hk)
    refine ⟨step_ok hps I.ok hn hc, by rw [← I.cl]; exact l2, step_right hps I.ok I.right hn, by rw [← hml]; exact l1, by dsimp only; omega, ?_, ?_, by dsimp only; rw [List.length_append, List.length_singleton]; omega⟩
    · dsimp only
      rw [holdsL_append, I.holds, I.run]
      simp only [holdsL, d1, Bool.and_self]
    · dsimp only
      rw [runD_append, I.run]
      exact d2
  · rw [if_neg ht]
    have hk : ¬ (1 ≤ Want.Kind (wantA ps s.1 n) ∧ Want.Kind (wantA ps s.1 n) ≤ 3) := fun q => ht (touch_iff.2 q)
    refine ⟨step_ok hps I.ok hn hc, by rw [← I.cl]; exact l2, step_right hps I.ok I.right hn, by rw [← hml]; exact l1, by dsimp only; omega, I.holds, ?_, by dsimp only; omega⟩
    dsimp only
    rw [I.run]
    show Atom.Mem s.1 = (actS (Atom.Mem s.1) (wantA ps s.1 n)).1
    rw [actS_rest hk]

theorem lastW_at {l : List Deed} {a : Int} : ∀ i, i ≤ l.length → 0 ≤ lastW l a i → ∃ d, l[(lastW l a i).toNat]? = some d ∧ Deed.At d = a
  | 0, _, h => by simp [lastW] at h
  | i + 1, hi, h => by
    have hil : i < l.length := by omega
    rw [lastW_succ hil] at h ⊢
    cases hb : wr l[i] && decide (Deed.At l[i] = a)
    · rw [hb] at h
      exact lastW_at i (by omega) h
    · rw [Bool.and_eq_true, decide_eq_true_eq] at hb
      simp only [cond_true]
      exact ⟨l[i], by rw [Int.toNat_natCast, List.getElem?_eq_getElem hil], hb.2⟩
theorem runD_take_len (N : Nat) (l : List Deed) : (runD (List.replicate N 0) l).length = N := by rw [runD_len, List.length_replicate]

def nthQ (ps : List (List Ins)) (picks : List Int) : List Int := picks.map fun v => v % (ps.length : Int)
theorem traceRuns_all (ps : List (List Ins)) (words : Int) (picks : List Int) (at_ : Int) (hK : ∀ p ∈ ps, insOk p) (hw : 0 ≤ words ∧ words < 256) (hpk : ∀ v ∈ picks, 0 ≤ v ∧ v < 256) (hat : 0 ≤ at_ ∧ at_ < 256) : l21_TraceRuns ps words picks at_ = some true := by
  unfold l21_TraceRuns
  rw [r02_Short_eq]
  cases hs : shortP ps
  · rfl
  have hps := short_ok hs hK
  by_cases hp : (150 : Int) < (picks.length : Int)
  · simp [l21_awake, hp]
  have hp1 : picks.length ≤ 1000 := by omega
  obtain ⟨r1, a1, b1⟩ := rem_pos hw.1 (show (0 : Int) < 64 by omega)
  have hw2 : w64 (w64 (words % 64) + 1) = words % 64 + 1 := by rw [w64_id (n := words % 64) (by omega) (by omega), w64_id (by omega) (by omega)]
  have hni := new_inline hps (words % 64 + 1)
  simp only [l21_awake, Bool.not_true, Bool.false_eq_true, if_false, Option.bind_some, hp, decide_false, r1, hw2]
  rw [hni]
  cases hn : newOk ps (words % 64 + 1)
  · rfl
  obtain ⟨h1, h2, h3, h4, h5, h6⟩ := newA_ok hps hn
  have h4' : ps.length ≤ 4 := by
    unfold allP at h5
    rw [Bool.and_eq_true, decide_eq_true_eq] at h5
    exact h5.1.2
  obtain ⟨N, hN⟩ : ∃ N : Nat, words % 64 + 1 = (N : Int) := ⟨(words % 64 + 1).toNat, by omega⟩
  obtain ⟨a0, ha0⟩ : ∃ a, a = newA ps (words % 64 + 1) := ⟨_, rfl⟩
  have hr0 : rightA ps a0 = true := by rw [ha0]; exact newA_right hps hn
  have ho0 : Atom.Outs a0 = [] := by rw [ha0]; rfl
  have hm0 : Atom.Mem a0 = List.replicate N 0 := by
    rw [ha0]
    show List.replicate (words % 64 + 1).toNat 0 = _
    rw [hN, Int.toNat_natCast]
  rw [← ha0] at h1 h2
  rw [← ha0, hN]
  have hN1 : 1 ≤ N := by omega
  have hN64 : N ≤ 64 := by omega
  have hnl : (nthQ ps picks).length = picks.length := by simp [nthQ]
  have hnth : ∀ i (hi : i < picks.length), ∃ n : Nat, remO (w64 picks[i]) (ps.length : Int) = some (n : Int) ∧ n < ps.length ∧ (nthQ ps picks)[i]'(by omega) = (n : Int) := fun i hi => by
    obtain ⟨n, n1, n2⟩ := rem_nat picks[i] (hpk _ (List.getElem_mem hi)) ps.length h6
    refine ⟨n, n1, n2, ?_⟩
    have hw' : w64 picks[i] = picks[i] := by
      have := hpk _ (List.getElem_mem hi)
      exact w64_id (by omega) (by omega)
    obtain ⟨z1, z2, z3⟩ := rem_pos (hpk _ (List.getElem_mem hi)).1 (show (0 : Int) < (ps.length : Int) by omega)
    rw [hw', z1] at n1
    have : (nthQ ps picks)[i]'(by omega) = picks[i] % (ps.length : Int) := by simp [nthQ]
    rw [this]
    exact Option.some.inj n1
  have inv : ∀ i, i ≤ picks.length → TInv ps N i (trailS ps a0 ((nthQ ps picks).take i)) := fun i => by
    induction i with
    | zero =>
      intro _
      exact ⟨h1, h2, hr0, by rw [List.take_zero]; show (Atom.Mem a0).length = N; rw [hm0, List.length_replicate], by rw [List.take_zero]; show (Atom.Outs a0).length ≤ 0; rw [ho0]; simp, rfl, by rw [List.take_zero]; show List.replicate N 0 = Atom.Mem a0; rw [hm0], Nat.le_refl _⟩
    | succ i ih =>
      intro hi
      obtain ⟨n, n1, n2, n3⟩ := hnth i (by omega)
      rw [trail_take (by omega), n3]
      exact tinv_step hps h4' hN1 (ih (by omega)) n2
  have lp := loop_good (f := l21_TraceRuns_L1 ps picks (N : Int)) (n := picks.length) (e := (Sum.inl (Atom.Mem (trailS ps a0 (nthQ ps picks)).1, (trailS ps a0 (nthQ ps picks)).2) : ((List Int) × (List Deed)) ⊕ Bool))
    (fun i => ((i : Int), Atom.Mem (trailS ps a0 ((nthQ ps picks).take i)).1, Atom.Cores (trailS ps a0 ((nthQ ps picks).take i)).1, Atom.Outs (trailS ps a0 ((nthQ ps picks).take i)).1, (trailS ps a0 ((nthQ ps picks).take i)).2)) (fun i hi => by
    have I := inv i (by omega)
    obtain ⟨n, n1, n2, n3⟩ := hnth i hi
    rw [trail_take (by omega), n3]
    obtain ⟨s, hs⟩ : ∃ s, s = trailS ps a0 ((nthQ ps picks).take i) := ⟨_, rfl⟩
    rw [← hs] at I ⊢
    have hlt : (i : Int) < (List.length picks : Int) := by omega
    have hcl := I.cl
    have hml := I.ml
    have hol := I.ol
    have hdl := I.dl
    have hnc : n < (Atom.Cores s.1).length := by omega
    obtain ⟨p1, p2⟩ := progAt_get n2
    obtain ⟨c1, c2⟩ := coreAt_get hnc
    obtain ⟨k1, k2⟩ := hps.2 _ p2
    have hst : atom_Step ps (Atom.mk (Atom.Mem s.1) (Atom.Cores s.1) (Atom.Outs s.1)) (n : Int) = some (stepA ps s.1 n, 0) := atom_Step_eq hps I.ok (by omega) I.right n2
    have hwt : core_Wants (progAt ps n) (coreAt (Atom.Cores s.1) n) (N : Int) = some (wantA ps s.1 n) := by
      rw [core_Wants_all (by omega) (I.ok.regs _ c2) (by omega)]
      unfold wantA
      rw [hml]
    have e : trailStep ps s (n : Int) = (stepA ps s.1 n, if touchB (wantA ps s.1 n) = true then s.2 ++ [deedA ps s.1 n] else s.2) := rfl
    rw [e]
    unfold l21_TraceRuns_L1
    simp only [hlt, decide_true, if_true, getO_in hi, n1, p1, c1, hwt, hst, Option.bind_some, Bool.not_true, Bool.false_eq_true, if_false, w64_succ (show i < 4611686018427387904 by omega)]
    have htb : ((decide ((1 : Int) ≤ (Want.Kind (wantA ps s.1 n)))) && (decide ((Want.Kind (wantA ps s.1 n)) ≤ (3 : Int)))) = touchB (wantA ps s.1 n) := rfl
    rw [htb]
    by_cases ht : touchB (wantA ps s.1 n) = true
    · obtain ⟨t1, t2⟩ := wantA_at hps I.ok hnc (by omega) (touch_iff.1 ht)
      obtain ⟨l1, l2, l3⟩ := step_lens ps s.1 n
      have hap : ∀ x, appO 32 s.2 ([x] : List Deed) = some (s.2 ++ [x]) := fun x => appO_small (by simp; omega) (by omega)
      simp only [ht, if_true, memN_get t1 t2, memN_get (mem := Atom.Mem (stepA ps s.1 n)) t1 (by omega), hap, Option.bind_some]
      rfl
    · simp only [ht, if_false, Option.bind_some, Bool.false_eq_true]) (by
    have e : (nthQ ps picks).take picks.length = nthQ ps picks := by rw [← hnl, List.take_length]
    unfold l21_TraceRuns_L1
    simp only [show ¬ (picks.length : Int) < (List.length picks : Int) by omega, decide_false, Bool.false_eq_true, if_false, e])
  rw [List.take_zero, show trailS ps a0 [] = (a0, []) from rfl, show (((0 : Nat) : Int)) = 0 from rfl] at lp
  dsimp only at lp
  rw [ho0] at lp
  have I := inv picks.length (Nat.le_refl _)
  have e : (nthQ ps picks).take picks.length = nthQ ps picks := by rw [← hnl, List.take_length]
  rw [e] at I
  obtain ⟨s, hs'⟩ : ∃ s, s = trailS ps a0 (nthQ ps picks) := ⟨_, rfl⟩
  rw [← hs'] at I lp
  obtain ⟨l, hl⟩ : ∃ l, l = s.2 := ⟨_, rfl⟩
  have hdl := I.dl
  have hhl := I.holds
  have hrun := I.run
  have hml := I.ml
  rw [← hl] at hdl hhl hrun lp
  have hho : holdsS l (N : Int) = true := by rw [holds_iff hN1 hN64]; exact hhl
  have haf : afterS l (N : Int) = (Atom.Mem s.1, 0) := by
    unfold afterS
    rw [if_pos hho, Int.toNat_natCast, memD_run l N l.length (Nat.le_refl _), List.take_length, hrun]
  have hwr := r04_Words_refl (Atom.Mem s.1) (by omega)
  have hq2 : quoO .i64 (List.length l : Int) (2 : Int) = some ((l.length / 2 : Nat) : Int) := by
    unfold quoO
    rw [if_neg (by omega), Int.tdiv_eq_ediv_of_nonneg (by omega)]
    have hh : ((l.length : Int) / (2 : Int)) = ((l.length / 2 : Nat) : Int) := (Int.natCast_ediv l.length 2).symm
    rw [hh]
    exact congrArg some (w64_nat (by omega))
  have hrg : rngO (List.length l : Int) (0 : Int) ((l.length / 2 : Nat) : Int) = some ((l.length / 2 : Nat) : Int) := by unfold rngO; rw [if_pos (by omega)]
  have hsb : subO l (0 : Int) ((l.length / 2 : Nat) : Int) = some (l.take (l.length / 2)) := by
    have := subO_in (l := l) (i := 0) (j := l.length / 2) (by omega) (by omega)
    rw [List.drop_zero] at this
    exact this
  have hhalf : holdsS (l.take (l.length / 2)) (N : Int) = true := by
    rw [holds_iff hN1 hN64]
    have := hhl
    rw [← List.take_append_drop (l.length / 2) l, holdsL_append, Bool.and_eq_true] at this
    exact this.1
  simp only [if_true, decide_true, Bool.not_true, Bool.false_eq_true, if_false, Option.bind_some, lp, orExit_inl, trace_After_eq l (by omega), haf, hwr, hq2, hrg, hsb, trace_Holds_eq _ (show (l.take (l.length / 2)).length ≤ 1000 by simp; omega), hhalf]
  by_cases h0 : (l.length : Int) = 0
  · simp only [h0, decide_true, if_true]
  have hpos : 1 ≤ l.length := by omega
  obtain ⟨k, k1, k2⟩ := rem_nat at_ hat l.length hpos
  have hap : appO 32 ([] : List Deed) l = some l := by rw [appO_small (by simp; omega) (by omega), List.nil_append]
  obtain ⟨tl, htl⟩ : ∃ tl, tl = l.set k (Deed.setWas l[k] (wu32 (Deed.Was l[k] + 1))) := ⟨_, rfl⟩
  have hset : setO l (k : Int) (Deed.setWas l[k] (wu32 (Deed.Was l[k] + 1))) = some tl := by rw [setO_in k2, htl]
  have htll : tl.length = l.length := by rw [htl, List.length_set]
  have allok : ∀ j, j < l.length → okD l N j = true := by
    have := hho
    unfold holdsS at this
    rw [Bool.and_eq_true, decide_eq_true_eq, decide_eq_true_eq, Int.toNat_natCast] at this
    unfold firstD at this
    exact firstI_all.1 this.2
  have memsame : ∀ j, j ≤ k → memD tl N j = memD l N j := fun j hj => by
    rw [memD_run tl N j (by omega), memD_run l N j (by omega), htl, List.take_set_of_le (by omega)]
  have hfirst : firstD tl N = k := by
    unfold firstD
    refine firstI_at (by omega) ?_ fun j hj => ?_
    · unfold okD
      rw [optT_in (by omega), memsame k (Nat.le_refl _)]
      have hg : tl[k]'(by omega) = Deed.setWas l[k] (wu32 (Deed.Was l[k] + 1)) := by
        have : tl[k]? = some (Deed.setWas l[k] (wu32 (Deed.Was l[k] + 1))) := by rw [htl, List.getElem?_set_self k2]
        rw [List.getElem?_eq_getElem (by omega)] at this
        exact Option.some.inj this
      rw [hg]
      have hok := allok k k2
      unfold okD at hok
      rw [optT_in k2] at hok
      rw [Bool.eq_false_iff]
      intro q
      unfold doneB at hok q
      rw [Bool.and_eq_true, Bool.and_eq_true] at hok q
      have e1 : memN (memD l N k) (Deed.At l[k]) = Deed.Was l[k] := of_decide_eq_true hok.2.1
      have e2 : memN (memD l N k) (Deed.At l[k]) = wu32 (Deed.Was l[k] + 1) := of_decide_eq_true q.2.1
      rw [e1] at e2
      have e3 : wu32 (Deed.Was l[k] + 1) = (Deed.Was l[k] + 1) % 4294967296 := by
        show IntKind.wrap .u32 (Deed.Was l[k] + 1) = _
        simp [IntKind.wrap, IntKind.bits, IntKind.signed]
      rw [e3] at e2
      omega
    · unfold okD
      have hjl : j < l.length := by omega
      have := allok j hjl
      unfold okD at this
      rw [memsame j (by omega), htl, List.getElem?_set_ne (by omega)]
      exact this
  have hth : holdsS tl (N : Int) = false := by
    unfold holdsS
    rw [Int.toNat_natCast, hfirst, decide_eq_false (show ¬ k = tl.length by omega), Bool.and_false]
  have htf : firstS tl (N : Int) = (k : Int) := by
    unfold firstS
    rw [if_pos (by omega), Int.toNat_natCast, hfirst]
  have hse : getO (seesS l l.length) (k : Int) = some (lastW l (Deed.At l[k]) k) := by
    have hsl : (seesS l l.length).length = l.length := by simp [seesS]
    rw [getO_in (by omega)]
    unfold seesS
    rw [List.getElem_map, List.getElem_range, List.getElem?_eq_getElem k2]
    rfl
  have hokk := allok k k2
  unfold okD at hokk
  rw [optT_in k2] at hokk
  obtain ⟨d1, d2⟩ := doneB_at hokk
  rw [memD_len] at d2
  have hwas : Deed.Was l[k] = wasW l (Deed.At l[k]) k := by
    rw [← memD_was k (by omega) (fun j hj => allok j (by omega)) _ d1 d2]
    unfold doneB at hokk
    simp only [Bool.and_eq_true, decide_eq_true_eq] at hokk
    exact hokk.2.1.symm
  simp only [h0, decide_false, Bool.false_eq_true, if_false, k1, hap, idxO_in k2, getO_in k2, hset, Option.bind_some, trace_Holds_eq tl (by omega), hth, trace_First_eq tl (by omega), htf, decide_true, Bool.not_true, trace_Sees_eq l (by omega), hse]
  by_cases hneg : lastW l (Deed.At l[k]) k < 0
  · simp only [hneg, decide_true, if_true]
    rw [hwas]
    unfold wasW
    rw [if_neg (by omega)]
    rfl
  · obtain ⟨d, g1, g2⟩ := lastW_at (l := l) (a := Deed.At l[k]) k (by omega) (by omega)
    obtain ⟨i1, i2⟩ := lastW_in l (Deed.At l[k]) k
    obtain ⟨q, hq⟩ : ∃ q : Nat, lastW l (Deed.At l[k]) k = (q : Int) := ⟨(lastW l (Deed.At l[k]) k).toNat, by omega⟩
    have hql : q < l.length := by omega
    have hwv : Deed.Was l[k] = Deed.Val l[q] := by
      rw [hwas]
      unfold wasW
      rw [if_pos (by omega), hq, Int.toNat_natCast, List.getElem?_eq_getElem hql]
    have hdq : d = l[q] := by
      rw [hq, Int.toNat_natCast, List.getElem?_eq_getElem hql] at g1
      exact (Option.some.inj g1).symm
    rw [hdq] at g2
    have hqn : ¬ (q : Int) < 0 := by omega
    simp only [hq, hqn, decide_false, Bool.false_eq_true, if_false, idxO_in hql, getO_in hql, Option.bind_some, hwv, g2, decide_true, if_true]

theorem traceRuns_ok (x : Ty.Tup F_l21_TraceRuns.ps) (h : OkL F_l21_TraceRuns.ps x) : F_l21_TraceRuns.sem x = some true :=
  traceRuns_all x.1 x.2.1 x.2.2.1 x.2.2.2 (fun p hp y hy => by
    have := ((h.1.2 p hp).2 y hy).2.2.2.2
    exact ⟨this.1, Int.lt_of_le_of_lt this.2 (by decide)⟩)
    ⟨h.2.1.1, Int.lt_of_le_of_lt h.2.1.2 (by decide)⟩
    (fun y hy => by
      have := h.2.2.1.2 y hy
      exact ⟨this.1, Int.lt_of_le_of_lt this.2 (by decide)⟩)
    ⟨h.2.2.2.1, Int.lt_of_le_of_lt h.2.2.2.2 (by decide)⟩

end Go.Proofs.Ytihchahfnhoapaa
