/- Layer 6: the law PoolKeeps on typed data. -/
import Derived.Test.YtihchahfnhoapaaPK06f
set_option linter.unusedSimpArgs false
set_option linter.unusedVariables false
namespace Go.Proofs.Ytihchahfnhoapaa
open Go.SX

theorem decMsg (a b : Msg) (h : a = b) : @decide (a = b) (Ty.dec tMsg a b) = true := @decide_eq_true (a = b) (Ty.dec tMsg a b) h
def KState (i : Nat) (ps : List PE) : Int × Pool × List Msg × List (List Int) := ((i : Int), poolE ps, msgsE ps, spoE ps)
structure DoOk (d : l06_Do) : Prop where
  k : 0 ≤ l06_Do.Kind d ∧ l06_Do.Kind d < 256
  m : (0 ≤ Msg.Num (l06_Do.Msg d) ∧ Msg.Num (l06_Do.Msg d) < 4294967296) ∧ (0 ≤ Msg.Val (l06_Do.Msg d) ∧ Msg.Val (l06_Do.Msg d) < 4294967296)
  a : 0 ≤ l06_Do.At d ∧ l06_Do.At d < 256
  b : 0 ≤ l06_Do.Bit d ∧ l06_Do.Bit d < 256
theorem less_list {α : Type} {b : Nat} (hb : b ≤ 10000) {l : List α} {k : Nat} (hk : k < l.length) (hl : l.length ≤ 64) :
    rngO (List.length l : Int) (0 : Int) (k : Int) = some (k : Int) ∧ subO l (0 : Int) (k : Int) = some (l.take k) ∧ appO b ([] : List α) (l.take k) = some (l.take k) ∧ w64 ((k : Int) + 1) = ((k + 1 : Nat) : Int) ∧
    rngO (List.length l : Int) ((k + 1 : Nat) : Int) (List.length l : Int) = some (List.length l : Int) ∧ subO l ((k + 1 : Nat) : Int) (List.length l : Int) = some (l.drop (k + 1)) ∧ appO b (l.take k) (l.drop (k + 1)) = some (l.eraseIdx k) := by
  refine ⟨by unfold rngO; rw [if_pos (by omega)], ?_, ?_, w64_succ (by omega), by unfold rngO; rw [if_pos (by omega)], ?_, ?_⟩
  · have := subO_in (l := l) (i := 0) (j := k) (by omega) (by omega)
    rw [List.drop_zero] at this
    exact this
  · rw [appO_small (by simp; omega) hb, List.nil_append]
  · rw [subO_in (by omega) (Nat.le_refl _), List.take_length]
  · rw [appO_small (by simp; omega) hb, List.eraseIdx_eq_take_drop_succ]
theorem map_erase {α β : Type} (f : α → β) (l : List α) (k : Nat) : (l.map f).eraseIdx k = (l.eraseIdx k).map f := by
  rw [List.eraseIdx_eq_take_drop_succ, List.eraseIdx_eq_take_drop_succ, List.map_append, List.map_take, List.map_drop]

theorem keep_step {l : List l06_Do} {i : Nat} (hi : i < l.length) (h100 : i < 100) (hd : DoOk l[i]) {ps : List PE} (K : KInv ps) : ∃ ps', KInv ps' ∧ l06_PoolKeeps_L3 l (KState i ps) = some (.inl (KState (i + 1) ps')) := by
  have hlt1 : (i : Int) < (List.length l : Int) := by omega
  have hlt2 : (i : Int) < 100 := by omega
  have hK := K.len
  have hml : (msgsE ps).length = ps.length := List.length_map _
  have hsl : (spoE ps).length = ps.length := List.length_map _
  have hfl := poolE_len ps
  have hget := getO_in hi
  have hw := w64_succ (show i < 4611686018427387904 by omega)
  generalize l[i] = d at *
  obtain ⟨x1, x2, x3⟩ := rem_pos (a := l06_Do.Kind d) (n := 5) hd.k.1 (by omega)
  have hwa : w64 (l06_Do.At d) = l06_Do.At d := by have := hd.a; exact w64_id (by omega) (by omega)
  have hwb : w64 (l06_Do.Bit d) = l06_Do.Bit d := by have := hd.b; exact w64_id (by omega) (by omega)
  -- what is looked at behind each
  have fin : ∀ ps', KInv ps' → (decide ((List.length (Pool.Frames (poolE ps')) : Int) = (List.length (msgsE ps') : Int)) = true) ∧ pool_Right (poolE ps') = some true := fun ps' K' => by
    have h1 := poolE_len ps'
    have h2 : (msgsE ps').length = ps'.length := List.length_map _
    refine ⟨decide_eq_true (by omega), ?_⟩
    rw [pool_Right_eq _ (by have := K'.len; omega), poolE_right K']
  generalize hv : l06_Do.Kind d % 5 = v at *
  by_cases hne : 0 < ps.length
  · -- there is one
    obtain ⟨y1, y2, y3⟩ := rem_pos (a := l06_Do.At d) (n := (ps.length : Int)) hd.a.1 (by omega)
    obtain ⟨k, hk⟩ : ∃ k : Nat, l06_Do.At d % (ps.length : Int) = (k : Int) := ⟨(l06_Do.At d % (ps.length : Int)).toNat, by omega⟩
    rw [hk] at y1 y3
    have hkl : k < ps.length := by omega
    have hpos : (0 : Int) < (List.length (msgsE ps) : Int) := by omega
    have hpre : (remO (w64 (l06_Do.At d)) (List.length (msgsE ps) : Int)) = some (k : Int) := by rw [hwa, hml]; exact y1
    by_cases v0 : v = 0
    · rcases pool_Send_eq (poolE ps) (good_small (poolE_good K)) (l06_Do.Msg d) hd.m.1 hd.m.2 with ⟨x, s1, s2, s3, s4, s5⟩ | ⟨e, e1, e2, e3⟩
      · have K' : KInv (ps ++ [(x, List.replicate 19 0)]) := by
          refine ⟨fun a ha => ?_, by rw [List.length_append, List.length_singleton]; omega⟩
          rcases List.mem_append.1 ha with q | q
          · exact K.ok a q
          · rw [List.mem_singleton.1 q]; exact ⟨s1, zeros_byte⟩
        have hp' : Pool.mk (Pool.Frames (poolE ps) ++ [castL (frameN x)]) = poolE (ps ++ [(x, List.replicate 19 0)]) := by
          unfold poolE
          rw [List.map_append]
          show _ = Pool.mk (_ ++ [castL (xorL (frameN x) (List.replicate 19 0))])
          rw [xor_zeros (frameN_byte s1)]
          rfl
        rw [hp'] at s5
        have hlt64 : (List.length (msgsE ps) : Int) < 64 := by omega
        have hmay : r05_May (l06_Do.Msg d) = some true := by rw [r05_May_eq, s2, nums_may s1]
        have am : appO 64 (msgsE ps) ([l06_Do.Msg d] : List Msg) = some (msgsE (ps ++ [(x, List.replicate 19 0)])) := by
          rw [appO_small (by simp; omega) (by omega)]
          unfold msgsE
          rw [List.map_append, s2]
          rfl
        have asp : appO 19 (spoE ps) ([([(0 : Int), (0 : Int), (0 : Int), (0 : Int), (0 : Int), (0 : Int), (0 : Int), (0 : Int), (0 : Int), (0 : Int), (0 : Int), (0 : Int), (0 : Int), (0 : Int), (0 : Int), (0 : Int), (0 : Int), (0 : Int), (0 : Int)] : List Int)] : List (List Int)) = some (spoE (ps ++ [(x, List.replicate 19 0)])) := by
          rw [appO_small (by simp; omega) (by omega)]
          unfold spoE
          rw [List.map_append]
          rfl
        obtain ⟨f1, f2⟩ := fin _ K'
        refine ⟨_, K', ?_⟩
        unfold l06_PoolKeeps_L3 KState
        simp only [hlt1, hlt2, decide_true, Bool.and_self, if_true, hget, Option.bind_some, hpos, hpre, x1, v0, s5, hlt64, hmay, Bool.not_true, Bool.false_eq_true, if_false, am, asp, orExit_inl, f1, f2, hw]
      · obtain ⟨f1, f2⟩ := fin _ K
        have hmay : (List.length (msgsE ps) : Int) < 64 → r05_May (l06_Do.Msg d) = some false := fun q => by
          rw [r05_May_eq]
          cases hm : mayM (l06_Do.Msg d)
          · rfl
          · have := e3 hm (poolE_right K)
            omega
        refine ⟨ps, K, ?_⟩
        unfold l06_PoolKeeps_L3 KState
        by_cases q : (List.length (msgsE ps) : Int) < 64
        · simp only [hlt1, hlt2, decide_true, Bool.and_self, if_true, hget, Option.bind_some, hpos, hpre, x1, v0, e2, e1, q, hmay q, decide_false, Bool.not_true, Bool.false_eq_true, if_false, orExit_inl, f1, f2, hw]
        · simp only [hlt1, hlt2, decide_true, Bool.and_self, if_true, hget, Option.bind_some, hpos, hpre, x1, v0, e2, e1, q, decide_false, Bool.not_true, Bool.false_eq_true, if_false, orExit_inl, f1, f2, hw]
    · by_cases v1 : v = 1
      · have K' := kinv_erase K k
        obtain ⟨f1, f2⟩ := fin _ K'
        have t1 := take_is K hkl
        have hc := count_eq K hkl
        obtain ⟨m1, m2, m3, m4, m5, m6, m7⟩ := less_list (b := 64) (by omega) (l := msgsE ps) (k := k) (by omega) (by omega)
        obtain ⟨s1, s2, s3, s4, s5, s6, s7⟩ := less_list (b := 19) (by omega) (l := spoE ps) (k := k) (by omega) (by omega)
        have em : (msgsE ps).eraseIdx k = msgsE (ps.eraseIdx k) := map_erase _ _ _
        have es : (spoE ps).eraseIdx k = spoE (ps.eraseIdx k) := map_erase _ _ _
        rw [em] at m7
        rw [es] at s7
        have hn0 : ¬ (List.length (msgsE ps) : Int) = 0 := by omega
        have hkm : k < (msgsE ps).length := by omega
        have hgm : getO (msgsE ps) (k : Int) = some ps[k].1.msg := by
          have : (msgsE ps)[k] = ps[k].1.msg := by
            show (ps.map fun a => a.1.msg)[k]'(hkm) = _
            exact List.getElem_map _
          rw [getO_in hkm, this]
        refine ⟨_, K', ?_⟩
        unfold l06_PoolKeeps_L3 KState
        by_cases c0 : cntB ps[k].2 152 = 0
        · have r0 := readS_zero K hkl c0
          rw [r0] at t1
          rw [c0, show (((0 : Nat) : Int)) = 0 from rfl] at hc
          have hdm := decMsg ps[k].1.msg ps[k].1.msg rfl
          simp only [hlt1, hlt2, decide_true, Bool.and_self, if_true, hget, Option.bind_some, hpos, hpre, x1, v0, v1, show ¬ (1 : Int) = 0 by omega, show ¬ (0 : Int) = 1 by omega, decide_false, t1, hn0, hc, Bool.not_true, Bool.false_eq_true, if_false, idxO_in hkm, hgm, hdm, m1, m2, m3, m4, m5, m6, m7, s1, s2, s3, s4, s5, s6, s7, orExit_inl, f1, f2, hw]
        · by_cases c1 : cntB ps[k].2 152 = 1
          · have r1 := readS_one K hkl c1
            rw [r1] at t1
            rw [c1, show (((1 : Nat) : Int)) = 1 from rfl] at hc
            simp only [hlt1, hlt2, decide_true, Bool.and_self, if_true, hget, Option.bind_some, hpos, hpre, x1, v0, v1, show ¬ (1 : Int) = 0 by omega, decide_false, t1, hn0, hc, Bool.not_true, Bool.false_eq_true, if_false, m1, m2, m3, m4, m5, m6, m7, s1, s2, s3, s4, s5, s6, s7, orExit_inl, f1, f2, hw]
          · have c0' : ¬ (cntB ps[k].2 152 : Int) = 0 := by omega
            have c1' : ¬ (cntB ps[k].2 152 : Int) = 1 := by omega
            simp only [hlt1, hlt2, decide_true, Bool.and_self, if_true, hget, Option.bind_some, hpos, hpre, x1, v0, v1, show ¬ (1 : Int) = 0 by omega, decide_false, t1, hn0, hc, c0', c1', Bool.not_true, Bool.false_eq_true, if_false, m1, m2, m3, m4, m5, m6, m7, s1, s2, s3, s4, s5, s6, s7, orExit_inl, f1, f2, hw]
      · by_cases v2 : v = 2
        · have K' := kinv_erase K k
          obtain ⟨f1, f2⟩ := fin _ K'
          have t1 := drop_is K hkl
          obtain ⟨m1, m2, m3, m4, m5, m6, m7⟩ := less_list (b := 64) (by omega) (l := msgsE ps) (k := k) (by omega) (by omega)
          obtain ⟨s1, s2, s3, s4, s5, s6, s7⟩ := less_list (b := 19) (by omega) (l := spoE ps) (k := k) (by omega) (by omega)
          have em : (msgsE ps).eraseIdx k = msgsE (ps.eraseIdx k) := map_erase _ _ _
          have es : (spoE ps).eraseIdx k = spoE (ps.eraseIdx k) := map_erase _ _ _
          rw [em] at m7
          rw [es] at s7
          refine ⟨_, K', ?_⟩
          unfold l06_PoolKeeps_L3 KState
          simp only [hlt1, hlt2, decide_true, Bool.and_self, if_true, hget, Option.bind_some, hpos, hpre, x1, v0, v1, v2, show ¬ (2 : Int) = 0 by omega, show ¬ (2 : Int) = 1 by omega, decide_false, t1, Bool.not_true, Bool.false_eq_true, if_false, m1, m2, m3, m4, m5, m6, m7, s1, s2, s3, s4, s5, s6, s7, orExit_inl, f1, f2, hw]
        · have hkp : k < (Pool.Frames (poolE ps)).length := by omega
          by_cases v3 : v = 3
          · have t1 := twice_is (poolE ps) (poolE_good K) k hkp (poolE_right K)
            by_cases h64 : 64 ≤ (Pool.Frames (poolE ps)).length
            · rw [if_pos h64] at t1
              obtain ⟨f1, f2⟩ := fin _ K
              have hn64 : ¬ (List.length (msgsE ps) : Int) < 64 := by omega
              refine ⟨ps, K, ?_⟩
              unfold l06_PoolKeeps_L3 KState
              simp only [hlt1, hlt2, decide_true, Bool.and_self, if_true, hget, Option.bind_some, hpos, hpre, x1, v0, v1, v2, v3, show ¬ (3 : Int) = 0 by omega, show ¬ (3 : Int) = 1 by omega, show ¬ (3 : Int) = 2 by omega, show ¬ (6 : Int) = 0 by omega, decide_false, t1, hn64, cond_true, Bool.not_true, Bool.false_eq_true, if_false, orExit_inl, f1, f2, hw]
            · rw [if_neg h64] at t1
              have K' : KInv (ps ++ [ps[k]]) := by
                refine ⟨fun a ha => ?_, by rw [List.length_append, List.length_singleton]; omega⟩
                rcases List.mem_append.1 ha with q | q
                · exact K.ok a q
                · rw [List.mem_singleton.1 q]; exact K.ok _ (List.getElem_mem hkl)
              obtain ⟨f1, f2⟩ := fin _ K'
              have hp' : Pool.mk (Pool.Frames (poolE ps) ++ [(Pool.Frames (poolE ps))[k]]) = poolE (ps ++ [ps[k]]) := by
                rw [poolE_get hkl]
                unfold poolE
                rw [List.map_append]
                rfl
              rw [hp'] at t1
              have hn64 : (List.length (msgsE ps) : Int) < 64 := by omega
              have hkm : k < (msgsE ps).length := by omega
              have hks : k < (spoE ps).length := by omega
              have hgm : getO (msgsE ps) (k : Int) = some ps[k].1.msg := by
                have : (msgsE ps)[k] = ps[k].1.msg := by
                  show (ps.map fun a => a.1.msg)[k]'(hkm) = _
                  exact List.getElem_map _
                rw [getO_in hkm, this]
              have hgs : getO (spoE ps) (k : Int) = some (castL ps[k].2) := by
                have : (spoE ps)[k] = castL ps[k].2 := by
                  show (ps.map fun a => castL a.2)[k]'(hks) = _
                  exact List.getElem_map _
                rw [getO_in hks, this]
              have am : appO 64 (msgsE ps) ([ps[k].1.msg] : List Msg) = some (msgsE (ps ++ [ps[k]])) := by
                rw [appO_small (by simp; omega) (by omega)]
                unfold msgsE
                rw [List.map_append]
                rfl
              have asp : appO 19 (spoE ps) ([castL ps[k].2] : List (List Int)) = some (spoE (ps ++ [ps[k]])) := by
                rw [appO_small (by simp; omega) (by omega)]
                unfold spoE
                rw [List.map_append]
                rfl
              refine ⟨_, K', ?_⟩
              unfold l06_PoolKeeps_L3 KState
              simp only [hlt1, hlt2, decide_true, Bool.and_self, if_true, hget, Option.bind_some, hpos, hpre, x1, v0, v1, v2, v3, show ¬ (3 : Int) = 0 by omega, show ¬ (3 : Int) = 1 by omega, show ¬ (3 : Int) = 2 by omega, decide_false, t1, hn64, cond_true, Bool.not_true, Bool.false_eq_true, if_false, idxO_in hkm, idxO_in hks, hgm, hgs, am, asp, orExit_inl, f1, f2, hw]
          · obtain ⟨z1, z2, z3⟩ := rem_pos (a := l06_Do.Bit d) (n := 152) hd.b.1 (by omega)
            obtain ⟨t, ht⟩ : ∃ t : Nat, l06_Do.Bit d % 152 = (t : Int) := ⟨(l06_Do.Bit d % 152).toNat, by omega⟩
            rw [ht] at z1 z3
            have ht152 : t < 152 := by omega
            obtain ⟨o1, o2⟩ := K.ok _ (List.getElem_mem hkl)
            have hfb := frE_byte K (List.getElem_mem hkl)
            have t1 := spoil_is (poolE ps) (poolE_good K) k hkp (poolE_right K) t ht152 (poolE_get hkl) hfb
            have K' : KInv (ps.set k (ps[k].1, xorL ps[k].2 (unitN t))) := by
              refine ⟨fun a ha => ?_, by rw [List.length_set]; omega⟩
              rcases List.mem_or_eq_of_mem_set ha with q | q
              · exact K.ok a q
              · rw [q]; exact ⟨o1, xorL_byte o2 (unitN_byte t)⟩
            obtain ⟨f1, f2⟩ := fin _ K'
            have hp' : Pool.mk ((Pool.Frames (poolE ps)).set k (castL (xorL (frE ps[k]) (unitN t)))) = poolE (ps.set k (ps[k].1, xorL ps[k].2 (unitN t))) := by
              have e1 : castL (frE (ps[k].1, xorL ps[k].2 (unitN t))) = castL (xorL (frE ps[k]) (unitN t)) := by
                show castL (xorL (frameN ps[k].1) (xorL ps[k].2 (unitN t))) = castL (xorL (xorL (frameN ps[k].1) ps[k].2) (unitN t))
                rw [xorL_assoc (frameN_byte o1) o2 (unitN_byte t)]
              unfold poolE
              rw [List.map_set, e1]
              rfl
            rw [hp'] at t1
            have hme : msgsE (ps.set k (ps[k].1, xorL ps[k].2 (unitN t))) = msgsE ps := by
              unfold msgsE
              rw [List.map_set]
              apply List.ext_getElem?
              intro j
              rw [List.getElem?_set]
              split
              · rename_i hj
                subst hj
                rw [List.length_map, if_pos hkl, List.getElem?_map, List.getElem?_eq_getElem hkl]
                rfl
              · rfl
            rw [hme] at f1
            have hks : k < (spoE ps).length := by omega
            have hgs : getO (spoE ps) (k : Int) = some (castL ps[k].2) := by
              have : (spoE ps)[k] = castL ps[k].2 := by
                show (ps.map fun a => castL a.2)[k]'(hks) = _
                exact List.getElem_map _
              rw [getO_in hks, this]
            have hcl : (castL ps[k].2).length = 19 := by rw [castL_len, o2.len]
            have ht8 : t / 8 < (castL ps[k].2).length := by omega
            have hlc := o2.len
            have hgd : ps[k].2.getD (t / 8) 0 = (ps[k].2)[t / 8]'(by omega) := by rw [List.getD_eq_getElem?_getD, List.getElem?_eq_getElem (by omega)]; rfl
            have hgb : getO (castL ps[k].2) ((t / 8 : Nat) : Int) = some ((ps[k].2.getD (t / 8) 0 : Nat) : Int) := by
              rw [getO_in ht8, castL_get (by omega), hgd]
            have hx : bXor .u8 ((ps[k].2.getD (t / 8) 0 : Nat) : Int) ((2 ^ (t % 8) : Nat) : Int) = ((ps[k].2.getD (t / 8) 0 ^^^ 2 ^ (t % 8) : Nat) : Int) := xor_is8 _ _ (getD_lt o2 _) (pow8 t)
            have hsb : setO (castL ps[k].2) ((t / 8 : Nat) : Int) ((ps[k].2.getD (t / 8) 0 ^^^ 2 ^ (t % 8) : Nat) : Int) = some (castL (xorL ps[k].2 (unitN t))) := by
              rw [setO_in ht8, ← turn_is o2 t ht152]
              unfold castL
              rw [List.map_set]
            have hss : setO (spoE ps) (k : Int) (castL (xorL ps[k].2 (unitN t))) = some (spoE (ps.set k (ps[k].1, xorL ps[k].2 (unitN t)))) := by
              rw [setO_in hks]
              unfold spoE
              rw [List.map_set]
            have asp : appO 19 ([] : List (List Int)) (spoE ps) = some (spoE ps) := by rw [appO_small (by simp; omega) (by omega), List.nil_append]
            have hq := quo8' t ht152
            have hr : remO (t : Int) (8 : Int) = some ((t % 8 : Nat) : Int) := rem_is t 8 (by omega)
            have hi8 : idxO (19 : Int) ((t / 8 : Nat) : Int) = some ((t / 8 : Nat) : Int) := idxO_lt (by omega) (by omega)
            have hwu : wu64 ((t % 8 : Nat) : Int) = ((t % 8 : Nat) : Int) := wu64_nat (by omega)
            have hsh := shl_bit' (t % 8) (by omega)
            refine ⟨_, K', ?_⟩
            unfold l06_PoolKeeps_L3 KState
            rw [hme]
            simp only [hlt1, hlt2, decide_true, Bool.and_self, if_true, hget, Option.bind_some, hpos, hpre, x1, v0, v1, v2, v3, decide_false, hwb, z1, t1, Bool.not_true, Bool.false_eq_true, if_false, asp, hq, idxO_in hks, hi8, hgs, hgb, hr, hwu, hsh, hx, hsb, hss, orExit_inl, f1, f2, hw]
  · -- none
    have hps : ps = [] := List.eq_nil_of_length_eq_zero (by omega)
    subst hps
    obtain ⟨f1, f2⟩ := fin _ K
    have hn : ¬ (0 : Int) < (List.length (msgsE []) : Int) := by decide
    have h0 : (List.length (msgsE []) : Int) = 0 := rfl
    have h64 : (List.length (msgsE []) : Int) < 64 := by decide
    by_cases v0 : v = 0
    · rcases pool_Send_eq (poolE []) (good_small (poolE_good K)) (l06_Do.Msg d) hd.m.1 hd.m.2 with ⟨x, s1, s2, s3, s4, s5⟩ | ⟨e, e1, e2, e3⟩
      · have K' : KInv [(x, List.replicate 19 0)] := by
          refine ⟨fun a ha => ?_, by simp⟩
          rw [List.mem_singleton.1 ha]; exact ⟨s1, zeros_byte⟩
        have hp' : Pool.mk (Pool.Frames (poolE []) ++ [castL (frameN x)]) = poolE [(x, List.replicate 19 0)] := by
          show Pool.mk [castL (frameN x)] = Pool.mk [castL (xorL (frameN x) (List.replicate 19 0))]
          rw [xor_zeros (frameN_byte s1)]
        rw [hp'] at s5
        have hmay : r05_May (l06_Do.Msg d) = some true := by rw [r05_May_eq, s2, nums_may s1]
        have am : appO 64 (msgsE []) ([l06_Do.Msg d] : List Msg) = some (msgsE [(x, List.replicate 19 0)]) := by
          rw [appO_small (b := 64) (s := msgsE []) (x := [l06_Do.Msg d]) (by show 0 + 1 ≤ 1000000; omega) (by omega), s2]
          rfl
        have asp : appO 19 (spoE []) ([([(0 : Int), (0 : Int), (0 : Int), (0 : Int), (0 : Int), (0 : Int), (0 : Int), (0 : Int), (0 : Int), (0 : Int), (0 : Int), (0 : Int), (0 : Int), (0 : Int), (0 : Int), (0 : Int), (0 : Int), (0 : Int), (0 : Int)] : List Int)] : List (List Int)) = some (spoE [(x, List.replicate 19 0)]) := by
          rw [appO_small (b := 19) (s := spoE []) (by show 0 + 1 ≤ 1000000; omega) (by omega)]
          rfl
        obtain ⟨f1, f2⟩ := fin _ K'
        refine ⟨_, K', ?_⟩
        unfold l06_PoolKeeps_L3 KState
        simp only [hlt1, hlt2, decide_true, Bool.and_self, if_true, hget, Option.bind_some, hn, decide_false, Bool.false_eq_true, if_false, x1, v0, s5, h64, hmay, Bool.not_true, am, asp, orExit_inl, f1, f2, hw]
      · have hmay : r05_May (l06_Do.Msg d) = some false := by
          rw [r05_May_eq]
          cases hm : mayM (l06_Do.Msg d)
          · rfl
          · have := e3 hm (poolE_right K)
            exact absurd this (by decide)
        refine ⟨[], K, ?_⟩
        unfold l06_PoolKeeps_L3 KState
        simp only [hlt1, hlt2, decide_true, Bool.and_self, if_true, hget, Option.bind_some, hn, decide_false, Bool.false_eq_true, if_false, x1, v0, e2, e1, h64, hmay, Bool.not_true, orExit_inl, f1, f2, hw]
    · obtain ⟨z1, z2, z3⟩ := rem_pos (a := l06_Do.Bit d) (n := 152) hd.b.1 (by omega)
      obtain ⟨⟨q1, m1, t1⟩, ⟨q2, t2⟩, ⟨q3, t3⟩, ⟨q4, t4⟩⟩ := empty_ops (l06_Do.Bit d % 152)
      have h70 : ¬ (7 : Int) = 0 := by omega
      refine ⟨[], K, ?_⟩
      unfold l06_PoolKeeps_L3 KState
      by_cases v1 : v = 1
      · simp only [hlt1, hlt2, decide_true, Bool.and_self, if_true, hget, Option.bind_some, hn, decide_false, Bool.false_eq_true, if_false, x1, v1, show ¬ (1 : Int) = 0 by omega, show ¬ (0 : Int) < 0 by omega, t1, h0, Bool.not_true, orExit_inr, orExit_inl, hw]
      by_cases v2 : v = 2
      · simp only [hlt1, hlt2, decide_true, Bool.and_self, if_true, hget, Option.bind_some, hn, decide_false, Bool.false_eq_true, if_false, x1, v2, show ¬ (2 : Int) = 0 by omega, show ¬ (2 : Int) = 1 by omega, t2, h70, Bool.not_true, orExit_inl, f1, f2, hw]
      by_cases v3 : v = 3
      · simp only [hlt1, hlt2, decide_true, Bool.and_self, if_true, hget, Option.bind_some, hn, decide_false, Bool.false_eq_true, if_false, x1, v3, show ¬ (3 : Int) = 0 by omega, show ¬ (3 : Int) = 1 by omega, show ¬ (3 : Int) = 2 by omega, t3, h70, cond_false, Bool.not_true, orExit_inl, f1, f2, hw]
      · simp only [hlt1, hlt2, decide_true, Bool.and_self, if_true, hget, Option.bind_some, hn, decide_false, Bool.false_eq_true, if_false, x1, v0, v1, v2, v3, hwb, z1, t4, h70, Bool.not_true, orExit_inl, f1, f2, hw]

theorem poolKeeps_all (l : List l06_Do) (hd : ∀ d ∈ l, DoOk d) : l06_PoolKeeps l = some true := by
  unfold l06_PoolKeeps
  have lp := loop_rule (f := l06_PoolKeeps_L3 l) (fun s => ∃ (i : Nat) (ps : List PE), s = KState i ps ∧ i ≤ l.length ∧ i ≤ 100 ∧ KInv ps) (fun s => l.length - s.1.toNat) (fun r => r = .inl ()) (fun s hs => by
    obtain ⟨i, ps, rfl, hi, hi2, K⟩ := hs
    by_cases hgo : i < l.length ∧ i < 100
    · left
      obtain ⟨ps', K', hst⟩ := keep_step hgo.1 hgo.2 (hd _ (List.getElem_mem hgo.1)) K
      refine ⟨_, hst, ⟨i + 1, ps', rfl, by omega, by omega, K'⟩, ?_⟩
      show l.length - (((i + 1 : Nat) : Int)).toNat < l.length - ((i : Int)).toNat
      omega
    · right
      refine ⟨.inl (), ?_, rfl⟩
      have : (decide ((i : Int) < (List.length l : Int)) && decide ((i : Int) < (100 : Int))) = false := by
        rw [Bool.eq_false_iff]
        intro q
        rw [Bool.and_eq_true, decide_eq_true_eq, decide_eq_true_eq] at q
        omega
      unfold l06_PoolKeeps_L3 KState
      simp only [this, Bool.false_eq_true, if_false]) (s := ((0 : Int), Pool.mk [], [], [])) ⟨0, [], rfl, Nat.zero_le _, Nat.zero_le _, ⟨fun a ha => (by cases ha), Nat.zero_le _⟩⟩
  obtain ⟨r, h1, rfl⟩ := lp
  simp only [l06_awake, Bool.not_true, Bool.false_eq_true, if_false, h1, orExit_inl]

theorem poolKeeps_ok (x : Ty.Tup F_l06_PoolKeeps.ps) (h : OkL F_l06_PoolKeeps.ps x) : F_l06_PoolKeeps.sem x = some true :=
  poolKeeps_all x fun d hd => by
    have := h.2 d hd
    exact ⟨⟨this.1.1, Int.lt_of_le_of_lt this.1.2 (by decide)⟩, ⟨⟨this.2.1.2.2.2.2.2.2.2.1.1, Int.lt_of_le_of_lt this.2.1.2.2.2.2.2.2.2.1.2 (by decide)⟩, ⟨this.2.1.2.2.2.2.2.2.2.2.1, Int.lt_of_le_of_lt this.2.1.2.2.2.2.2.2.2.2.2 (by decide)⟩⟩, ⟨this.2.2.1.1, Int.lt_of_le_of_lt this.2.2.1.2 (by decide)⟩, ⟨this.2.2.2.1, Int.lt_of_le_of_lt this.2.2.2.2 (by decide)⟩⟩

end Go.Proofs.Ytihchahfnhoapaa
