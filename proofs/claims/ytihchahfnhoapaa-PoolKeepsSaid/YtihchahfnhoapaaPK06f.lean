/- Layer 6: the law PoolKeeps on typed data. -/
import Derived.Test.YtihchahfnhoapaaPK06e
import Derived.Test.YtihchahfnhoapaaD162
set_option linter.unusedSimpArgs false
set_option linter.unusedVariables false
namespace Go.Proofs.Ytihchahfnhoapaa
open Go.SX

abbrev PE := Nums × List Nat
def frE (a : PE) : List Nat := xorL (frameN a.1) a.2
def poolE (ps : List PE) : Pool := Pool.mk (ps.map fun a => castL (frE a))
def msgsE (ps : List PE) : List Msg := ps.map fun a => a.1.msg
def spoE (ps : List PE) : List (List Int) := ps.map fun a => castL a.2
structure KInv (ps : List PE) : Prop where
  ok : ∀ a ∈ ps, a.1.Ok ∧ Byte19 a.2
  len : ps.length ≤ 64
theorem frE_byte {ps : List PE} (K : KInv ps) {a : PE} (h : a ∈ ps) : Byte19 (frE a) := xorL_byte (frameN_byte (K.ok a h).1) (K.ok a h).2
theorem poolE_len (ps : List PE) : (Pool.Frames (poolE ps)).length = ps.length := List.length_map _
theorem poolE_get {ps : List PE} {k : Nat} (h : k < ps.length) : (Pool.Frames (poolE ps))[k]'(by rw [poolE_len]; exact h) = castL (frE ps[k]) := by
  show (ps.map fun a => castL (frE a))[k]'(by rw [List.length_map]; exact h) = _
  rw [List.getElem_map]
theorem poolE_right {ps : List PE} (K : KInv ps) : poolB (poolE ps) = true := by
  refine poolB_iff.2 ⟨by rw [poolE_len]; exact K.len, ?_⟩
  intro b hb
  obtain ⟨a, ha, rfl⟩ := List.mem_map.1 hb
  rw [castL_len, (frE_byte K ha).len]
theorem poolE_good {ps : List PE} (K : KInv ps) : goodP (poolE ps) := by
  have := K.len
  refine ⟨by rw [poolE_len]; omega, ?_⟩
  intro b hb
  obtain ⟨a, ha, rfl⟩ := List.mem_map.1 hb
  have hby := frE_byte K ha
  refine ⟨by rw [castL_len, hby.len]; omega, fun y hy => ?_⟩
  obtain ⟨n, hn, rfl⟩ := List.mem_map.1 hy
  have := hby.lt n hn
  omega
theorem take_is {ps : List PE} (K : KInv ps) {k : Nat} (h : k < ps.length) : pool_Take (poolE ps) (k : Int) = some (poolE (ps.eraseIdx k), (readS (frE ps[k])).1, (readS (frE ps[k])).2) := by
  have hk : k < (Pool.Frames (poolE ps)).length := by rw [poolE_len]; exact h
  have hby := frE_byte K (List.getElem_mem h)
  have hg : getO (Pool.Frames (poolE ps)) (k : Int) = some (castL (frE ps[k])) := by rw [getO_in hk, poolE_get h]
  unfold pool_Take
  rw [pool_Drop_eq (poolE ps) (poolE_right K) k hk]
  simp only [Option.bind_some, decide_true, Bool.not_true, Bool.false_eq_true, if_false, hg, frame_Read_eq _ (show (frE ps[k]).length ≤ 1000 by rw [hby.len]; omega) hby.lt]
  show some (Pool.mk ((ps.map fun a => castL (frE a)).eraseIdx k), _, _) = _
  unfold poolE
  rw [List.eraseIdx_eq_take_drop_succ, List.eraseIdx_eq_take_drop_succ, List.map_append, List.map_take, List.map_drop]
theorem drop_is {ps : List PE} (K : KInv ps) {k : Nat} (h : k < ps.length) : pool_Drop (poolE ps) (k : Int) = some (poolE (ps.eraseIdx k), 0) := by
  have hk : k < (Pool.Frames (poolE ps)).length := by rw [poolE_len]; exact h
  rw [pool_Drop_eq (poolE ps) (poolE_right K) k hk]
  show some (Pool.mk ((ps.map fun a => castL (frE a)).eraseIdx k), _) = _
  unfold poolE
  rw [List.eraseIdx_eq_take_drop_succ, List.eraseIdx_eq_take_drop_succ, List.map_append, List.map_take, List.map_drop]
theorem kinv_erase {ps : List PE} (K : KInv ps) (k : Nat) : KInv (ps.eraseIdx k) := by
  refine ⟨fun a ha => K.ok a (List.mem_of_mem_eraseIdx ha), ?_⟩
  have := List.length_eraseIdx_le ps k
  have := K.len
  omega

/-! ### The count -/
theorem shr8 : ∀ v, v < 256 → ∀ w, w < 8 → shrO .u8 ((v : Nat) : Int) (wu64 ((w : Nat) : Int)) = some ((v / 2 ^ w : Nat) : Int) := by decide +kernel
theorem and8 : ∀ v, v < 256 → bAnd .u8 ((v : Nat) : Int) (1 : Int) = ((v % 2 : Nat) : Int) := by decide +kernel
theorem count_eq {ps : List PE} (K : KInv ps) {k : Nat} (h : k < ps.length) : loopD (l06_PoolKeeps_L2 (spoE ps) (k : Int)) ((0 : Int), (0 : Int)) = some (cntB ps[k].2 152 : Int) := by
  obtain ⟨e, he⟩ : ∃ e, e = ps[k].2 := ⟨_, rfl⟩
  have hby : Byte19 e := by rw [he]; exact (K.ok _ (List.getElem_mem h)).2
  have hl := hby.len
  have hsl : (spoE ps).length = ps.length := List.length_map _
  have hk : k < (spoE ps).length := by omega
  have hg : getO (spoE ps) (k : Int) = some (castL e) := by
    have : (spoE ps)[k] = castL ps[k].2 := by
      show (ps.map fun a => castL a.2)[k]'(hk) = _
      exact List.getElem_map _
    rw [getO_in hk, this, he]
  rw [← he]
  have inner : ∀ a : Nat, a < 19 → loopD (l06_PoolKeeps_L1 (spoE ps) (k : Int) (a : Int)) ((cntB e (a * 8) : Int), (0 : Int)) = some (cntB e ((a + 1) * 8) : Int) := fun a ha => by
    have hca : a < (castL e).length := by rw [castL_len]; omega
    have hgd : e.getD a 0 = e[a]'(by omega) := by rw [List.getD_eq_getElem?_getD, List.getElem?_eq_getElem (by omega)]; rfl
    have hga : getO (castL e) (a : Int) = some ((e.getD a 0 : Nat) : Int) := by rw [getO_in hca, castL_get (by omega), hgd]
    have hix : idxO (19 : Int) (a : Int) = some (a : Int) := idxO_lt (by omega) (by omega)
    have lp := loop_good (f := l06_PoolKeeps_L1 (spoE ps) (k : Int) (a : Int)) (n := 8) (e := (cntB e ((a + 1) * 8) : Int)) (fun w => ((cntB e (a * 8 + w) : Int), (w : Int))) (fun w hw => by
      have hlt : (w : Int) < 8 := by omega
      have hc := cntB_le e (a * 8 + w)
      have hsh := shr8 (e.getD a 0) (getD_lt hby a) w hw
      have hdv : e.getD a 0 / 2 ^ w < 256 := Nat.lt_of_le_of_lt (Nat.div_le_self _ _) (getD_lt hby a)
      have han := and8 (e.getD a 0 / 2 ^ w) hdv
      have hv : (bif decide (((e.getD a 0 / 2 ^ w % 2 : Nat) : Int) = (1 : Int)) then w64 ((cntB e (a * 8 + w) : Int) + (1 : Int)) else (cntB e (a * 8 + w) : Int)) = ((cntB e (a * 8 + (w + 1)) : Nat) : Int) := by
        rw [show a * 8 + (w + 1) = (a * 8 + w) + 1 by omega]
        simp only [cntB]
        have hb : bitN e (a * 8 + w) = decide (((e.getD a 0 / 2 ^ w % 2 : Nat) : Int) = (1 : Int)) := by
          unfold bitN
          rw [show (a * 8 + w) / 8 = a by omega, show (a * 8 + w) % 8 = w by omega]
          by_cases q : e.getD a 0 / 2 ^ w % 2 = 1
          · rw [decide_eq_true q, decide_eq_true (show ((e.getD a 0 / 2 ^ w % 2 : Nat) : Int) = 1 by rw [q]; rfl)]
          · rw [decide_eq_false q, decide_eq_false (fun q2 => q (by exact Int.ofNat.inj q2))]
        rw [← hb]
        cases bitN e (a * 8 + w)
        · rfl
        · exact w64_succ (by omega)
      unfold l06_PoolKeeps_L1
      simp only [hlt, decide_true, if_true, idxO_in hk, hix, hg, hga, hsh, han, Option.bind_some, hv, w64_succ (show w < 4611686018427387904 by omega)]) (by
      unfold l06_PoolKeeps_L1
      rw [show a * 8 + 8 = (a + 1) * 8 by omega]
      simp)
    rw [Nat.add_zero, show (((0 : Nat) : Int)) = 0 from rfl] at lp
    exact lp
  have lp := loop_good (f := l06_PoolKeeps_L2 (spoE ps) (k : Int)) (n := 19) (e := (cntB e 152 : Int)) (fun a => ((cntB e (a * 8) : Int), (a : Int))) (fun a ha => by
    have hlt : (a : Int) < 19 := by omega
    unfold l06_PoolKeeps_L2
    simp only [hlt, decide_true, if_true, inner a ha, Option.bind_some, w64_succ (show a < 4611686018427387904 by omega)]) (by
    unfold l06_PoolKeeps_L2
    simp)
  exact lp
theorem readS_zero {ps : List PE} (K : KInv ps) {k : Nat} (h : k < ps.length) (hc : cntB ps[k].2 152 = 0) : readS (frE ps[k]) = (ps[k].1.msg, 0) := by
  obtain ⟨h1, h2⟩ := K.ok _ (List.getElem_mem h)
  have hz := zero_of h2 (cntB_zero 152 hc)
  unfold frE
  rw [hz, xor_zeros (frameN_byte h1), readS_put h1]
theorem readS_one {ps : List PE} (K : KInv ps) {k : Nat} (h : k < ps.length) (hc : cntB ps[k].2 152 = 1) : (readS (frE ps[k])).2 = 5 := by
  obtain ⟨h1, h2⟩ := K.ok _ (List.getElem_mem h)
  obtain ⟨q, q1, q2, q3⟩ := cntB_one 152 hc
  have hu := unit_of h2 q1 q2 q3
  have hby := frE_byte K (List.getElem_mem h)
  have hnw : ¬ wholeN (frE ps[k]) := by
    unfold frE
    rw [hu]
    exact turn_one (frameN_byte h1) (frameN_whole _) q1
  unfold readS
  have := hby.len
  rw [if_neg (by omega), if_neg (by omega), if_neg hnw]

/-! ### Nothing there -/
theorem empty_has : pool_has (poolE []) (0 : Int) = some 7 := by
  rw [pool_has_eq (poolE []) (by decide)]
  rfl
theorem empty_ops (bit : Int) : (∃ q m, pool_Take (poolE []) (0 : Int) = some (q, m, 7)) ∧ (∃ q, pool_Drop (poolE []) (0 : Int) = some (q, 7)) ∧ (∃ q, pool_Twice (poolE []) (0 : Int) = some (q, 7)) ∧ (∃ q, pool_Spoil (poolE []) (0 : Int) bit = some (q, 7)) := by
  have hp : goodP (poolE []) := ⟨by decide, fun b hb => by cases hb⟩
  have hcd := copy_loop (f := pool_Drop_L1 (Pool.Frames (poolE [])) (List.length (Pool.Frames (poolE [])) : Int)) (fr := Pool.Frames (poolE [])) (fun s => rfl) hp.1 (fun b hb => by cases hb)
  have d1 : pool_Drop (poolE []) (0 : Int) = some (poolE [], 7) := by
    unfold pool_Drop
    simp only [empty_has, hcd, Option.bind_some, show ¬ (7 : Int) = 0 by omega, decide_false, Bool.false_eq_true, if_false]
    rfl
  have hcp := copy_loop (f := pool_Twice_L1 (Pool.Frames (poolE [])) (List.length (Pool.Frames (poolE [])) : Int)) (fr := Pool.Frames (poolE [])) (fun s => rfl) hp.1 (fun b hb => by cases hb)
  refine ⟨⟨poolE [], Msg.mk 0 0 0 0 0 0 false 0 0, ?_⟩, ⟨poolE [], d1⟩, ⟨poolE [], ?_⟩, ⟨poolE [], ?_⟩⟩
  · unfold pool_Take
    simp only [d1, Option.bind_some, show ¬ (7 : Int) = 0 by omega, decide_false, Bool.not_false, if_true]
  · unfold pool_Twice
    simp only [empty_has, Option.bind_some, show ¬ (7 : Int) = 0 by omega, decide_false, Bool.not_false, if_true, hcp]
    rfl
  · unfold pool_Spoil
    simp only [empty_has, Option.bind_some, show ¬ (7 : Int) = 0 by omega, decide_false, Bool.false_and, cond_false, Bool.false_eq_true, if_false, hcp]
    rfl

end Go.Proofs.Ytihchahfnhoapaa
