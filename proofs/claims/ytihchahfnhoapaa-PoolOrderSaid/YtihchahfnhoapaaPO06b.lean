/- Layer 6: the law PoolOrder on typed data. -/
import Derived.Test.YtihchahfnhoapaaPO06
set_option linter.unusedSimpArgs false
set_option linter.unusedVariables false
namespace Go.Proofs.Ytihchahfnhoapaa
open Go.SX

def fr (x : Nums) : List Int := castL (frameN x)
def poolOf (xs : List Nums) : Pool := Pool.mk (xs.map fr)
theorem poolOf_right {xs : List Nums} (hx : ∀ x ∈ xs, x.Ok) (hl : xs.length ≤ 64) : poolB (poolOf xs) = true := by
  refine poolB_iff.2 ⟨by show (xs.map fr).length ≤ 64; rw [List.length_map]; exact hl, ?_⟩
  intro b hb
  obtain ⟨x, hm, rfl⟩ := List.mem_map.1 hb
  show (castL (frameN x)).length = 19
  rw [castL_len, (frameN_byte (hx x hm)).len]
noncomputable def sendStep (s : Pool × List Msg) (m : Msg) : Pool × List Msg :=
  (((pool_Send s.1 m).getD (s.1, 1)).1, if ((pool_Send s.1 m).getD (s.1, 1)).2 = 0 then s.2 ++ [m] else s.2)
noncomputable def sendS (l : List Msg) : Pool × List Msg := l.foldl sendStep (Pool.mk [], [])
def msgOk (m : Msg) : Prop := (0 ≤ Msg.Num m ∧ Msg.Num m < 4294967296) ∧ (0 ≤ Msg.Val m ∧ Msg.Val m < 4294967296)
structure SInv (i : Nat) (s : Pool × List Msg) : Prop where
  ex : ∃ xs : List Nums, (∀ x ∈ xs, x.Ok) ∧ s.1 = poolOf xs ∧ s.2 = xs.map Nums.msg ∧ xs.length ≤ i
theorem send_inv {i : Nat} (hi : i < 64) {s : Pool × List Msg} (I : SInv i s) {m : Msg} (hm : msgOk m) : SInv (i + 1) (sendStep s m) ∧ ∃ q e, pool_Send s.1 m = some (q, e) ∧ sendStep s m = (q, if e = 0 then s.2 ++ [m] else s.2) := by
  obtain ⟨xs, h1, h2, h3, h4⟩ := I.ex
  have hr := poolOf_right h1 (by omega)
  have hlen : (Pool.Frames s.1).length = xs.length := by rw [h2]; exact List.length_map _
  rcases pool_Send_eq s.1 (by rw [h2]; exact small_right hr) m hm.1 hm.2 with ⟨x, x1, x2, x3, x4, x5⟩ | ⟨e, e1, e2, _⟩
  · refine ⟨⟨xs ++ [x], ?_, ?_, ?_, ?_⟩, _, _, x5, by unfold sendStep; rw [x5]; rfl⟩
    · intro y hy
      rcases List.mem_append.1 hy with q | q
      · exact h1 y q
      · rw [List.mem_singleton.1 q]; exact x1
    · unfold sendStep
      rw [x5]
      show Pool.mk (Pool.Frames s.1 ++ [castL (frameN x)]) = poolOf (xs ++ [x])
      rw [h2]
      unfold poolOf
      rw [List.map_append]
      rfl
    · unfold sendStep
      rw [x5]
      show (if (0 : Int) = 0 then s.2 ++ [m] else s.2) = _
      rw [if_pos rfl, h3, x2, List.map_append]
      rfl
    · rw [List.length_append, List.length_singleton]; omega
  · refine ⟨⟨xs, h1, ?_, ?_, by omega⟩, _, _, e2, by unfold sendStep; rw [e2]; rfl⟩
    · unfold sendStep
      rw [e2]
      exact h2
    · unfold sendStep
      rw [e2]
      show (if e = 0 then s.2 ++ [m] else s.2) = _
      rw [if_neg e1]
      exact h3
theorem sendS_take {l : List Msg} {i : Nat} (h : i < l.length) : sendS (l.take (i + 1)) = sendStep (sendS (l.take i)) l[i] := by
  unfold sendS
  rw [take_succ_get h, List.foldl_append]
  rfl
theorem sendS_inv {l : List Msg} (hl : l.length ≤ 60) (hm : ∀ m ∈ l, msgOk m) : ∀ i, i ≤ l.length → SInv i (sendS (l.take i))
  | 0, _ => ⟨[], by simp, rfl, rfl, Nat.le_refl 0⟩
  | i + 1, hi => by
    rw [sendS_take (by omega)]
    exact (send_inv (by omega) (sendS_inv hl hm i (by omega)) (hm _ (List.getElem_mem (by omega)))).1

theorem decMsg (a b : Msg) (h : a = b) : @decide (a = b) (Ty.dec tMsg a b) = true := @decide_eq_true (a = b) (Ty.dec tMsg a b) h
theorem erase_first {α : Type} (l : List α) (i : Nat) (h : i < l.length) : (l.drop i).eraseIdx 0 = l.drop (i + 1) := by
  rw [List.drop_eq_getElem_cons h]
  rfl
theorem erase_last {α : Type} (l : List α) (k : Nat) (h : k < l.length) : (l.take (k + 1)).eraseIdx k = l.take k := by
  rw [List.eraseIdx_eq_take_drop_succ, List.take_take, Nat.min_eq_left (by omega), List.drop_eq_nil_of_le (by rw [List.length_take]; omega), List.append_nil]

theorem poolOrder_all (l : List Msg) (hm : ∀ m ∈ l, msgOk m) : l06_PoolOrder l = some true := by
  unfold l06_PoolOrder
  by_cases h60 : (60 : Int) < (l.length : Int)
  · simp [l06_awake, h60]
  have hl : l.length ≤ 60 := by omega
  have l2 := loop_good (f := l06_PoolOrder_L2 l) (n := l.length) (e := ((sendS l).1, (sendS l).2)) (fun i => ((i : Int), (sendS (l.take i)).1, (sendS (l.take i)).2)) (fun i hi => by
    have hlt : (i : Int) < (List.length l : Int) := by omega
    have I := sendS_inv hl hm i (by omega)
    obtain ⟨_, q, e, s1, s2⟩ := send_inv (by omega) I (hm _ (List.getElem_mem hi))
    obtain ⟨xs, h1, h2, h3, h4⟩ := I.ex
    have ha : appO 64 (sendS (l.take i)).2 ([l[i]] : List Msg) = some ((sendS (l.take i)).2 ++ [l[i]]) := appO_small (by rw [h3]; simp; omega) (by omega)
    rw [sendS_take hi, s2]
    unfold l06_PoolOrder_L2
    simp only [hlt, decide_true, if_true, getO_in hi, Option.bind_some, s1, ha, w64_succ (show i < 4611686018427387904 by omega)]
    by_cases he : e = 0
    · simp only [he, decide_true, if_true, Option.bind_some]
    · simp only [he, decide_false, Bool.false_eq_true, if_false, Option.bind_some]) (by
    unfold l06_PoolOrder_L2
    simp only [show ¬ (l.length : Int) < (List.length l : Int) by omega, decide_false, Bool.false_eq_true, if_false, List.take_length])
  rw [List.take_zero, show sendS [] = (Pool.mk [], []) from rfl, show (((0 : Nat) : Int)) = 0 from rfl] at l2
  have I := sendS_inv hl hm l.length (Nat.le_refl _)
  rw [List.take_length] at I
  obtain ⟨xs, h1, h2, h3, h4⟩ := I.ex
  rw [h2, h3] at l2
  have h64 : xs.length ≤ 64 := by omega
  have hsl : (xs.map Nums.msg).length = xs.length := List.length_map _
  have hpool : ∀ ys : List Nums, (∀ y ∈ ys, y ∈ xs) → ys.length ≤ 64 → poolB (poolOf ys) = true := fun ys hy hyl => poolOf_right (fun x hx => h1 x (hy x hx)) hyl
  have take : ∀ (ys : List Nums), (∀ y ∈ ys, y ∈ xs) → ys.length ≤ 64 → ∀ (k : Nat) (hk : k < ys.length), pool_Take (poolOf ys) (k : Int) = some (poolOf (ys.eraseIdx k), ys[k].msg, 0) := fun ys hy hyl k hk => by
    have hkl : k < (Pool.Frames (poolOf ys)).length := by show k < (ys.map fr).length; rw [List.length_map]; exact hk
    have hf : (Pool.Frames (poolOf ys))[k] = castL (frameN ys[k]) := by
      show (ys.map fr)[k]'(by rw [List.length_map]; exact hk) = _
      rw [List.getElem_map]
      rfl
    rw [pool_Take_eq (poolOf ys) (hpool ys hy hyl) k hkl ys[k] (h1 _ (hy _ (List.getElem_mem hk))) hf]
    show some (Pool.mk ((ys.map fr).eraseIdx k), ys[k].msg, 0) = _
    unfold poolOf
    rw [List.eraseIdx_eq_take_drop_succ, List.eraseIdx_eq_take_drop_succ, List.map_append, List.map_take, List.map_drop]
  have l1 := loop_good (f := l06_PoolOrder_L1 (xs.map Nums.msg)) (n := xs.length) (e := (Sum.inl (poolOf [], poolOf []) : (Pool × Pool) ⊕ Bool)) (fun i => ((i : Int), poolOf (xs.drop i), poolOf (xs.take (xs.length - i)))) (fun i hi => by
    have hlt : (i : Int) < (List.length (xs.map Nums.msg) : Int) := by omega
    have ta := take (xs.drop i) (fun y hy => List.mem_of_mem_drop hy) (by simp; omega) 0 (by simp; omega)
    have hk : xs.length - i = (xs.length - i - 1) + 1 := by omega
    have tb := take (xs.take (xs.length - i)) (fun y hy => List.mem_of_mem_take hy) (by simp; omega) (xs.length - i - 1) (by simp; omega)
    have hidx : w64 (w64 ((List.length (xs.map Nums.msg) : Int) - 1) - (i : Int)) = ((xs.length - i - 1 : Nat) : Int) := by
      rw [hsl, w64_id (n := (xs.length : Int) - 1) (by omega) (by omega), w64_id (by omega) (by omega)]
      omega
    rw [erase_first xs i hi] at ta
    have hg0 : (xs.drop i)[0]'(by simp; omega) = xs[i] := by rw [List.getElem_drop]; congr 1
    rw [hg0, show (((0 : Nat) : Int)) = 0 from rfl] at ta
    have hgl : (xs.take (xs.length - i))[xs.length - i - 1]'(by simp; omega) = xs[xs.length - i - 1] := List.getElem_take
    rw [hgl] at tb
    have hel : (xs.take (xs.length - i)).eraseIdx (xs.length - i - 1) = xs.take (xs.length - (i + 1)) := by
      have := erase_last xs (xs.length - i - 1) (by omega)
      rw [← hk] at this
      rw [this]
      congr 1
    rw [hel] at tb
    have him : i < (xs.map Nums.msg).length := by omega
    have hjm : xs.length - i - 1 < (xs.map Nums.msg).length := by omega
    have g1 : getO (xs.map Nums.msg) (i : Int) = some xs[i].msg := by rw [getO_in him, List.getElem_map]
    have g2 : getO (xs.map Nums.msg) ((xs.length - i - 1 : Nat) : Int) = some xs[xs.length - i - 1].msg := by rw [getO_in hjm, List.getElem_map]
    have d1 := decMsg xs[i].msg xs[i].msg rfl
    have d2 := decMsg xs[xs.length - i - 1].msg xs[xs.length - i - 1].msg rfl
    unfold l06_PoolOrder_L1
    simp only [hlt, decide_true, if_true, ta, hidx, tb, Option.bind_some, Bool.not_true, Bool.false_eq_true, if_false, idxO_in him, idxO_in hjm, g1, g2, d1, d2, w64_succ (show i < 4611686018427387904 by omega)]) (by
    unfold l06_PoolOrder_L1
    have : ¬ (xs.length : Int) < (List.length (xs.map Nums.msg) : Int) := by omega
    rw [List.drop_length, Nat.sub_self, List.take_zero]
    simp only [this, decide_false, Bool.false_eq_true, if_false])
  rw [List.drop_zero, Nat.sub_zero, List.take_length, show (((0 : Nat) : Int)) = 0 from rfl] at l1
  have hrm := pool_Room_eq (poolOf xs) (by show (xs.map fr).length ≤ 1000; rw [List.length_map]; omega)
  rw [hpool xs (fun y hy => hy) h64, if_pos rfl] at hrm
  have hfl : (Pool.Frames (poolOf xs)).length = xs.length := List.length_map _
  have hw : w64 ((64 : Int) - (List.length (xs.map Nums.msg) : Int)) = 64 - ((Pool.Frames (poolOf xs)).length : Int) := by rw [hsl, hfl]; exact w64_id (by omega) (by omega)
  have h00 : ((List.length (Pool.Frames (poolOf [])) : Nat) : Int) = 0 := rfl
  simp only [l06_awake, Bool.not_true, Bool.false_eq_true, if_false, h60, decide_false, l2, Option.bind_some, l1, orExit_inl, h00, decide_true, if_true, hrm, hw]

theorem poolOrder_ok (x : Ty.Tup F_l06_PoolOrder.ps) (h : OkL F_l06_PoolOrder.ps x) : F_l06_PoolOrder.sem x = some true :=
  poolOrder_all x fun m hm => by
    have := h.2 m hm
    exact ⟨⟨this.2.2.2.2.2.2.2.1.1, Int.lt_of_le_of_lt this.2.2.2.2.2.2.2.1.2 (by decide)⟩, ⟨this.2.2.2.2.2.2.2.2.1, Int.lt_of_le_of_lt this.2.2.2.2.2.2.2.2.2 (by decide)⟩⟩

end Go.Proofs.Ytihchahfnhoapaa
