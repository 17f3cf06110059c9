/- The words of layer 1: the laws. -/
import Derived.Test.YtkgflipalefmfaaWord4
namespace Go.Proofs.Ytkgflipalefmfaa
open Go.SX

theorem at0_lt {bs : List Nat} (hb : ∀ b ∈ bs, b < 256) (i : Nat) : at0 bs i < 256 := by
  unfold at0
  cases h : bs[i]? with
  | none => simp
  | some b => exact hb b (List.mem_of_getElem? h)

theorem refof_step (d : D) (bs : List Nat) (h : d = .sl (bytesD bs) ∨ (d = .nil ∧ bs = [])) (hb : ∀ b ∈ bs, b < 256) (n i : Nat) (hi : i < 4) (hn : n < 16777216) :
    EV T17L1 [d, .int .u32 n, .int .i64 i] = some (.jmp 0 true [.int .u32 ((n * 256 + at0 bs i : Nat) : Int), .int .i64 ((i + 1 : Nat) : Int)]) := by
  have e1 : u32 ((n : Int) * 256) = (n : Int) * 256 := u32_id (by omega) (by omega)
  have e3 : IntKind.wrap .i64 ((i : Int) + 1) = (i : Int) + 1 := wrapS64 (by omega) (by omega)
  have e5 : ((i : Int) < 4) := by omega
  have hlen : Prim.run .len [d] = some (.int .i64 bs.length) := by
    rcases h with h | ⟨h, h'⟩
    · subst h; simp [Prim.run, bytesD]
    · subst h h'; rfl
  by_cases hil : i < bs.length
  · have hlt := at0_lt hb i
    have e2 : u32 ((at0 bs i : Nat) : Int) = at0 bs i := u32_small _ (by omega)
    have e4 : u32 ((n : Int) * 256 + ((at0 bs i : Nat) : Int)) = (n : Int) * 256 + at0 bs i := u32_id (by omega) (by omega)
    have hd : d = .sl (bytesD bs) := by
      rcases h with h | ⟨h, h'⟩
      · exact h
      · subst h'; simp at hil
    have hg : (bytesD bs)[i]? = some (.int .u8 (at0 bs i : Nat)) := by
      simp [bytesD, at0, hil]
    subst hd
    have e6 : ((i : Int) < (bs.length : Int)) := by omega
    simp [T17L1, evL_prim, evL_ite, evL_jmp, evL_sub, gets, At.get, hlen]
    simp [Prim.run, binD, binI, wrap32, e1, e2, e3, e4, e5, e6, hg]
  · have hz : at0 bs i = 0 := by
      unfold at0
      rw [List.getElem?_eq_none (by omega)]
      rfl
    have e6 : ¬ ((i : Int) < (bs.length : Int)) := by omega
    simp [T17L1, evL_prim, evL_ite, evL_jmp, evL_sub, gets, At.get, hlen]
    simp [Prim.run, binD, binI, wrap32, e1, e3, e5, e6, hz]
theorem refof_end (d n : D) : EV T17L1 [d, n, .int .i64 4] = some (.jmp 1 false [n, .int .i64 4, .bool false]) := by
  simp [T17L1, evL_prim, evL_ite, evL_jmp, gets, At.get, Prim.run, binD, binI]

theorem refof_is (d : D) (bs : List Nat) (h : d = .sl (bytesD bs) ∨ (d = .nil ∧ bs = [])) (hb : ∀ b ∈ bs, b < 256) : CA 17 [d] = some [.int .u32 ((ofN bs : Nat) : Int)] := by
  rw [call_of t17]
  have k0 := at0_lt hb 0
  have k1 := at0_lt hb 1
  have k2 := at0_lt hb 2
  have h0 := refof_step d bs h hb 0 0 (by omega) (by omega)
  have h1 := refof_step d bs h hb (0 * 256 + at0 bs 0) 1 (by omega) (by omega)
  have h2 := refof_step d bs h hb ((0 * 256 + at0 bs 0) * 256 + at0 bs 1) 2 (by omega) (by omega)
  have h3 := refof_step d bs h hb (((0 * 256 + at0 bs 0) * 256 + at0 bs 1) * 256 + at0 bs 2) 3 (by omega) (by omega)
  have hloop : loopL cx 12 noC T17L1 [d] [.int .u32 0, .int .i64 0] = some (.jmp 1 false [.int .u32 ((ofN bs : Nat) : Int), .int .i64 4, .bool false]) := by
    refine (loop_on (E := [d]) (vs := [_, _]) h0).trans ((loop_on (E := [d]) (vs := [_, _]) h1).trans ((loop_on (E := [d]) (vs := [_, _]) h2).trans ((loop_on (E := [d]) (vs := [_, _]) h3).trans ?_)))
    rw [Nat.zero_mul, Nat.zero_add]
    exact loop_off (E := [d]) (vs := [_, _]) (refof_end _ _) (by simp)
  simp [T17, EV, evL_sub, evL_loop, gets, At.get, hloop, Res.up, evL_jmp]

/-- What is of bytes. -/
theorem bytes_of {d : D} (h : Wt (.sl (.int .u8)) d) : ∃ bs : List Nat, (d = .sl (bytesD bs) ∨ (d = .nil ∧ bs = [])) ∧ (∀ b ∈ bs, b < 256) ∧ bs.length ≤ maxLen := by
  have main : ∀ l : List D, WtA (.int .u8) l → ∃ bs : List Nat, l = bytesD bs ∧ ∀ b ∈ bs, b < 256 := by
    intro l
    induction l with
    | nil => exact fun _ => ⟨[], rfl, by simp⟩
    | cons x l ih =>
      intro hl
      obtain ⟨n, hn, h1, h2⟩ := hl.1.toInt
      obtain ⟨bs, hbs, hlt⟩ := ih hl.2
      have h1 : (0 : Int) ≤ n := h1
      have h2 : n ≤ 255 := h2
      obtain ⟨m, rfl⟩ : ∃ m : Nat, n = m := ⟨n.toNat, by omega⟩
      refine ⟨m :: bs, by rw [hn, hbs]; rfl, fun b hb => ?_⟩
      rcases List.mem_cons.1 hb with hb | hb
      · omega
      · exact hlt b hb
  rcases h.toSl with h | ⟨ds, h, h1, h2⟩
  · exact ⟨[], .inr ⟨h, rfl⟩, by simp, by simp⟩
  · obtain ⟨bs, e1, e2⟩ := main ds h2
    subst e1
    exact ⟨bs, .inl h, e2, by simpa [bytesD] using h1⟩

theorem nat_of {k : IntKind} {d : D} {m : Nat} (h : Wt (.int k) d) (h0 : k.min = 0) (hm : k.max = m) : ∃ x : Nat, d = .int k x ∧ x ≤ m := by
  obtain ⟨n, e, h1, h2⟩ := h.toInt
  rw [h0] at h1
  rw [hm] at h2
  exact ⟨n.toNat, by rw [e]; congr 1; omega, by omega⟩

theorem wordAns_shape (x y : Nat) (op : Int) : ∃ (n : Int) (b : Bool), wordAns x y op = [.int .u32 n, .bool b] := by
  unfold wordAns
  split
  · exact ⟨_, _, rfl⟩
  split
  · exact ⟨_, _, rfl⟩
  split
  · exact ⟨_, _, rfl⟩
  split
  · exact ⟨_, _, rfl⟩
  split
  · exact ⟨_, _, rfl⟩
  split
  · exact ⟨_, _, rfl⟩
  split
  · exact ⟨_, _, rfl⟩
  · exact ⟨_, _, rfl⟩

theorem word_right (op : Int) (x y : Nat) (hx : x < 4294967296) (hy : y < 4294967296) (w : Int) (hw0 : -9223372036854775808 ≤ w) (hw : w ≤ 9223372036854775807) (d : D) (bs : List Nat) (hd : d = .sl (bytesD bs) ∨ (d = .nil ∧ bs = [])) (hb : ∀ b ∈ bs, b < 256) :
    CA 3 [.int .i64 op, .int .u32 x, .int .u32 y, .int .i64 w, d] = some [.bool true] := by
  rw [call_of t3]
  obtain ⟨n, b, hans⟩ := wordAns_shape x y op
  have h1 := do_is x y hx hy op
  have h2 := refdo_is x y hx hy op
  rw [hans] at h1 h2
  have h3 := place_is x hx w hw
  have h4 := bytes_is x
  have h5 := refbytes_is x hx
  have hlen : Prim.run .len [d] = some (.int .i64 bs.length) := by
    rcases hd with h | ⟨h, h'⟩
    · subst h; simp [Prim.run, bytesD]
    · subst h h'; rfl
  have hsub : ∃ d' bs', Prim.run .sub [d, .int .i64 0, .int .i64 (if (1000 : Int) < bs.length then 1000 else bs.length)] = some d' ∧ (d' = .sl (bytesD bs') ∨ (d' = .nil ∧ bs' = [])) ∧ ∀ b ∈ bs', b < 256 := by
    rcases hd with h | ⟨h, h'⟩
    · subst h
      refine ⟨.sl (bytesD (bs.take (min 1000 bs.length))), _, ?_, .inl rfl, fun b hb' => hb b (List.mem_of_mem_take hb')⟩
      split
      · rename_i hlt
        have : min 1000 bs.length = 1000 := by omega
        rw [this]
        simp [Prim.run, bytesD]
        omega
      · rename_i hlt
        have : min 1000 bs.length = bs.length := by omega
        rw [this]
        have hl : (bytesD bs).length = bs.length := by simp [bytesD]
        rw [List.take_length]
        simp only [Prim.run, hl]
        rw [if_pos ⟨by omega, by omega, by omega⟩]
        simp only [Int.toNat_natCast, Int.toNat_zero, List.drop_zero]
        rw [List.take_of_length_le (by omega)]
    · subst h h'
      exact ⟨.nil, [], rfl, .inr ⟨rfl, rfl⟩, by simp⟩
  obtain ⟨d', bs', hs1, hs2, hs3⟩ := hsub
  have h6 := of_is d' bs' hs2 hs3
  have h7 := refof_is d' bs' hs2 hs3
  have ex : IntKind.wrap .u64 (x : Int) = x := wrap64' _ (by omega) (by omega)
  have hstr : ∃ s, Prim.run .b2s [.sl (byteL x)] = some (.str s) := by
    simp [Prim.run, D.els, byteL, bytesOfD]
  obtain ⟨s, hs⟩ := hstr
  have hmin : Prim.run .min2 [.int .i64 bs.length, .int .i64 1000] = some (.int .i64 (if (1000 : Int) < bs.length then 1000 else bs.length)) := rfl
  have hgt : Prim.run (.bin .gtr) [.int .i64 w, .int .i64 0] = some (.bool (decide (w > 0))) := rfl
  have hnot : Prim.run (.un .not) [.bool true] = some (.bool false) := rfl
  have heq : ∀ (k : IntKind) (a : Int), Prim.run (.bin .eql) [.int k a, .int k a] = some (.bool true) := fun k a => by simp [Prim.run, binD, binI]
  have hbb : Prim.run (.bin .eql) [.bool b, .bool b] = some (.bool true) := by simp [Prim.run, binD, binB]
  have hss : Prim.run (.bin .eql) [.str s, .str s] = some (.bool true) := by simp [Prim.run, binD, binS]
  by_cases hw1 : w < 1
  · have hgt' : decide (w > 0) = false := by simp; omega
    rw [if_pos hw1] at h3
    rw [hgt'] at hgt
    simp [T3, evL_prim, evL_ite, evL_jmp, evL_call, evL_sub, gets, At.get, awake1, h1, h2, h3, h4, h5, h6, h7, hlen, hs, hmin, hgt, hnot, heq, hbb, hss, hs1]
  · have hgt' : decide (w > 0) = true := by simp; omega
    rw [if_neg hw1] at h3
    rw [hgt'] at hgt
    have ew : IntKind.wrap .u64 w = w := wrap64' _ (by omega) (by omega)
    have hc1 : Prim.run (.conv .u64) [.int .u32 x] = some (.int .u64 x) := by simp only [Prim.run, ex]
    have hc2 : Prim.run (.conv .u64) [.int .i64 w] = some (.int .u64 w) := by simp only [Prim.run, ew]
    have hrem : Prim.run (.bin .rem) [.int .u64 x, .int .u64 w] = some (.int .u64 ((x : Int) % w)) := by
      have hne : w ≠ 0 := by omega
      have e1 : (x : Int).tmod w = x % w := Int.tmod_eq_emod_of_nonneg (by omega)
      simp [Prim.run, binD, binI, hne, e1]
    have hr0 : 0 ≤ (x : Int) % w := Int.emod_nonneg _ (by omega)
    have hr1 : (x : Int) % w < w := Int.emod_lt_of_pos _ (by omega)
    have hc3 : Prim.run (.conv .i64) [.int .u64 ((x : Int) % w)] = some (.int .i64 ((x : Int) % w)) := by
      simp only [Prim.run, wrapS64 (by omega : -9223372036854775808 ≤ (x : Int) % w) (by omega)]
    simp [T3, evL_prim, evL_ite, evL_jmp, evL_call, evL_sub, gets, At.get, awake1, h1, h2, h3, h4, h5, h6, h7, hlen, hs, hmin, hgt, hnot, heq, hbb, hss, hs1, hc1, hc2, hc3, hrem]

end Go.Proofs.Ytkgflipalefmfaa
