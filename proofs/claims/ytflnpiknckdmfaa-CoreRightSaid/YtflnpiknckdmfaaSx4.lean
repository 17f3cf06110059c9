/- Part 4 of a checked symbolic executor: what a function's code does is read off as a tree over plain data. No condition. -/
import Derived.Test.YtflnpiknckdmfaaSx3
import Derived.Tactics
import Derived.ChangeArms
import Derived.ProofKit

/- A state is made to look as another one: what it says still holds. -/
namespace Go.SX
open Go.RowKit (Below)

/-- A context as the state says. -/
structure CoOk (B0 : Nat) (C : FuncId → List D → Option (List D)) (k : Nat) (X : Ctx) (s : CoS) : Prop where
  μ : X.μ = memFn s.m
  A : ∀ r, X.A r ↔ r < s.m.length
  mem : Mem B0 X
  B : B0 ≤ X.w.heap.size
/-- From one to the next. -/
structure CoTo (X X' : Ctx) (s s' : CoS) : Prop where
  E : X'.E = X.E
  w : X'.w = X.w
  ext : Ext X X'
  box : ∀ r T v, memFn s.m r = .box T v → memFn s'.m r = .box T v
theorem CoTo.refl (X : Ctx) (s : CoS) : CoTo X X s s := ⟨rfl, rfl, Ext.refl X, fun _ _ _ h => h⟩
theorem CoTo.trans {X Y Z : Ctx} {s t u : CoS} (h : CoTo X Y s t) (g : CoTo Y Z t u) : CoTo X Z s u := ⟨g.E.trans h.E, g.w.trans h.w, h.ext.trans g.ext, fun r T v e => g.box r T v (h.box r T v e)⟩

theorem memFn_set {m : List Root} {r q : Nat} {R : Root} (h : r < m.length) : memFn (m.set r R) q = upd (memFn m) r R q := by
  unfold memFn upd
  by_cases e : q = r
  · subst e; rw [if_pos rfl, List.getElem?_set_self h]; rfl
  · rw [if_neg e, List.getElem?_set_ne (Ne.symm e)]
theorem memFn_snoc {m : List Root} {q : Nat} {R : Root} : memFn (m ++ [R]) q = upd (memFn m) m.length R q := by
  unfold memFn upd
  by_cases e : q = m.length
  · subst e; simp
  · rw [if_neg e]
    rcases Nat.lt_or_ge q m.length with h | h
    · rw [List.getElem?_append_left h]
    · rw [List.getElem?_eq_none (by simp; omega)]
      show _ = (m[q]?).getD .dead
      rw [List.getElem?_eq_none h]
theorem there_lt {m : List Root} {r : Nat} (h : memFn m r ≠ .dead) : r < m.length := by
  rcases Nat.lt_or_ge r m.length with h' | h'
  · exact h'
  · exact absurd (memFn_out h') h

section
variable {C : FuncId → List D → Option (List D)} {k B0 : Nat}

/-- A value in a slot or in cells, of one cell. -/
def Rp (X : Ctx) (cell : Bool) (s : SV) (cs : List Value) : Prop := if cell then CRep X s cs else ∃ v, cs = [v] ∧ VRep X s v

theorem Rp.ref {X : Ctx} {b : Bool} {e : Ty} {r : Nat} {vw : Option (At × At)} {cs : List Value} (h : Rp X b (.h e r vw) cs) : ∃ v, cs = [v] ∧ Ref X (.h e r vw) v := by
  cases b with
  | true => simp only [Rp, if_true, CRep] at h; exact h
  | false => simp only [Rp, Bool.false_eq_true, if_false, VRep] at h; exact h
theorem Rp.of_ref {X : Ctx} {b : Bool} {e : Ty} {r : Nat} {vw : Option (At × At)} {v : Value} (h : Ref X (.h e r vw) v) : Rp X b (.h e r vw) [v] := by
  cases b with
  | true => simp only [Rp, if_true, CRep]; exact ⟨v, rfl, h⟩
  | false => simp only [Rp, Bool.false_eq_true, if_false, VRep]; exact ⟨v, rfl, h⟩
theorem Rp.ext {X X' : Ctx} (x : Ext X X') {b : Bool} {s : SV} {cs : List Value} (h : Rp X b s cs) : Rp X' b s cs := by
  cases b with
  | true => simp only [Rp, if_true] at h ⊢; exact CRep.ext x h
  | false => simp only [Rp, Bool.false_eq_true, if_false] at h ⊢; obtain ⟨v, e, h⟩ := h; exact ⟨v, e, VRep.ext x h⟩
theorem Rp.sl {X : Ctx} {b : Bool} {e : Ty} {a : At} {d : D} {v : Value} (ha : a.get X.E = some d) (h : DRep X.w X.M (.sl e) d [v]) : Rp X b (.d (.sl e) a) [v] := by
  cases b with
  | true => simp only [Rp, if_true, CRep]; exact ⟨d, ha, h⟩
  | false =>
    simp only [Rp, Bool.false_eq_true, if_false]
    refine ⟨v, rfl, VRep.data.2 ⟨d, ha, ?_⟩⟩
    unfold DVal
    simp only [Ty.isAgg, Bool.false_eq_true, if_false]
    exact ⟨DRep.one rfl h, h⟩

/-- A nil slice. -/
theorem nilOf_val {X : Ctx} {e : Ty} {s : SV} {b : Bool} {cs : List Value} (h : nilOf e s = true) (hv : Rp X b s cs) : cs = [.slice none 0 0] := by
  unfold nilOf at h
  split at h
  · have := Ty.beq_eq h
    subst this
    cases b with
    | true =>
      simp only [Rp, if_true, CRep, At.get, Option.some.injEq] at hv
      obtain ⟨d, h1, h2⟩ := hv
      subst h1
      simpa only [DRep] using h2
    | false =>
      simp only [Rp, Bool.false_eq_true, if_false] at hv
      obtain ⟨v, e1, hv⟩ := hv
      obtain ⟨d, h1, h2⟩ := VRep.data.1 hv
      simp only [At.get, Option.some.injEq] at h1
      subst h1
      rcases h2.slice with ⟨_, h⟩ | ⟨_, _, _, h, _⟩
      · rw [e1, h]
      · cases h
  · cases b with
    | true => simp only [Rp, if_true, CRep] at hv; exact hv.1
    | false => simp only [Rp, Bool.false_eq_true, if_false, VRep] at hv; obtain ⟨v, e1, hv⟩ := hv; rw [e1, hv]
  · cases h

/-- A new root that is nil. -/
theorem newNil {X : Ctx} {s : CoS} (c : CoOk B0 C k X s) {e : Ty} {R : Root} (hR : R = .row e (.c .nil) ∨ ∃ e', e = .sl e' ∧ R = .mat e' (.c .nil) 0) {vw : Option (At × At)} (hvw : nilView X.E vw) :
    ∃ X', CoTo X X' s { s with m := s.m ++ [R] } ∧ CoOk B0 C k X' { s with m := s.m ++ [R] } ∧ Ref X' (.h e s.m.length vw) (.slice none 0 0) := by
  have hn : ¬ X.A s.m.length := fun h => by have := (c.A _).1 h; omega
  have hrow : R.row? = some (e, .c .nil) := by
    rcases hR with h | ⟨e', h1, h2⟩
    · rw [h]; rfl
    · rw [h2, h1]; rfl
  have hown : ∀ (p : Pl), p = ⟨none, []⟩ → R.own p = [] := fun p hp => by
    rcases hR with h | ⟨e', h1, h2⟩
    · rw [h, hp]; rfl
    · rw [h2, hp]; rfl
  have hg := c.mem.grow c.B hn (Below.refl _ _) (R := R) (p := ⟨none, []⟩) (fun b hb => by rw [hown _ rfl] at hb; simp at hb) (by rw [hown _ rfl]; simp) (fun x => by
    have hβ : (X.grown X.w s.m.length R ⟨none, []⟩).β s.m.length = ⟨none, []⟩ := by simp [Ctx.grown, upd_same]
    rcases hR with h | ⟨e', h1, h2⟩
    · rw [h]; exact ⟨.nil, rfl, .inl ⟨by rw [h] at hβ; rw [hβ], .inl rfl⟩⟩
    · rw [h2]; exact ⟨.nil, rfl, .inl ⟨by rw [h2] at hβ; rw [hβ], by rw [h2] at hβ; rw [hβ], rfl⟩⟩)
  refine ⟨X.grown X.w s.m.length R ⟨none, []⟩, ⟨rfl, rfl, hg.1, fun r T v h => ?_⟩, ⟨?_, fun r => ?_, hg.2, c.B⟩, ?_⟩
  · have hlt := there_lt (m := s.m) (r := r) (by rw [h]; simp)
    rw [memFn_snoc, upd_ne _ _ (by omega)]
    exact h
  · funext r
    show upd X.μ s.m.length R r = _
    rw [memFn_snoc, c.μ]
  · show (X.A r ∨ r = s.m.length) ↔ _
    rw [c.A r]
    simp only [List.length_append, List.length_singleton]
    omega
  · simp only [Ref]
    refine ⟨one_slice _ _ _, .inr rfl, fun _ => ⟨.c .nil, .nil, ?_, rfl, .inl ⟨by simp [Ctx.grown, upd_same], .inl ⟨rfl, rfl⟩, hvw⟩⟩⟩
    simp [Ctx.grown, upd_same, hrow]

theorem coFz_sound {X : Ctx} {s s' : CoS} {e : Ty} {r : Nat} {x : SV} (c : CoOk B0 C k X s) (h : coFz e r s = some (x, s')) {b : Bool} {cs : List Value} (hv : Rp X b (.h e r none) cs) :
    s'.bs = s.bs ∧ s'.nv = s.nv ∧ ∃ X', CoTo X X' s s' ∧ CoOk B0 C k X' s' ∧ Rp X' b x cs := by
  obtain ⟨v, ecs, hr⟩ := hv.ref
  subst ecs
  have hA : X.A r := by simp only [Ref] at hr; exact hr.2.1
  have hlt := (c.A r).1 hA
  have fin : ∀ {a : At}, (X.μ r = .row e a ∨ ∃ e' g, e = .sl e' ∧ X.μ r = .mat e' a g) → s' = { s with m := s.m.set r (.fz e a) } → x = .d (.sl e) a → s'.bs = s.bs ∧ s'.nv = s.nv ∧ ∃ X', CoTo X X' s s' ∧ CoOk B0 C k X' s' ∧ Rp X' b x [v] := by
    intro a hR es ex
    subst es ex
    obtain ⟨x1, m1⟩ := c.mem.lower c.B hA hR (R := .fz e a) (.inl rfl)
    have hr1 : Ref { X with μ := upd X.μ r (.fz e a) } (.h e r none) v := hr.ext x1
    have hR1 : ({ X with μ := upd X.μ r (.fz e a) } : Ctx).μ r = .fz e a := by simp [upd_same]
    have hrep := m1.rep r hA
    rw [hR1] at hrep
    obtain ⟨⟨d, g1, g2⟩, g3⟩ := hrep
    simp only [Ref] at hr1
    have hh := hr1.2.2 (by simp [upd_same, Root.there])
    refine ⟨rfl, rfl, { X with μ := upd X.μ r (.fz e a) }, ⟨rfl, rfl, x1, fun q T u hq => ?_⟩, ⟨?_, fun q => ?_, m1, c.B⟩, Rp.sl (d := d) g1 ?_⟩
    · have hne : q ≠ r := fun e1 => by
        subst e1
        rw [← c.μ] at hq
        rcases hR with h | ⟨_, _, _, h⟩ <;> rw [h] at hq <;> cases hq
      show memFn (s.m.set r _) q = _
      rw [memFn_set hlt, upd_ne _ _ hne]
      exact hq
    · funext q
      show upd X.μ r _ q = memFn (s.m.set r _) q
      rw [memFn_set hlt, c.μ]
    · show X.A q ↔ _
      rw [c.A q]
      simp
    · exact handle_data (vw := none) m1 hA hh (by rw [hR1]; rfl) ⟨fun _ _ h _ => h, fun _ _ _ h => h⟩ (fun q hq => by rw [hR1] at hq; simp [Root.own] at hq) g1
  unfold coFz at h
  split at h
  · rename_i e' a hm
    split at h
    · rename_i hb
      have := Ty.beq_eq hb
      subst this
      injection h with h
      injection h with h1 h2
      exact fin (.inl (by rw [c.μ]; exact hm)) h2.symm h1.symm
    · cases h
  · rename_i e' a g hm
    split at h
    · rename_i hb
      have := Ty.beq_eq hb
      subst this
      injection h with h
      injection h with h1 h2
      exact fin (.inr ⟨e', g, rfl, by rw [c.μ]; exact hm⟩) h2.symm h1.symm
    · cases h
  · rename_i e' a hm
    split at h
    · rename_i hb
      have := Ty.beq_eq hb
      subst this
      injection h with h
      injection h with h1 h2
      subst h1 h2
      have hR1 : X.μ r = .fz e' a := by rw [c.μ]; exact hm
      have hrep := c.mem.rep r hA
      rw [hR1] at hrep
      obtain ⟨⟨d, g1, g2⟩, g3⟩ := hrep
      simp only [Ref] at hr
      have hh := hr.2.2 (by rw [hR1]; rfl)
      exact ⟨rfl, rfl, X, CoTo.refl X s, c, Rp.sl (d := d) g1 (handle_data (vw := none) c.mem hA hh (by rw [hR1]; rfl) ⟨fun _ _ h _ => h, fun _ _ _ h => h⟩ (fun q hq => by rw [hR1] at hq; simp [Root.own] at hq) g1)⟩
    · cases h
  · cases h

theorem coVw_sound {X : Ctx} {s s' : CoS} {e : Ty} {r : Nat} {x : SV} (c : CoOk B0 C k X s) (h : coVw e r s = some (x, s')) (hs : Sat C k X.E s'.bs s'.nv) {b : Bool} {cs : List Value} (hv : Rp X b (.h e r none) cs) :
    ∃ X', CoTo X X' s s' ∧ CoOk B0 C k X' s' ∧ Rp X' b x cs := by
  obtain ⟨v, ecs, hr⟩ := hv.ref
  subst ecs
  unfold coVw at h
  split at h
  · rename_i e' a hm
    split at h
    · rename_i hb
      have := Ty.beq_eq hb
      subst this
      injection h with h
      injection h with h1 h2
      subst h1 h2
      obtain ⟨n, en, ⟨vs, d, g1, g2, g3⟩, _⟩ := hs
      have : n = s.nv := by simp only [Bd.outs] at en; omega
      subst this
      obtain ⟨u, g4, g5⟩ := gets1 g1
      subst g5
      refine ⟨X, ⟨rfl, rfl, Ext.refl X, fun _ _ _ h => h⟩, ⟨c.μ, c.A, c.mem, c.B⟩, Rp.of_ref ?_⟩
      simp only [Ref] at hr ⊢
      refine ⟨hr.1, hr.2.1, fun ht => ?_⟩
      obtain ⟨a1, d1, q1, q2, q3⟩ := hr.2.2 ht
      rw [c.μ, hm] at q1
      simp only [Option.some.injEq, Prod.mk.injEq, true_and] at q1
      subst q1
      rw [g4] at q2
      injection q2 with q2
      subst q2
      refine ⟨a, u, by rw [c.μ]; exact hm, g4, ?_⟩
      rcases q3 with ⟨p1, p2, _⟩ | ⟨bb, l, p1, p2, cap, bs, p3, p4, p5, p6⟩
      · refine .inl ⟨p1, p2, .i64, .i64, rfl, ?_⟩
        rw [p2.em.len] at g2
        injection g2 with g2
        subst g2
        exact g3
      · subst p2
        simp only [Prim.run, Option.some.injEq] at g2
        subst g2
        refine .inr ⟨bb, l, p1, rfl, ⟨bb, 0, none⟩, cap, bs, .i64, .i64, 0, l.length, rfl, g3, Nat.zero_le _, Nat.le_refl _, by rw [p3]; rfl, by omega, p5, by rw [Nat.zero_add]; exact p6, fun _ => by simp⟩
    · cases h
  · cases h

theorem coLeaf_sound {Hm : List Root} {X : Ctx} {s s' : CoS} {h l x : SV} (c : CoOk B0 C k X s) (he : coLeaf Hm h l s = some (x, s')) (hs : Sat C k X.E s'.bs s'.nv) {b : Bool} {cs : List Value} (hv : Rp X b l cs) :
    ∃ X', CoTo X X' s s' ∧ CoOk B0 C k X' s' ∧ Rp X' b x cs := by
  unfold coLeaf at he
  split at he
  · rename_i T _
    split at he
    · rename_i v
      split at he
      · rename_i d hd
        injection he with he
        injection he with h1 h2
        subst h1 h2
        refine ⟨X, CoTo.refl X s, c, ?_⟩
        cases b with
        | true =>
          simp only [Rp, if_true, CRep] at hv ⊢
          obtain ⟨e1, ho⟩ := hv
          subst e1
          refine ⟨d, rfl, ?_⟩
          have := cvtD_val (w := X.w) (M := X.M) hd
          unfold DVal at this
          split at this
          · obtain ⟨c', e, _⟩ := this
            exact absurd e (ho.1 c')
          · exact this.2
        | false =>
          simp only [Rp, Bool.false_eq_true, if_false, VRep] at hv ⊢
          obtain ⟨v', e1, e2⟩ := hv
          subst e2
          exact ⟨v', e1, VRep.data.2 ⟨d, rfl, cvtD_val hd⟩⟩
      · cases he
    · rename_i e r
      split at he
      · obtain ⟨_, _, h⟩ := coFz_sound c he hv
        exact h
      · cases he
    · cases he
  · rename_i e hr
    split at he
    · rename_i hn
      injection he with he
      injection he with h1 h2
      subst h1 h2
      have hcs := nilOf_val hn hv
      subst hcs
      obtain ⟨X', x1, x2, x3⟩ := newNil c (e := e) (R := nilRoot Hm hr e) (by
        unfold nilRoot
        split
        · exact .inr ⟨_, rfl, rfl⟩
        · exact .inl rfl) (vw := none) trivial
      exact ⟨X', x1, x2, Rp.of_ref x3⟩
    · cases he
  · rename_i e _ p
    split at he
    · rename_i hn
      injection he with he
      injection he with h1 h2
      subst h1 h2
      have hcs := nilOf_val hn hv
      subst hcs
      obtain ⟨X', x1, x2, x3⟩ := newNil c (e := e) (R := .row e (.c .nil)) (.inl rfl) (vw := some (zI, zI)) ⟨.i64, .i64, rfl, rfl⟩
      exact ⟨X', x1, x2, Rp.of_ref x3⟩
    · split at he
      · rename_i e' r
        split at he
        · rename_i hb
          have := Ty.beq_eq hb
          subst this
          exact coVw_sound c he hs hv
        · cases he
      · cases he
  · cases he

theorem sameTy_has {a b : SV} {T : Ty} (h : sameTy a b = true) (ht : a.hasTy T) : b.hasTy T := by
  unfold sameTy at h
  have key : ∀ {s : SV} {U : Ty}, s.ty1 = some U → (s.hasTy T ↔ T = U) := fun hs => by
    rename_i s U
    cases s <;> simp only [SV.ty1, Option.some.injEq, reduceCtorEq] at hs <;> subst hs <;> simp only [SV.hasTy] <;> first | exact Iff.rfl | exact eq_comm
  split at h
  · rename_i U V h1 h2
    have := Ty.beq_eq h
    subst this
    exact (key h2).2 ((key h1).1 ht)
  · cases h

theorem zipD_rep {X : Ctx} : ∀ {Ts : List Ty} {ds : List D} {cs : List Value}, DRepL X.w X.M Ts ds cs → CRepL X (zipD Ts ds) Ts cs
  | [], [], cs, h => by simp only [DRepL] at h; simp only [zipD, CRepL]; exact h
  | T :: Ts, d :: ds, cs, h => by
    simp only [DRepL] at h
    obtain ⟨c1, c2, e, h1, h2⟩ := h
    simp only [zipD, CRepL]
    exact ⟨c1, c2, e, rfl, by simp only [CRep]; exact ⟨d, rfl, h1⟩, zipD_rep h2⟩
  | [], _ :: _, _, h => by simp only [DRepL] at h
  | _ :: _, [], _, h => by simp only [DRepL] at h

theorem expandL_sound {X : Ctx} {a : At} {ds : List D} (ha : a.get X.E = some (.agg ds)) : ∀ {Ts : List Ty} {j : Nat} {s s' : CoS} {l : List SV} {cs : List Value}, expandL a Ts j s = (l, s') → Sat C k X.E s'.bs s'.nv →
    DRepL X.w X.M Ts (ds.drop j) cs → s'.m = s.m ∧ Sat C k X.E s.bs s.nv ∧ CRepL X l Ts cs
  | [], j, s, s', l, cs, h, hs, hd => by
    simp only [expandL, Prod.mk.injEq] at h
    obtain ⟨h1, h2⟩ := h
    subst h1 h2
    refine ⟨rfl, hs, ?_⟩
    cases hdr : ds.drop j with
    | nil => rw [hdr] at hd; simp only [DRepL] at hd; simp only [CRepL]; exact hd
    | cons d r => rw [hdr] at hd; simp only [DRepL] at hd
  | T :: Ts, j, s, s', l, cs, h, hs, hd => by
    simp only [expandL] at h
    generalize he : expandL a Ts (j + 1) { s with nv := s.nv + 1, bs := .prim (.fld j) [a] :: s.bs } = p at h
    obtain ⟨l', s''⟩ := p
    simp only [Prod.mk.injEq] at h
    obtain ⟨h1, h2⟩ := h
    subst h1 h2
    cases hdr : ds.drop j with
    | nil => rw [hdr] at hd; simp only [DRepL] at hd
    | cons d r =>
      rw [hdr] at hd
      simp only [DRepL] at hd
      obtain ⟨c1, c2, ec, h3, h4⟩ := hd
      have hr : ds.drop (j + 1) = r := by rw [← List.drop_drop, hdr]; rfl
      obtain ⟨g1, g2, g3⟩ := expandL_sound ha he hs (by rw [hr]; exact h4)
      obtain ⟨n, en, ⟨vs, d', q1, q2, q3⟩, q4⟩ := g2
      have : n = s.nv := by simp only [Bd.outs] at en; omega
      subst this
      obtain ⟨u, q5, q6⟩ := gets1 q1
      rw [ha] at q5
      injection q5 with q5
      subst q5 q6
      have hj : ds[j]? = some d := by
        have : (ds.drop j)[0]? = some d := by rw [hdr]; rfl
        rw [List.getElem?_drop] at this
        simpa using this
      simp only [Prim.run, hj, Option.some.injEq] at q2
      subst q2
      refine ⟨g1, q4, ?_⟩
      simp only [CRepL]
      exact ⟨c1, c2, ec, rfl, by simp only [CRep]; exact ⟨d, q3, h3⟩, g3⟩

theorem coVw_sat {X : Ctx} {s s' : CoS} {e : Ty} {r : Nat} {x : SV} (h : coVw e r s = some (x, s')) (hs : Sat C k X.E s'.bs s'.nv) : Sat C k X.E s.bs s.nv := by
  unfold coVw at h
  split at h
  · split at h
    · injection h with h
      injection h with h1 h2
      subst h2
      obtain ⟨n, en, _, q⟩ := hs
      have : n = s.nv := by simp only [Bd.outs] at en; omega
      subst this
      exact q
    · cases h
  · cases h
theorem coFz_bs {s s' : CoS} {e : Ty} {r : Nat} {x : SV} (h : coFz e r s = some (x, s')) : s'.bs = s.bs ∧ s'.nv = s.nv := by
  unfold coFz at h
  split at h <;> first
    | (split at h
       · injection h with h
         injection h with h1 h2
         subst h2
         exact ⟨rfl, rfl⟩
       · cases h)
    | cases h
theorem coLeaf_sat {Hm : List Root} {X : Ctx} {s s' : CoS} {h l x : SV} (he : coLeaf Hm h l s = some (x, s')) (hs : Sat C k X.E s'.bs s'.nv) : Sat C k X.E s.bs s.nv := by
  unfold coLeaf at he
  split at he
  · split at he
    · split at he
      · injection he with he
        injection he with h1 h2
        subst h2
        exact hs
      · cases he
    · split at he
      · obtain ⟨e1, e2⟩ := coFz_bs he
        rw [← e1, ← e2]
        exact hs
      · cases he
    · cases he
  · split at he
    · injection he with he
      injection he with h1 h2
      subst h2
      exact hs
    · cases he
  · split at he
    · injection he with he
      injection he with h1 h2
      subst h2
      exact hs
    · split at he
      · split at he
        · exact coVw_sat he hs
        · cases he
      · cases he
  · cases he
theorem expandL_sat {X : Ctx} {a : At} : ∀ {Ts : List Ty} {j : Nat} {s s' : CoS} {l : List SV}, expandL a Ts j s = (l, s') → Sat C k X.E s'.bs s'.nv → Sat C k X.E s.bs s.nv
  | [], j, s, s', l, h, hs => by
    simp only [expandL, Prod.mk.injEq] at h
    rw [h.2]
    exact hs
  | T :: Ts, j, s, s', l, h, hs => by
    simp only [expandL] at h
    generalize he : expandL a Ts (j + 1) { s with nv := s.nv + 1, bs := .prim (.fld j) [a] :: s.bs } = p at h
    obtain ⟨l', s''⟩ := p
    simp only [Prod.mk.injEq] at h
    obtain ⟨h1, h2⟩ := h
    subst h1 h2
    obtain ⟨n, en, _, q4⟩ := expandL_sat he hs
    have : n = s.nv := by simp only [Bd.outs] at en; omega
    subst this
    exact q4
end

end Go.SX

/- A state is made to look as another one: whole values. -/
namespace Go.SX
open Go.RowKit (Below)

def plainH : SV → Bool
  | .ag .. => false
  | .tu _ => false
  | .fn .. => false
  | _ => true
theorem coSV_plain {Hm : List Root} {h l : SV} {s : CoS} (hp : plainH h = true) : coSV Hm h l s = match coLeaf Hm h l s with | some p => p | none => (l, s) := by
  cases h <;> simp only [plainH, Bool.false_eq_true] at hp <;> (unfold coSV; split <;> simp_all)

section
variable {C : FuncId → List D → Option (List D)} {k B0 : Nat} {Hm : List Root}

theorem pair_eq {α β : Type} {a x : α} {b y : β} (h : (a, b) = (x, y)) : a = x ∧ b = y := by injection h with h1 h2; exact ⟨h1, h2⟩

mutual
theorem coSV_sat {X : Ctx} : ∀ (h l : SV) (s : CoS) {x : SV} {s' : CoS}, coSV Hm h l s = (x, s') → Sat C k X.E s'.bs s'.nv → Sat C k X.E s.bs s.nv
  | .ag T hs, l, s, x, s', he, hs' => by
    cases hl : coLeaf Hm (.ag T hs) l s with
    | some p =>
      unfold coSV at he
      rw [hl] at he
      exact coLeaf_sat (hl.trans (congrArg some he)) hs'
    | none =>
      unfold coSV at he
      rw [hl] at he
      simp only at he
      split at he
      · rename_i T1 hs1 T2 ls heq
        injection heq with e1 e2
        subst e1 e2
        split at he
        · generalize hc : coLC Hm hs ls s = p at he
          obtain ⟨r, s1⟩ := p
          obtain ⟨_, e4⟩ := pair_eq he
          subst e4
          exact coLC_sat hs _ _ hc hs'
        · obtain ⟨_, e4⟩ := pair_eq he
          subst e4
          exact hs'
      · rename_i T1 hs1 T2 ds heq
        injection heq with e1 e2
        subst e1 e2
        split at he
        · rename_i Ts
          split at he
          · generalize hc : coLC Hm hs (zipD Ts ds) s = p at he
            obtain ⟨r, s1⟩ := p
            obtain ⟨_, e4⟩ := pair_eq he
            subst e4
            exact coLC_sat hs _ _ hc hs'
          · obtain ⟨_, e4⟩ := pair_eq he
            subst e4
            exact hs'
        · obtain ⟨_, e4⟩ := pair_eq he
          subst e4
          exact hs'
      · rename_i T1 hs1 T2 i heq
        injection heq with e1 e2
        subst e1 e2
        split at he
        · rename_i Ts
          split at he
          · generalize hx : expandL (.v i) Ts 0 s = p0 at he
            obtain ⟨l0, s0⟩ := p0
            simp only at he
            generalize hc : coLC Hm hs l0 s0 = p at he
            obtain ⟨r, s1⟩ := p
            obtain ⟨_, e4⟩ := pair_eq he
            subst e4
            exact expandL_sat hx (coLC_sat hs _ _ hc hs')
          · obtain ⟨_, e4⟩ := pair_eq he
            subst e4
            exact hs'
        · obtain ⟨_, e4⟩ := pair_eq he
          subst e4
          exact hs'
      · rename_i heq
        cases heq
      · rename_i heq
        cases heq
      · obtain ⟨_, e4⟩ := pair_eq he
        subst e4
        exact hs'
  | .tu hs, l, s, x, s', he, hs' => by
    have hl : coLeaf Hm (.tu hs) l s = none := rfl
    unfold coSV at he
    rw [hl] at he
    simp only at he
    cases l with
    | tu ls =>
      simp only at he
      generalize hc : coL Hm hs ls s = p at he
      obtain ⟨r, s1⟩ := p
      obtain ⟨_, e4⟩ := pair_eq he
      subst e4
      exact coL_sat hs _ _ hc hs'
    | _ =>
      simp only at he
      obtain ⟨_, e4⟩ := pair_eq he
      subst e4
      exact hs'
  | .fn f us hs, l, s, x, s', he, hs' => by
    have hl : coLeaf Hm (.fn f us hs) l s = none := rfl
    unfold coSV at he
    rw [hl] at he
    simp only at he
    cases l with
    | fn g ks ls =>
      simp only at he
      generalize hc : coL Hm us ks s = p at he
      obtain ⟨u, s1⟩ := p
      simp only at he
      generalize hc2 : coL Hm hs ls s1 = p at he
      obtain ⟨r, s2⟩ := p
      obtain ⟨_, e4⟩ := pair_eq he
      subst e4
      exact coL_sat us _ _ hc (coL_sat hs _ _ hc2 hs')
    | _ =>
      simp only at he
      obtain ⟨_, e4⟩ := pair_eq he
      subst e4
      exact hs'
  | .un n, l, s, x, s', he, hs' => coSV_sat' (h := .un n) rfl he hs'
  | .cv n, l, s, x, s', he, hs' => coSV_sat' (h := .cv n) rfl he hs'
  | .d T a, l, s, x, s', he, hs' => coSV_sat' (h := .d T a) rfl he hs'
  | .h e r vw, l, s, x, s', he, hs' => coSV_sat' (h := .h e r vw) rfl he hs'
  | .hc e r i, l, s, x, s', he, hs' => coSV_sat' (h := .hc e r i) rfl he hs'
  | .z e a, l, s, x, s', he, hs' => coSV_sat' (h := .z e a) rfl he hs'
  | .p R T r q, l, s, x, s', he, hs' => coSV_sat' (h := .p R T r q) rfl he hs'
  | .pd T a, l, s, x, s', he, hs' => coSV_sat' (h := .pd T a) rfl he hs'
  | .hb R e n r q, l, s, x, s', he, hs' => coSV_sat' (h := .hb R e n r q) rfl he hs'
  | .hr e r i g, l, s, x, s', he, hs' => coSV_sat' (h := .hr e r i g) rfl he hs'
  | .pm e T r i q g, l, s, x, s', he, hs' => coSV_sat' (h := .pm e T r i q g) rfl he hs'
theorem coL_sat {X : Ctx} : ∀ (hs ls : List SV) (s : CoS) {r : List SV} {s' : CoS}, coL Hm hs ls s = (r, s') → Sat C k X.E s'.bs s'.nv → Sat C k X.E s.bs s.nv
  | h :: hs, l :: ls, s, r, s', he, hs' => by
    simp only [coL] at he
    generalize h1 : coSV Hm h l s = p at he
    obtain ⟨x, s1⟩ := p
    simp only at he
    generalize h2 : coL Hm hs ls s1 = p at he
    obtain ⟨r', s2⟩ := p
    obtain ⟨_, e4⟩ := pair_eq he
    subst e4
    exact coSV_sat h _ _ h1 (coL_sat hs _ _ h2 hs')
  | [], ls, s, r, s', he, hs' => by
    unfold coL at he
    obtain ⟨_, e4⟩ := pair_eq he
    subst e4
    exact hs'
  | _ :: _, [], s, r, s', he, hs' => by
    unfold coL at he
    obtain ⟨_, e4⟩ := pair_eq he
    subst e4
    exact hs'
theorem coLC_sat {X : Ctx} : ∀ (hs ls : List SV) (s : CoS) {r : List SV} {s' : CoS}, coLC Hm hs ls s = (r, s') → Sat C k X.E s'.bs s'.nv → Sat C k X.E s.bs s.nv
  | h :: hs, l :: ls, s, r, s', he, hs' => by
    simp only [coLC] at he
    generalize h1 : coSV Hm h l s = p at he
    obtain ⟨x, s1⟩ := p
    simp only at he
    generalize h2 : coLC Hm hs ls s1 = p at he
    obtain ⟨r', s2⟩ := p
    obtain ⟨_, e4⟩ := pair_eq he
    subst e4
    exact coSV_sat h _ _ h1 (coLC_sat hs _ _ h2 hs')
  | [], ls, s, r, s', he, hs' => by
    unfold coLC at he
    obtain ⟨_, e4⟩ := pair_eq he
    subst e4
    exact hs'
  | _ :: _, [], s, r, s', he, hs' => by
    unfold coLC at he
    obtain ⟨_, e4⟩ := pair_eq he
    subst e4
    exact hs'
theorem coSV_sat' {X : Ctx} {h l : SV} {s : CoS} {x : SV} {s' : CoS} (hp : plainH h = true) (he : coSV Hm h l s = (x, s')) (hs : Sat C k X.E s'.bs s'.nv) : Sat C k X.E s.bs s.nv := by
  rw [coSV_plain hp] at he
  split at he
  · rename_i p hl
    exact coLeaf_sat (hl.trans (congrArg some he)) hs
  · obtain ⟨_, e4⟩ := pair_eq he
    subst e4
    exact hs
end

theorem coSV_sound' {X : Ctx} {h l : SV} {s : CoS} {x : SV} {s' : CoS} (hp : plainH h = true) (he : coSV Hm h l s = (x, s')) (c : CoOk B0 C k X s) (hs : Sat C k X.E s'.bs s'.nv) {b : Bool} {cs : List Value} (hv : Rp X b l cs) :
    ∃ X', CoTo X X' s s' ∧ CoOk B0 C k X' s' ∧ Rp X' b x cs := by
  rw [coSV_plain hp] at he
  split at he
  · rename_i p hl
    exact coLeaf_sound c (hl.trans (congrArg some he)) hs hv
  · obtain ⟨e3, e4⟩ := pair_eq he
    subst e3 e4
    exact ⟨X, CoTo.refl X s, c, hv⟩

/-- A struct's cells. -/
theorem Rp.agL {X X' : Ctx} {b : Bool} {Ts : List Ty} {l r : List SV} {cs : List Value} (h : Rp X b (.ag (.st Ts) l) cs) (hl : ∀ cs, CRepL X l Ts cs → CRepL X' r Ts cs) : Rp X' b (.ag (.st Ts) r) cs := by
  cases b with
  | true => simp only [Rp, if_true, CRep] at h ⊢; exact hl _ h
  | false =>
    simp only [Rp, Bool.false_eq_true, if_false, VRep] at h ⊢
    obtain ⟨v, e, arr, e1, h⟩ := h
    exact ⟨v, e, arr, e1, hl _ h⟩
/-- A struct of data, part by part. -/
theorem Rp.parts {X : Ctx} {b : Bool} {Ts : List Ty} {a : At} {ds : List D} {l : List SV} {cs : List Value} (ha : a.get X.E = some (.agg ds)) (h : Rp X b (.d (.st Ts) a) cs) (hl : ∀ cs, DRepL X.w X.M Ts ds cs → CRepL X l Ts cs) : Rp X b (.ag (.st Ts) l) cs := by
  cases b with
  | true =>
    simp only [Rp, if_true, CRep] at h ⊢
    obtain ⟨d, h1, h2⟩ := h
    rw [ha] at h1
    injection h1 with h1
    subst h1
    simp only [DRep] at h2
    exact hl _ h2
  | false =>
    simp only [Rp, Bool.false_eq_true, if_false] at h ⊢
    obtain ⟨v, e, h⟩ := h
    obtain ⟨d, h1, h2⟩ := VRep.data.1 h
    rw [ha] at h1
    injection h1 with h1
    subst h1
    unfold DVal at h2
    simp only [Ty.isAgg, if_true, DRep] at h2
    obtain ⟨arr, e1, h2⟩ := h2
    refine ⟨v, e, ?_⟩
    simp only [VRep]
    exact ⟨arr, e1, hl _ h2⟩
theorem Rp.aggv {X : Ctx} {b : Bool} {Ts : List Ty} {a : At} {cs : List Value} (h : Rp X b (.d (.st Ts) a) cs) : ∃ ds, a.get X.E = some (.agg ds) := by
  cases b with
  | true =>
    simp only [Rp, if_true, CRep] at h
    obtain ⟨d, h1, h2⟩ := h
    cases d <;> simp only [DRep] at h2
    exact ⟨_, h1⟩
  | false =>
    simp only [Rp, Bool.false_eq_true, if_false] at h
    obtain ⟨v, e, h⟩ := h
    obtain ⟨d, h1, h2⟩ := VRep.data.1 h
    unfold DVal at h2
    simp only [Ty.isAgg, if_true] at h2
    obtain ⟨arr, e1, h2⟩ := h2
    cases d <;> simp only [DRep] at h2
    exact ⟨_, h1⟩
theorem Rp.agSt {X : Ctx} {b : Bool} {T : Ty} {l : List SV} {cs : List Value} (h : Rp X b (.ag T l) cs) : ∃ Ts, T = .st Ts := by
  cases T with
  | st Ts => exact ⟨Ts, rfl⟩
  | _ =>
    cases b
    · simp only [Rp, Bool.false_eq_true, if_false, VRep] at h
      obtain ⟨_, _, h⟩ := h
      exact h.elim
    · simp only [Rp, if_true, CRep] at h

mutual
theorem coSV_sound : ∀ (h l : SV) (s : CoS) {X : Ctx} {x : SV} {s' : CoS}, coSV Hm h l s = (x, s') → CoOk B0 C k X s → Sat C k X.E s'.bs s'.nv → ∀ {b : Bool} {cs : List Value}, Rp X b l cs →
    ∃ X', CoTo X X' s s' ∧ CoOk B0 C k X' s' ∧ Rp X' b x cs
  | .ag T hs, l, s, X, x, s', he, c, hs', b, cs, hv => by
    cases hl : coLeaf Hm (.ag T hs) l s with
    | some p =>
      unfold coSV at he
      rw [hl] at he
      exact coLeaf_sound c (hl.trans (congrArg some he)) hs' hv
    | none =>
      unfold coSV at he
      rw [hl] at he
      simp only at he
      have same : (l, s) = (x, s') → ∃ X', CoTo X X' s s' ∧ CoOk B0 C k X' s' ∧ Rp X' b x cs := fun he => by
        obtain ⟨e3, e4⟩ := pair_eq he
        subst e3 e4
        exact ⟨X, CoTo.refl X s, c, hv⟩
      split at he
      · rename_i T1 hs1 T2 ls heq
        injection heq with e1 e2
        subst e1 e2
        split at he
        · generalize hc : coLC Hm hs ls s = p at he
          obtain ⟨r, s1⟩ := p
          obtain ⟨e3, e4⟩ := pair_eq he
          subst e3 e4
          obtain ⟨Ts, eT⟩ := hv.agSt
          subst eT
          cases b with
          | true =>
            simp only [Rp, if_true, CRep] at hv ⊢
            exact coLC_sound hs _ _ hc c hs' hv
          | false =>
            simp only [Rp, Bool.false_eq_true, if_false, VRep] at hv ⊢
            obtain ⟨v, e, arr, e1, hv⟩ := hv
            obtain ⟨X', h1, h2, h3⟩ := coLC_sound hs _ _ hc c hs' hv
            exact ⟨X', h1, h2, v, e, arr, e1, h3⟩
        · exact same he
      · rename_i T1 hs1 T2 ds heq
        injection heq with e1 e2
        subst e1 e2
        split at he
        · rename_i Ts
          split at he
          · rename_i hb
            simp only [Bool.and_eq_true] at hb
            have := Ty.beq_eq hb.1
            subst this
            generalize hc : coLC Hm hs (zipD Ts ds) s = p at he
            obtain ⟨r, s1⟩ := p
            obtain ⟨e3, e4⟩ := pair_eq he
            subst e3 e4
            have hv2 := Rp.parts (l := zipD Ts ds) rfl hv fun cs h => zipD_rep h
            cases b with
            | true =>
              simp only [Rp, if_true, CRep] at hv2 ⊢
              exact coLC_sound hs _ _ hc c hs' hv2
            | false =>
              simp only [Rp, Bool.false_eq_true, if_false, VRep] at hv2 ⊢
              obtain ⟨v, e, arr, e1, hv2⟩ := hv2
              obtain ⟨X', h1, h2, h3⟩ := coLC_sound hs _ _ hc c hs' hv2
              exact ⟨X', h1, h2, v, e, arr, e1, h3⟩
          · exact same he
        · exact same he
      · rename_i T1 hs1 T2 i heq
        injection heq with e1 e2
        subst e1 e2
        split at he
        · rename_i Ts
          split at he
          · rename_i hb
            have := Ty.beq_eq hb
            subst this
            generalize hx : expandL (.v i) Ts 0 s = p0 at he
            obtain ⟨l0, s0⟩ := p0
            simp only at he
            generalize hc : coLC Hm hs l0 s0 = p at he
            obtain ⟨r, s1⟩ := p
            obtain ⟨e3, e4⟩ := pair_eq he
            subst e3 e4
            obtain ⟨ds, hds⟩ := hv.aggv
            have hs0 := coLC_sat (X := X) hs _ _ hc hs'
            have hm : s0.m = s.m := by
              have : ∀ (Ts : List Ty) (j : Nat) (s : CoS), (expandL (.v i) Ts j s).2.m = s.m := by
                intro Ts
                induction Ts with
                | nil => intro j s; rfl
                | cons T Ts ih => intro j s; simp only [expandL]; exact ih _ _
              have h := this Ts 0 s
              rw [hx] at h
              exact h
            have hv2 := Rp.parts (l := l0) hds hv fun cs h => (expandL_sound hds hx hs0 (by simpa using h)).2.2
            have c0 : CoOk B0 C k X s0 := ⟨by rw [hm]; exact c.μ, by rw [hm]; exact c.A, c.mem, c.B⟩
            have t0 : CoTo X X s s0 := ⟨rfl, rfl, Ext.refl X, fun _ _ _ h => by rw [hm]; exact h⟩
            cases b with
            | true =>
              simp only [Rp, if_true, CRep] at hv2 ⊢
              obtain ⟨X', h1, h2, h3⟩ := coLC_sound hs _ _ hc c0 hs' hv2
              exact ⟨X', t0.trans h1, h2, h3⟩
            | false =>
              simp only [Rp, Bool.false_eq_true, if_false, VRep] at hv2 ⊢
              obtain ⟨v, e, arr, e1, hv2⟩ := hv2
              obtain ⟨X', h1, h2, h3⟩ := coLC_sound hs _ _ hc c0 hs' hv2
              exact ⟨X', t0.trans h1, h2, v, e, arr, e1, h3⟩
          · exact same he
        · exact same he
      · rename_i heq
        cases heq
      · rename_i heq
        cases heq
      · exact same he
  | .tu hs, l, s, X, x, s', he, c, hs', b, cs, hv => by
    have hl : coLeaf Hm (.tu hs) l s = none := rfl
    unfold coSV at he
    rw [hl] at he
    simp only at he
    have same : (l, s) = (x, s') → ∃ X', CoTo X X' s s' ∧ CoOk B0 C k X' s' ∧ Rp X' b x cs := fun he => by
      obtain ⟨e3, e4⟩ := pair_eq he
      subst e3 e4
      exact ⟨X, CoTo.refl X s, c, hv⟩
    cases l with
    | tu ls =>
      simp only at he
      generalize hc : coL Hm hs ls s = p at he
      obtain ⟨r, s1⟩ := p
      obtain ⟨e3, e4⟩ := pair_eq he
      subst e3 e4
      cases b with
      | true => simp only [Rp, if_true, CRep] at hv
      | false =>
        simp only [Rp, Bool.false_eq_true, if_false, VRep] at hv ⊢
        obtain ⟨v, e, arr, e1, hv⟩ := hv
        obtain ⟨X', h1, h2, h3⟩ := coL_sound hs _ _ hc c hs' hv
        exact ⟨X', h1, h2, v, e, arr, e1, h3⟩
    | _ => simp only at he; exact same he
  | .fn f us hs, l, s, X, x, s', he, c, hs', b, cs, hv => by
    have hl : coLeaf Hm (.fn f us hs) l s = none := rfl
    unfold coSV at he
    rw [hl] at he
    simp only at he
    have same : (l, s) = (x, s') → ∃ X', CoTo X X' s s' ∧ CoOk B0 C k X' s' ∧ Rp X' b x cs := fun he => by
      obtain ⟨e3, e4⟩ := pair_eq he
      subst e3 e4
      exact ⟨X, CoTo.refl X s, c, hv⟩
    cases l with
    | fn g ks ls =>
      simp only at he
      generalize hc : coL Hm us ks s = p at he
      obtain ⟨u, s1⟩ := p
      simp only at he
      generalize hc2 : coL Hm hs ls s1 = p at he
      obtain ⟨r, s2⟩ := p
      obtain ⟨e3, e4⟩ := pair_eq he
      subst e3 e4
      have hs1 := coL_sat (X := X) hs _ _ hc2 hs'
      have go : ∀ {kv lv : List Value}, VRepL X ks kv → VRepL X ls lv → ∃ X', CoTo X X' s s2 ∧ CoOk B0 C k X' s2 ∧ VRepL X' u kv ∧ VRepL X' r lv := fun hk hl => by
        obtain ⟨X1, g1, g2, g3⟩ := coL_sound us _ _ hc c hs1 hk
        obtain ⟨X2, g4, g5, g6⟩ := coL_sound hs _ _ hc2 g2 (by rw [g1.E]; exact hs') (VRepL.ext g1.ext hl)
        exact ⟨X2, g1.trans g4, g5, VRepL.ext g4.ext g3, g6⟩
      cases b with
      | true =>
        simp only [Rp, if_true, CRep] at hv ⊢
        obtain ⟨uv, lv, e1, h1, h2⟩ := hv
        obtain ⟨X', q1, q2, q3, q4⟩ := go h1 h2
        exact ⟨X', q1, q2, uv, lv, e1, q3, q4⟩
      | false =>
        simp only [Rp, Bool.false_eq_true, if_false, VRep] at hv ⊢
        obtain ⟨v, e, uv, lv, e1, h1, h2⟩ := hv
        obtain ⟨X', q1, q2, q3, q4⟩ := go h1 h2
        exact ⟨X', q1, q2, v, e, uv, lv, e1, q3, q4⟩
    | _ => simp only at he; exact same he
  | .un n, l, s, X, x, s', he, c, hs', b, cs, hv => coSV_sound' (h := .un n) rfl he c hs' hv
  | .cv n, l, s, X, x, s', he, c, hs', b, cs, hv => coSV_sound' (h := .cv n) rfl he c hs' hv
  | .d T a, l, s, X, x, s', he, c, hs', b, cs, hv => coSV_sound' (h := .d T a) rfl he c hs' hv
  | .h e r vw, l, s, X, x, s', he, c, hs', b, cs, hv => coSV_sound' (h := .h e r vw) rfl he c hs' hv
  | .hc e r i, l, s, X, x, s', he, c, hs', b, cs, hv => coSV_sound' (h := .hc e r i) rfl he c hs' hv
  | .z e a, l, s, X, x, s', he, c, hs', b, cs, hv => coSV_sound' (h := .z e a) rfl he c hs' hv
  | .p R T r q, l, s, X, x, s', he, c, hs', b, cs, hv => coSV_sound' (h := .p R T r q) rfl he c hs' hv
  | .pd T a, l, s, X, x, s', he, c, hs', b, cs, hv => coSV_sound' (h := .pd T a) rfl he c hs' hv
  | .hb R e n r q, l, s, X, x, s', he, c, hs', b, cs, hv => coSV_sound' (h := .hb R e n r q) rfl he c hs' hv
  | .hr e r i g, l, s, X, x, s', he, c, hs', b, cs, hv => coSV_sound' (h := .hr e r i g) rfl he c hs' hv
  | .pm e T r i q g, l, s, X, x, s', he, c, hs', b, cs, hv => coSV_sound' (h := .pm e T r i q g) rfl he c hs' hv
theorem coL_sound : ∀ (hs ls : List SV) (s : CoS) {X : Ctx} {r : List SV} {s' : CoS}, coL Hm hs ls s = (r, s') → CoOk B0 C k X s → Sat C k X.E s'.bs s'.nv → ∀ {vs : List Value}, VRepL X ls vs →
    ∃ X', CoTo X X' s s' ∧ CoOk B0 C k X' s' ∧ VRepL X' r vs
  | h :: hs, l :: ls, s, X, r, s', he, c, hs', vs, hv => by
    simp only [coL] at he
    generalize h1 : coSV Hm h l s = p at he
    obtain ⟨x, s1⟩ := p
    simp only at he
    generalize h2 : coL Hm hs ls s1 = p at he
    obtain ⟨r', s2⟩ := p
    obtain ⟨e3, e4⟩ := pair_eq he
    subst e3 e4
    simp only [VRepL] at hv ⊢
    obtain ⟨v, vs', ev, hv1, hv2⟩ := hv
    have hs1 := coL_sat (X := X) hs _ _ h2 hs'
    obtain ⟨X1, g1, g2, g3⟩ := coSV_sound h _ _ h1 c hs1 (b := false) (cs := [v]) (by simp only [Rp, Bool.false_eq_true, if_false]; exact ⟨v, rfl, hv1⟩)
    obtain ⟨X2, g4, g5, g6⟩ := coL_sound hs _ _ h2 g2 (by rw [g1.E]; exact hs') (VRepL.ext g1.ext hv2)
    simp only [Rp, Bool.false_eq_true, if_false] at g3
    obtain ⟨v', ev', g3⟩ := g3
    injection ev' with ev'
    subst ev'
    exact ⟨X2, g1.trans g4, g5, v, vs', ev, VRep.ext g4.ext g3, g6⟩
  | [], ls, s, X, r, s', he, c, hs', vs, hv => by
    unfold coL at he
    obtain ⟨e3, e4⟩ := pair_eq he
    subst e3 e4
    exact ⟨X, CoTo.refl X s, c, hv⟩
  | _ :: _, [], s, X, r, s', he, c, hs', vs, hv => by
    unfold coL at he
    obtain ⟨e3, e4⟩ := pair_eq he
    subst e3 e4
    exact ⟨X, CoTo.refl X s, c, hv⟩
theorem coLC_sound : ∀ (hs ls : List SV) (s : CoS) {X : Ctx} {r : List SV} {s' : CoS}, coLC Hm hs ls s = (r, s') → CoOk B0 C k X s → Sat C k X.E s'.bs s'.nv → ∀ {Ts : List Ty} {cs : List Value}, CRepL X ls Ts cs →
    ∃ X', CoTo X X' s s' ∧ CoOk B0 C k X' s' ∧ CRepL X' r Ts cs
  | h :: hs, l :: ls, s, X, r, s', he, c, hs', Ts, cs, hv => by
    simp only [coLC] at he
    generalize h1 : coSV Hm h l s = p at he
    obtain ⟨x, s1⟩ := p
    simp only at he
    generalize h2 : coLC Hm hs ls s1 = p at he
    obtain ⟨r', s2⟩ := p
    obtain ⟨e3, e4⟩ := pair_eq he
    subst e3 e4
    cases Ts with
    | nil => simp only [CRepL] at hv
    | cons T Ts =>
      simp only [CRepL] at hv ⊢
      obtain ⟨c1, c2, ec, hT, hv1, hv2⟩ := hv
      have hs1 := coLC_sat (X := X) hs _ _ h2 hs'
      obtain ⟨X1, g1, g2, g3⟩ := coSV_sound h _ _ h1 c hs1 (b := true) (cs := c1) (by simp only [Rp, if_true]; exact hv1)
      obtain ⟨X2, g4, g5, g6⟩ := coLC_sound hs _ _ h2 g2 (by rw [g1.E]; exact hs') (CRepL.ext g1.ext hv2)
      simp only [Rp, if_true] at g3
      refine ⟨X2, g1.trans g4, g5, c1, c2, ec, ?_, ?_, g6⟩
      · split
        · rename_i hsm; exact sameTy_has hsm hT
        · exact hT
      · split
        · exact CRep.ext g4.ext g3
        · exact CRep.ext (g1.trans g4).ext hv1
  | [], ls, s, X, r, s', he, c, hs', Ts, cs, hv => by
    unfold coLC at he
    obtain ⟨e3, e4⟩ := pair_eq he
    subst e3 e4
    exact ⟨X, CoTo.refl X s, c, hv⟩
  | _ :: _, [], s, X, r, s', he, c, hs', Ts, cs, hv => by
    unfold coLC at he
    obtain ⟨e3, e4⟩ := pair_eq he
    subst e3 e4
    exact ⟨X, CoTo.refl X s, c, hv⟩
end

/-- Boxes' contents. -/
theorem coRoots_sat {X : Ctx} {H : St} : ∀ {ps : List (Nat × Nat)} {s s' : CoS}, coRoots H ps s = s' → Sat C k X.E s'.bs s'.nv → Sat C k X.E s.bs s.nv
  | [], s, s', he, hs => by simp only [coRoots] at he; subst he; exact hs
  | (l, h) :: r, s, s', he, hs => by
    simp only [coRoots] at he
    split at he
    · split at he
      · rename_i T hv T' lv _ _ _
        generalize h1 : coSV H.mem hv lv s = p at he
        obtain ⟨x, s1⟩ := p
        simp only at he
        split at he
        · exact coSV_sat (X := X) _ _ _ h1 (coRoots_sat (s := { s1 with m := s1.m.set l (.box T' x) }) he hs)
        · exact coSV_sat (X := X) _ _ _ h1 (coRoots_sat he hs)
      · exact coRoots_sat he hs
    · exact coRoots_sat he hs

theorem Mem.rebox' {X : Ctx} (m : Mem B0 X) (hB : B0 ≤ X.w.heap.size) {r : Nat} {T : Ty} {v v' : SV} (hA : X.A r) (hR : X.μ r = .box T v) (hT : ∀ cs, v.hasTy T → CRep X v cs → v'.hasTy T) (hc : ∀ cs c te b, (X.β r).main = some b → X.w.heap[b]? = some (.cells cs te c) → CRep X v cs.toList → CRep X v' cs.toList) :
    Ext X { X with μ := upd X.μ r (.box T v') } ∧ Mem B0 { X with μ := upd X.μ r (.box T v') } := by
  refine Mem.change m hB (fun q => q = r) (fun _ _ h => h) (fun _ h => h) (fun q h => .inl h) (fun q hq => ⟨upd_ne _ _ hq, rfl⟩) (fun _ _ _ => rfl) (fun _ _ h => h) ?_ ?_ ?_ (fun _ _ _ => rfl) ?_ ?_
  · intro q b hq _ hb
    subst hq
    simp only [upd_same] at hb
    exact .inr ⟨q, rfl, hA, by rw [hR]; exact hb⟩
  · intro q q' b hq hq' _ _ _ _
    rw [hq, hq']
  · intro q hq _
    subst hq
    have := m.once q hA
    rw [hR] at this
    simp only [upd_same]
    exact this
  · intro q hq _ _
    subst hq
    refine ⟨by rw [hR]; rfl, fun e1 a1 d1 hr hd => ?_, fun e1 a1 g1 hr => ?_⟩
    · rw [hR] at hr
      cases hr
    · simp only [upd_same] at hr
      cases hr
  · intro x q hq _
    subst hq
    simp only [upd_same]
    have hrep := m.rep q hA
    rw [hR] at hrep
    obtain ⟨b, c, te, h1, h2, h3, h4⟩ := hrep
    exact ⟨b, c, te, h1, h2, hT _ h3 h4, CRep.ext x (hc c _ te b h1 h2 h4)⟩

theorem coRoots_sound {H : St} : ∀ {ps : List (Nat × Nat)} {s s' : CoS} {X : Ctx}, coRoots H ps s = s' → CoOk B0 C k X s → Sat C k X.E s'.bs s'.nv → ∃ X', X'.E = X.E ∧ X'.w = X.w ∧ Ext X X' ∧ CoOk B0 C k X' s'
  | [], s, s', X, he, c, hs => by simp only [coRoots] at he; subst he; exact ⟨X, rfl, rfl, Ext.refl X, c⟩
  | (l, h) :: r, s, s', X, he, c, hs => by
    simp only [coRoots] at he
    split at he
    · rename_i T hv T' lv hh hm
      split at he
      · generalize h1 : coSV H.mem hv lv s = p at he
        obtain ⟨x, s1⟩ := p
        simp only at he
        have hlt := there_lt (m := s.m) (r := l) (by rw [hm]; simp)
        have hA := (c.A l).2 hlt
        have hR : X.μ l = .box T' lv := by rw [c.μ]; exact hm
        have hrep := c.mem.rep l hA
        rw [hR] at hrep
        obtain ⟨b, cc, te, q1, q2, q3, q4⟩ := hrep
        split at he
        · rename_i hsm
          have hs1 : Sat C k X.E s1.bs s1.nv := coRoots_sat (s := { s1 with m := s1.m.set l (.box T' x) }) he hs
          obtain ⟨X1, t1, c1, g3⟩ := coSV_sound _ _ _ h1 c hs1 (b := true) (cs := cc.toList) (by simp only [Rp, if_true]; exact q4)
          simp only [Rp, if_true] at g3
          have hbx := t1.box l T' lv hm
          have hlt1 := there_lt (m := s1.m) (r := l) (by rw [hbx]; simp)
          have hA1 := (c1.A l).2 hlt1
          have hR1 : X1.μ l = .box T' lv := by rw [c1.μ]; exact hbx
          obtain ⟨x2, m2⟩ := c1.mem.rebox' c1.B hA1 hR1 (v' := x) (fun cs ht _ => sameTy_has hsm ht) (fun cs fr te' b' hb' hh' _ => by
            have hβ := (t1.ext.β l hA).2
            rw [hβ, q1] at hb'
            injection hb' with hb'
            subst hb'
            rw [t1.w, q2] at hh'
            injection hh' with hh'
            injection hh' with hh' _ _
            subst hh'
            exact g3)
          obtain ⟨X', e1, e2, e3, e4⟩ := coRoots_sound (s := { s1 with m := s1.m.set l (.box T' x) }) (X := { X1 with μ := upd X1.μ l (.box T' x) }) he ⟨by
            funext q
            show upd X1.μ l _ q = memFn (s1.m.set l _) q
            rw [memFn_set hlt1, c1.μ], fun q => by
            show X1.A q ↔ q < (s1.m.set l _).length
            rw [c1.A q]
            simp, m2, c1.B⟩ (by show Sat C k X1.E _ _; rw [t1.E]; exact hs)
          exact ⟨X', e1.trans t1.E, e2.trans t1.w, (t1.ext.trans x2).trans e3, e4⟩
        · have hs1 : Sat C k X.E s1.bs s1.nv := coRoots_sat he hs
          obtain ⟨X1, t1, c1, _⟩ := coSV_sound _ _ _ h1 c hs1 (b := true) (cs := cc.toList) (by simp only [Rp, if_true]; exact q4)
          obtain ⟨X', e1, e2, e3, e4⟩ := coRoots_sound he c1 (by rw [t1.E]; exact hs)
          exact ⟨X', e1.trans t1.E, e2.trans t1.w, t1.ext.trans e3, e4⟩
      · exact coRoots_sound he c hs
    · exact coRoots_sound he c hs
end

end Go.SX

/- Roots get other names. -/
namespace Go.SX
open Go.RowKit (Below)

/-! ### Names -/
theorem look_mem {rh : List (Nat × Nat)} {l h : Nat} (e : look rh l = some h) : (l, h) ∈ rh := by
  induction rh with
  | nil => simp [look] at e
  | cons p r ih =>
    obtain ⟨a, b⟩ := p
    simp only [look] at e
    split at e
    · rename_i hb
      injection e with e
      rw [nat_beq hb, e]
      simp
    · exact List.mem_cons_of_mem _ (ih e)
theorem lookBack_mem {rh : List (Nat × Nat)} {l h : Nat} (e : lookBack rh h = some l) : (l, h) ∈ rh := by
  induction rh with
  | nil => simp [lookBack] at e
  | cons p r ih =>
    obtain ⟨a, b⟩ := p
    simp only [lookBack] at e
    split at e
    · rename_i hb
      injection e with e
      rw [nat_beq hb, e]
      simp
    · exact List.mem_cons_of_mem _ (ih e)
theorem rhOk_inj {base n : Nat} : ∀ {rh : List (Nat × Nat)}, rhOk base n rh = true → (∀ l h h', (l, h) ∈ rh → (l, h') ∈ rh → h = h') ∧ (∀ l l' h, (l, h) ∈ rh → (l', h) ∈ rh → l = l') ∧ (∀ l h, (l, h) ∈ rh → (l = h ∨ base ≤ h) ∧ h < n)
  | [], _ => by simp
  | (l0, h0) :: r, hk => by
    simp only [rhOk, Bool.and_eq_true, Bool.or_eq_true, Bool.not_eq_true', List.any_eq_false, Nat.ble_eq, Nat.blt_eq] at hk
    obtain ⟨⟨⟨h1, h2⟩, h3⟩, h4⟩ := hk
    obtain ⟨i1, i2, i3⟩ := rhOk_inj h4
    have no : ∀ l h, (l, h) ∈ r → l ≠ l0 ∧ h ≠ h0 := fun l h hm => by
      have := h3 (l, h) hm
      exact ⟨fun e => this (.inl (by rw [e]; exact Nat.beq_refl _)), fun e => this (.inr (by rw [e]; exact Nat.beq_refl _))⟩
    refine ⟨fun l h h' m1 m2 => ?_, fun l l' h m1 m2 => ?_, fun l h m1 => ?_⟩
    · rcases List.mem_cons.1 m1 with m1 | m1 <;> rcases List.mem_cons.1 m2 with m2 | m2
      · injection m1 with _ a; injection m2 with _ b; rw [a, b]
      · injection m1 with a _; exact absurd a (no _ _ m2).1
      · injection m2 with a _; exact absurd a (no _ _ m1).1
      · exact i1 l h h' m1 m2
    · rcases List.mem_cons.1 m1 with m1 | m1 <;> rcases List.mem_cons.1 m2 with m2 | m2
      · injection m1 with a _; injection m2 with b _; rw [a, b]
      · injection m1 with _ a; exact absurd a (no _ _ m2).2
      · injection m2 with _ a; exact absurd a (no _ _ m1).2
      · exact i2 l l' h m1 m2
    · rcases List.mem_cons.1 m1 with m1 | m1
      · injection m1 with a b
        subst a b
        exact ⟨h1.imp nat_beq id, h2⟩
      · exact i3 l h m1
theorem look_of {rh : List (Nat × Nat)} {l h : Nat} (hm : (l, h) ∈ rh) : ∃ h', look rh l = some h' := by
  induction rh with
  | nil => simp at hm
  | cons p r ih =>
    obtain ⟨a, b⟩ := p
    simp only [look]
    by_cases hb : Nat.beq a l = true
    · exact ⟨b, by rw [if_pos hb]⟩
    · rw [if_neg hb]
      rcases List.mem_cons.1 hm with hm | hm
      · injection hm with e _
        exact absurd (by rw [e]; exact Nat.beq_refl _) hb
      · exact ih hm
theorem lookBack_of {rh : List (Nat × Nat)} {l h : Nat} (hm : (l, h) ∈ rh) : ∃ l', lookBack rh h = some l' := by
  induction rh with
  | nil => simp at hm
  | cons p r ih =>
    obtain ⟨a, b⟩ := p
    simp only [lookBack]
    by_cases hb : Nat.beq b h = true
    · exact ⟨a, by rw [if_pos hb]⟩
    · rw [if_neg hb]
      rcases List.mem_cons.1 hm with hm | hm
      · injection hm with _ e
        exact absurd (by rw [e]; exact Nat.beq_refl _) hb
      · exact ih hm

theorem renMem_get {base : Nat} {rh : List (Nat × Nat)} {m : List Root} : ∀ (n h j : Nat), j < n → (renMem base rh m n h)[j]? = some (match lookBack rh (h + j) with | some l => (memFn m l).ren base m rh (h + j) | none => .dead)
  | 0, _, _, hj => by omega
  | n + 1, h, 0, _ => by
    simp only [renMem, Nat.add_zero, List.getElem?_cons_zero]
    cases lookBack rh h <;> rfl
  | n + 1, h, j + 1, hj => by
    simp only [renMem, List.getElem?_cons_succ]
    rw [renMem_get n (h + 1) j (by omega), show h + 1 + j = h + (j + 1) by omega]
theorem renMem_length {base : Nat} {rh : List (Nat × Nat)} {m : List Root} : ∀ (n h : Nat), (renMem base rh m n h).length = n
  | 0, _ => rfl
  | n + 1, h => by simp [renMem, renMem_length n]

section
variable {base n : Nat} {m : List Root} {rh : List (Nat × Nat)}

theorem Root.ren_own (h : Nat) (R : Root) (p : Pl) : (R.ren base m rh h).own p = R.own p := by cases R <;> rfl
theorem Root.ren_there (h : Nat) (R : Root) : (R.ren base m rh h).there = R.there := by cases R <;> rfl
theorem Root.ren_row (h : Nat) (R : Root) : (R.ren base m rh h).row? = R.row? := by cases R <;> rfl
theorem Root.ren_mat {h : Nat} {R : Root} {e : Ty} {a : At} {g : Nat} (hR : R.ren base m rh h = .mat e a g) : ∃ g', R = .mat e a g' ∧ g = gen0 base h g' := by
  cases R <;> simp only [Root.ren, reduceCtorEq, Root.mat.injEq] at hR
  obtain ⟨h1, h2, h3⟩ := hR
  subst h1 h2
  exact ⟨_, rfl, h3.symm⟩

/-- The context under the new names. -/
def Ctx.ren (X : Ctx) (base n : Nat) (m : List Root) (rh : List (Nat × Nat)) : Ctx :=
  { E := X.E, w := X.w, μ := memFn (renMem base rh m n 0), β := fun h => match lookBack rh h with | some l => X.β l | none => X.β h, A := fun r => r < n, F := X.F }

variable {X : Ctx}

theorem ren_at (hk : rhOk base n rh = true) {l h : Nat} (hm : (l, h) ∈ rh) : (X.ren base n m rh).μ h = (memFn m l).ren base m rh h ∧ (X.ren base n m rh).β h = X.β l ∧ h < n := by
  obtain ⟨i1, i2, i3⟩ := rhOk_inj hk
  obtain ⟨l', hl'⟩ := lookBack_of hm
  have : l' = l := i2 _ _ _ (lookBack_mem hl') hm
  subst this
  have hlt := (i3 _ _ hm).2
  refine ⟨?_, ?_, hlt⟩
  · show memFn (renMem base rh m n 0) h = _
    rw [memFn_get (renMem_get n 0 h hlt)]
    simp only [Nat.zero_add, hl']
  · simp only [Ctx.ren, hl']

/-- Each root is one of before, or nothing. -/
theorem ren_cases (r : Nat) : (∃ l, (l, r) ∈ rh ∧ r < n ∧ (X.ren base n m rh).μ r = (memFn m l).ren base m rh r ∧ (X.ren base n m rh).β r = X.β l) ∨ (X.ren base n m rh).μ r = .dead := by
  by_cases hr : r < n
  · cases hl : lookBack rh r with
    | none =>
      right
      show memFn (renMem base rh m n 0) r = _
      rw [memFn_get (renMem_get n 0 r hr)]
      simp only [Nat.zero_add, hl]
    | some l =>
      refine .inl ⟨l, lookBack_mem hl, hr, ?_, by simp only [Ctx.ren, hl]⟩
      show memFn (renMem base rh m n 0) r = _
      rw [memFn_get (renMem_get n 0 r hr)]
      simp only [Nat.zero_add, hl]
  · right
    exact memFn_out (by rw [renMem_length]; omega)

theorem ren_M (_hk : rhOk base n rh = true) (hμ : X.μ = memFn m) (hA : ∀ r, X.A r ↔ r < m.length) {b : Nat} (h : (X.ren base n m rh).M b) : X.M b := by
  rcases h with h | ⟨r, h1, h2⟩
  · exact .inl h
  · rcases ren_cases (X := X) (base := base) (n := n) (m := m) (rh := rh) r with ⟨l, q1, q2, q3, q4⟩ | q
    · rw [q3, q4, Root.ren_own, ← hμ] at h2
      refine .inr ⟨l, (hA l).2 (there_lt fun hd => ?_), h2⟩
      rw [hμ, hd] at h2
      simp [Root.own] at h2
    · rw [q] at h2
      simp [Root.own] at h2

theorem ren_K (hk : rhOk base n rh = true) (hμ : X.μ = memFn m) (hA : ∀ r, X.A r ↔ r < m.length) : Keeps X.w (X.ren base n m rh).w X.M (X.ren base n m rh).M := ⟨fun _ _ h _ => h, fun _ _ _ h h' => h (ren_M hk hμ hA h')⟩

theorem genOf_mat {r g : Nat} (h : genOf m r = some g) : ∃ e a, memFn m r = .mat e a g := by
  unfold genOf at h
  split at h
  · rename_i e a g' hm
    injection h with h
    exact ⟨e, a, by rw [hm, h]⟩
  · cases h

/-- A reference under its new name. -/
theorem ren_ref (hk : rhOk base n rh = true) (hμ : X.μ = memFn m) (hA : ∀ r, X.A r ↔ r < m.length) {s : SV} {v : Value} (h : Ref X s v) : s.ren base m rh = .un 1 ∨ Ref (X.ren base n m rh) (s.ren base m rh) v := by
  cases s <;> simp only [SV.ren] <;> try (right; simp only [Ref] at h ⊢; done)
  case h e r vw =>
    cases hl : look rh r with
    | none => exact .inl rfl
    | some r' =>
      right
      obtain ⟨q1, q2, q3⟩ := ren_at (X := X) hk (look_mem hl)
      simp only [Ref] at h ⊢
      refine ⟨h.1, q3, fun ht => ?_⟩
      rw [q1, Root.ren_there, ← hμ] at ht
      obtain ⟨a, d, h1, h2, h3⟩ := h.2.2 ht
      refine ⟨a, d, by rw [q1, Root.ren_row, ← hμ]; exact h1, h2, ?_⟩
      rw [q2]
      exact h3
  case hc e r hi =>
    cases hl : look rh r with
    | none => exact .inl rfl
    | some r' =>
      right
      obtain ⟨q1, q2, q3⟩ := ren_at (X := X) hk (look_mem hl)
      simp only [Ref] at h ⊢
      refine ⟨h.1, q3, fun ht => ?_⟩
      rw [q1, Root.ren_there, ← hμ] at ht
      obtain ⟨a, d, h1, h2, h3⟩ := h.2.2 ht
      refine ⟨a, d, by rw [q1, Root.ren_row, ← hμ]; exact h1, h2, ?_⟩
      rw [q2]
      exact h3
  case z e a => right; simp only [Ref] at h ⊢; exact h
  case pd T a =>
    right
    simp only [Ref] at h ⊢
    obtain ⟨ad, d, xs, h1, h2, h3, h4, h5⟩ := h
    exact ⟨ad, d, xs, h1, h2, h3.keep (ren_K hk hμ hA), h4, fun hx hM => h5 hx (ren_M hk hμ hA hM)⟩
  case p R T r q =>
    cases hl : look rh r with
    | none => exact .inl rfl
    | some r' =>
      right
      obtain ⟨q1, q2, q3⟩ := ren_at (X := X) hk (look_mem hl)
      simp only [Ref] at h ⊢
      obtain ⟨_, b, off, h1, h2, h3⟩ := h
      exact ⟨q3, b, off, h1, by rw [q2]; exact h2, h3⟩
  case hb R e k r q =>
    cases hl : look rh r with
    | none => exact .inl rfl
    | some r' =>
      right
      obtain ⟨q1, q2, q3⟩ := ren_at (X := X) hk (look_mem hl)
      simp only [Ref] at h ⊢
      obtain ⟨_, h1, h2, b, h3, h4⟩ := h
      exact ⟨q3, h1, h2, b, by rw [q2]; exact h3, h4⟩
  case hr e r ix g =>
    cases hl : look rh r with
    | none => exact .inl rfl
    | some r' =>
      cases hg : genOf m r with
      | none => exact .inl rfl
      | some g' =>
        simp only
        split
        · rename_i hb
          have := nat_beq hb
          subst this
          right
          obtain ⟨q1, q2, q3⟩ := ren_at (X := X) hk (look_mem hl)
          obtain ⟨em, am, hm⟩ := genOf_mat hg
          simp only [Ref] at h ⊢
          refine ⟨h.1, q3, fun e' a' g2 hm2 => ?_⟩
          rw [q1, hm] at hm2
          simp only [Root.ren, Root.mat.injEq] at hm2
          obtain ⟨e1, e2, e3⟩ := hm2
          subst e1 e2 e3
          refine ⟨Nat.le_refl _, fun _ => ?_⟩
          obtain ⟨_, hh⟩ := h.2.2 em am g (by rw [hμ]; exact hm)
          obtain ⟨he, k, i, ds, d, o, h1, h2, h3, h4, h5⟩ := hh rfl
          exact ⟨he, k, i, ds, d, o, h1, h2, h3, by rw [q2]; exact h4, h5⟩
        · exact .inl rfl
  case pm e T r ix q g =>
    cases hl : look rh r with
    | none => exact .inl rfl
    | some r' =>
      cases hg : genOf m r with
      | none => exact .inl rfl
      | some g' =>
        simp only
        split
        · rename_i hb
          have := nat_beq hb
          subst this
          right
          obtain ⟨q1, q2, q3⟩ := ren_at (X := X) hk (look_mem hl)
          obtain ⟨em, am, hm⟩ := genOf_mat hg
          simp only [Ref] at h ⊢
          refine ⟨h.1, q3, fun e' a' g2 hm2 => ?_⟩
          rw [q1, hm] at hm2
          simp only [Root.ren, Root.mat.injEq] at hm2
          obtain ⟨e1, e2, e3⟩ := hm2
          subst e1 e2 e3
          refine ⟨Nat.le_refl _, fun _ => ?_⟩
          obtain ⟨_, hh⟩ := h.2.2 em am g (by rw [hμ]; exact hm)
          obtain ⟨he, k, i, b, off, h1, h2, h3⟩ := hh rfl
          exact ⟨he, k, i, b, off, h1, by rw [q2]; exact h2, h3⟩
        · exact .inl rfl

theorem ren_cell (hk : rhOk base n rh = true) (hμ : X.μ = memFn m) (hA : ∀ r, X.A r ↔ r < m.length) {s : SV} {cs : List Value} (h : ∃ v, cs = [v] ∧ Ref X s v) (hs : ∀ s' : SV, s' = s.ren base m rh → (∃ n, s' = .un n) ∨ (∀ cs, (∃ v, cs = [v] ∧ Ref (X.ren base n m rh) s' v) → CRep (X.ren base n m rh) s' cs)) : CRep (X.ren base n m rh) (s.ren base m rh) cs := by
  obtain ⟨v, e, hv⟩ := h
  subst e
  rcases ren_ref (n := n) hk hμ hA hv with h1 | h1
  · rw [h1]
    simp only [CRep]
    exact ⟨rfl, fun u hu => by simp at hu; subst hu; exact hv.one⟩
  · rcases hs _ rfl with ⟨k, h2⟩ | h2
    · rw [h2] at h1
      simp only [Ref] at h1
    · exact h2 _ ⟨v, rfl, h1⟩

theorem ren_hasTy {s : SV} {T : Ty} {cs : List Value} (ht : s.hasTy T) (hc : CRep X s cs) : (s.ren base m rh).hasTy T := by
  have key : ∀ {s' : SV}, s.ren base m rh = s' → s'.hasTy T ∨ (s' = .un 1 ∧ T.size = 1) → (s.ren base m rh).hasTy T := fun e h => by
    rw [e]
    rcases h with h | ⟨h, h1⟩
    · exact h
    · rw [h]; exact h1.symm
  have one : T.size = 1 → ∀ {o : Option Nat} {f : Nat → SV}, (∀ r', (f r').hasTy T) → (match o with | some r' => f r' | none => SV.un 1).hasTy T := fun h1 o f hf => by
    cases o with
    | none => exact h1.symm
    | some r => exact hf r
  cases s <;> simp only [SV.ren] <;> simp only [SV.hasTy] at ht <;> try (subst ht)
  case h e r vw => cases look rh r <;> simp [SV.hasTy, Ty.size]
  case hc e r i => cases look rh r <;> simp [SV.hasTy, Ty.size]
  case p R T r q => cases look rh r <;> simp [SV.hasTy, Ty.size]
  case hb R e k r q => cases look rh r <;> simp [SV.hasTy, Ty.size]
  case hr e r i g =>
    cases look rh r <;> cases genOf m r <;> first | rfl | (simp only; split <;> rfl)
  case pm e T r i q g =>
    cases look rh r <;> cases genOf m r <;> first | rfl | (simp only; split <;> rfl)
  all_goals simp only [SV.hasTy]

mutual
theorem ren_crep (hk : rhOk base n rh = true) (hμ : X.μ = memFn m) (hA : ∀ r, X.A r ↔ r < m.length) : ∀ {s : SV} {cs : List Value}, CRep X s cs → CRep (X.ren base n m rh) (s.ren base m rh) cs
  | .un _, cs, h => by simpa only [SV.ren, CRep] using h
  | .cv _, cs, h => by simpa only [SV.ren, CRep] using h
  | .d T a, cs, h => by
    simp only [SV.ren, CRep] at h ⊢
    obtain ⟨d, h1, h2⟩ := h
    exact ⟨d, h1, h2.keep (ren_K hk hμ hA)⟩
  | .ag T l, cs, h => by
    cases T <;> simp only [SV.ren, CRep] at h ⊢
    exact ren_crepL hk hμ hA h
  | .fn f u l, cs, h => by
    simp only [SV.ren, CRep] at h ⊢
    obtain ⟨us, vs, h1, h2, h3⟩ := h
    exact ⟨us, vs, h1, ren_vrepL hk hμ hA h2, ren_vrepL hk hμ hA h3⟩
  | .tu _, _, h => by simp only [CRep] at h
  | .z e a, cs, h => by
    simp only [SV.ren, CRep, Ref] at h ⊢
    exact h
  | .pd T a, cs, h => by
    have h' : ∃ v, cs = [v] ∧ Ref X (.pd T a) v := by simpa only [CRep] using h
    exact ren_cell hk hμ hA h' fun s' e => .inr fun cs hh => by subst e; simp only [SV.ren, CRep] at hh ⊢; exact hh
  | .h e r vw, cs, h => by
    have h' : ∃ v, cs = [v] ∧ Ref X (.h e r vw) v := by simpa only [CRep] using h
    refine ren_cell hk hμ hA h' fun s' e => ?_
    subst e
    simp only [SV.ren]
    cases look rh r with
    | none => exact .inl ⟨1, rfl⟩
    | some r' => exact .inr fun cs hh => by simp only [CRep]; exact hh
  | .hc e r i, cs, h => by
    have h' : ∃ v, cs = [v] ∧ Ref X (.hc e r i) v := by simpa only [CRep] using h
    refine ren_cell hk hμ hA h' fun s' e => ?_
    subst e
    simp only [SV.ren]
    cases look rh r with
    | none => exact .inl ⟨1, rfl⟩
    | some r' => exact .inr fun cs hh => by simp only [CRep]; exact hh
  | .p R T r q, cs, h => by
    have h' : ∃ v, cs = [v] ∧ Ref X (.p R T r q) v := by simpa only [CRep] using h
    refine ren_cell hk hμ hA h' fun s' e => ?_
    subst e
    simp only [SV.ren]
    cases look rh r with
    | none => exact .inl ⟨1, rfl⟩
    | some r' => exact .inr fun cs hh => by simp only [CRep]; exact hh
  | .hb R e k r q, cs, h => by
    have h' : ∃ v, cs = [v] ∧ Ref X (.hb R e k r q) v := by simpa only [CRep] using h
    refine ren_cell hk hμ hA h' fun s' e => ?_
    subst e
    simp only [SV.ren]
    cases look rh r with
    | none => exact .inl ⟨1, rfl⟩
    | some r' => exact .inr fun cs hh => by simp only [CRep]; exact hh
  | .hr e r i g, cs, h => by
    have h' : ∃ v, cs = [v] ∧ Ref X (.hr e r i g) v := by simpa only [CRep] using h
    refine ren_cell hk hμ hA h' fun s' e => ?_
    subst e
    simp only [SV.ren]
    cases look rh r with
    | none => exact .inl ⟨1, rfl⟩
    | some r' =>
      cases genOf m r with
      | none => exact .inl ⟨1, rfl⟩
      | some g' =>
        simp only
        split
        · exact .inr fun cs hh => by simp only [CRep]; exact hh
        · exact .inl ⟨1, rfl⟩
  | .pm e T r i q g, cs, h => by
    have h' : ∃ v, cs = [v] ∧ Ref X (.pm e T r i q g) v := by simpa only [CRep] using h
    refine ren_cell hk hμ hA h' fun s' e => ?_
    subst e
    simp only [SV.ren]
    cases look rh r with
    | none => exact .inl ⟨1, rfl⟩
    | some r' =>
      cases genOf m r with
      | none => exact .inl ⟨1, rfl⟩
      | some g' =>
        simp only
        split
        · exact .inr fun cs hh => by simp only [CRep]; exact hh
        · exact .inl ⟨1, rfl⟩
theorem ren_crepL (hk : rhOk base n rh = true) (hμ : X.μ = memFn m) (hA : ∀ r, X.A r ↔ r < m.length) : ∀ {l : List SV} {Ts : List Ty} {cs : List Value}, CRepL X l Ts cs → CRepL (X.ren base n m rh) (SV.renL base m rh l) Ts cs
  | [], [], cs, h => by simpa only [SV.renL, CRepL] using h
  | s :: l, T :: Ts, cs, h => by
    simp only [SV.renL, CRepL] at h ⊢
    obtain ⟨c1, c2, e, h0, h1, h2⟩ := h
    exact ⟨c1, c2, e, ren_hasTy h0 h1, ren_crep hk hμ hA h1, ren_crepL hk hμ hA h2⟩
  | [], _ :: _, _, h => by simp only [CRepL] at h
  | _ :: _, [], _, h => by simp only [CRepL] at h
theorem ren_vrep (hk : rhOk base n rh = true) (hμ : X.μ = memFn m) (hA : ∀ r, X.A r ↔ r < m.length) : ∀ {s : SV} {v : Value}, VRep X s v → VRep (X.ren base n m rh) (s.ren base m rh) v
  | .un _, v, h => by simp only [SV.ren, VRep]
  | .cv v', v, h => by simpa only [SV.ren, VRep] using h
  | .d T a, v, h => by
    simp only [SV.ren]
    obtain ⟨d, h1, h2⟩ := VRep.data.1 h
    exact VRep.data.2 ⟨d, h1, h2.keep (ren_K hk hμ hA)⟩
  | .ag T l, v, h => by
    cases T <;> simp only [SV.ren, VRep] at h ⊢
    obtain ⟨cs, h1, h2⟩ := h
    exact ⟨cs, h1, ren_crepL hk hμ hA h2⟩
  | .fn f u l, v, h => by
    simp only [SV.ren, VRep] at h ⊢
    obtain ⟨us, vs, h1, h2, h3⟩ := h
    exact ⟨us, vs, h1, ren_vrepL hk hμ hA h2, ren_vrepL hk hμ hA h3⟩
  | .tu l, v, h => by
    simp only [SV.ren, VRep] at h ⊢
    obtain ⟨vs, h1, h2⟩ := h
    exact ⟨vs, h1, ren_vrepL hk hμ hA h2⟩
  | .z e a, cs, h => by
    simp only [SV.ren, VRep, Ref] at h ⊢
    exact h
  | .pd T a, v, h => by
    have h' : Ref X (.pd T a) v := by simpa only [VRep] using h
    rcases ren_ref (n := n) hk hμ hA h' with h1 | h1
    · rw [h1]; simp only [VRep]
    · simp only [SV.ren, VRep] at h1 ⊢; exact h1
  | .h e r vw, v, h => by
    have h' : Ref X (.h e r vw) v := by simpa only [VRep] using h
    rcases ren_ref (n := n) hk hμ hA h' with h1 | h1
    · rw [h1]; simp only [VRep]
    · simp only [SV.ren] at h1 ⊢
      cases hl : look rh r with
      | none => simp only [VRep]
      | some r' => rw [hl] at h1; simp only [VRep]; exact h1
  | .hc e r i, v, h => by
    have h' : Ref X (.hc e r i) v := by simpa only [VRep] using h
    rcases ren_ref (n := n) hk hμ hA h' with h1 | h1
    · rw [h1]; simp only [VRep]
    · simp only [SV.ren] at h1 ⊢
      cases hl : look rh r with
      | none => simp only [VRep]
      | some r' => rw [hl] at h1; simp only [VRep]; exact h1
  | .p R T r q, v, h => by
    have h' : Ref X (.p R T r q) v := by simpa only [VRep] using h
    rcases ren_ref (n := n) hk hμ hA h' with h1 | h1
    · rw [h1]; simp only [VRep]
    · simp only [SV.ren] at h1 ⊢
      cases hl : look rh r with
      | none => simp only [VRep]
      | some r' => rw [hl] at h1; simp only [VRep]; exact h1
  | .hb R e k r q, v, h => by
    have h' : Ref X (.hb R e k r q) v := by simpa only [VRep] using h
    rcases ren_ref (n := n) hk hμ hA h' with h1 | h1
    · rw [h1]; simp only [VRep]
    · simp only [SV.ren] at h1 ⊢
      cases hl : look rh r with
      | none => simp only [VRep]
      | some r' => rw [hl] at h1; simp only [VRep]; exact h1
  | .hr e r i g, v, h => by
    have h' : Ref X (.hr e r i g) v := by simpa only [VRep] using h
    rcases ren_ref (n := n) hk hμ hA h' with h1 | h1
    · rw [h1]; simp only [VRep]
    · simp only [SV.ren] at h1 ⊢
      cases hl : look rh r with
      | none => simp only [VRep]
      | some r' =>
        cases hg : genOf m r with
        | none => simp only [VRep]
        | some g' =>
          rw [hl, hg] at h1
          simp only at h1 ⊢
          split
          · rename_i hb; rw [if_pos hb] at h1; simp only [VRep]; exact h1
          · simp only [VRep]
  | .pm e T r i q g, v, h => by
    have h' : Ref X (.pm e T r i q g) v := by simpa only [VRep] using h
    rcases ren_ref (n := n) hk hμ hA h' with h1 | h1
    · rw [h1]; simp only [VRep]
    · simp only [SV.ren] at h1 ⊢
      cases hl : look rh r with
      | none => simp only [VRep]
      | some r' =>
        cases hg : genOf m r with
        | none => simp only [VRep]
        | some g' =>
          rw [hl, hg] at h1
          simp only at h1 ⊢
          split
          · rename_i hb; rw [if_pos hb] at h1; simp only [VRep]; exact h1
          · simp only [VRep]
theorem ren_vrepL (hk : rhOk base n rh = true) (hμ : X.μ = memFn m) (hA : ∀ r, X.A r ↔ r < m.length) : ∀ {l : List SV} {vs : List Value}, VRepL X l vs → VRepL (X.ren base n m rh) (SV.renL base m rh l) vs
  | [], vs, h => by simpa only [SV.renL, VRepL] using h
  | s :: l, vs, h => by
    simp only [SV.renL, VRepL] at h ⊢
    obtain ⟨v, r, e, h1, h2⟩ := h
    exact ⟨v, r, e, ren_vrep hk hμ hA h1, ren_vrepL hk hμ hA h2⟩
end

theorem ren_mem {B0 : Nat} (hk : rhOk base n rh = true) (hμ : X.μ = memFn m) (hA : ∀ r, X.A r ↔ r < m.length) (hm : Mem B0 X) : Mem B0 (X.ren base n m rh) where
  rep := fun r _ => by
    rcases ren_cases (X := X) (base := base) (n := n) (m := m) (rh := rh) r with ⟨l, q1, q2, q3, q4⟩ | q
    · rw [q3]
      have K := ren_K (X := X) hk hμ hA
      by_cases hd : memFn m l = .dead
      · rw [hd]; trivial
      · have hAl := (hA l).2 (there_lt hd)
        have h := hm.rep l hAl
        rw [hμ] at h
        cases hR : memFn m l with
        | dead => exact absurd hR hd
        | box T v =>
          rw [hR] at h
          obtain ⟨b, c, te, h1, h2, h3, h4⟩ := h
          exact ⟨b, c, te, by rw [q4]; exact h1, h2, ren_hasTy h3 h4, ren_crep hk hμ hA h4⟩
        | row e a =>
          rw [hR] at h
          obtain ⟨d, h1, h2⟩ := h
          refine ⟨d, h1, ?_⟩
          rw [q4]
          rcases h2 with h2 | ⟨b, c, te, fr, l', xs, p1, p2, p3, p4, p5, p6⟩
          · exact .inl h2
          · exact .inr ⟨b, c, te, fr, l', xs, p1, p2, p3, p4, p5.keep K, p6⟩
        | fz e a =>
          rw [hR] at h
          obtain ⟨⟨d, h1, h2⟩, h3⟩ := h
          refine ⟨⟨d, h1, ?_⟩, fun b hb hM => h3 b (by rw [q4] at hb; exact hb) (ren_M hk hμ hA hM)⟩
          rw [q4]
          rcases h2 with h2 | ⟨b, c, te, fr, l', xs, p1, p2, p3, p4, p5, p6⟩
          · exact .inl h2
          · exact .inr ⟨b, c, te, fr, l', xs, p1, p2, p3, p4, p5.keep K, p6⟩
        | mat e a g =>
          rw [hR] at h
          obtain ⟨d, h1, h2⟩ := h
          refine ⟨d, h1, ?_⟩
          rw [q4]
          rcases h2 with h2 | ⟨b, c, te, l', xs, p1, p2, p3, p4, p5⟩
          · exact .inl h2
          · exact .inr ⟨b, c, te, l', xs, p1, p2, p3, p4.keep K (fun _ _ => rfl), p5⟩
    · rw [q]; trivial
  apart := fun r r' b h1 h2 h3 h4 => by
    rcases ren_cases (X := X) (base := base) (n := n) (m := m) (rh := rh) r with ⟨l, q1, q2, q3, q4⟩ | q
    · rcases ren_cases (X := X) (base := base) (n := n) (m := m) (rh := rh) r' with ⟨l', p1, p2, p3, p4⟩ | p
      · rw [q3, q4, Root.ren_own, ← hμ] at h3
        rw [p3, p4, Root.ren_own, ← hμ] at h4
        have hl : X.A l := (hA l).2 (there_lt fun hd => by rw [hμ, hd] at h3; simp [Root.own] at h3)
        have hl' : X.A l' := (hA l').2 (there_lt fun hd => by rw [hμ, hd] at h4; simp [Root.own] at h4)
        have := hm.apart l l' b hl hl' h3 h4
        subst this
        exact (rhOk_inj hk).1 l r r' q1 p1
      · rw [p] at h4; simp [Root.own] at h4
    · rw [q] at h3; simp [Root.own] at h3
  once := fun r _ => by
    rcases ren_cases (X := X) (base := base) (n := n) (m := m) (rh := rh) r with ⟨l, q1, q2, q3, q4⟩ | q
    · rw [q3, q4, Root.ren_own, ← hμ]
      by_cases hd : memFn m l = .dead
      · rw [hμ, hd]; simp [Root.own]
      · exact hm.once l ((hA l).2 (there_lt hd))
    · rw [q]; simp [Root.own]
  low := fun r b _ h2 => by
    rcases ren_cases (X := X) (base := base) (n := n) (m := m) (rh := rh) r with ⟨l, q1, q2, q3, q4⟩ | q
    · rw [q3, q4, Root.ren_own, ← hμ] at h2
      exact hm.low l b ((hA l).2 (there_lt fun hd => by rw [hμ, hd] at h2; simp [Root.own] at h2)) h2
    · rw [q] at h2; simp [Root.own] at h2
  frame := hm.frame

theorem ren_ext {Xe : Ctx} (hk : rhOk base n rh = true) (hμ : X.μ = memFn m) (hA : ∀ r, X.A r ↔ r < m.length) (hbn : base ≤ n) (hXe : ∀ r, Xe.A r → r < base) (x : Ext Xe X) : Ext Xe (X.ren base n m rh) := by
  have K := ren_K (X := X) hk hμ hA
  -- the caller's roots keep their names, or are gone
  have low : ∀ r, Xe.A r → ((X.ren base n m rh).μ r = (X.μ r).ren base m rh r ∧ (X.ren base n m rh).β r = X.β r) ∨ ((X.ren base n m rh).μ r = .dead ∧ (X.ren base n m rh).β r = X.β r) := fun r hr => by
    have hb := hXe r hr
    cases hl : lookBack rh r with
    | none =>
      refine .inr ⟨?_, by simp only [Ctx.ren, hl]⟩
      show memFn (renMem base rh m n 0) r = _
      rw [memFn_get (renMem_get n 0 r (by omega))]
      simp only [Nat.zero_add, hl]
    | some l =>
      have hm := lookBack_mem hl
      have : l = r := by
        rcases ((rhOk_inj hk).2.2 l r hm).1 with h | h
        · exact h
        · omega
      subst this
      refine .inl ⟨?_, by simp only [Ctx.ren, hl]⟩
      show memFn (renMem base rh m n 0) l = _
      rw [memFn_get (renMem_get n 0 l (by omega)), hμ]
      simp only [Nat.zero_add, hl]
  have gk : ∀ r g, Xe.A r → gen0 base r g = g := fun r g hr => by
    unfold gen0
    rw [if_pos (by rw [Nat.blt_eq]; exact hXe r hr)]
  exact
    { E := x.E
      K := ⟨fun a v h hm => K.cell a v (x.K.cell a v h hm) (x.K.free a v h hm), fun a v h hm => K.free a v (x.K.cell a v h hm) (x.K.free a v h hm)⟩
      F := x.F
      A := fun r hr => Nat.lt_of_lt_of_le (hXe r hr) hbn
      β := fun r hr => by
        rcases low r hr with ⟨h1, h2⟩ | ⟨h1, h2⟩
        · exact ⟨fun ht => (x.β r hr).1 (by rw [h1, Root.ren_there] at ht; exact ht), by rw [h2]; exact (x.β r hr).2⟩
        · exact ⟨fun ht => (by rw [h1] at ht; cases ht), by rw [h2]; exact (x.β r hr).2⟩
      row := fun r e a d hr ht h1 h2 => by
        rcases low r hr with ⟨q1, q2⟩ | ⟨q1, q2⟩
        · rw [q1, Root.ren_there] at ht
          rw [q1, Root.ren_row]
          exact x.row r e a d hr ht h1 h2
        · rw [q1] at ht; cases ht
      mat := fun r e a' g hr h1 => by
        rcases low r hr with ⟨q1, q2⟩ | ⟨q1, q2⟩
        · rw [q1] at h1
          obtain ⟨g', e1, e2⟩ := Root.ren_mat h1
          rw [gk r g' hr] at e2
          subst e2
          rw [q2]
          exact x.mat r e a' g hr e1
        · rw [q1] at h1; cases h1
      gen := fun r e a g e' a' g' hr h1 h2 => by
        rcases low r hr with ⟨q1, q2⟩ | ⟨q1, q2⟩
        · rw [q1] at h2
          obtain ⟨g2, e1, e2⟩ := Root.ren_mat h2
          rw [gk r g2 hr] at e2
          subst e2
          exact x.gen r e a g e' a' g' hr h1 e1
        · rw [q1] at h2; cases h2
      size := fun r b k hr ht hb hk' => by
        rcases low r hr with ⟨q1, q2⟩ | ⟨q1, q2⟩
        · exact x.size r b k hr (by rw [q1, Root.ren_there] at ht; exact ht) hb hk'
        · rw [q1] at ht; cases ht }
end

end Go.SX

/- A state fits another one. -/
namespace Go.SX
open Go.RowKit (Below)

/-- Bindings that are primitive operations, the latest one first. -/
def evPrims : List Bd → List D → Option (List D)
  | [], E => some E
  | .prim p as :: l, E => match evPrims l E with
    | none => none
    | some E1 => match gets E1 as with
      | none => none
      | some vs => match p.run vs with
        | none => none
        | some d => some (E1 ++ [d])
  | _ :: _, _ => none

section
variable {C : FuncId → List D → Option (List D)} {k : Nat}

theorem ev_prims : ∀ {bs : List Bd} {t : Tree} {E : List D}, primsOnly bs = true → ev C k (bdsOn bs t) E = match evPrims bs E with | some E1 => ev C k t E1 | none => none
  | [], t, E, _ => rfl
  | .prim p as :: l, t, E, h => by
    simp only [primsOnly] at h
    simp only [bdsOn, Bd.on]
    rw [ev_prims h]
    simp only [evPrims]
    cases evPrims l E with
    | none => rfl
    | some E1 =>
      simp only [ev]
      cases gets E1 as with
      | none => rfl
      | some vs =>
        simp only
        cases p.run vs with
        | none => rfl
        | some d => rfl
  | .call .. :: _, _, _, h => by simp [primsOnly] at h
  | .sub .. :: _, _, _, h => by simp [primsOnly] at h

theorem evPrims_sat : ∀ {bs : List Bd} {E E1 : List D}, evPrims bs E = some E1 → ∃ G, E1 = E ++ G ∧ G.length = outsL bs ∧ Sat C k E1 bs E1.length
  | [], E, E1, h => by
    simp only [evPrims, Option.some.injEq] at h
    subst h
    exact ⟨[], by simp, rfl, trivial⟩
  | .prim p as :: l, E, E1, h => by
    simp only [evPrims] at h
    cases h1 : evPrims l E with
    | none => simp [h1] at h
    | some E2 =>
      simp only [h1] at h
      cases h2 : gets E2 as with
      | none => simp [h2] at h
      | some vs =>
        simp only [h2] at h
        cases h3 : p.run vs with
        | none => simp [h3] at h
        | some d =>
          simp only [h3, Option.some.injEq] at h
          subst h
          obtain ⟨G, g1, g2, g3⟩ := evPrims_sat h1
          refine ⟨G ++ [d], by rw [g1, List.append_assoc], by simp [outsL, Bd.outs, g2, Nat.add_comm], E2.length, by simp [Bd.outs], ⟨vs, d, gets_app h2, h3, by simp⟩, g3.app⟩
  | .call .. :: _, _, _, h => by simp [evPrims] at h
  | .sub .. :: _, _, _, h => by simp [evPrims] at h
end

/-! ### Slots, as a list -/
theorem slots_list {X : Ctx} : ∀ {sl : List SV} {vs : List Value}, vs.length = sl.length → (∀ t : Nat, VRep X ((sl[t]?).getD (.un 1)) ((vs[t]?).getD undef)) → VRepL X sl vs
  | [], vs, hl, _ => by
    simp only [VRepL]
    exact List.eq_nil_of_length_eq_zero (by simpa using hl)
  | s :: sl, [], hl, _ => by simp at hl
  | s :: sl, v :: vs, hl, h => by
    simp only [VRepL]
    exact ⟨v, vs, rfl, h 0, slots_list (by simpa using hl) fun t => h (t + 1)⟩
theorem slots_at {X : Ctx} : ∀ {sl : List SV} {vs : List Value}, VRepL X sl vs → ∀ t : Nat, VRep X ((sl[t]?).getD (.un 1)) ((vs[t]?).getD undef)
  | [], vs, _, t => by simp [VRep]
  | s :: sl, vs, h, t => by
    simp only [VRepL] at h
    obtain ⟨v, r, e, h1, h2⟩ := h
    subst e
    cases t with
    | zero => exact h1
    | succ t => exact slots_at h2 t
theorem leSlots {X : Ctx} : ∀ {a b : List SV} {vs : List Value}, slotsLe a b = true → VRepL X a vs → VRepL X b vs
  | [], [], _, _, h => h
  | x :: a, y :: b, vs, hle, h => by
    simp only [slotsLe, Bool.and_eq_true] at hle
    simp only [VRepL] at h ⊢
    obtain ⟨v, r, e, h1, h2⟩ := h
    exact ⟨v, r, e, leSlot_vrep hle.1 h1, leSlots hle.2 h2⟩
  | [], _ :: _, _, hle, _ => by simp [slotsLe] at hle
  | _ :: _, [], _, hle, _ => by simp [slotsLe] at hle
theorem memLe_get : ∀ {a b : List Root}, memLe a b = true → a.length = b.length ∧ ∀ r, (memFn a r).le (memFn b r) = true
  | [], [], _ => ⟨rfl, fun r => by simp [memFn, Root.le]⟩
  | x :: a, y :: b, h => by
    simp only [memLe, Bool.and_eq_true] at h
    obtain ⟨h1, h2⟩ := memLe_get h.2
    refine ⟨by simp [h1], fun r => ?_⟩
    cases r with
    | zero => exact h.1
    | succ r => exact h2 r
  | [], _ :: _, h => by simp [memLe] at h
  | _ :: _, [], h => by simp [memLe] at h
theorem memFn_map {n0 : Nat} {sg : List At} (l : List Root) (r : Nat) : memFn (l.map (Root.inst n0 sg)) r = (memFn l r).inst n0 sg := by
  unfold memFn
  rw [List.getElem?_map]
  cases l[r]? <;> rfl
theorem sgOf_length (sg : List (Nat × At)) : ∀ (n j : Nat), (sgOf sg n j).length = n
  | 0, _ => rfl
  | n + 1, j => by simp [sgOf, sgOf_length sg n]
theorem gets_length {E : List D} : ∀ {as : List At} {vs : List D}, gets E as = some vs → vs.length = as.length
  | [], vs, h => by rw [gets_nil h]; rfl
  | a :: l, vs, h => by
    obtain ⟨d, ds, _, h2, h3⟩ := gets_cons h
    subst h3
    simp [gets_length h2]
theorem gets_get {E : List D} : ∀ {as : List At} {vs : List D} {j : Nat} {a : At}, gets E as = some vs → as[j]? = some a → a.get E = vs[j]?
  | [], _, _, _, _, h => by simp at h
  | b :: l, vs, j, a, h, hj => by
    obtain ⟨d, ds, h1, h2, h3⟩ := gets_cons h
    subst h3
    cases j with
    | zero => simp at hj; subst hj; simpa using h1
    | succ j => simpa using gets_get h2 (by simpa using hj)

/-- A state that fits another one is the other one, with values for its variables. -/
theorem fit0_sound {B0 : Nat} {w0 : World} {Xe : Ctx} (hB0 : B0 ≤ w0.heap.size) {n0 : Nat} {H L : St} {sg : List At} {bs : List Bd} (h : fit0 n0 H L = some (sg, bs)) (hok : H.okAt = true) (hn : n0 ≤ H.nv) {E0 F : List D} (hE0 : E0.length = n0) (hEl : (E0 ++ F).length = L.nv)
    (hXe : ∀ (i : Nat) (d : D), Xe.E[i]? = some d → E0[i]? = some d) (hXA : ∀ r, Xe.A r → r < L.base) {E1 : List D} (hev : evPrims bs (E0 ++ F) = some E1) {vs : List D} (hg : gets E1 sg = some vs) {a : Act} {w : World}
    (hinv : Inv B0 w0 Xe (E0 ++ F) L.slots L.root (fun r => r < L.mem.length) a w) : vs.length = H.nv - n0 ∧ H.base = L.base ∧ Inv B0 w0 Xe (E0 ++ vs) H.slots H.root (fun r => r < H.mem.length) a w := by
  unfold fit0 at h
  generalize h1 : coL H.mem H.slots L.slots ⟨L.mem, L.nv, []⟩ = p1 at h
  obtain ⟨s1, c1⟩ := p1
  simp only at h
  generalize hc2 : coRoots H (mtAll n0 H s1 c1.m).rh c1 = c2 at h
  generalize hc3 : coRoots H ((mtAll n0 H s1 c2.m).rh.drop (mtAll n0 H s1 c1.m).rh.length) c2 = c3 at h
  generalize (mtAll n0 H s1 c3.m).rh = rh at h
  generalize hsg : sgOf (mtAll n0 H s1 c3.m).sg (H.nv - n0) 0 = sg' at h
  split at h
  · rename_i hc
    injection h with h
    injection h with e1 e2
    subst e1 e2
    simp only [Bool.and_eq_true] at hc
    obtain ⟨⟨⟨⟨⟨⟨k1, k2⟩, k3⟩, k4⟩, k5⟩, k6⟩, k7⟩ := hc
    have hsl : sg'.length = H.nv - n0 := by rw [← hsg]; exact sgOf_length _ _ _
    have hvl : vs.length = H.nv - n0 := by rw [gets_length hg, hsl]
    have hb := nat_beq k4
    rw [Nat.ble_eq] at k5
    refine ⟨hvl, hb, ?_⟩
    obtain ⟨X, x1, x2, x3, x4, x5, x6, x7, x8, x9, x10⟩ := hinv
    have hB : B0 ≤ X.w.heap.size := by rw [x2]; exact Nat.le_trans hB0 x7.size
    -- all variables
    obtain ⟨G, g1, g2, g3⟩ := evPrims_sat (C := fun _ _ => none) (k := 0) hev
    have hnv : c3.nv = E1.length := by rw [nat_beq k3, g1, List.length_append, hEl, g2]
    rw [← hnv] at g3
    obtain ⟨y1, m1⟩ := x5.moreE hB (E' := E1) (fun i d hi => by rw [x1] at hi; rw [g1]; exact get_app hi)
    have c0 : CoOk B0 (fun _ _ => none) 0 { X with E := E1 } ⟨L.mem, L.nv, []⟩ := ⟨by show X.μ = _; rw [x3]; rfl, x4, m1, hB⟩
    have hv0 : VRepL { X with E := E1 } L.slots a.tmps.toList := VRepL.ext y1 (slots_list (by simpa using x8) fun t => by
      have := x10 t
      rw [Array.getD_eq_getD_getElem?, ← Array.getElem?_toList] at this
      exact this)
    -- made alike
    have g3' : Sat (fun _ _ => none) 0 ({ X with E := E1 } : Ctx).E c3.bs c3.nv := g3
    have s2 := coRoots_sat hc3 g3'
    have s1' := coRoots_sat hc2 s2
    obtain ⟨X1, t1, ok1, hv1⟩ := coL_sound _ _ _ h1 c0 s1' hv0
    obtain ⟨X2, e2, f2, y2, ok2⟩ := coRoots_sound hc2 ok1 (by rw [t1.E]; exact s2)
    obtain ⟨X3, e3, f3, y3, ok3⟩ := coRoots_sound hc3 ok2 (by rw [e2, t1.E]; exact g3')
    have hv3 := VRepL.ext (y2.trans y3) hv1
    have hE3 : X3.E = E1 := by rw [e3, e2, t1.E]
    have hw3 : X3.w = w := by rw [f3, f2, t1.w]; exact x2
    have xe3 : Ext Xe X3 := (((x6.trans y1).trans t1.ext).trans y2).trans y3
    -- renamed
    have hv4 := ren_vrepL (n := H.mem.length) k1 ok3.μ ok3.A hv3
    have m4 := ren_mem k1 ok3.μ ok3.A ok3.mem
    have xe4 := ren_ext k1 ok3.μ ok3.A k5 hXA xe3
    -- says less
    obtain ⟨hlen, hle⟩ := memLe_get k7
    obtain ⟨y5, m5⟩ := m4.weakenAll (X := X3.ren L.base H.mem.length c3.m rh) (by show B0 ≤ X3.w.heap.size; exact ok3.B) (μ' := memFn (H.mem.map (Root.inst n0 sg'))) (N := H.mem.length) (fun r hr => hr) (fun r _ => .inr (hle r))
    have hv5 := leSlots k6 (VRepL.ext y5 hv4)
    -- its own variables
    unfold St.okAt at hok
    simp only [Bool.and_eq_true] at hok
    have tr : Tr H.nv n0 sg' { X3.ren L.base H.mem.length c3.m rh with μ := memFn (H.mem.map (Root.inst n0 sg')) } { X3.ren L.base H.mem.length c3.m rh with E := E0 ++ vs, μ := H.root } :=
      { at_ := fun at_ ha => by
          show (at_.inst n0 sg').get X3.E = at_.get (E0 ++ vs)
          rw [hE3]
          cases at_ with
          | c d => rfl
          | v i =>
            simp only [At.okAt, Nat.blt_eq] at ha
            simp only [At.inst]
            by_cases hi : n0 ≤ i
            · rw [if_pos (by rw [Nat.ble_eq]; exact hi)]
              have hlt : i - n0 < sg'.length := by omega
              rw [List.getElem?_eq_getElem hlt]
              simp only [Option.getD_some]
              rw [gets_get hg (List.getElem?_eq_getElem hlt)]
              simp only [At.get]
              rw [List.getElem?_append_right (by omega), hE0]
            · rw [if_neg (by rw [Nat.ble_eq]; exact hi)]
              simp only [At.get]
              rw [g1, List.append_assoc, List.getElem?_append_left (by omega), List.getElem?_append_left (by omega)]
        w := rfl
        A := fun _ => Iff.rfl
        β := rfl
        F := rfl
        μ := fun r _ => memFn_map _ _
        ok := fun r _ => rootsOkAt_get hok.2 }
    have hv6 := tr.vrepL hok.1 hv5
    refine ⟨{ X3.ren L.base H.mem.length c3.m rh with E := E0 ++ vs, μ := H.root }, rfl, hw3, rfl, fun r => Iff.rfl, tr.mem m5, tr.ext (xe4.trans y5) (fun i d hi => get_app (hXe i d hi)), x7, ?_, x9, fun t => ?_⟩
    · have := VRepL.length hv6
      simpa using this
    · rw [Array.getD_eq_getD_getElem?, ← Array.getElem?_toList]
      exact slots_at hv6 t
  · cases h

/-- The values of the slots that H knows. -/
def packV : List SV → List Value → List Value
  | [], _ => []
  | h :: hs, ls => match ls with
    | [] => []
    | l :: ls => match h with
      | .un _ => packV hs ls
      | _ => l :: packV hs ls
theorem sameN_len : ∀ {hs ls : List SV}, sameN hs ls = true → ls.length = hs.length
  | [], ls, h => by cases ls <;> simp_all [sameN]
  | _ :: hs, [], h => by simp [sameN] at h
  | _ :: hs, _ :: ls, h => by simpa using sameN_len (hs := hs) (ls := ls) h
theorem pack_rep {X : Ctx} : ∀ {hs ls : List SV} {vs : List Value}, VRepL X ls vs → ls.length = hs.length → VRepL X (packB hs ls) (packV hs vs)
  | [], ls, vs, h, hl => by simp only [packB, packV, VRepL]
  | h0 :: hs, [], vs, h, hl => by simp at hl
  | h0 :: hs, l :: ls, vs, h, hl => by
    simp only [VRepL] at h
    obtain ⟨v, r, e, h1, h2⟩ := h
    subst e
    have ih := pack_rep (hs := hs) h2 (by simpa using hl)
    cases h0 <;> simp only [packB, packV] <;> first | exact ih | (simp only [VRepL]; exact ⟨v, _, rfl, h1, ih⟩)
theorem unpack_rep {X : Ctx} : ∀ {hs : List SV} {vs : List Value}, VRepL X (packA hs) (packV hs vs) → vs.length = hs.length → VRepL X hs vs
  | [], vs, h, hl => by
    have : vs = [] := List.eq_nil_of_length_eq_zero hl
    subst this
    simp only [VRepL]
  | h0 :: hs, [], h, hl => by simp at hl
  | h0 :: hs, v :: vs, h, hl => by
    have hl' : vs.length = hs.length := by simpa using hl
    simp only [VRepL]
    cases h0 <;> simp only [packA, packV, VRepL] at h <;> first
      | exact ⟨v, vs, rfl, by simp only [VRep], unpack_rep h hl'⟩
      | (obtain ⟨v', r, e, h1, h2⟩ := h
         injection e with e1 e2
         subst e1 e2
         exact ⟨_, vs, rfl, h1, unpack_rep h2 hl'⟩)

theorem inv_list {B0 : Nat} {w0 : World} {Xe : Ctx} {E : List D} {sl : List SV} {μ : Nat → Root} {A : Nat → Prop} {a : Act} {w : World} :
    Inv B0 w0 Xe E sl μ A a w ↔ a.defers = [] ∧ ∃ X : Ctx, X.E = E ∧ X.w = w ∧ X.μ = μ ∧ (∀ r, X.A r ↔ A r) ∧ Mem B0 X ∧ Ext Xe X ∧ Below B0 w0 w ∧ VRepL X sl a.tmps.toList := by
  constructor
  · rintro ⟨X, x1, x2, x3, x4, x5, x6, x7, x8, x9, x10⟩
    exact ⟨x9, X, x1, x2, x3, x4, x5, x6, x7, slots_list (by simpa using x8) fun t => by
      have := x10 t
      rw [Array.getD_eq_getD_getElem?, ← Array.getElem?_toList] at this
      exact this⟩
  · rintro ⟨x9, X, x1, x2, x3, x4, x5, x6, x7, hv⟩
    refine ⟨X, x1, x2, x3, x4, x5, x6, x7, by simpa using VRepL.length hv, x9, fun t => ?_⟩
    rw [Array.getD_eq_getD_getElem?, ← Array.getElem?_toList]
    cases ht : sl[t]? with
    | none => simp only [Option.getD_none, VRep]
    | some s =>
      obtain ⟨v, e, hv'⟩ := hv.get ht
      rw [e]
      exact hv'

/-- A state that fits another one is the other one, with values for its variables. -/
theorem fit_sound {B0 : Nat} {w0 : World} {Xe : Ctx} (hB0 : B0 ≤ w0.heap.size) {n0 : Nat} {H L : St} {sg : List At} {bs : List Bd} (h : fit n0 H L = some (sg, bs)) (hok : H.okAt = true) (hn : n0 ≤ H.nv) {E0 F : List D} (hE0 : E0.length = n0) (hEl : (E0 ++ F).length = L.nv)
    (hXe : ∀ (i : Nat) (d : D), Xe.E[i]? = some d → E0[i]? = some d) (hXA : ∀ r, Xe.A r → r < L.base) {E1 : List D} (hev : evPrims bs (E0 ++ F) = some E1) {vs : List D} (hg : gets E1 sg = some vs) {a : Act} {w : World}
    (hinv : Inv B0 w0 Xe (E0 ++ F) L.slots L.root (fun r => r < L.mem.length) a w) : vs.length = H.nv - n0 ∧ H.base = L.base ∧ Inv B0 w0 Xe (E0 ++ vs) H.slots H.root (fun r => r < H.mem.length) a w := by
  unfold fit at h
  split at h
  · rename_i hs
    have hlen := sameN_len hs
    obtain ⟨y9, X, x1, x2, x3, x4, x5, x6, x7, hv⟩ := inv_list.1 hinv
    have hal : a.tmps.toList.length = H.slots.length := by rw [VRepL.length hv, hlen]
    have hokA : ∀ {n : Nat} {l : List SV}, SV.okAtL n l = true → SV.okAtL n (packA l) = true := by
      intro n l
      induction l with
      | nil => intro h; exact h
      | cons s l ih =>
        intro h
        simp only [SV.okAtL, Bool.and_eq_true] at h
        have ih := ih h.2
        cases s <;> simp only [packA] <;> first | exact ih | (simp only [SV.okAtL, Bool.and_eq_true]; exact ⟨h.1, ih⟩)
    have hok' : ({ H with slots := packA H.slots } : St).okAt = true := by
      unfold St.okAt at hok ⊢
      simp only [Bool.and_eq_true] at hok ⊢
      exact ⟨hokA hok.1, hok.2⟩
    have hinv' : Inv B0 w0 Xe (E0 ++ F) (packB H.slots L.slots) L.root (fun r => r < L.mem.length) { a with tmps := (packV H.slots a.tmps.toList).toArray } w :=
      inv_list.2 ⟨y9, X, x1, x2, x3, x4, x5, x6, x7, by simpa using pack_rep hv hlen⟩
    obtain ⟨g1, g2, g3⟩ := fit0_sound (H := { H with slots := packA H.slots }) (L := { L with slots := packB H.slots L.slots }) hB0 h hok' hn hE0 hEl hXe hXA hev hg hinv'
    refine ⟨g1, g2, ?_⟩
    obtain ⟨_, Y, y1, y2, y3, y4, y5, y6, y7, hw⟩ := inv_list.1 g3
    exact inv_list.2 ⟨y9, Y, y1, y2, y3, y4, y5, y6, y7, unpack_rep (by simpa using hw) hal⟩
  · cases h

end Go.SX

/- Trees: their ends turned into others. -/
namespace Go.SX
open Go.RowKit (Below)

section
variable {C : FuncId → List D → Option (List D)} {k : Nat}

def Res.isFin : Res → Prop
  | .fin .. => True
  | .jmp .. => False

/-- How a tree's result becomes another tree's. -/
def Rel (f : St → List D → Option Res) (r0 r : Res) : Prop :=
  match r0 with
  | .fin .normal st E => f st E = some r
  | r0 => r = r0

theorem Rel.jmp {f : St → List D → Option Res} {l : Nat} {b : Bool} {vs : List D} {r : Res} (h : Rel f (.jmp l b vs) r) : r = .jmp l b vs := h
theorem iter_rel {f : St → List D → Option Res} {g g' : List D → Option Res} (hf : ∀ st E r, f st E = some r → ∀ vs, r ≠ .jmp 0 true vs) (hg : ∀ vs r, g' vs = some r → ∃ r0, g vs = some r0 ∧ Rel f r0 r) : ∀ (n : Nat) (vs : List D) (r : Res), iter g' n vs = some r → ∃ r0, iter g n vs = some r0 ∧ Rel f r0 r
  | 0, vs, r, h => by simp [iter] at h
  | n + 1, vs, r, h => by
    simp only [iter] at h
    split at h
    · rename_i vs' hq
      obtain ⟨r0, h1, h2⟩ := hg vs _ hq
      cases r0 with
      | jmp l b ws =>
        have := h2.jmp
        injection this with e1 e2 e3
        subst e1 e2 e3
        obtain ⟨r1, h3, h4⟩ := iter_rel hf hg n _ r h
        exact ⟨r1, by simp only [iter, h1]; exact h3, h4⟩
      | fin x st E =>
        cases x with
        | normal => exact absurd rfl (hf st E _ h2 vs')
        | exit id => cases h2
        | ret => cases h2
    · rename_i hne
      obtain ⟨r0, h1, h2⟩ := hg vs r h
      refine ⟨r0, ?_, h2⟩
      simp only [iter, h1]
      split
      · rename_i vs' heq
        injection heq with heq
        subst heq
        have := h2.jmp
        subst this
        exact absurd h (hne vs')
      · rfl

/-- A tree goes on at its normal ends. -/
theorem ev_andThen {f : St → Tree} (hf : ∀ st E r, ev C k (f st) E = some r → r.isFin) : ∀ {t : Tree} {E : List D} {r : Res}, ev C k (t.andThen f) E = some r → ∃ r0, ev C k t E = some r0 ∧ Rel (fun st E => ev C k (f st) E) r0 r
  | .prim p as t, E, r, h => by
    simp only [Tree.andThen, ev] at h ⊢
    cases h1 : gets E as with
    | none => simp [h1] at h
    | some vs =>
      simp only [h1] at h ⊢
      cases h2 : p.run vs with
      | none => simp [h2] at h
      | some d => simp only [h2] at h ⊢; exact ev_andThen hf h
  | .call g as m t, E, r, h => by
    simp only [Tree.andThen, ev] at h ⊢
    cases h1 : gets E as with
    | none => simp [h1] at h
    | some vs =>
      simp only [h1] at h ⊢
      cases h2 : C g vs with
      | none => simp [h2] at h
      | some ds =>
        simp only [h2] at h ⊢
        split at h
        · rename_i hl; rw [if_pos hl]; exact ev_andThen hf h
        · cases h
  | .sub t m u, E, r, h => by
    simp only [Tree.andThen, ev] at h ⊢
    cases h1 : ev C k (t.andThen f) E with
    | none => simp [h1] at h
    | some r1 =>
      simp only [h1] at h
      obtain ⟨r0, q1, q2⟩ := ev_andThen hf h1
      rw [q1]
      cases r0 with
      | jmp l b vs =>
        have := q2.jmp
        subst this
        cases l with
        | zero =>
          simp only at h ⊢
          split at h
          · rename_i hl; rw [if_pos hl]; exact ev_andThen hf h
          · cases h
        | succ l =>
          simp only [Res.up, Option.some.injEq] at h ⊢
          exact ⟨_, rfl, h.symm⟩
      | fin x st E' =>
        cases x with
        | normal =>
          have hfin := hf st E' r1 q2
          cases r1 with
          | jmp _ _ _ => exact hfin.elim
          | fin y st1 E1 =>
            simp only [Res.up, Option.some.injEq] at h ⊢
            subst h
            exact ⟨_, rfl, q2⟩
        | exit id =>
          have : r1 = .fin (.exit id) st E' := q2
          subst this
          simp only [Res.up, Option.some.injEq] at h ⊢
          exact ⟨_, rfl, h.symm⟩
        | ret =>
          have : r1 = .fin .ret st E' := q2
          subst this
          simp only [Res.up, Option.some.injEq] at h ⊢
          exact ⟨_, rfl, h.symm⟩
  | .loop i b, E, r, h => by
    simp only [Tree.andThen, ev] at h ⊢
    cases h1 : gets E i with
    | none => simp [h1] at h
    | some vs =>
      simp only [h1] at h ⊢
      cases h2 : iter (fun vs => ev C k (b.andThen f) (E ++ vs)) k vs with
      | none => simp [h2] at h
      | some r1 =>
        simp only [h2] at h
        obtain ⟨r0, q1, q2⟩ := iter_rel (f := fun st E => ev C k (f st) E) (g := fun vs => ev C k b (E ++ vs)) (fun st E r hr vs e => by have := hf st E r hr; rw [e] at this; exact this) (fun vs r hr => ev_andThen hf hr) k vs r1 h2
        rw [q1]
        cases r0 with
        | jmp l b' ws =>
          have := q2.jmp
          subst this
          cases l with
          | zero => simp [Res.up] at h
          | succ l =>
            simp only [Res.up, Option.some.injEq] at h ⊢
            exact ⟨_, rfl, h.symm⟩
        | fin x st E' =>
          cases x with
          | normal =>
            have hfin := hf st E' r1 q2
            cases r1 with
            | jmp _ _ _ => exact hfin.elim
            | fin y st1 E1 =>
              simp only [Res.up, Option.some.injEq] at h ⊢
              subst h
              exact ⟨_, rfl, q2⟩
          | exit id =>
            have : r1 = .fin (.exit id) st E' := q2
            subst this
            simp only [Res.up, Option.some.injEq] at h ⊢
            exact ⟨_, rfl, h.symm⟩
          | ret =>
            have : r1 = .fin .ret st E' := q2
            subst this
            simp only [Res.up, Option.some.injEq] at h ⊢
            exact ⟨_, rfl, h.symm⟩
  | .ite c a b, E, r, h => by
    simp only [Tree.andThen, ev] at h ⊢
    split at h
    · exact ev_andThen hf h
    · exact ev_andThen hf h
    · cases h
  | .jmp l b as, E, r, h => by
    simp only [Tree.andThen, ev] at h ⊢
    split at h
    · cases h
    · rename_i vs hg
      injection h with h
      exact ⟨_, rfl, h.symm⟩
  | .fin .normal st, E, r, h => by
    simp only [Tree.andThen] at h
    exact ⟨_, rfl, h⟩
  | .fin (.exit id) st, E, r, h => by
    simp only [Tree.andThen, ev, Option.some.injEq] at h
    exact ⟨_, rfl, h.symm⟩
  | .fin .ret st, E, r, h => by
    simp only [Tree.andThen, ev, Option.some.injEq] at h
    exact ⟨_, rfl, h.symm⟩
  | .fail n, E, r, h => by simp [Tree.andThen, ev] at h

/-- A jump from wherever it stands. -/
def Shifts (C : FuncId → List D → Option (List D)) (k : Nat) (f : Nat → St → Tree) : Prop :=
  ∀ st E, (∀ d, ev C k (f d st) E = none) ∨ ∃ b vs, ∀ d, ev C k (f d st) E = some (.jmp d b vs)

theorem Rel.conv {f : Nat → St → Tree} (hf : Shifts C k f) {d : Nat} {r0 r : Res} (h : Rel (fun st E => ev C k (f (d + 1) st) E) r0 r) :
    (∃ st E b vs, r0 = .fin .normal st E ∧ r = .jmp (d + 1) b vs ∧ ev C k (f d st) E = some (.jmp d b vs)) ∨ (r = r0 ∧ ∀ st E, r0 ≠ .fin .normal st E) := by
  cases r0 with
  | jmp l b vs => exact .inr ⟨h, fun _ _ h => by cases h⟩
  | fin x st E =>
    cases x with
    | normal =>
      left
      have h : ev C k (f (d + 1) st) E = some r := h
      rcases hf st E with h1 | ⟨b, vs, h1⟩
      · rw [h1] at h; cases h
      · rw [h1] at h
        injection h with h
        exact ⟨st, E, b, vs, rfl, h.symm, h1 d⟩
    | exit id => exact .inr ⟨h, fun _ _ h => by cases h⟩
    | ret => exact .inr ⟨h, fun _ _ h => by cases h⟩

theorem Rel.of_ne {f : St → List D → Option Res} {r0 : Res} (h : ∀ st E, r0 ≠ .fin .normal st E) : Rel f r0 r0 := by
  cases r0 with
  | jmp l b vs => rfl
  | fin x st E =>
    cases x with
    | normal => exact absurd rfl (h st E)
    | exit id => rfl
    | ret => rfl

theorem iter_conv {f : Nat → St → Tree} (hf : Shifts C k f) {d : Nat} {g g' : List D → Option Res} (hg : ∀ vs r, g' vs = some r → ∃ r0, g vs = some r0 ∧ Rel (fun st E => ev C k (f (d + 1) st) E) r0 r) : ∀ (n : Nat) (vs : List D) (r : Res), iter g' n vs = some r → ∃ r0, iter g n vs = some r0 ∧ Rel (fun st E => ev C k (f (d + 1) st) E) r0 r
  | 0, vs, r, h => by simp [iter] at h
  | n + 1, vs, r, h => by
    simp only [iter] at h
    split at h
    · rename_i vs' hq
      obtain ⟨r0, h1, h2⟩ := hg vs _ hq
      rcases h2.conv hf with ⟨st, E, b, ws, q1, q2, _⟩ | ⟨q1, q2⟩
      · cases q2
      · subst q1
        obtain ⟨r1, h3, h4⟩ := iter_conv hf hg n _ r h
        exact ⟨r1, by simp only [iter, h1]; exact h3, h4⟩
    · rename_i hne
      obtain ⟨r0, h1, h2⟩ := hg vs r h
      refine ⟨r0, ?_, h2⟩
      simp only [iter, h1]
      split
      · rename_i vs' heq
        injection heq with heq
        subst heq
        have := h2.jmp
        subst this
        exact absurd h (hne vs')
      · rfl

/-- Normal ends become jumps. -/
theorem ev_conv {f : Nat → St → Tree} (hf : Shifts C k f) : ∀ {t : Tree} {d : Nat} {E : List D} {r : Res}, ev C k (t.conv f d) E = some r → ∃ r0, ev C k t E = some r0 ∧ Rel (fun st E => ev C k (f d st) E) r0 r
  | .prim p as t, d, E, r, h => by
    simp only [Tree.conv, ev] at h ⊢
    cases h1 : gets E as with
    | none => simp [h1] at h
    | some vs =>
      simp only [h1] at h ⊢
      cases h2 : p.run vs with
      | none => simp [h2] at h
      | some d => simp only [h2] at h ⊢; exact ev_conv hf h
  | .call g as m t, d, E, r, h => by
    simp only [Tree.conv, ev] at h ⊢
    cases h1 : gets E as with
    | none => simp [h1] at h
    | some vs =>
      simp only [h1] at h ⊢
      cases h2 : C g vs with
      | none => simp [h2] at h
      | some ds =>
        simp only [h2] at h ⊢
        split at h
        · rename_i hl; rw [if_pos hl]; exact ev_conv hf h
        · cases h
  | .sub t m u, d, E, r, h => by
    simp only [Tree.conv, ev] at h ⊢
    cases h1 : ev C k (t.conv f (d + 1)) E with
    | none => simp [h1] at h
    | some r1 =>
      simp only [h1] at h
      obtain ⟨r0, q1, q2⟩ := ev_conv hf h1
      rw [q1]
      rcases q2.conv hf with ⟨st, E', b, vs, p1, p2, p3⟩ | ⟨p1, p2⟩
      · subst p1 p2
        simp only [Res.up, Option.some.injEq] at h ⊢
        subst h
        exact ⟨_, rfl, p3⟩
      · subst p1
        cases r1 with
        | jmp l b vs =>
          cases l with
          | zero =>
            simp only at h ⊢
            split at h
            · rename_i hl; rw [if_pos hl]; exact ev_conv hf h
            · cases h
          | succ l =>
            simp only [Res.up, Option.some.injEq] at h ⊢
            exact ⟨_, rfl, h.symm⟩
        | fin x st E' =>
          simp only [Res.up, Option.some.injEq] at h ⊢
          subst h
          exact ⟨_, rfl, Rel.of_ne p2⟩
  | .loop i b, d, E, r, h => by
    simp only [Tree.conv, ev] at h ⊢
    cases h1 : gets E i with
    | none => simp [h1] at h
    | some vs =>
      simp only [h1] at h ⊢
      cases h2 : iter (fun vs => ev C k (b.conv f (d + 1)) (E ++ vs)) k vs with
      | none => simp [h2] at h
      | some r1 =>
        simp only [h2] at h
        obtain ⟨r0, q1, q2⟩ := iter_conv hf (d := d) (g := fun vs => ev C k b (E ++ vs)) (fun vs r hr => ev_conv hf hr) k vs r1 h2
        rw [q1]
        rcases q2.conv hf with ⟨st, E', b', ws, p1, p2, p3⟩ | ⟨p1, p2⟩
        · subst p1 p2
          simp only [Res.up, Option.some.injEq] at h ⊢
          subst h
          exact ⟨_, rfl, p3⟩
        · subst p1
          cases r1 with
          | jmp l b' ws =>
            cases l with
            | zero => simp [Res.up] at h
            | succ l =>
              simp only [Res.up, Option.some.injEq] at h ⊢
              exact ⟨_, rfl, h.symm⟩
          | fin x st E' =>
            simp only [Res.up, Option.some.injEq] at h ⊢
            subst h
            exact ⟨_, rfl, Rel.of_ne p2⟩
  | .ite c a b, d, E, r, h => by
    simp only [Tree.conv, ev] at h ⊢
    split at h
    · exact ev_conv hf h
    · exact ev_conv hf h
    · cases h
  | .jmp l b as, d, E, r, h => by
    simp only [Tree.conv, ev] at h ⊢
    split at h
    · cases h
    · rename_i vs hg
      injection h with h
      exact ⟨_, rfl, h.symm⟩
  | .fin .normal st, d, E, r, h => by
    simp only [Tree.conv] at h
    exact ⟨_, rfl, h⟩
  | .fin (.exit id) st, d, E, r, h => by
    simp only [Tree.conv, ev, Option.some.injEq] at h
    exact ⟨_, rfl, h.symm⟩
  | .fin .ret st, d, E, r, h => by
    simp only [Tree.conv, ev, Option.some.injEq] at h
    exact ⟨_, rfl, h.symm⟩
  | .fail n, d, E, r, h => by simp [Tree.conv, ev] at h

/-- Ends under other names. -/
def Res.ends (f : Ex → Ex) : Res → Res
  | .fin x st E => .fin (f x) st E
  | r => r
theorem iter_ends {f : Ex → Ex} {g g' : List D → Option Res} (hg : ∀ vs r, g' vs = some r → ∃ r0, g vs = some r0 ∧ r = r0.ends f) : ∀ (n : Nat) (vs : List D) (r : Res), iter g' n vs = some r → ∃ r0, iter g n vs = some r0 ∧ r = r0.ends f
  | 0, vs, r, h => by simp [iter] at h
  | n + 1, vs, r, h => by
    simp only [iter] at h
    split at h
    · rename_i vs' hq
      obtain ⟨r0, h1, h2⟩ := hg vs _ hq
      cases r0 with
      | fin x st E => cases h2
      | jmp l b ws =>
        simp only [Res.ends] at h2
        injection h2 with e1 e2 e3
        subst e1 e2 e3
        obtain ⟨r1, h3, h4⟩ := iter_ends hg n _ r h
        exact ⟨r1, by simp only [iter, h1]; exact h3, h4⟩
    · rename_i hne
      obtain ⟨r0, h1, h2⟩ := hg vs r h
      refine ⟨r0, ?_, h2⟩
      simp only [iter, h1]
      split
      · rename_i vs' heq
        injection heq with heq
        subst heq
        simp only [Res.ends] at h2
        subst h2
        exact absurd h (hne vs')
      · rfl
theorem ev_ends {f : Ex → Ex} : ∀ {t : Tree} {E : List D} {r : Res}, ev C k (t.ends f) E = some r → ∃ r0, ev C k t E = some r0 ∧ r = r0.ends f
  | .prim p as t, E, r, h => by
    simp only [Tree.ends, ev] at h ⊢
    cases h1 : gets E as with
    | none => simp [h1] at h
    | some vs =>
      simp only [h1] at h ⊢
      cases h2 : p.run vs with
      | none => simp [h2] at h
      | some d => simp only [h2] at h ⊢; exact ev_ends h
  | .call g as m t, E, r, h => by
    simp only [Tree.ends, ev] at h ⊢
    cases h1 : gets E as with
    | none => simp [h1] at h
    | some vs =>
      simp only [h1] at h ⊢
      cases h2 : C g vs with
      | none => simp [h2] at h
      | some ds =>
        simp only [h2] at h ⊢
        split at h
        · rename_i hl; rw [if_pos hl]; exact ev_ends h
        · cases h
  | .sub t m u, E, r, h => by
    simp only [Tree.ends, ev] at h ⊢
    cases h1 : ev C k (t.ends f) E with
    | none => simp [h1] at h
    | some r1 =>
      simp only [h1] at h
      obtain ⟨r0, q1, q2⟩ := ev_ends h1
      rw [q1]
      subst q2
      cases r0 with
      | jmp l b vs =>
        simp only [Res.ends] at h
        cases l with
        | zero =>
          simp only at h ⊢
          split at h
          · rename_i hl; rw [if_pos hl]; exact ev_ends h
          · cases h
        | succ l =>
          simp only [Res.up, Option.some.injEq] at h ⊢
          exact ⟨_, rfl, h.symm⟩
      | fin x st E' =>
        simp only [Res.ends, Res.up, Option.some.injEq] at h ⊢
        exact ⟨_, rfl, h.symm⟩
  | .loop i b, E, r, h => by
    simp only [Tree.ends, ev] at h ⊢
    cases h1 : gets E i with
    | none => simp [h1] at h
    | some vs =>
      simp only [h1] at h ⊢
      cases h2 : iter (fun vs => ev C k (b.ends f) (E ++ vs)) k vs with
      | none => simp [h2] at h
      | some r1 =>
        simp only [h2] at h
        obtain ⟨r0, q1, q2⟩ := iter_ends (g := fun vs => ev C k b (E ++ vs)) (fun vs r hr => ev_ends hr) k vs r1 h2
        rw [q1]
        subst q2
        cases r0 with
        | jmp l b' ws =>
          simp only [Res.ends] at h
          cases l with
          | zero => simp [Res.up] at h
          | succ l =>
            simp only [Res.up, Option.some.injEq] at h ⊢
            exact ⟨_, rfl, h.symm⟩
        | fin x st E' =>
          simp only [Res.ends, Res.up, Option.some.injEq] at h ⊢
          exact ⟨_, rfl, h.symm⟩
  | .ite c a b, E, r, h => by
    simp only [Tree.ends, ev] at h ⊢
    split at h
    · exact ev_ends h
    · exact ev_ends h
    · cases h
  | .jmp l b as, E, r, h => by
    simp only [Tree.ends, ev] at h ⊢
    split at h
    · cases h
    · rename_i vs hg
      injection h with h
      exact ⟨_, rfl, h.symm⟩
  | .fin x st, E, r, h => by
    simp only [Tree.ends, ev, Option.some.injEq] at h
    exact ⟨_, rfl, h.symm⟩
  | .fail n, E, r, h => by simp [Tree.ends, ev] at h

/-! ### Jumps that lead nowhere -/
/-- All jumps lead to a place inside. -/
def Tree.shut : Nat → Tree → Bool
  | n, .prim _ _ k => k.shut n
  | n, .call _ _ _ k => k.shut n
  | n, .sub t _ k => t.shut (n + 1) && k.shut n
  | n, .loop _ b => b.shut (n + 1)
  | n, .ite _ a b => a.shut n && b.shut n
  | n, .jmp l _ _ => Nat.blt l n
  | _, .fin _ _ => true
  | _, .fail _ => true

theorem iter_shut {f : List D → Option Res} {n : Nat} (hf : ∀ vs r, f vs = some r → r.isFin ∨ ∃ l b ws, r = .jmp l b ws ∧ l < n + 1) : ∀ (j : Nat) (vs : List D) (r : Res), iter f j vs = some r → r.isFin ∨ ∃ l b ws, r = .jmp l b ws ∧ l < n + 1
  | 0, vs, r, h => by simp [iter] at h
  | j + 1, vs, r, h => by
    simp only [iter] at h
    split at h
    · exact iter_shut hf j _ r h
    · exact hf _ _ h
theorem ev_shut : ∀ {t : Tree} {n : Nat} {E : List D} {r : Res}, t.shut n = true → ev C k t E = some r → r.isFin ∨ ∃ l b vs, r = .jmp l b vs ∧ l < n
  | .prim p as t, n, E, r, ho, h => by
    simp only [Tree.shut] at ho
    simp only [ev] at h
    cases h1 : gets E as with
    | none => simp [h1] at h
    | some vs =>
      simp only [h1] at h
      cases h2 : p.run vs with
      | none => simp [h2] at h
      | some d => simp only [h2] at h; exact ev_shut ho h
  | .call f as m t, n, E, r, ho, h => by
    simp only [Tree.shut] at ho
    simp only [ev] at h
    cases h1 : gets E as with
    | none => simp [h1] at h
    | some vs =>
      simp only [h1] at h
      cases h2 : C f vs with
      | none => simp [h2] at h
      | some ds =>
        simp only [h2] at h
        split at h
        · exact ev_shut ho h
        · cases h
  | .sub t m u, n, E, r, ho, h => by
    simp only [Tree.shut, Bool.and_eq_true] at ho
    simp only [ev] at h
    cases h1 : ev C k t E with
    | none => simp [h1] at h
    | some r' =>
      simp only [h1] at h
      rcases ev_shut ho.1 h1 with hf | ⟨l, b, vs, e, hl⟩
      · cases r' with
        | jmp _ _ _ => exact hf.elim
        | fin x st E' =>
          simp only [Res.up, Option.some.injEq] at h
          subst h
          exact .inl trivial
      · subst e
        cases l with
        | zero =>
          simp only at h
          split at h
          · exact ev_shut ho.2 h
          · cases h
        | succ l =>
          simp only [Res.up, Option.some.injEq] at h
          exact .inr ⟨l, b, vs, h.symm, by omega⟩
  | .loop init t, n, E, r, ho, h => by
    simp only [Tree.shut] at ho
    simp only [ev] at h
    cases h1 : gets E init with
    | none => simp [h1] at h
    | some vs =>
      simp only [h1] at h
      cases h2 : iter (fun vs => ev C k t (E ++ vs)) k vs with
      | none => simp [h2] at h
      | some r' =>
        simp only [h2] at h
        rcases iter_shut (n := n) (fun vs r hr => ev_shut ho hr) k vs r' h2 with hf | ⟨l, b, ws, e, hl⟩
        · cases r' with
          | jmp _ _ _ => exact hf.elim
          | fin x st E' =>
            simp only [Res.up, Option.some.injEq] at h
            subst h
            exact .inl trivial
        · subst e
          cases l with
          | zero => simp [Res.up] at h
          | succ l =>
            simp only [Res.up, Option.some.injEq] at h
            exact .inr ⟨l, b, ws, h.symm, by omega⟩
  | .ite c a b, n, E, r, ho, h => by
    simp only [Tree.shut, Bool.and_eq_true] at ho
    simp only [ev] at h
    split at h
    · exact ev_shut ho.1 h
    · exact ev_shut ho.2 h
    · cases h
  | .jmp l b as, n, E, r, ho, h => by
    simp only [Tree.shut, Nat.blt_eq] at ho
    simp only [ev] at h
    split at h
    · cases h
    · rename_i vs _
      injection h with h
      exact .inr ⟨l, b, vs, h.symm, ho⟩
  | .fin x st, n, E, r, ho, h => by
    simp only [ev, Option.some.injEq] at h
    subst h
    exact .inl trivial
  | .fail _, n, E, r, ho, h => by simp [ev] at h
theorem shut_fin {t : Tree} {E : List D} {r : Res} (hs : t.shut 0 = true) (h : ev C k t E = some r) : r.isFin := by
  rcases ev_shut hs h with h | ⟨_, _, _, _, h⟩
  · exact h
  · omega

theorem shut_andThen {f : St → Tree} (hf : ∀ st n, (f st).shut n = true) : ∀ {t : Tree} {n : Nat}, t.shut n = true → (t.andThen f).shut n = true
  | .prim p as t, n, h => by simp only [Tree.andThen, Tree.shut] at h ⊢; exact shut_andThen hf h
  | .call g as m t, n, h => by simp only [Tree.andThen, Tree.shut] at h ⊢; exact shut_andThen hf h
  | .sub t m u, n, h => by
    simp only [Tree.andThen, Tree.shut, Bool.and_eq_true] at h ⊢
    exact ⟨shut_andThen hf h.1, shut_andThen hf h.2⟩
  | .loop i b, n, h => by simp only [Tree.andThen, Tree.shut] at h ⊢; exact shut_andThen hf h
  | .ite c a b, n, h => by
    simp only [Tree.andThen, Tree.shut, Bool.and_eq_true] at h ⊢
    exact ⟨shut_andThen hf h.1, shut_andThen hf h.2⟩
  | .jmp l b as, n, h => h
  | .fin .normal st, n, _ => hf st n
  | .fin (.exit id) st, n, _ => rfl
  | .fin .ret st, n, _ => rfl
  | .fail n, _, _ => rfl
theorem shut_ends {f : Ex → Ex} : ∀ {t : Tree} {n : Nat}, t.shut n = true → (t.ends f).shut n = true
  | .prim p as t, n, h => by simp only [Tree.ends, Tree.shut] at h ⊢; exact shut_ends h
  | .call g as m t, n, h => by simp only [Tree.ends, Tree.shut] at h ⊢; exact shut_ends h
  | .sub t m u, n, h => by
    simp only [Tree.ends, Tree.shut, Bool.and_eq_true] at h ⊢
    exact ⟨shut_ends h.1, shut_ends h.2⟩
  | .loop i b, n, h => by simp only [Tree.ends, Tree.shut] at h ⊢; exact shut_ends h
  | .ite c a b, n, h => by
    simp only [Tree.ends, Tree.shut, Bool.and_eq_true] at h ⊢
    exact ⟨shut_ends h.1, shut_ends h.2⟩
  | .jmp l b as, n, h => h
  | .fin x st, n, _ => rfl
  | .fail n, _, _ => rfl
theorem shut_conv {f : Nat → St → Tree} (hf : ∀ d st, (f d st).shut (d + 1) = true) : ∀ {t : Tree} {d : Nat}, t.shut d = true → (t.conv f d).shut (d + 1) = true
  | .prim p as t, n, h => by simp only [Tree.conv, Tree.shut] at h ⊢; exact shut_conv hf h
  | .call g as m t, n, h => by simp only [Tree.conv, Tree.shut] at h ⊢; exact shut_conv hf h
  | .sub t m u, n, h => by
    simp only [Tree.conv, Tree.shut, Bool.and_eq_true] at h ⊢
    exact ⟨shut_conv hf h.1, shut_conv hf h.2⟩
  | .loop i b, n, h => by simp only [Tree.conv, Tree.shut] at h ⊢; exact shut_conv hf h
  | .ite c a b, n, h => by
    simp only [Tree.conv, Tree.shut, Bool.and_eq_true] at h ⊢
    exact ⟨shut_conv hf h.1, shut_conv hf h.2⟩
  | .jmp l b as, n, h => by
    simp only [Tree.conv, Tree.shut, Nat.blt_eq] at h ⊢
    omega
  | .fin .normal st, n, _ => hf n st
  | .fin (.exit id) st, n, _ => rfl
  | .fin .ret st, n, _ => rfl
  | .fail n, _, _ => rfl
/-- What is shut stays so in more places. -/
theorem shut_mono : ∀ {t : Tree} {n m : Nat}, n ≤ m → t.shut n = true → t.shut m = true
  | .prim p as t, n, m, hle, h => by simp only [Tree.shut] at h ⊢; exact shut_mono hle h
  | .call g as q t, n, m, hle, h => by simp only [Tree.shut] at h ⊢; exact shut_mono hle h
  | .sub t q u, n, m, hle, h => by
    simp only [Tree.shut, Bool.and_eq_true] at h ⊢
    exact ⟨shut_mono (by omega) h.1, shut_mono hle h.2⟩
  | .loop i b, n, m, hle, h => by simp only [Tree.shut] at h ⊢; exact shut_mono (by omega) h
  | .ite c a b, n, m, hle, h => by
    simp only [Tree.shut, Bool.and_eq_true] at h ⊢
    exact ⟨shut_mono hle h.1, shut_mono hle h.2⟩
  | .jmp l b as, n, m, hle, h => by
    simp only [Tree.shut, Nat.blt_eq] at h ⊢
    omega
  | .fin x st, _, _, _, _ => rfl
  | .fail n, _, _, _, _ => rfl
theorem only_shut : ∀ {t : Tree} {n : Nat}, t.only n = true → t.shut n = true
  | .prim p as t, n, h => by simp only [Tree.only, Tree.shut] at h ⊢; exact only_shut h
  | .call g as q t, n, h => by simp only [Tree.only, Tree.shut] at h ⊢; exact only_shut h
  | .sub t q u, n, h => by
    simp only [Tree.only, Tree.shut, Bool.and_eq_true] at h ⊢
    exact ⟨only_shut h.1, only_shut h.2⟩
  | .loop i b, n, h => by simp only [Tree.only, Tree.shut] at h ⊢; exact only_shut h
  | .ite c a b, n, h => by
    simp only [Tree.only, Tree.shut, Bool.and_eq_true] at h ⊢
    exact ⟨only_shut h.1, only_shut h.2⟩
  | .jmp l b as, n, h => h
  | .fin x st, _, _ => rfl
  | .fail n, _, _ => rfl
theorem shut_bds : ∀ {bs : List Bd} {t : Tree} {n : Nat}, bdsOk bs = true → t.shut n = true → (bdsOn bs t).shut n = true
  | [], t, n, _, h => h
  | b :: l, t, n, hb, h => by
    obtain ⟨hb1, hb2⟩ := bdsOk_cons hb
    simp only [bdsOn]
    refine shut_bds hb2 ?_
    cases b with
    | prim p as => exact h
    | call f as m => exact h
    | sub t' m =>
      simp only [bdsOk, Bool.and_true] at hb1
      simp only [Bd.on, Tree.shut, Bool.and_eq_true]
      exact ⟨shut_mono (by omega) (only_shut hb1), h⟩
theorem prims_ok : ∀ {bs : List Bd}, primsOnly bs = true → bdsOk bs = true
  | [], _ => rfl
  | .prim p as :: l, h => by simp only [primsOnly] at h; simp only [bdsOk]; exact prims_ok h
  | .call .. :: _, h => by simp [primsOnly] at h
  | .sub .. :: _, h => by simp [primsOnly] at h
end

end Go.SX

/- Code: the tree tells what it does. -/
namespace Go.SX
open Go.RowKit (Below)

def exOf : Ex → Exit
  | .normal => .normal
  | .exit id => .exit id
  | .ret => .ret

/-! ### Loops -/
def LoopWp (P : Program) (c : Code) (Q : Exit → Act → World → Prop) (a : Act) (w : World) : Prop :=
  ∀ (b : Frame) (k : List Item) (cs : List Frame), ∃ e a' w', Q e a' w' ∧ Arrives P (lone (b.at a (.code c :: .inLoop c :: k)) cs w) b k cs e a' w'
theorem loop_round {P : Program} {c : Code} {Q : Exit → Act → World → Prop} {a : Act} {w : World} (h : c.wp P (Exit.then (LoopWp P c Q) Q) a w) : LoopWp P c Q a w := by
  intro b k cs
  obtain ⟨e, a₁, w₁, hq, harr⟩ := h b (.inLoop c :: k) cs
  cases e with
  | normal =>
    obtain ⟨e₂, a₂, w₂, hq₂, harr₂⟩ := hq b k cs
    exact ⟨e₂, a₂, w₂, hq₂, .of_steps (Steps.trans harr (.one step_inLoop)) harr₂⟩
  | exit id => exact ⟨_, a₁, w₁, hq, .pass (x := .inLoop c) rfl (fun _ _ => .inl (by simp)) harr⟩
  | goto l => exact ⟨_, a₁, w₁, hq, .pass (x := .inLoop c) rfl (fun _ _ => .inl (by simp)) harr⟩
  | ret => exact ⟨_, a₁, w₁, hq, .pass (x := .inLoop c) rfl (fun _ _ => .inl (by simp)) harr⟩
  | panic ch => exact ⟨_, a₁, w₁, hq, .pass (x := .inLoop c) rfl (fun _ _ => .inl (by simp)) harr⟩
  | outgrown => exact ⟨_, a₁, w₁, hq, .pass (x := .inLoop c) rfl (fun _ _ => .inl (by simp)) harr⟩
theorem loop_of {P : Program} {c : Code} {Q : Exit → Act → World → Prop} {a : Act} {w : World} (h : LoopWp P c Q a w) : (Code.loop c).wp P Q a w := fun b k cs =>
  let ⟨e, a', w', hq, harr⟩ := h b k cs
  ⟨e, a', w', hq, .of_steps (.one step_loop) harr⟩

section
variable {C : FuncId → List D → Option (List D)} {k B0 : Nat} {w0 : World} {Xe : Ctx} {cx : Cx} {inl : FuncId → List SV → Nat → List Root → Option Inl}

def InvS (B0 : Nat) (w0 : World) (Xe : Ctx) (st : St) (E : List D) (a : Act) (w : World) : Prop := Inv B0 w0 Xe E st.slots st.root (fun r => r < st.mem.length) a w

theorem InvS.pre {st : St} {E : List D} {a : Act} {w : World} (h : InvS B0 w0 Xe st E a w) : ∀ (i : Nat) (d : D), Xe.E[i]? = some d → E[i]? = some d := by
  obtain ⟨X, x1, _, _, _, _, x6, _⟩ := h
  intro i d hi
  rw [← x1]
  exact x6.E i d hi
theorem InvS.more {st : St} {E F : List D} {a : Act} {w : World} (hB0 : B0 ≤ w0.heap.size) (h : InvS B0 w0 Xe st E a w) : InvS B0 w0 Xe st (E ++ F) a w := by
  obtain ⟨X, x1, x2, x3, x4, x5, x6, x7, x8, x9, x10⟩ := h
  obtain ⟨y, m⟩ := x5.moreE (by rw [x2]; exact Nat.le_trans hB0 x7.size) (E' := E ++ F) (fun i d hi => by rw [x1] at hi; exact get_app hi)
  exact ⟨{ X with E := E ++ F }, rfl, x2, x3, x4, m, x6.trans y, x7, x8, x9, fun t => VRep.ext y (x10 t)⟩
theorem InvS.drew {st : St} {E : List D} {a : Act} {w : World} (hB0 : B0 ≤ w0.heap.size) (h : InvS B0 w0 Xe st E a w) : InvS B0 w0 Xe st E a { w with drawn := w.drawn + 1 } := by
  obtain ⟨X, x1, x2, x3, x4, x5, x6, x7, x8, x9, x10⟩ := h
  subst x2
  obtain ⟨y, m⟩ := x5.world (Nat.le_trans hB0 x7.size) (w' := X.w.drew) (Below.refl _ _).drew
  exact ⟨{ X with w := X.w.drew }, x1, rfl, x3, x4, m, x6.trans y, x7.drew, x8, x9, fun t => VRep.ext y (x10 t)⟩

/-! ### Fits -/
theorem fit0_facts {n0 : Nat} {H L : St} {sg : List At} {bs : List Bd} (h : fit0 n0 H L = some (sg, bs)) : primsOnly bs = true ∧ sg.length = H.nv - n0 ∧ H.base = L.base := by
  unfold fit0 at h
  generalize coL H.mem H.slots L.slots ⟨L.mem, L.nv, []⟩ = p1 at h
  obtain ⟨s1, c1⟩ := p1
  simp only at h
  generalize coRoots H (mtAll n0 H s1 c1.m).rh c1 = c2 at h
  generalize coRoots H ((mtAll n0 H s1 c2.m).rh.drop (mtAll n0 H s1 c1.m).rh.length) c2 = c3 at h
  split at h
  · rename_i hc
    injection h with h
    injection h with e1 e2
    subst e1 e2
    simp only [Bool.and_eq_true] at hc
    obtain ⟨⟨⟨⟨⟨⟨k1, k2⟩, k3⟩, k4⟩, k5⟩, k6⟩, k7⟩ := hc
    exact ⟨k2, sgOf_length _ _ _, nat_beq k4⟩
  · cases h
theorem fit_facts {n0 : Nat} {H L : St} {sg : List At} {bs : List Bd} (h : fit n0 H L = some (sg, bs)) : primsOnly bs = true ∧ sg.length = H.nv - n0 ∧ H.base = L.base := by
  unfold fit at h
  split at h
  · exact fit0_facts (H := { H with slots := packA H.slots }) (L := { L with slots := packB H.slots L.slots }) h
  · cases h

theorem fitJ_shifts (n0 : Nat) (H : St) (back : Bool) : Shifts C k (fitJ n0 H back) := by
  intro st E
  unfold fitJ
  cases hf : fit n0 H st with
  | none => exact .inl fun d => by simp [ev]
  | some p =>
    obtain ⟨sg, bs⟩ := p
    obtain ⟨h1, _, _⟩ := fit_facts hf
    simp only
    cases he : evPrims bs E with
    | none => exact .inl fun d => by rw [ev_prims h1, he]
    | some E1 =>
      cases hg : gets E1 sg with
      | none => exact .inl fun d => by rw [ev_prims h1, he]; simp [ev, hg]
      | some vs => exact .inr ⟨back, vs, fun d => by rw [ev_prims h1, he]; simp [ev, hg]⟩
theorem fitJ_shut (n0 : Nat) (H : St) (back : Bool) (d : Nat) (st : St) : (fitJ n0 H back d st).shut (d + 1) = true := by
  unfold fitJ
  cases hf : fit n0 H st with
  | none => rfl
  | some p =>
    obtain ⟨sg, bs⟩ := p
    obtain ⟨h1, _, _⟩ := fit_facts hf
    refine shut_bds (prims_ok h1) ?_
    simp [Tree.shut]
theorem fitJ_ev {n0 : Nat} {H : St} {back : Bool} {d : Nat} {st : St} {E : List D} {r : Res} (h : ev C k (fitJ n0 H back d st) E = some r) : ∃ sg bs E1 vs, fit n0 H st = some (sg, bs) ∧ evPrims bs E = some E1 ∧ gets E1 sg = some vs ∧ r = .jmp d back vs ∧ vs.length = H.nv - n0 ∧ H.base = st.base := by
  unfold fitJ at h
  cases hf : fit n0 H st with
  | none => simp [hf, ev] at h
  | some p =>
    obtain ⟨sg, bs⟩ := p
    obtain ⟨h1, h2, h3⟩ := fit_facts hf
    simp only [hf] at h
    rw [ev_prims h1] at h
    cases he : evPrims bs E with
    | none => simp [he] at h
    | some E1 =>
      simp only [he, ev] at h
      cases hg : gets E1 sg with
      | none => simp [hg] at h
      | some vs =>
        simp only [hg, Option.some.injEq] at h
        exact ⟨sg, bs, E1, vs, rfl, he, hg, h.symm, by rw [gets_length hg, h2], h3⟩

/-! ### What is shut -/
theorem joinN_shut {n0 : Nat} {t : Tree} (h : t.shut 0 = true) : (joinN n0 t).shut 0 = true := by
  unfold joinN
  split
  · exact h
  · exact h
  · split
    · simp only
      split
      · simp only [Tree.shut, Bool.and_true]
        exact shut_conv (fitJ_shut _ _ _) h
      · exact h
    · exact h
theorem loopAt_shut {body : St → Tree} (hb : ∀ st, (body st).shut 0 = true) (st H : St) (sg : List At) : (loopAt body st H sg).shut 0 = true := by
  unfold loopAt
  simp only [Tree.shut]
  exact shut_conv (fitJ_shut _ _ _) (hb H)
theorem loopT_shut {hd : List (Nat × Nat × St)} {m : Nat} {body : St → Tree} (hb : ∀ st, (body st).shut 0 = true) (st : St) : (loopT hd m body st).shut 0 = true := by
  unfold loopT
  simp only
  split
  · split
    · exact loopAt_shut hb _ _ _
    · rename_i sg bs hf
      obtain ⟨h1, _, _⟩ := fit_facts hf
      split
      · split
        · simp only [Tree.shut, Bool.and_eq_true]
          exact ⟨shut_bds (prims_ok h1) (by simp [Tree.shut]), loopAt_shut hb _ _ _⟩
        · rfl
      · rfl
    · rfl
  · rfl
theorem regionT_shut {draw : Bool} {ops : List Oper} {bf : List Nat} : ∀ {rest : List Oper} {i : Nat} {st : St} {kn : List (At × Bool)} {log : List Eff}, (regionT cx inl draw ops bf rest i st kn log).shut 0 = true
  | [], i, st, kn, log => by
    simp only [regionT]
    split <;> rfl
  | o :: rest, i, st, kn, log => by
    have go : ∀ kn, (match stepEff cx inl kn st.slot st.root st.nv st.mem.length i o with
        | none => Tree.fail (stepWhy cx inl kn st.slot st.root st.nv st.mem.length o)
        | some e => bdsOn e.bs (regionT cx inl draw ops bf rest (i + 1) (st.after e) kn (e :: log))).shut 0 = true := fun kn => by
      split
      · rfl
      · rename_i e he
        obtain ⟨s, _, _, _, _, _, _, _, _, _, _, _, hb⟩ := stepEff_some he
        exact shut_bds hb regionT_shut
    simp only [regionT]
    split
    · exact go kn
    · exact regionT_shut
    · rename_i a want _
      simp only [Tree.shut, Bool.and_eq_true]
      cases want with
      | true => simp only [if_true]; exact ⟨go _, regionT_shut⟩
      | false => simp only [Bool.false_eq_true, if_false]; exact ⟨regionT_shut, go _⟩
    · rfl
theorem fgt_shut {m : Nat} {t : Tree} (h : t.shut 0 = true) : (t.fgt m).shut 0 = true := shut_andThen (fun _ _ => rfl) h
theorem joinL_shut {m n0 : Nat} {t : Tree} (h : t.shut 0 = true) : (joinL m n0 t).shut 0 = true := joinN_shut (fgt_shut h)
theorem loopF_shut {hd : List (Nat × Nat × St)} {m : Nat} {body : St → Tree} (hb : ∀ st, (body st).shut 0 = true) (st : St) : (loopF hd m body st).shut 0 = true := loopT_shut (fun s => fgt_shut (hb s)) _
theorem exec_shut : ∀ (c : Code) (m : Nat) (st : St), (exec cx inl m c st).shut 0 = true
  | .skip, _, st => rfl
  | .label _, _, st => rfl
  | .region _ ops draw, m, st => by
    simp only [exec]
    split
    · rfl
    · exact joinL_shut regionT_shut
  | .seq a b, m, st => by
    simp only [exec]
    exact shut_andThen (fun st n => shut_mono (Nat.zero_le n) (exec_shut b _ st)) (exec_shut a _ st)
  | .cond c x y, m, st => by
    simp only [exec]
    split
    · exact exec_shut x _ st
    · exact exec_shut y _ st
    · refine joinL_shut ?_
      simp only [Tree.shut, Bool.and_eq_true]
      exact ⟨exec_shut x _ st, exec_shut y _ st⟩
    · rfl
  | .block id b, m, st => by
    simp only [exec]
    exact joinL_shut (shut_ends (exec_shut b _ st))
  | .loop b, m, st => by
    simp only [exec]
    exact loopF_shut (exec_shut b _) st
  | .exit _, _, st => rfl
  | .ret, _, st => rfl
  | .rangeFunc .., _, st => rfl
  | .scope _, _, st => rfl
  | .goto _, _, st => rfl
  | .refuse _, _, st => rfl

/-! ### What comes out -/
/-- The end's state, and more variables. -/
def Shape (E : List D) (base : Nat) (r : Res) : Prop := ∃ x st' F, r = .fin x st' (E ++ F) ∧ (E ++ F).length = st'.nv ∧ st'.base = base

theorem joinN_shape {n0 : Nat} {t : Tree} {E : List D} {base : Nat} (hE : E.length = n0) (ht : ∀ r, ev C k t E = some r → Shape E base r) {r : Res} (h : ev C k (joinN n0 t) E = some r) : Shape E base r := by
  unfold joinN at h
  split at h
  · exact ht r h
  · exact ht r h
  · split at h
    · simp only at h
      split at h
      · rename_i hc
        simp only [Bool.and_eq_true, Nat.ble_eq] at hc
        simp only [ev] at h
        split at h
        · cases h
        · rename_i vs h1
          split at h
          · rename_i hl
            injection h with h
            subst h
            obtain ⟨r0, q1, q2⟩ := ev_conv (fitJ_shifts _ _ _) h1
            obtain ⟨x, st', F, e, e2, e3⟩ := ht r0 q1
            subst e
            cases x with
            | normal =>
              have q2 : ev C k (fitJ _ _ _ _ st') (E ++ F) = some _ := q2
              obtain ⟨sg, bs, E1, vs', f1, f2, f3, f4, f5, f6⟩ := fitJ_ev q2
              exact ⟨.normal, _, vs, rfl, by rw [List.length_append, hE, hl]; omega, by rw [f6, e3]⟩
            | exit id => cases q2
            | ret => cases q2
          · cases h
        · rename_i r1 hne h1
          obtain ⟨r0, q1, q2⟩ := ev_conv (fitJ_shifts _ _ _) h1
          obtain ⟨x, st', F, e, e2, e3⟩ := ht r0 q1
          subst e
          cases x with
          | normal =>
            have q2 : ev C k (fitJ _ _ _ _ st') (E ++ F) = some _ := q2
            obtain ⟨sg, bs, E1, vs', f1, f2, f3, f4, f5, f6⟩ := fitJ_ev q2
            exact absurd f4 (hne _ _)
          | exit id =>
            have q2 : r1 = _ := q2
            subst q2
            simp only [Res.up, Option.some.injEq] at h
            exact ⟨_, st', F, h.symm, e2, e3⟩
          | ret =>
            have q2 : r1 = _ := q2
            subst q2
            simp only [Res.up, Option.some.injEq] at h
            exact ⟨_, st', F, h.symm, e2, e3⟩
      · exact ht r h
    · exact ht r h

theorem loopAt_shape {body : St → Tree} (hb : ∀ st E r, ev C k (body st) E = some r → E.length = st.nv → Shape E st.base r) {st H : St} {sg : List At} {E : List D} (hE : E.length = st.nv) (hn : st.nv ≤ H.nv) (hsg : sg.length = H.nv - st.nv) {r : Res} (h : ev C k (loopAt body st H sg) E = some r) : Shape E H.base r := by
  unfold loopAt at h
  simp only [ev] at h
  split at h
  · cases h
  · rename_i vs0 hg
    split at h
    · cases h
    · rename_i r' hi
      have main : ∀ (n : Nat) (vs : List D) (r' : Res), vs.length = H.nv - st.nv → iter (fun vs => ev C k ((body H).conv (fitJ st.nv H true) 0) (E ++ vs)) n vs = some r' → r'.up = some r → Shape E H.base r := by
        intro n
        induction n with
        | zero => intro vs r' _ h; simp [iter] at h
        | succ n ih =>
          intro vs r' hvl hi hup
          simp only [iter] at hi
          have step : ∀ q, ev C k ((body H).conv (fitJ st.nv H true) 0) (E ++ vs) = some q → (∃ vs', q = .jmp 0 true vs' ∧ vs'.length = H.nv - st.nv) ∨ ∃ x st' F, q = .fin x st' (E ++ F) ∧ (E ++ F).length = st'.nv ∧ st'.base = H.base := fun q hq => by
            obtain ⟨r0, q1, q2⟩ := ev_conv (fitJ_shifts _ _ _) hq
            obtain ⟨x, st', F, e, e2, e3⟩ := hb H _ r0 q1 (by rw [List.length_append, hE, hvl]; omega)
            subst e
            cases x with
            | normal =>
              have q2 : ev C k (fitJ _ _ _ _ st') (E ++ vs ++ F) = some _ := q2
              obtain ⟨sg, bs, E1, vs', f1, f2, f3, f4, f5, f6⟩ := fitJ_ev q2
              exact .inl ⟨vs', f4, f5⟩
            | exit id => exact .inr ⟨_, st', vs ++ F, by rw [← List.append_assoc]; exact q2, by rw [← List.append_assoc]; exact e2, e3⟩
            | ret => exact .inr ⟨_, st', vs ++ F, by rw [← List.append_assoc]; exact q2, by rw [← List.append_assoc]; exact e2, e3⟩
          split at hi
          · rename_i vs' hq
            rcases step _ hq with ⟨vs2, e, hl⟩ | ⟨x, st', F, e, _⟩
            · injection e with _ _ e
              subst e
              exact ih _ _ hl hi hup
            · cases e
          · rename_i hne
            rcases step _ hi with ⟨vs2, e, hl⟩ | ⟨x, st', F, e, e2, e3⟩
            · subst e
              exact absurd hi (hne vs2)
            · subst e
              simp only [Res.up, Option.some.injEq] at hup
              exact ⟨x, st', F, hup.symm, e2, e3⟩
      exact main k vs0 r' (by rw [gets_length hg, hsg]) hi h

theorem loopT_shape {hd : List (Nat × Nat × St)} {m : Nat} {body : St → Tree} (hb : ∀ st E r, ev C k (body st) E = some r → E.length = st.nv → Shape E st.base r) {st : St} {E : List D} (hE : E.length = st.nv) {r : Res} (h : ev C k (loopT hd m body st) E = some r) : Shape E st.base r := by
  unfold loopT at h
  simp only at h
  split at h
  · rename_i hc
    simp only [Bool.and_eq_true, Nat.ble_eq] at hc
    split at h
    · rename_i sg hf
      obtain ⟨h1, h2, h3⟩ := fit_facts hf
      rw [← h3]
      exact loopAt_shape hb hE hc.2 h2 h
    · rename_i sg bs _ hf
      obtain ⟨h1, h2, h3⟩ := fit_facts hf
      split at h
      · rename_i hc2
        simp only [Bool.and_eq_true, Nat.ble_eq] at hc2
        split at h
        · rename_i sg' hf2
          obtain ⟨g1, g2, g3⟩ := fit_facts hf2
          simp only [ev] at h
          rw [ev_prims h1] at h
          cases he : evPrims bs E with
          | none => simp [he] at h
          | some E1 =>
            simp only [he] at h
            cases hg : gets E1 sg with
            | none => simp [ev, hg] at h
            | some vs =>
              simp only [ev, hg] at h
              split at h
              · rename_i hl
                obtain ⟨x, st', F, e, e2, e3⟩ := loopAt_shape hb (E := E ++ vs) (by rw [List.length_append, hE, hl]; omega) hc2.2 g2 h
                exact ⟨x, st', vs ++ F, by rw [← List.append_assoc]; exact e, by rw [← List.append_assoc]; exact e2, by rw [e3, g3, h3]⟩
              · cases h
        · simp [ev] at h
      · simp [ev] at h
    · simp [ev] at h
  · simp [ev] at h

theorem fgt_ev {m : Nat} {t : Tree} {E : List D} {r : Res} (h : ev C k (t.fgt m) E = some r) : ∃ r0, ev C k t E = some r0 ∧ ((∃ st E', r0 = .fin .normal st E' ∧ r = .fin .normal (st.forget m) E') ∨ ((∀ st E', r0 ≠ .fin .normal st E') ∧ r = r0)) := by
  obtain ⟨r0, h1, h2⟩ := ev_andThen (fun st E r hr => by
    simp only [ev, Option.some.injEq] at hr
    subst hr
    exact True.intro) h
  refine ⟨r0, h1, ?_⟩
  cases r0 with
  | jmp l b vs => exact .inr ⟨(fun _ _ e => by cases e), h2⟩
  | fin x st E' =>
    cases x with
    | normal =>
      have h2 : ev C k (.fin .normal (st.forget m)) E' = some r := h2
      simp only [ev, Option.some.injEq] at h2
      exact .inl ⟨st, E', rfl, h2.symm⟩
    | exit id => exact .inr ⟨(fun _ _ e => by cases e), h2⟩
    | ret => exact .inr ⟨(fun _ _ e => by cases e), h2⟩
theorem fgt_shape {m : Nat} {t : Tree} {E : List D} {base : Nat} (ht : ∀ r, ev C k t E = some r → Shape E base r) {r : Res} (h : ev C k (t.fgt m) E = some r) : Shape E base r := by
  obtain ⟨r0, h1, h2⟩ := fgt_ev h
  obtain ⟨x, st', F, e, e2, e3⟩ := ht r0 h1
  subst e
  rcases h2 with ⟨st, E', h3, h4⟩ | ⟨_, h4⟩
  · injection h3 with q1 q2 q3
    subst q1 q2 q3
    exact ⟨.normal, _, F, h4, e2, e3⟩
  · exact ⟨x, st', F, h4, e2, e3⟩
theorem joinL_shape {m n0 : Nat} {t : Tree} {E : List D} {base : Nat} (hE : E.length = n0) (ht : ∀ r, ev C k t E = some r → Shape E base r) {r : Res} (h : ev C k (joinL m n0 t) E = some r) : Shape E base r := joinN_shape hE (fun _ hr => fgt_shape ht hr) h
theorem loopF_shape {hd : List (Nat × Nat × St)} {m : Nat} {body : St → Tree} (hb : ∀ st E r, ev C k (body st) E = some r → E.length = st.nv → Shape E st.base r) {st : St} {E : List D} (hE : E.length = st.nv) {r : Res} (h : ev C k (loopF hd m body st) E = some r) : Shape E st.base r :=
  loopT_shape (st := st.forget m) (fun s E r hr hs => fgt_shape (fun r hr => hb s E r hr hs) hr) hE h

theorem exec_shape : ∀ (c : Code) (m : Nat) (st : St) (E : List D) (r : Res), ev C k (exec cx inl m c st) E = some r → E.length = st.nv → Shape E st.base r
  | .skip, m, st, E, r, h, hE => by simp only [exec, ev, Option.some.injEq] at h; exact ⟨.normal, st, [], by rw [List.append_nil]; exact h.symm, by rw [List.append_nil]; exact hE, rfl⟩
  | .label _, m, st, E, r, h, hE => by simp only [exec, ev, Option.some.injEq] at h; exact ⟨.normal, st, [], by rw [List.append_nil]; exact h.symm, by rw [List.append_nil]; exact hE, rfl⟩
  | .exit id, m, st, E, r, h, hE => by simp only [exec, ev, Option.some.injEq] at h; exact ⟨.exit id, st, [], by rw [List.append_nil]; exact h.symm, by rw [List.append_nil]; exact hE, rfl⟩
  | .ret, m, st, E, r, h, hE => by simp only [exec, ev, Option.some.injEq] at h; exact ⟨.ret, st, [], by rw [List.append_nil]; exact h.symm, by rw [List.append_nil]; exact hE, rfl⟩
  | .region _ ops draw, m, st, E, r, h, hE => by
    simp only [exec] at h
    split at h
    · simp [ev] at h
    · refine joinL_shape hE (fun r hr => ?_) h
      obtain ⟨stf, F, es, e1, e2, e3, _⟩ := region_path hr hE (fun a b hm => by simp at hm)
      exact ⟨.normal, stf, F, e1, e2, e3.all.2.2.2.2.2⟩
  | .seq a b, m, st, E, r, h, hE => by
    simp only [exec] at h
    obtain ⟨r0, q1, q2⟩ := ev_andThen (fun st E r hr => shut_fin (exec_shut b _ st) hr) h
    obtain ⟨x, st', F, e, e2, e3⟩ := exec_shape a _ st E r0 q1 hE
    subst e
    cases x with
    | normal =>
      obtain ⟨y, st2, F2, f1, f2, f3⟩ := exec_shape b _ st' _ r q2 e2
      exact ⟨y, st2, F ++ F2, by rw [← List.append_assoc]; exact f1, by rw [← List.append_assoc]; exact f2, by rw [f3, e3]⟩
    | exit id => exact ⟨_, st', F, q2, e2, e3⟩
    | ret => exact ⟨_, st', F, q2, e2, e3⟩
  | .cond c x y, m, st, E, r, h, hE => by
    simp only [exec] at h
    split at h
    · exact exec_shape x _ st E r h hE
    · exact exec_shape y _ st E r h hE
    · refine joinL_shape hE (fun r hr => ?_) h
      simp only [ev] at hr
      split at hr
      · exact exec_shape x _ st E r hr hE
      · exact exec_shape y _ st E r hr hE
      · cases hr
    · simp [ev] at h
  | .block id b, m, st, E, r, h, hE => by
    simp only [exec] at h
    refine joinL_shape hE (fun r hr => ?_) h
    obtain ⟨r0, q1, q2⟩ := ev_ends hr
    obtain ⟨x, st', F, e, e2, e3⟩ := exec_shape b _ st E r0 q1 hE
    subst e
    exact ⟨_, st', F, q2, e2, e3⟩
  | .loop b, m, st, E, r, h, hE => by
    simp only [exec] at h
    exact loopF_shape (fun st E r => exec_shape b _ st E r) hE h
  | .rangeFunc .., m, st, E, r, h, hE => by simp [exec, ev] at h
  | .scope _, m, st, E, r, h, hE => by simp [exec, ev] at h
  | .goto _, m, st, E, r, h, hE => by simp [exec, ev] at h
  | .refuse _, m, st, E, r, h, hE => by simp [exec, ev] at h
end

end Go.SX

/- Code: it does what its tree tells. -/
namespace Go.SX
open Go.RowKit (Below)

section
variable {C : FuncId → List D → Option (List D)} {k B0 : Nat} {w0 : World} {Xe : Ctx} {cx : Cx} {inl : FuncId → List SV → Nat → List Root → Option Inl}

/-- How a way ends: as the tree does. -/
def EndsAs (B0 : Nat) (w0 : World) (Xe : Ctx) (x : Ex) (st : St) (E : List D) : Exit → Act → World → Prop := fun e a w => e = exOf x ∧ InvS B0 w0 Xe st E a w

theorem fit_inv (hB0 : B0 ≤ w0.heap.size) {n0 : Nat} {H L : St} {sg : List At} {bs : List Bd} (h : fit n0 H L = some (sg, bs)) (hok : H.okAt = true) (hn : n0 ≤ H.nv) {E0 F : List D} (hE0 : E0.length = n0) (hEl : (E0 ++ F).length = L.nv)
    (hXe : ∀ (i : Nat) (d : D), Xe.E[i]? = some d → E0[i]? = some d) (hXA : ∀ r, Xe.A r → r < L.base) {E1 : List D} (hev : evPrims bs (E0 ++ F) = some E1) {vs : List D} (hg : gets E1 sg = some vs) {a : Act} {w : World}
    (hinv : InvS B0 w0 Xe L (E0 ++ F) a w) : InvS B0 w0 Xe H (E0 ++ vs) a w :=
  (fit_sound hB0 h hok hn hE0 hEl hXe hXA hev hg hinv).2.2

/-- A join. -/
theorem joinN_sound (hB0 : B0 ≤ w0.heap.size) {c : Code} {n0 base : Nat} {t : Tree} {E : List D} (hE : E.length = n0) (hXe : ∀ (i : Nat) (d : D), Xe.E[i]? = some d → E[i]? = some d) (hXA : ∀ r, Xe.A r → r < base) {a : Act} {w : World}
    (hs : ∀ r, ev C k t E = some r → Shape E base r) (ht : ∀ x st' F, ev C k t E = some (.fin x st' (E ++ F)) → c.wp cx.P (EndsAs B0 w0 Xe x st' (E ++ F)) a w)
    {x : Ex} {st' : St} {F : List D} (h : ev C k (joinN n0 t) E = some (.fin x st' (E ++ F))) : c.wp cx.P (EndsAs B0 w0 Xe x st' (E ++ F)) a w := by
  unfold joinN at h
  split at h
  · exact ht _ _ _ h
  · exact ht _ _ _ h
  · split at h
    · simp only at h
      split at h
      · rename_i hc
        simp only [Bool.and_eq_true, Nat.ble_eq] at hc
        simp only [ev] at h
        split at h
        · cases h
        · rename_i vs h1
          split at h
          · rename_i hl
            injection h with h
            injection h with e1 e2 e3
            subst e1 e2
            have e3 := List.append_cancel_left e3
            subst e3
            obtain ⟨r0, q1, q2⟩ := ev_conv (fitJ_shifts _ _ _) h1
            obtain ⟨x, st1, F1, e, e2, e3⟩ := hs r0 q1
            subst e
            cases x with
            | normal =>
              have q2 : ev C k (fitJ _ _ _ _ st1) (E ++ F1) = some _ := q2
              obtain ⟨sg, bs, E1, vs', f1, f2, f3, f4, f5, f6⟩ := fitJ_ev q2
              injection f4 with _ _ f4
              subst f4
              refine wp_mono (ht _ _ _ q1) fun e a' w' ⟨he, hinv⟩ => ⟨he, ?_⟩
              exact fit_inv hB0 f1 hc.1.1 hc.1.2 hE e2 hXe (fun r hr => by rw [e3]; exact hXA r hr) f2 f3 hinv
            | exit id => cases q2
            | ret => cases q2
          · cases h
        · rename_i r1 hne h1
          obtain ⟨r0, q1, q2⟩ := ev_conv (fitJ_shifts _ _ _) h1
          obtain ⟨y, st1, F1, e, e2, e3⟩ := hs r0 q1
          subst e
          cases y with
          | normal =>
            have q2 : ev C k (fitJ _ _ _ _ st1) (E ++ F1) = some _ := q2
            obtain ⟨sg, bs, E1, vs', f1, f2, f3, f4, f5, f6⟩ := fitJ_ev q2
            exact absurd f4 (hne _ _)
          | exit id =>
            have q2 : r1 = _ := q2
            subst q2
            simp only [Res.up, Option.some.injEq] at h
            rw [h] at q1
            exact ht _ _ _ q1
          | ret =>
            have q2 : r1 = _ := q2
            subst q2
            simp only [Res.up, Option.some.injEq] at h
            rw [h] at q1
            exact ht _ _ _ q1
      · exact ht _ _ _ h
    · exact ht _ _ _ h

/-- A loop, from its head on. -/
theorem loopAt_sound (hB0 : B0 ≤ w0.heap.size) {b : Code} {body : St → Tree} {base : Nat} (hXA : ∀ r, Xe.A r → r < base) (hb : ∀ st E r, ev C k (body st) E = some r → E.length = st.nv → Shape E st.base r)
    (hbs : ∀ st E a w x st' E', ev C k (body st) E = some (.fin x st' E') → E.length = st.nv → st.base = base → InvS B0 w0 Xe st E a w → b.wp cx.P (EndsAs B0 w0 Xe x st' E') a w)
    {st H : St} {sg : List At} {E : List D} (hE : E.length = st.nv) (hXe : ∀ (i : Nat) (d : D), Xe.E[i]? = some d → E[i]? = some d) (hn : st.nv ≤ H.nv) (hok : H.okAt = true) (hbase : H.base = base) {vs0 : List D} (hg : gets E sg = some vs0) (hl0 : vs0.length = H.nv - st.nv)
    {x : Ex} {st' : St} {E' : List D} (h : ev C k (loopAt body st H sg) E = some (.fin x st' E')) {a : Act} {w : World} (hinv : InvS B0 w0 Xe H (E ++ vs0) a w) : (Code.loop b).wp cx.P (EndsAs B0 w0 Xe x st' E') a w := by
  unfold loopAt at h
  simp only [ev, hg] at h
  split at h
  · cases h
  · rename_i r' hi
    refine loop_of ?_
    have main : ∀ (n : Nat) (vs : List D) (r' : Res) (a : Act) (w : World), vs.length = H.nv - st.nv → iter (fun vs => ev C k ((body H).conv (fitJ st.nv H true) 0) (E ++ vs)) n vs = some r' → r'.up = some (.fin x st' E') → InvS B0 w0 Xe H (E ++ vs) a w →
        LoopWp cx.P b (EndsAs B0 w0 Xe x st' E') a w := by
      intro n
      induction n with
      | zero => intro vs r' a w _ h; simp [iter] at h
      | succ n ih =>
        intro vs r' a w hvl hi hup hinv
        simp only [iter] at hi
        have hlen : (E ++ vs).length = H.nv := by rw [List.length_append, hE, hvl]; omega
        -- one round
        have step : ∀ q, ev C k ((body H).conv (fitJ st.nv H true) 0) (E ++ vs) = some q →
            (∃ vs', q = .jmp 0 true vs' ∧ vs'.length = H.nv - st.nv ∧ ((∀ a' w', InvS B0 w0 Xe H (E ++ vs') a' w' → LoopWp cx.P b (EndsAs B0 w0 Xe x st' E') a' w') → LoopWp cx.P b (EndsAs B0 w0 Xe x st' E') a w)) ∨
            ∃ y st1 E1, y ≠ .normal ∧ q = .fin y st1 E1 ∧ b.wp cx.P (EndsAs B0 w0 Xe y st1 E1) a w := fun q hq => by
          obtain ⟨r0, q1, q2⟩ := ev_conv (fitJ_shifts _ _ _) hq
          obtain ⟨y, st1, F, e, e2, e3⟩ := hb H _ r0 q1 hlen
          subst e
          have hwp := hbs H _ a w y st1 _ q1 hlen hbase hinv
          cases y with
          | normal =>
            have q2 : ev C k (fitJ _ _ _ _ st1) (E ++ vs ++ F) = some _ := q2
            obtain ⟨sg', bs', E1, vs', f1, f2, f3, f4, f5, f6⟩ := fitJ_ev q2
            refine .inl ⟨vs', f4, f5, fun hnext => loop_round (wp_mono hwp fun e a' w' ⟨he, hinv'⟩ => ?_)⟩
            subst he
            refine hnext a' w' ?_
            rw [List.append_assoc] at f2 hinv' e2
            exact fit_inv hB0 f1 hok hn hE e2 hXe (fun r hr => by rw [e3, hbase]; exact hXA r hr) f2 f3 hinv'
          | exit id => exact .inr ⟨_, st1, _, by simp, q2, hwp⟩
          | ret => exact .inr ⟨_, st1, _, by simp, q2, hwp⟩
        split at hi
        · rename_i vs' hq
          rcases step _ hq with ⟨vs2, e, hl, hgo⟩ | ⟨y, st1, E1, _, e, _⟩
          · injection e with _ _ e
            subst e
            exact hgo fun a' w' hinv' => ih _ _ a' w' hl hi hup hinv'
          · cases e
        · rename_i hne
          rcases step _ hi with ⟨vs2, e, hl, hgo⟩ | ⟨y, st1, E1, hy, e, hwp⟩
          · subst e
            exact absurd hi (hne vs2)
          · subst e
            simp only [Res.up, Option.some.injEq] at hup
            injection hup with e1 e2 e3
            subst e1 e2 e3
            refine loop_round (wp_mono hwp fun e a' w' ⟨he, hinv'⟩ => ?_)
            subst he
            cases y with
            | normal => exact absurd rfl hy
            | exit id => exact ⟨rfl, hinv'⟩
            | ret => exact ⟨rfl, hinv'⟩
    exact main k vs0 r' a w hl0 hi h hinv

theorem loopT_sound {hd : List (Nat × Nat × St)} {m : Nat} (hB0 : B0 ≤ w0.heap.size) {b : Code} {body : St → Tree} {base : Nat} (hXA : ∀ r, Xe.A r → r < base) (hb : ∀ st E r, ev C k (body st) E = some r → E.length = st.nv → Shape E st.base r)
    (hbs : ∀ st E a w x st' E', ev C k (body st) E = some (.fin x st' E') → E.length = st.nv → st.base = base → InvS B0 w0 Xe st E a w → b.wp cx.P (EndsAs B0 w0 Xe x st' E') a w)
    {st : St} {E : List D} (hE : E.length = st.nv) (hbase : st.base = base) {x : Ex} {st' : St} {E' : List D} (h : ev C k (loopT hd m body st) E = some (.fin x st' E')) {a : Act} {w : World} (hinv : InvS B0 w0 Xe st E a w) : (Code.loop b).wp cx.P (EndsAs B0 w0 Xe x st' E') a w := by
  have hXe := hinv.pre
  unfold loopT at h
  simp only at h
  split at h
  · rename_i hc
    simp only [Bool.and_eq_true, Nat.ble_eq] at hc
    split at h
    · rename_i sg hf
      obtain ⟨h1, h2, h3⟩ := fit_facts hf
      have hg : ∃ vs, gets E sg = some vs := by
        unfold loopAt at h
        simp only [ev] at h
        cases hg : gets E sg with
        | none => simp [hg] at h
        | some vs => exact ⟨vs, rfl⟩
      obtain ⟨vs, hg⟩ := hg
      have hinvH := fit_inv hB0 (F := []) hf hc.1 hc.2 hE (by rw [List.append_nil]; exact hE) hXe (fun r hr => by rw [hbase]; exact hXA r hr) (E1 := E) (by rw [List.append_nil]; rfl) hg (by rw [List.append_nil]; exact hinv)
      exact loopAt_sound hB0 hXA hb hbs hE hXe hc.2 hc.1 (by rw [h3, hbase]) hg (by rw [gets_length hg, h2]) h hinvH
    · rename_i sg bs _ hf
      obtain ⟨h1, h2, h3⟩ := fit_facts hf
      split at h
      · rename_i hc2
        simp only [Bool.and_eq_true, Nat.ble_eq] at hc2
        split at h
        · rename_i sg' hf2
          obtain ⟨g1, g2, g3⟩ := fit_facts hf2
          simp only [ev] at h
          rw [ev_prims h1] at h
          cases he : evPrims bs E with
          | none => simp [he] at h
          | some E1 =>
            simp only [he] at h
            cases hg : gets E1 sg with
            | none => simp [ev, hg] at h
            | some vs =>
              simp only [ev, hg] at h
              split at h
              · rename_i hl
                have hinvH := fit_inv hB0 (F := []) hf hc.1 hc.2 hE (by rw [List.append_nil]; exact hE) hXe (fun r hr => by rw [hbase]; exact hXA r hr) (E1 := E1) (by rw [List.append_nil]; exact he) hg (by rw [List.append_nil]; exact hinv)
                have hE' : (E ++ vs).length = (headBy hd m body st).nv := by rw [List.length_append, hE, hl]; omega
                have hXe' := hinvH.pre
                have hb' : (headBy hd m body st).base = base := by rw [h3, hbase]
                have hg' : ∃ vs', gets (E ++ vs) sg' = some vs' := by
                  unfold loopAt at h
                  simp only [ev] at h
                  cases hg : gets (E ++ vs) sg' with
                  | none => simp [hg] at h
                  | some vs => exact ⟨vs, rfl⟩
                obtain ⟨vs', hg'⟩ := hg'
                have hinvH' := fit_inv hB0 (F := []) hf2 hc2.1 hc2.2 hE' (by rw [List.append_nil]; exact hE') hXe' (fun r hr => by rw [hb']; exact hXA r hr) (E1 := E ++ vs) (by rw [List.append_nil]; rfl) hg' (by rw [List.append_nil]; exact hinvH)
                exact loopAt_sound hB0 hXA hb hbs hE' hXe' hc2.2 hc2.1 (by rw [g3, hb']) hg' (by rw [gets_length hg', g2]) h hinvH'
              · cases h
        · simp [ev] at h
      · simp [ev] at h
    · simp [ev] at h
  · simp [ev] at h

theorem forget_get (m : Nat) : ∀ (l : List SV) (i t : Nat), ((forget m i l)[t]?).getD (.un 1) = (l[t]?).getD (.un 1) ∨ ((forget m i l)[t]?).getD (.un 1) = .un 1
  | [], i, t => .inl rfl
  | s :: l, i, 0 => by
    simp only [forget]
    split
    · exact .inl rfl
    · exact .inr rfl
  | s :: l, i, t + 1 => by
    simp only [forget]
    simpa using forget_get m l (i + 1) t
theorem forget_len (m : Nat) : ∀ (l : List SV) (i : Nat), (forget m i l).length = l.length
  | [], _ => rfl
  | s :: l, i => by simp [forget, forget_len m l]
theorem InvS.forget {st : St} {E : List D} {a : Act} {w : World} (h : InvS B0 w0 Xe st E a w) (m : Nat) : InvS B0 w0 Xe (st.forget m) E a w := by
  obtain ⟨X, x1, x2, x3, x4, x5, x6, x7, x8, x9, x10⟩ := h
  refine ⟨X, x1, x2, x3, x4, x5, x6, x7, by rw [x8]; exact (forget_len m _ _).symm, x9, fun t => ?_⟩
  have := x10 t
  rcases forget_get m st.slots 0 t with h | h
  · show VRep X (((Go.SX.forget m 0 st.slots)[t]?).getD (.un 1)) _
    rw [h]; exact this
  · show VRep X (((Go.SX.forget m 0 st.slots)[t]?).getD (.un 1)) _
    rw [h]; simp only [VRep]
theorem fgt_wp {c : Code} {m : Nat} {t : Tree} {E : List D} {a : Act} {w : World} (ht : ∀ x st' E', ev C k t E = some (.fin x st' E') → c.wp cx.P (EndsAs B0 w0 Xe x st' E') a w)
    {x : Ex} {st' : St} {E' : List D} (h : ev C k (t.fgt m) E = some (.fin x st' E')) : c.wp cx.P (EndsAs B0 w0 Xe x st' E') a w := by
  obtain ⟨r0, h1, h2⟩ := fgt_ev h
  rcases h2 with ⟨st, E2, h3, h4⟩ | ⟨_, h4⟩
  · subst h3
    injection h4 with q1 q2 q3
    subst q1 q2 q3
    exact wp_mono (ht _ _ _ h1) fun e a' w' ⟨he, hinv⟩ => ⟨he, hinv.forget m⟩
  · subst h4
    exact ht _ _ _ h1
theorem joinL_sound (hB0 : B0 ≤ w0.heap.size) {c : Code} {m n0 base : Nat} {t : Tree} {E : List D} (hE : E.length = n0) (hXe : ∀ (i : Nat) (d : D), Xe.E[i]? = some d → E[i]? = some d) (hXA : ∀ r, Xe.A r → r < base) {a : Act} {w : World}
    (hs : ∀ r, ev C k t E = some r → Shape E base r) (ht : ∀ x st' F, ev C k t E = some (.fin x st' (E ++ F)) → c.wp cx.P (EndsAs B0 w0 Xe x st' (E ++ F)) a w)
    {x : Ex} {st' : St} {F : List D} (h : ev C k (joinL m n0 t) E = some (.fin x st' (E ++ F))) : c.wp cx.P (EndsAs B0 w0 Xe x st' (E ++ F)) a w :=
  joinN_sound hB0 hE hXe hXA (fun _ hr => fgt_shape hs hr) (fun x st' F hr => fgt_wp (fun y st1 E1 hr => by
    obtain ⟨y', st2, F2, e, _, _⟩ := hs _ hr
    injection e with q1 q2 q3
    subst q1 q2 q3
    exact ht _ _ _ hr) hr) h
theorem loopF_sound {hd : List (Nat × Nat × St)} (hB0 : B0 ≤ w0.heap.size) {b : Code} {m : Nat} {body : St → Tree} {base : Nat} (hXA : ∀ r, Xe.A r → r < base) (hb : ∀ st E r, ev C k (body st) E = some r → E.length = st.nv → Shape E st.base r)
    (hbs : ∀ st E a w x st' E', ev C k (body st) E = some (.fin x st' E') → E.length = st.nv → st.base = base → InvS B0 w0 Xe st E a w → b.wp cx.P (EndsAs B0 w0 Xe x st' E') a w)
    {st : St} {E : List D} (hE : E.length = st.nv) (hbase : st.base = base) {x : Ex} {st' : St} {E' : List D} (h : ev C k (loopF hd m body st) E = some (.fin x st' E')) {a : Act} {w : World} (hinv : InvS B0 w0 Xe st E a w) : (Code.loop b).wp cx.P (EndsAs B0 w0 Xe x st' E') a w :=
  loopT_sound hB0 (st := st.forget m) hXA (fun s E r hr hs => fgt_shape (fun r hr => hb s E r hr hs) hr) (fun s E a w x st' E' hr hs hbs2 hi => fgt_wp (fun y st1 E1 hr => hbs s E a w y st1 E1 hr hs hbs2 hi) hr) hE hbase h (hinv.forget m)

/-- Code does what its tree tells. -/
theorem exec_sound (ty : TysOk cx) (hC : CallsOk cx C) (hI : InlOk cx C k inl) (hmix : cx.P.follows .mixedOrders = true) (hB0 : B0 ≤ w0.heap.size) {base : Nat} (hXA : ∀ r, Xe.A r → r < base) :
    ∀ (c : Code) (m : Nat) (st : St) (E : List D) (a : Act) (w : World) (x : Ex) (st' : St) (E' : List D), ev C k (exec cx inl m c st) E = some (.fin x st' E') → E.length = st.nv → st.base = base → InvS B0 w0 Xe st E a w → c.wp cx.P (EndsAs B0 w0 Xe x st' E') a w
  | .skip, m, st, E, a, w, x, st', E', h, hE, hb, hinv => by
    simp only [exec, ev, Option.some.injEq] at h
    injection h with e1 e2 e3
    subst e1 e2 e3
    exact wp_skip ⟨rfl, hinv⟩
  | .label _, m, st, E, a, w, x, st', E', h, hE, hb, hinv => by
    simp only [exec, ev, Option.some.injEq] at h
    injection h with e1 e2 e3
    subst e1 e2 e3
    exact wp_label ⟨rfl, hinv⟩
  | .exit id, m, st, E, a, w, x, st', E', h, hE, hb, hinv => by
    simp only [exec, ev, Option.some.injEq] at h
    injection h with e1 e2 e3
    subst e1 e2 e3
    exact wp_exit ⟨rfl, hinv⟩
  | .ret, m, st, E, a, w, x, st', E', h, hE, hb, hinv => by
    simp only [exec, ev, Option.some.injEq] at h
    injection h with e1 e2 e3
    subst e1 e2 e3
    exact wp_ret ⟨rfl, hinv⟩
  | .region id ops draw, m, st, E, a, w, x, st', E', h, hE, hb, hinv => by
    obtain ⟨x', st1, F, e, e2, e3⟩ := exec_shape _ _ _ _ _ h hE
    injection e with q1 q2 q3
    subst q1 q2 q3
    simp only [exec] at h
    split at h
    · simp [ev] at h
    · rename_i hed
      have hs : ∀ r, ev C k (regionT cx inl draw ops.toList (if draw = true then beforeL ops.toList [] else []) ops.toList 0 st [] []) E = some r → Shape E st.base r := fun r hr => by
        obtain ⟨stf, F, es, e1, e2, e3, _⟩ := region_path hr hE (fun a b hm => by simp at hm)
        exact ⟨.normal, stf, F, e1, e2, e3.all.2.2.2.2.2⟩
      refine joinL_sound hB0 (base := st.base) hE hinv.pre (fun r hr => by rw [hb]; exact hXA r hr) hs (fun y st1 F1 hr => ?_) h
      obtain ⟨stf, F2, es, e1, e2, e3, e4⟩ := region_path hr hE (fun a b hm => by simp at hm)
      injection e1 with p1 p2 p3
      subst p1 p2
      have p3 := List.append_cancel_left p3
      subst p3
      cases draw with
      | false => exact wp_region (region_text ty hC hI hB0 e3 (fun a w h => ⟨rfl, h⟩) (hinv.more hB0))
      | true =>
        simp only [if_true, List.reverse_nil, List.nil_append, true_implies] at e4
        refine wp_region_any hmix (region_any ty hC hI hB0 e3 e4 ?_ (fun a w h => ⟨rfl, h⟩) ((hinv.more hB0).drew hB0))
        simpa using hed
  | .seq c1 c2, m, st, E, a, w, x, st', E', h, hE, hb, hinv => by
    simp only [exec] at h
    obtain ⟨r0, q1, q2⟩ := ev_andThen (fun st E r hr => shut_fin (exec_shut c2 _ st) hr) h
    obtain ⟨y, st1, F, e, e2, e3⟩ := exec_shape c1 _ st E r0 q1 hE
    subst e
    have h1 := exec_sound ty hC hI hmix hB0 hXA c1 _ st E a w _ _ _ q1 hE hb hinv
    refine wp_seq (wp_mono h1 fun e a' w' ⟨he, hinv'⟩ => ?_)
    subst he
    cases y with
    | normal => exact exec_sound ty hC hI hmix hB0 hXA c2 _ st1 _ a' w' _ _ _ q2 e2 (by rw [e3, hb]) hinv'
    | exit id =>
      have q2 : (Res.fin x st' E') = _ := q2
      injection q2 with p1 p2 p3
      subst p1 p2 p3
      exact ⟨rfl, hinv'⟩
    | ret =>
      have q2 : (Res.fin x st' E') = _ := q2
      injection q2 with p1 p2 p3
      subst p1 p2 p3
      exact ⟨rfl, hinv'⟩
  | .cond c c1 c2, m, st, E, a, w, x, st', E', h, hE, hb, hinv => by
    obtain ⟨x', st1, F, e, e2, e3⟩ := exec_shape _ _ _ _ _ h hE
    injection e with q1 q2 q3
    subst q1 q2 q3
    obtain ⟨X, x1, x2, x3, x4, x5, x6, x7, x8, x9, x10⟩ := id hinv
    have hv := simple_rep (opnd_rep (ρ := st.slot) x10 c)
    simp only [exec] at h
    split at h
    · rename_i hc
      rw [hc] at hv
      obtain ⟨d, hd, hdv⟩ := VRep.data.1 hv
      simp only [At.get, Option.some.injEq] at hd
      subst hd
      obtain ⟨b', h1, h2⟩ := hdv.bool
      injection h1 with h1
      subst h1
      exact wp_cond_true h2 (exec_sound ty hC hI hmix hB0 hXA c1 _ st E a w _ _ _ h hE hb hinv)
    · rename_i hc
      rw [hc] at hv
      obtain ⟨d, hd, hdv⟩ := VRep.data.1 hv
      simp only [At.get, Option.some.injEq] at hd
      subst hd
      obtain ⟨b', h1, h2⟩ := hdv.bool
      injection h1 with h1
      subst h1
      exact wp_cond_false h2 (exec_sound ty hC hI hmix hB0 hXA c2 _ st E a w _ _ _ h hE hb hinv)
    · rename_i at_ _ _ hc
      rw [hc] at hv
      obtain ⟨d, hd, hdv⟩ := VRep.data.1 hv
      obtain ⟨b', h1, h2⟩ := hdv.bool
      subst h1
      rw [x1] at hd
      have hs : ∀ r, ev C k (.ite at_ (exec cx inl m c1 st) (exec cx inl m c2 st)) E = some r → Shape E st.base r := fun r hr => by
        simp only [ev] at hr
        split at hr
        · exact exec_shape c1 _ st E r hr hE
        · exact exec_shape c2 _ st E r hr hE
        · cases hr
      refine joinL_sound hB0 (base := st.base) hE hinv.pre (fun r hr => by rw [hb]; exact hXA r hr) hs (fun y st1 F1 hr => ?_) h
      simp only [ev, hd] at hr
      cases b' with
      | true => exact wp_cond_true h2 (exec_sound ty hC hI hmix hB0 hXA c1 _ st E a w _ _ _ hr hE hb hinv)
      | false => exact wp_cond_false h2 (exec_sound ty hC hI hmix hB0 hXA c2 _ st E a w _ _ _ hr hE hb hinv)
    · simp [ev] at h
  | .block id b, m, st, E, a, w, x, st', E', h, hE, hb, hinv => by
    obtain ⟨x', st1, F, e, e2, e3⟩ := exec_shape _ _ _ _ _ h hE
    injection e with q1 q2 q3
    subst q1 q2 q3
    simp only [exec] at h
    have hs : ∀ r, ev C k ((exec cx inl m b st).ends fun | .exit id' => if Nat.beq id id' then .normal else .exit id' | x => x) E = some r → Shape E st.base r := fun r hr => by
      obtain ⟨r0, q1, q2⟩ := ev_ends hr
      obtain ⟨x, st', F, e, e2, e3⟩ := exec_shape b _ st E r0 q1 hE
      subst e
      exact ⟨_, st', F, q2, e2, e3⟩
    refine joinL_sound hB0 (base := st.base) hE hinv.pre (fun r hr => by rw [hb]; exact hXA r hr) hs (fun y st1 F1 hr => ?_) h
    obtain ⟨r0, q1, q2⟩ := ev_ends hr
    obtain ⟨z, st2, F2, e, e2, e3⟩ := exec_shape b _ st E r0 q1 hE
    subst e
    simp only [Res.ends] at q2
    injection q2 with p1 p2 p3
    subst p1 p2
    have p3 := List.append_cancel_left p3
    subst p3
    have h1 := exec_sound ty hC hI hmix hB0 hXA b _ st E a w _ _ _ q1 hE hb hinv
    refine wp_block (wp_mono h1 fun e a' w' ⟨he, hinv'⟩ => ?_)
    subst he
    cases z with
    | normal => exact ⟨rfl, hinv'⟩
    | ret => exact ⟨rfl, hinv'⟩
    | exit id' =>
      simp only [exOf, Exit.inBlock]
      by_cases hid : id' = id
      · subst hid
        rw [if_pos rfl, if_pos (Nat.beq_refl _)]
        exact ⟨rfl, hinv'⟩
      · rw [if_neg hid, if_neg (fun hq => hid (nat_beq hq).symm)]
        exact ⟨rfl, hinv'⟩
  | .loop b, m, st, E, a, w, x, st', E', h, hE, hb, hinv => by
    simp only [exec] at h
    exact loopF_sound hB0 hXA (fun st E r => exec_shape b _ st E r) (fun st E a w x st' E' h1 h2 h3 h4 => exec_sound ty hC hI hmix hB0 hXA b _ st E a w x st' E' h1 h2 h3 h4) hE hb h hinv
  | .rangeFunc .., m, st, E, a, w, x, st', E', h, hE, hb, hinv => by simp [exec, ev] at h
  | .scope _, m, st, E, a, w, x, st', E', h, hE, hb, hinv => by simp [exec, ev] at h
  | .goto _, m, st, E, a, w, x, st', E', h, hE, hb, hinv => by simp [exec, ev] at h
  | .refuse _, m, st, E, a, w, x, st', E', h, hE, hb, hinv => by simp [exec, ev] at h
end

end Go.SX

/- Functions: run in place, or by contract. -/
namespace Go.SX
open Go.RowKit (Below)

theorem resVal_size {vs : List Value} : (if h : vs.toArray.size = 1 then vs.toArray[0]'(by omega) else .tuple vs.toArray) = resVal vs := by
  match vs with
  | [] => rfl
  | [u] => rfl
  | u :: v :: r => rw [dif_neg (by simp)]; rfl

section
variable {C : FuncId → List D → Option (List D)} {k B0 : Nat} {X : Ctx} {cx : Cx}

theorem getD_map {ts : List Tmp} {f : Tmp → SV} {t : Nat} (h : t < ts.length) : ((ts.map f)[t]?).getD (.un 1) = f ts[t] := by simp [h]

theorem VRepL_of {X : Ctx} : ∀ {l : List SV} {vs : List Value}, vs.length = l.length → (∀ t, t < l.length → VRep X ((l[t]?).getD (.un 1)) ((vs[t]?).getD undef)) → VRepL X l vs
  | [], vs, hl, _ => by
    simp only [VRepL]
    exact List.eq_nil_of_length_eq_zero hl
  | s :: l, [], hl, _ => by simp at hl
  | s :: l, v :: r, hl, h => by
    simp only [VRepL]
    refine ⟨v, r, rfl, by simpa using h 0 (by simp), VRepL_of (by simpa using hl) fun t ht => ?_⟩
    have := h (t + 1) (by simpa using ht)
    simpa using this

/-- What stands in the slots at a function's beginning. -/
theorem entry_rep {X : Ctx} {fn : Func} {args : List SV} {vals : Array Value} (h : VRepL X args vals.toList) :
    (vals ++ Array.replicate (fn.ntmps - vals.size) undef).size = (args ++ List.replicate (fn.ntmps - args.length) (SV.un 1)).length ∧
      ∀ t, VRep X (((args ++ List.replicate (fn.ntmps - args.length) (SV.un 1))[t]?).getD (.un 1)) ((vals ++ Array.replicate (fn.ntmps - vals.size) undef).getD t undef) := by
  have hl : vals.size = args.length := by simpa using VRepL.length h
  refine ⟨by simp [hl], fun t => ?_⟩
  rcases Nat.lt_or_ge t args.length with hlt | hge
  · rw [List.getElem?_append_left hlt, List.getElem?_eq_getElem hlt]
    obtain ⟨v, e, hv⟩ := h.get (List.getElem?_eq_getElem hlt)
    have e' : vals[t]? = some v := by simpa using e
    simp only [Array.getD_eq_getD_getElem?]
    rw [Array.getElem?_append_left (by omega), e']
    exact hv
  · rw [List.getElem?_append_right hge, List.getElem?_replicate]
    have : ((if t - args.length < fn.ntmps - args.length then some (SV.un 1) else none).getD (.un 1)) = .un 1 := by split <;> rfl
    rw [this]
    simp only [VRep]

/-- One result. -/
def resRun (tmps : Array Value) : ResultVar → Sem Value
  | .tmp t => pure (tmps.getD t undef)
  | .cell a t => do loadVar t (← asAddr (tmps.getD a undef))
theorem resSV1_ok (ty : TysOk cx) {X : Ctx} {st : St} {tmps : Array Value} (m : Mem B0 X) (hμ : X.μ = st.root) (hv : ∀ t, VRep X (st.slot t) (tmps.getD t undef)) {r : ResultVar} {s : SV} (h : resSV1 cx st r = some s) :
    ∃ v, (resRun tmps r).run cx.P X.w = .ok v X.w ∧ VRep X s v := by
  cases r with
  | tmp t =>
    simp only [resSV1, Option.some.injEq] at h
    subst h
    exact ⟨_, by simp [resRun], hv t⟩
  | cell t ty' =>
    simp only [resSV1] at h
    split at h
    · rename_i R T r hs
      split at h
      · rename_i hc
        simp only [Bool.and_eq_true] at hc
        have hT := Ty.beq_eq hc.1
        subst hT
        split at h
        · rename_i v nv up ab foot hrun
          injection h with h
          subst h
          have hp := hv t
          rw [hs] at hp
          simp only [VRep, Ref] at hp
          obtain ⟨hA, b, off, p1, p2, p3, p4⟩ := hp
          obtain ⟨_, _, g3, cs, g4, g5⟩ := loadP_sound (C := fun _ _ => none) (k := 0) m rfl (by rw [hμ]; exact ⟨foot, hrun⟩) (by simp only [Sat]) hA p2 p3 p4
          obtain ⟨u, hr, hu⟩ := load_value ty rfl hc.2 g3 g4 g5
          exact ⟨u, by rw [resRun, p1]; simp [asAddr, hr], hu⟩
        · cases h
      · cases h
    · cases h
theorem resSVs_ok (ty : TysOk cx) {X : Ctx} {st : St} {tmps : Array Value} (m : Mem B0 X) (hμ : X.μ = st.root) (hv : ∀ t, VRep X (st.slot t) (tmps.getD t undef)) : ∀ {rs : List ResultVar} {l : List SV}, resSVs cx st rs = some l →
    ∃ vs, (rs.mapM (resRun tmps)).run cx.P X.w = .ok vs X.w ∧ VRepL X l vs
  | [], l, h => by
    simp only [resSVs, Option.some.injEq] at h
    subst h
    exact ⟨[], by simp, by simp only [VRepL]⟩
  | r :: rs, l, h => by
    simp only [resSVs] at h
    split at h
    · cases h
    · rename_i s hs
      split at h
      · cases h
      · rename_i l' hl'
        injection h with h
        subst h
        obtain ⟨v, h1, h2⟩ := resSV1_ok ty m hμ hv hs
        obtain ⟨vs, h3, h4⟩ := resSVs_ok ty m hμ hv hl'
        refine ⟨v :: vs, by simp [List.mapM_cons, h1, h3], ?_⟩
        simp only [VRepL]
        exact ⟨v, vs, rfl, h2, h4⟩
/-- The results as slots. -/
theorem InvS.res (ty : TysOk cx) {w0 : World} {Xe : Ctx} {fn : Func} {st : St} {E : List D} {a : Act} {w : World} (h : InvS B0 w0 Xe st E a w) {l : List SV} (hl : resultSVs cx fn st = some l) :
    ∃ vs : List Value, (results fn a.tmps).run cx.P w = .ok (resVal vs) w ∧ InvS B0 w0 Xe { st with slots := l } E { tmps := vs.toArray, defers := [] } w := by
  obtain ⟨X, x1, x2, x3, x4, x5, x6, x7, x8, x9, x10⟩ := h
  obtain ⟨vs, h1, h2⟩ := resSVs_ok ty x5 x3 x10 hl
  refine ⟨vs, ?_, X, x1, x2, x3, x4, x5, x6, x7, by simp [VRepL.length h2], rfl, fun t => ?_⟩
  · have h' : fn.results = fn.results.toList.toArray := by simp
    rw [← x2]
    have e : results fn a.tmps = (do
        let vs ← fn.results.mapM (resRun a.tmps)
        pure (if h : vs.size = 1 then vs[0] else .tuple vs)) := rfl
    rw [e, h']
    simp only [List.mapM_toArray]
    simp [h1]
    match vs with
    | [] => rfl
    | [u] => rfl
    | u :: v :: r => rw [dif_neg (by simp)]; rfl
  · simp only
    cases ht : l[t]? with
    | none =>
      simp only [Option.getD_none, VRep]
    | some s =>
      obtain ⟨v, e, hv⟩ := h2.get ht
      simp only [Option.getD_some, Array.getD_eq_getD_getElem?]
      have e' : vs.toArray[t]? = some v := by simpa using e
      rw [e']
      exact hv
theorem InvS.vals {w0 : World} {Xe : Ctx} {st : St} {E : List D} {vs : List Value} {w : World} (h : InvS B0 w0 Xe st E { tmps := vs.toArray, defers := [] } w) :
    ∃ X : Ctx, X.E = E ∧ X.w = w ∧ X.μ = st.root ∧ (∀ r, X.A r ↔ r < st.mem.length) ∧ Mem B0 X ∧ Ext Xe X ∧ Below B0 w0 w ∧ VRepL X st.slots vs := by
  obtain ⟨X, x1, x2, x3, x4, x5, x6, x7, x8, x9, x10⟩ := h
  refine ⟨X, x1, x2, x3, x4, x5, x6, x7, VRepL_of (by simpa using x8) fun t ht => ?_⟩
  have := x10 t
  simp only [Array.getD_eq_getD_getElem?] at this
  simpa using this

theorem withRes_fin {fn : Func} {st : St} {E : List D} {r : Res} (h : ev C k (withRes cx fn st) E = some r) : ∃ l, resultSVs cx fn st = some l ∧ r = .fin .normal { st with slots := l } E := by
  unfold withRes at h
  cases hr : resultSVs cx fn st with
  | none => simp [hr, ev] at h
  | some ts =>
    simp only [hr, ev, Option.some.injEq] at h
    exact ⟨ts, rfl, h.symm⟩

/-- A function's ends. -/
theorem body_ends {mk : Nat} {inl : FuncId → List SV → Nat → List Root → Option Inl} {c : Code} {st : St} {E : List D} (hE : E.length = st.nv) {r0 : Res} (h : ev C k ((exec cx inl mk c st).ends retN) E = some r0) :
    ∃ x st' F, ev C k (exec cx inl mk c st) E = some (.fin x st' (E ++ F)) ∧ r0 = .fin (retN x) st' (E ++ F) ∧ (E ++ F).length = st'.nv ∧ st'.base = st.base := by
  obtain ⟨r2, q1, q2⟩ := ev_ends h
  obtain ⟨x, st', F, e, e2, e3⟩ := exec_shape c _ st E r2 q1 hE
  subst e
  exact ⟨x, st', F, q1, q2, e2, e3⟩

theorem body_calls {mk : Nat} {inl : FuncId → List SV → Nat → List Root → Option Inl} (ty : TysOk cx) (hC : CallsOk cx C) (hI : InlOk cx C k inl) (hmix : cx.P.follows .mixedOrders = true) {f : FuncId} {fn : Func} {c : Code} (hf : cx.P.funcs[f]? = some fn) (hb : fn.body = some c)
    {args : List SV} {nv : Nat} {mem : List Root} (hE : X.E.length = nv) (hA : ∀ r, X.A r ↔ r < mem.length) (hμ : X.μ = memFn mem) (m : Mem B0 X) (hB : B0 ≤ X.w.heap.size) {vals : Array Value} (hv : VRepL X args vals.toList)
    {x : Ex} (hx : retN x = .normal) {st' : St} {E' : List D} (h : ev C k (exec cx inl mk c (entrySt fn args nv mem)) X.E = some (.fin x st' E')) {ts : List SV} (hts : resultSVs cx fn st' = some ts) :
    Calls cx.P f vals X.w fun e w' => ∃ vs : List Value, e = .returned (resVal vs) ∧ InvS B0 X.w X { st' with slots := ts } E' { tmps := vs.toArray, defers := [] } w' := by
  refine calls_of_wp hf hb ?_
  obtain ⟨e1, e2⟩ := entry_rep (fn := fn) hv
  have hinv : InvS B0 X.w X (entrySt fn args nv mem) X.E { tmps := vals ++ Array.replicate (fn.ntmps - vals.size) undef, defers := [] } X.w :=
    ⟨X, rfl, rfl, hμ, hA, m, Ext.refl _, Below.refl _ _, e1, rfl, e2⟩
  refine wp_mono (exec_sound ty hC hI hmix hB (base := mem.length) (fun r hr => (hA r).1 hr) c _ _ X.E _ X.w x st' E' h hE rfl hinv) fun e a' w' ⟨he, hi⟩ => ?_
  have key : a'.defers = [] ∧ ∃ v, (results fn a'.tmps).run cx.P w' = .ok v w' ∧ ∃ vs : List Value, Ending.returned v = .returned (resVal vs) ∧ InvS B0 X.w X { st' with slots := ts } E' { tmps := vs.toArray, defers := [] } w' := by
    have hd : a'.defers = [] := by
      obtain ⟨X, x1, x2, x3, x4, x5, x6, x7, x8, x9, x10⟩ := hi
      exact x9
    obtain ⟨us, r1, r2⟩ := InvS.res ty hi hts
    exact ⟨hd, _, r1, us, rfl, r2⟩
  subst he
  cases x with
  | normal => exact key
  | ret => exact key
  | exit id => cases hx

theorem body_res {mk : Nat} {inl : FuncId → List SV → Nat → List Root → Option Inl} {fn : Func} {c : Code} {st : St} {E : List D} (hE : E.length = st.nv) {r : Res} (h : ev C k (((exec cx inl mk c st).ends retN).andThen (withRes cx fn)) E = some r) :
    (∃ id st' E', r = .fin (.exit id) st' E') ∨ ∃ x st' F ts, retN x = .normal ∧ ev C k (exec cx inl mk c st) E = some (.fin x st' (E ++ F)) ∧ resultSVs cx fn st' = some ts ∧
      r = .fin .normal { st' with slots := ts } (E ++ F) ∧ (E ++ F).length = st'.nv ∧ st'.base = st.base := by
  obtain ⟨r0, q1, q2⟩ := ev_andThen (fun st E r hr => by
    obtain ⟨ts, _, e⟩ := withRes_fin hr
    subst e
    exact True.intro) h
  obtain ⟨x, st', F, e1, e2, e3, e4⟩ := body_ends hE q1
  subst e2
  cases x with
  | exit id => exact .inl ⟨id, st', E ++ F, q2⟩
  | normal =>
    obtain ⟨ts, h1, h2⟩ := withRes_fin q2
    exact .inr ⟨.normal, st', F, ts, rfl, e1, h1, h2, e3, e4⟩
  | ret =>
    obtain ⟨ts, h1, h2⟩ := withRes_fin q2
    exact .inr ⟨.ret, st', F, ts, rfl, e1, h1, h2, e3, e4⟩

theorem descOk_for {cx : Cx} {f : FuncId} {t : TypeId} : ∀ {T : Ty}, descOk cx t T → descOk (cxFor cx f) t T
  | .int _, h => h
  | .bool, h => h
  | .str, h => h
  | .sl _, h => h
  | .arr _ _, h => h
  | .st _, h => h
  | .no, h => h
theorem TysOk.for_ {cx : Cx} (ty : TysOk cx) (f : FuncId) : TysOk (cxFor cx f) := fun t hn => by
  obtain ⟨i, h⟩ := ty t hn
  exact ⟨i, ⟨h.info, h.size, h.zero, h.known, descOk_for h.desc⟩⟩
theorem CallsOk.for_ {cx : Cx} (hC : CallsOk cx C) (f : FuncId) : CallsOk (cxFor cx f) C := hC
theorem InlOk.for_ {cx : Cx} {inl : FuncId → List SV → Nat → List Root → Option Inl} (hI : InlOk cx C k inl) (f : FuncId) : InlOk (cxFor cx f) C k inl := hI

/-- What a body's tree tells. -/
def BodyTells (cx : Cx) (C : FuncId → List D → Option (List D)) (k : Nat) (f : FuncId) (args : List SV) (nv : Nat) (mem : List Root) (t : Tree) : Prop :=
  ∀ (B0 : Nat) (X : Ctx) (vals : Array Value), X.E.length = nv → (∀ r, X.A r ↔ r < mem.length) → X.μ = memFn mem → Mem B0 X → B0 ≤ X.w.heap.size → VRepL X args vals.toList →
    ∀ r, ev C k t X.E = some r → (∃ id st' E', r = .fin (.exit id) st' E') ∨ ∃ st' F, r = .fin .normal st' (X.E ++ F) ∧ (X.E ++ F).length = st'.nv ∧ st'.base = mem.length ∧
      Calls cx.P f vals X.w fun e w' => ∃ us : List Value, e = .returned (resVal us) ∧ InvS B0 X.w X st' (X.E ++ F) { tmps := us.toArray, defers := [] } w'

theorem body_tells {mk : Nat} {inl : FuncId → List SV → Nat → List Root → Option Inl} (ty : TysOk cx) (hC : CallsOk cx C) (hI : InlOk cx C k inl) (hmix : cx.P.follows .mixedOrders = true) {f : FuncId} {fn : Func} {c : Code} (hf : cx.P.funcs[f]? = some fn) (hb : fn.body = some c)
    (args : List SV) (nv : Nat) (mem : List Root) : BodyTells cx C k f args nv mem (((exec cx inl mk c (entrySt fn args nv mem)).ends retN).andThen (withRes cx fn)) := by
  intro B0 X vals hE hA hμ m hB hv r hev
  rcases body_res (st := entrySt fn args nv mem) hE hev with h | ⟨x, st', F, ts, hx, h1, h2, e, h3, h4⟩
  · exact .inl h
  · exact .inr ⟨_, F, e, h3, h4, body_calls ty hC hI hmix hf hb hE hA hμ m hB hv hx h1 h2⟩

theorem inlOf_ok {f : FuncId} {args : List SV} {nv : Nat} {mem : List Root} {t : Tree} {ls : List (St × Bool)} (hbody : BodyTells cx C k f args nv mem t) {i : Inl} (hi : inlOf nv mem t ls = some i) :
    ∀ (B0 : Nat) (X : Ctx) (vals : Array Value), X.E.length = nv → (∀ r, X.A r ↔ r < mem.length) → X.μ = memFn mem → Mem B0 X → B0 ≤ X.w.heap.size → VRepL X args vals.toList →
      ∀ bk vs, ev C k i.t X.E = some (.jmp 0 bk vs) → vs.length = i.m →
        Calls cx.P f vals X.w fun e w' => ∃ v, e = .returned v ∧ ∃ X' : Ctx, X'.E = X.E ++ vs ∧ X'.w = w' ∧ (∀ r, X'.A r ↔ r < i.mem.length) ∧ X'.μ = memFn i.mem ∧ Ext X X' ∧ Mem B0 X' ∧ Below B0 X.w w' ∧ VRep X' i.res v := by
  intro B0 X vals hE hA hμ m hB hv bk vs hev hvs
  unfold inlOf at hi
  split at hi
  · injection hi with hi
    subst hi
    rcases hbody B0 X vals hE hA hμ m hB hv _ hev with ⟨id, st', E', e⟩ | ⟨st', F, e, _⟩
    · cases e
    · cases e
  · revert hi
    simp only
    generalize mergeAll nv mem.length _ = H
    intro hi
    split at hi
    · rename_i hc
      injection hi with hi
      subst hi
      simp only [Bool.and_eq_true, Nat.ble_eq] at hc
      have hev : ev C k (t.conv (fitJ nv H false) 0) X.E = some (.jmp 0 bk vs) := hev
      obtain ⟨r0, q1, q2⟩ := ev_conv (fitJ_shifts _ _ _) hev
      rcases hbody B0 X vals hE hA hμ m hB hv _ q1 with ⟨id, st', E', e⟩ | ⟨st', F, e, h3, h4, hcalls⟩
      · subst e
        cases q2
      · subst e
        have q2 : ev C k (fitJ nv H false 0 st') (X.E ++ F) = some (.jmp 0 bk vs) := q2
        obtain ⟨sg, bs, E1, vs', f1, f2, f3, f4, f5, f6⟩ := fitJ_ev q2
        injection f4 with _ _ f4
        subst f4
        refine hcalls.mono fun e w' ⟨us, he, hi⟩ => ?_
        have hi2 := fit_inv hB f1 hc.1 hc.2 hE h3 (fun _ _ h => h) (fun r hr => by
          rw [h4]
          exact (hA r).1 hr) f2 f3 hi
        obtain ⟨X', x1, x2, x3, x4, x5, x6, x7, x8⟩ := hi2.vals
        exact ⟨_, he, X', x1, x2, x4, x3, x6, x5, x7, resSV_rep x8⟩
    · cases hi

theorem inlF_ok (ty : TysOk cx) (hC : CallsOk cx C) (hmix : cx.P.follows .mixedOrders = true) : ∀ n, InlOk cx C k (inlF cx n)
  | 0 => fun f args nv mem i hi => by simp [inlF] at hi
  | n + 1 => fun f args nv mem i hi hlen => by
    simp only [inlF] at hi
    split at hi
    · cases hi
    rename_i fn hf
    split at hi
    · cases hi
    rename_i c hb
    have hIn : InlOk (cxFor cx f) C k (inlF cx n) := (inlF_ok ty hC hmix n).for_ f
    have hbody : BodyTells cx C k f args nv mem _ := body_tells (mk := resMask fn.results.toList) (cx := cxFor cx f) (ty.for_ f) (hC.for_ f) hIn hmix hf hb args nv mem
    exact inlOf_ok hbody hi

/-! ### By contract -/
theorem backT_ev {fn : Func} {Ts : List Ty} {d : Nat} {st : St} {E : List D} {r : Res} (h : ev C k (backT cx fn Ts d st) E = some r) :
    ∃ ts as s foot E1 rs, resultSVs cx fn st = some ts ∧ (SV.viewL true Ts ts).run st.root ⟨[], st.nv, [], st.mem.length⟩ = some (as, s, foot) ∧ primsOnly s.bs = true ∧ evPrims s.bs E = some E1 ∧ gets E1 as = some rs ∧ r = .jmp d false rs := by
  unfold backT at h
  cases hr : resultSVs cx fn st with
  | none => simp [hr, ev] at h
  | some ts =>
    simp only [hr] at h
    split at h
    · simp [ev] at h
    · rename_i as s foot hv
      split at h
      · rename_i hp
        rw [ev_prims hp] at h
        cases he : evPrims s.bs E with
        | none => simp [he] at h
        | some E1 =>
          simp only [he, ev] at h
          cases hg : gets E1 as with
          | none => simp [hg] at h
          | some rs =>
            simp only [hg, Option.some.injEq] at h
            exact ⟨ts, as, s, foot, E1, rs, rfl, hv, hp, he, hg, h.symm⟩
      · simp [ev] at h
theorem backT_shifts (cx : Cx) (fn : Func) (Ts : List Ty) : Shifts C k (backT cx fn Ts) := by
  intro st E
  cases h : ev C k (backT cx fn Ts 0 st) E with
  | none =>
    refine .inl fun d => ?_
    cases h' : ev C k (backT cx fn Ts d st) E with
    | none => rfl
    | some r =>
      obtain ⟨ts, as, s, foot, E1, rs, h1, h2, h3, h4, h5, h6⟩ := backT_ev h'
      exfalso
      unfold backT at h
      simp only [h1, h2, h3, if_true] at h
      rw [ev_prims h3, h4] at h
      simp [ev, h5] at h
  | some r =>
    obtain ⟨ts, as, s, foot, E1, rs, h1, h2, h3, h4, h5, h6⟩ := backT_ev h
    refine .inr ⟨false, rs, fun d => ?_⟩
    unfold backT
    simp only [h1, h2, h3, if_true]
    rw [ev_prims h3, h4]
    simp [ev, h5]

/-- What a function tells, by its tree; d: how deep calls may go. C0: contracts that are given. -/
def callF (cx : Cx) (k n : Nat) (C0 : FuncId → List D → Option (List D)) : Nat → FuncId → List D → Option (List D)
  | 0, f, ds => C0 f ds
  | d + 1, f, ds => match C0 f ds with
    | some rs => some rs
    | none => match treeOf cx n f with
      | none => none
      | some t => match ev (callF cx k n C0 d) k t ds with
        | some (.jmp _ _ rs) => some rs
        | _ => none

theorem DVals.dlen {w : World} {M : Nat → Prop} : ∀ {Ts : List Ty} {ds : List D} {vs : List Value}, DVals w M Ts ds vs → ds.length = Ts.length
  | [], [], [], _ => rfl
  | T :: Ts, d :: ds, v :: vs, h => by simp [DVals.dlen h.2]
  | [], [], _ :: _, h | [], _ :: _, _, h | _ :: _, [], _, h | _ :: _, _ :: _, [], h => h.elim

theorem tree_ok (ty : TysOk cx) (hC : CallsOk cx C) (hmix : cx.P.follows .mixedOrders = true) {n : Nat} {f : FuncId} {fn : Func} {t : Tree} (hf : cx.P.funcs[f]? = some fn) (ht : treeOf cx n f = some t) {ds rs : List D} {l : Nat} {b : Bool} (hev : ev C k t ds = some (.jmp l b rs))
    {w : World} {args : Array Value} {M : Nat → Prop} (hM : ∀ b, M b → b < w.heap.size) (hv : DVals w M (paramTys cx fn) ds args.toList) :
    Calls cx.P f args w fun e w' => ∃ v, e = .returned v ∧ Below w.heap.size w w' ∧ ResIs w' M (resTys cx fn) rs v := by
  unfold treeOf at ht
  simp only [hf] at ht
  split at ht
  · cases ht
  rename_i c hb
  split at ht
  · rename_i hd
    injection ht with ht
    subst ht
    obtain ⟨r0, q1, q2⟩ := ev_conv (backT_shifts _ _ _) hev
    have hIn : InlOk (cxFor cx f) C k (inlF cx n) := (inlF_ok ty hC hmix n).for_ f
    have hE : ds.length = (paramTys cx fn).length := hv.dlen
    obtain ⟨x, st', F, e1, e2, e3, e4⟩ := body_ends (st := entrySt fn (frozen (paramTys cx fn) 0) (paramTys cx fn).length []) hE q1
    subst e2
    let X : Ctx := ⟨ds, w, memFn [], fun _ => ⟨none, []⟩, fun _ => False, M⟩
    have m : Mem w.heap.size X := ⟨fun _ h => h.elim, fun _ _ _ h => h.elim, fun _ h => h.elim, fun _ _ h => h.elim, hM⟩
    have hXM : Keeps w w M X.M := ⟨fun _ _ h _ => h, fun a v _ hm => by
      rintro (h | ⟨r, h, _⟩)
      · exact hm h
      · exact h⟩
    have hv' : VRepL X (frozen (paramTys cx fn) 0) args.toList := frozen_rep (hv.keep hXM) fun j d hj => by rw [Nat.zero_add]; exact hj
    have main : retN x = .normal → Calls cx.P f args w fun e w' => ∃ v, e = .returned v ∧ Below w.heap.size w w' ∧ ResIs w' M (resTys cx fn) rs v := fun hx => by
      rw [hx] at q2
      have q2 : ev C k (backT (cxFor cx f) fn (resTys cx fn) 0 st') (ds ++ F) = some _ := q2
      obtain ⟨ts, as, s, foot, E1, rs', h1, h2, h3, h4, h5, h6⟩ := backT_ev q2
      injection h6 with _ _ h6
      subst h6
      refine (body_calls (cx := cxFor cx f) (X := X) (ty.for_ f) (hC.for_ f) hIn hmix hf hb hE (fun r => by simp [X]) rfl m (Nat.le_refl _) hv' hx e1 h1).mono fun e w' ⟨us, he, hi⟩ => ?_
      obtain ⟨Y, x1, x2, x3, x4, x5, x6, x7, x8⟩ := hi.vals
      have hBY : w.heap.size ≤ Y.w.heap.size := by rw [x2]; exact x7.size
      obtain ⟨G, g1, g2, g3⟩ := evPrims_sat (C := C) (k := k) h4
      obtain ⟨y1, y2⟩ := x5.moreE hBY (E' := E1) (fun i d hj => by rw [x1] at hj; rw [g1]; exact get_app hj)
      have hnv : E1.length = s.nv := by
        have := _root_.Go.SX.X.run_outs _ _ _ h2
        simp only [outsL, Nat.add_zero] at this
        rw [g1, List.length_append, e3, g2, this]
      rw [hnv] at g3
      have hmv : ({ Y with E := E1 } : Ctx).mv [] = { Y with E := E1 } := rfl
      have hμY : ({ Y with E := E1 } : Ctx).μ = st'.root := x3
      obtain ⟨z1, z2, _, _, rs2, z5, z6⟩ := viewL_vals (C := C) (k := k) (B0 := w.heap.size) (X := { Y with E := E1 }) hBY (σ := ⟨[], st'.nv, [], st'.mem.length⟩) (by rw [hμY]; exact ⟨foot, h2⟩) g3 y2 (VRepL.ext y1 x8)
      have hrs : rs2 = rs := by
        have z5 : gets E1 as = some rs2 := z5
        rw [h5] at z5
        injection z5 with z5
        exact z5.symm
      subst hrs
      refine ⟨_, he, x7, us, ?_, rfl⟩
      have hF : ∀ b, M b → (({ Y with E := E1 } : Ctx).mv s.up).M b := fun b hb => .inl (by
        show Y.F b
        rw [x6.F]
        exact hb)
      have z6 : DVals Y.w (({ Y with E := E1 } : Ctx).mv s.up).M _ _ _ := z6
      rw [x2] at z6
      exact z6.keep ⟨fun _ _ h _ => h, fun a v _ hm hM => hm (hF _ hM)⟩
    cases x with
    | exit id => cases q2
    | normal => exact main rfl
    | ret => exact main rfl
  · cases ht

theorem callF_ok (ty : TysOk cx) (hmix : cx.P.follows .mixedOrders = true) {C0 : FuncId → List D → Option (List D)} (h0 : CallsOk cx C0) (k n : Nat) : ∀ d, CallsOk cx (callF cx k n C0 d)
  | 0 => h0
  | d + 1 => fun f fn ds rs hf hcan hdat h w args M hM hv => by
    simp only [callF] at h
    split at h
    · rename_i rs' h'
      injection h with h
      subst h
      exact h0 f fn ds _ hf hcan hdat h' w args M hM hv
    · split at h
      · cases h
      · rename_i t ht
        split at h
        · rename_i hev
          injection h with h
          subst h
          exact tree_ok ty (callF_ok ty hmix h0 k n d) hmix hf ht hev hM hv
        · cases h

end
end Go.SX

/- Rows: what stands in the statement's words as data. -/
namespace Go.SX
open Go.RowKit (Below)

/-! ### Data of a type -/
mutual
def Wt : Ty → D → Prop
  | .int k, .int k' n => k' = k ∧ (Lit.int k n).wf = true
  | .bool, .bool _ => True
  | .str, .str s => s.size ≤ maxLen
  | .sl _, .nil => True
  | .sl e, .sl ds => ds.length ≤ maxLen ∧ WtA e ds
  | .arr n e, .agg ds => ds.length = n ∧ WtA e ds
  | .st Ts, .agg ds => WtL Ts ds
  | _, _ => False
def WtA (e : Ty) : List D → Prop
  | [] => True
  | d :: ds => Wt e d ∧ WtA e ds
def WtL : List Ty → List D → Prop
  | [], [] => True
  | T :: Ts, d :: ds => Wt T d ∧ WtL Ts ds
  | _, _ => False
end

section
variable {H : Type} {enc : TypeId × Value → H} {cx : Cx} {w : World} {sp : Nat → Bool} {held : Bool}

theorem trod_array {P : Program} {t e : TypeId} {n fuel : Nat} {cs : List Value} {x : DataW H × List MemPlace} (ht : P.underlying t = some (.array n e)) (h : DataW.trod enc P w 0 sp held fuel t cs = some x) :
    ∃ m, fuel = m + 1 ∧ cs.length = P.cellsOf t ∧ ∀ i, i < n → ∃ y, DataW.trod enc P w 0 sp held m e ((cs.drop (i * P.cellsOf e)).take (P.cellsOf e)) = some y := by
  cases fuel with
  | zero => simp [DataW.trod] at h
  | succ m =>
    unfold DataW.trod at h
    rw [ht] at h
    split at h <;> simp_all
    rename_i heq
    obtain ⟨e1, e2⟩ := heq
    subst e1 e2
    obtain ⟨hl, xs, hp, hd⟩ := h
    intro i hi
    have := mapM_some_get hp i i (by simp [hi])
    have hlen : xs.length = n := by simpa using mapM_some_length hp
    have hx : xs[i]? = some xs[i] := List.getElem?_eq_getElem (by omega)
    rw [hx] at this
    exact ⟨_, _, this⟩

theorem TyFact.cells {cx : Cx} {t : TypeId} {T : Ty} {i : TypeInfo} (h : TyFact cx t T i) : cx.P.cellsOf t = T.size := by
  simp [Program.cellsOf, h.info, h.size]

/-- Rows of data, from its parts. -/
theorem rows_of {M : Nat → Prop} {e : Ty} : ∀ (n : Nat) (cs : List Value), cs.length = n * e.size → (∀ i, i < n → ∃ d, DRep w M e d ((cs.drop (i * e.size)).take e.size) ∧ Wt e d) → ∃ ds : List D, ds.length = n ∧ DRepA w M e ds cs ∧ WtA e ds
  | 0, cs, hl, _ => ⟨[], rfl, by simp only [DRepA]; exact List.eq_nil_of_length_eq_zero (by omega), trivial⟩
  | n + 1, cs, hl, h => by
    have hl' : cs.length = n * e.size + e.size := by rw [hl, Nat.succ_mul]
    obtain ⟨d, h1, h2⟩ := h 0 (by omega)
    obtain ⟨ds, g1, g2, g3⟩ := rows_of (e := e) n (cs.drop e.size) (by rw [List.length_drop]; omega) fun i hi => by
      obtain ⟨d, q1, q2⟩ := h (i + 1) (by omega)
      refine ⟨d, ?_, q2⟩
      rw [List.drop_drop]
      rw [Nat.succ_mul, Nat.add_comm] at q1
      exact q1
    refine ⟨d :: ds, by simp [g1], ?_, h2, g3⟩
    simp only [DRepA]
    refine ⟨cs.take e.size, cs.drop e.size, (List.take_append_drop _ _).symm, ?_, g2⟩
    simpa using h1

theorem cells_some {a : Addr} : ∀ {n : Nat} {cs : List Value}, w.cells? 0 a n = some cs → cs.length = n ∧ ∀ j, j < n → w.cell? (a.add j) = cs[j]? := by
  intro n cs h
  simp only [World.cells?, Nat.zero_le, if_true] at h
  exact ⟨by simpa using mapM_some_length h, fun j hj => mapM_some_get h j j (by simp [hj])⟩

theorem flat_get {n s : Nat} (f : Nat → List Value) (hf : ∀ i, i < n → (f i).length = s) : ∀ (m : Nat), m ≤ n → ((List.range m).flatMap f).length = m * s ∧ ∀ i j, i < m → j < s → ((List.range m).flatMap f)[i * s + j]? = (f i)[j]?
  | 0, _ => ⟨by simp, fun i j hi => by omega⟩
  | m + 1, hm => by
    obtain ⟨h1, h2⟩ := flat_get f hf m (by omega)
    have e : (List.range (m + 1)).flatMap f = (List.range m).flatMap f ++ f m := by simp [List.range_succ, List.flatMap_append]
    rw [e]
    refine ⟨by rw [List.length_append, h1, hf m (by omega), Nat.succ_mul], fun i j hi hj => ?_⟩
    rcases Nat.lt_or_ge i m with hlt | hge
    · have : i * s + j < m * s := by
        have : (i + 1) * s ≤ m * s := Nat.mul_le_mul_right s hlt
        rw [Nat.succ_mul] at this
        omega
      rw [List.getElem?_append_left (by rw [h1]; exact this)]
      exact h2 i j hlt hj
    · have : i = m := by omega
      subst this
      rw [List.getElem?_append_right (by rw [h1]; omega), h1]
      congr 1
      omega

theorem known_of {T : Ty} (h : T.known = true) : T ≠ .no := by
  rintro rfl
  cases h

/-- What reads as data is data. -/
theorem trod_data (ty : TysOk cx) : ∀ (fuel : Nat) (t : TypeId) (T : Ty) (cs : List Value) (x : DataW H × List MemPlace), cx.T t = T → T.known = true → DataW.trod enc cx.P w 0 sp held fuel t cs = some x → ∃ d, DRep w (fun _ => False) T d cs ∧ Wt T d
  | 0, t, T, cs, x, _, _, h => by simp [DataW.trod] at h
  | fuel + 1, t, T, cs, x, hT, hn, h => by
    obtain ⟨i, tf⟩ := ty.get hT (known_of hn)
    have hdesc := tf.desc
    cases T with
    | no => cases hn
    | int k =>
      obtain ⟨n, e1, _, e3⟩ := DataW.trod_int hdesc h
      exact ⟨.int k n, ⟨rfl, e1⟩, rfl, e3⟩
    | bool =>
      obtain ⟨b, e1, _⟩ := DataW.trod_bool hdesc h
      exact ⟨.bool b, e1, trivial⟩
    | str =>
      obtain ⟨s, e1, _, e3⟩ := DataW.trod_string hdesc h
      exact ⟨.str s, e1, e3⟩
    | sl e =>
      obtain ⟨E, hu, hE⟩ := hdesc
      have hne : e.known = true := by simpa [Ty.known] using hn
      obtain ⟨i', tf'⟩ := ty.get hE (known_of hne)
      rcases DataW.trod_slice hu h with ⟨e1, _⟩ | ⟨a, len, cap, elems, rest, m, e1, e2, e3, e4, e5, e6, e7, e8, _⟩
      · exact ⟨.nil, e1, trivial⟩
      · injection e1 with e1
        subst e1
        rw [tf'.cells] at e8
        have one : ∀ i, i < len → ∃ cs', w.cells? 0 (a.add (i * e.size)) e.size = some cs' ∧ ∃ d, DRep w (fun _ => False) e d cs' ∧ Wt e d := fun i hi => by
          have := e8 i hi
          rw [List.getElem?_eq_getElem (by omega), Option.bind_eq_some_iff] at this
          obtain ⟨cs', h1, h2⟩ := this
          obtain ⟨d, h3, h4⟩ := trod_data ty fuel E e cs' _ hE hne h2
          exact ⟨cs', h1, d, h3, h4⟩
        let f : Nat → List Value := fun i => (w.cells? 0 (a.add (i * e.size)) e.size).getD []
        have hf : ∀ i, i < len → (f i).length = e.size := fun i hi => by
          obtain ⟨cs', h1, _⟩ := one i hi
          simp only [f, h1, Option.getD_some]
          exact (cells_some h1).1
        obtain ⟨g1, g2⟩ := flat_get f hf len (Nat.le_refl _)
        obtain ⟨ds, q1, q2, q3⟩ := rows_of (w := w) (M := fun _ => False) (e := e) len ((List.range len).flatMap f) g1 fun i hi => by
          obtain ⟨cs', h1, d, h3, h4⟩ := one i hi
          refine ⟨d, ?_, h4⟩
          have : (((List.range len).flatMap f).drop (i * e.size)).take e.size = cs' := by
            have hl := (cells_some h1).1
            apply List.ext_getElem?
            intro j
            rw [List.getElem?_take]
            split
            · rename_i hj
              rw [List.getElem?_drop, g2 i j hi hj]
              simp only [f, h1, Option.getD_some]
            · rename_i hj
              rw [List.getElem?_eq_none (by omega)]
          rw [this]
          exact h3
        refine ⟨.sl ds, ⟨a, cap, (List.range len).flatMap f, by rw [q1]; exact e2, by rw [q1]; exact e5, q2, fun j v hj => ?_, fun _ h => h⟩, by omega, q3⟩
        have hjl : j < len * e.size := by rw [← g1]; exact (List.getElem?_eq_some_iff.1 hj).1
        have hpos : 0 < e.size := by
          rcases Nat.eq_zero_or_pos e.size with h0 | h0
          · rw [h0, Nat.mul_zero] at hjl; omega
          · exact h0
        have hdiv : j / e.size < len := by
          rw [Nat.div_lt_iff_lt_mul hpos]
          exact hjl
        have hmod := Nat.mod_lt j hpos
        have hjj : j / e.size * e.size + j % e.size = j := by rw [Nat.mul_comm]; exact Nat.div_add_mod j e.size
        have := g2 _ _ hdiv hmod
        rw [hjj, hj] at this
        obtain ⟨cs', h1, _⟩ := one _ hdiv
        simp only [f, h1, Option.getD_some] at this
        have := ((cells_some h1).2 _ hmod).trans this.symm
        rw [add_add, hjj] at this
        exact this
    | arr n e =>
      obtain ⟨E, hu, hE⟩ := hdesc
      have hne : e.known = true := by simpa [Ty.known] using hn
      obtain ⟨i', tf'⟩ := ty.get hE (known_of hne)
      obtain ⟨m, e1, e2, e3⟩ := trod_array hu h
      injection e1 with e1
      subst e1
      rw [tf.cells] at e2
      rw [tf'.cells] at e3
      obtain ⟨ds, q1, q2, q3⟩ := rows_of (w := w) (M := fun _ => False) (e := e) n cs (by simpa [Ty.size] using e2) fun i hi => by
        obtain ⟨y, hy⟩ := e3 i hi
        exact trod_data ty fuel E e _ _ hE hne hy
      exact ⟨.agg ds, ⟨q1, q2⟩, q1, q3⟩
    | st Ts =>
      obtain ⟨fs, hu, hTs, hoff⟩ := hdesc
      obtain ⟨xs, m, e1, _, e3, e4, e5⟩ := DataW.trod_struct hu h
      injection e1 with e1
      subst e1
      rw [tf.cells] at e3
      have hkn : Ty.knownL Ts = true := by simpa [Ty.known] using hn
      have main : ∀ (l : List Field) (n k : Nat), offsOk cx.T l n = true → n ≤ cs.length → (cs.length = n + Ty.sizeL (l.map fun f => cx.T f.type)) → Ty.knownL (l.map fun f => cx.T f.type) = true →
          (∀ i f, l[i]? = some f → fs[k + i]? = some f) → ∃ ds, DRepL w (fun _ => False) (l.map fun f => cx.T f.type) ds (cs.drop n) ∧ WtL (l.map fun f => cx.T f.type) ds := by
        intro l
        induction l with
        | nil =>
          intro n k _ _ hlen _ _
          refine ⟨[], ?_, trivial⟩
          simp only [List.map_nil, DRepL]
          simp only [List.map_nil, Ty.sizeL, Nat.add_zero] at hlen
          exact List.drop_eq_nil_of_le (by omega)
        | cons f l ih =>
          intro n k ho hle hlen hk hfs
          simp only [offsOk, Bool.and_eq_true] at ho
          simp only [List.map_cons, Ty.sizeL] at hlen
          simp only [List.map_cons, Ty.knownL, Bool.and_eq_true] at hk
          have hoffs := nat_beq ho.1
          obtain ⟨i'', tf''⟩ := ty.get (T := cx.T f.type) rfl (known_of hk.1)
          have hf0 := hfs 0 f rfl
          rw [Nat.add_zero] at hf0
          have hx := e5 k f hf0
          rw [tf''.cells, hoffs] at hx
          have hkl : k < xs.length := by
            rw [e4]
            exact (Array.getElem?_eq_some_iff.1 hf0).1
          rw [List.getElem?_eq_getElem hkl] at hx
          obtain ⟨d, h1, h2⟩ := trod_data ty fuel f.type (cx.T f.type) _ _ rfl hk.1 hx
          obtain ⟨ds, h3, h4⟩ := ih (n + (cx.T f.type).size) (k + 1) ho.2 (by omega) (by omega) hk.2 fun i g hg => by
            have := hfs (i + 1) g (by simpa using hg)
            rw [← this]
            congr 1
            omega
          refine ⟨d :: ds, ?_, h2, h4⟩
          simp only [List.map_cons, DRepL]
          refine ⟨_, _, (List.take_append_drop (cx.T f.type).size _).symm, h1, ?_⟩
          rw [List.drop_drop]
          exact h3
      rw [hTs] at hkn e3
      simp only [Ty.size] at e3
      obtain ⟨ds, h1, h2⟩ := main fs.toList 0 0 hoff (Nat.zero_le _) (by rw [e3, Nat.zero_add]) hkn fun i f hf => by
        rw [Nat.zero_add]
        simpa using hf
      rw [List.drop_zero, ← hTs] at h1
      rw [← hTs] at h2
      exact ⟨.agg ds, h1, h2⟩

end
end Go.SX

/- Rows: a law that is true whatever comes in. -/
namespace Go.SX
open Go.RowKit (Below okWide_bool_mk ok_one shut_bool)

section
variable {H : Type} {enc : TypeId × Value → H} {cx : Cx} {w : World} {sp : Nat → Bool} {held : Bool}

/-- A value of a type's outer form. -/
theorem val_of {t : TypeId} {T : Ty} {i : TypeInfo} {M : Nat → Prop} {r : Reach} {base : Nat} {v : Value} {d : D} (tf : TyFact cx t T i) (hval : Value.okWide cx.P w r base t v) (h : DRep w M T d v.cells.toList) : DVal w M T d v := by
  have hdesc := tf.desc
  unfold DVal
  cases T with
  | no => cases hdesc
  | int k =>
    have hu : cx.P.underlying t = some (.int k) := hdesc
    simp only [Value.okWide, hu, Cell.okWide] at hval
    cases v <;> simp only [Cell.ok, hu] at hval
    simp only [Ty.isAgg, Bool.false_eq_true, if_false]
    exact ⟨⟨nofun, nofun⟩, h⟩
  | bool =>
    have hu : cx.P.underlying t = some .bool := hdesc
    simp only [Value.okWide, hu, Cell.okWide] at hval
    cases v <;> simp only [Cell.ok, hu] at hval
    simp only [Ty.isAgg, Bool.false_eq_true, if_false]
    exact ⟨⟨nofun, nofun⟩, h⟩
  | str =>
    have hu : cx.P.underlying t = some .string := hdesc
    simp only [Value.okWide, hu, Cell.okWide] at hval
    cases v <;> simp only [Cell.ok, hu] at hval
    simp only [Ty.isAgg, Bool.false_eq_true, if_false]
    exact ⟨⟨nofun, nofun⟩, h⟩
  | sl e =>
    obtain ⟨E, hu, _⟩ := hdesc
    simp only [Value.okWide, hu, Cell.okWide] at hval
    cases v <;> simp only [Cell.ok, hu] at hval
    simp only [Ty.isAgg, Bool.false_eq_true, if_false]
    exact ⟨⟨nofun, nofun⟩, h⟩
  | arr n e =>
    obtain ⟨E, hu, _⟩ := hdesc
    simp only [Value.okWide, hu] at hval
    obtain ⟨cs, e1, _⟩ := hval
    subst e1
    simp only [Ty.isAgg, if_true]
    exact ⟨cs, rfl, h⟩
  | st Ts =>
    obtain ⟨fs, hu, _⟩ := hdesc
    simp only [Value.okWide, hu] at hval
    obtain ⟨cs, e1, _⟩ := hval
    subst e1
    simp only [Ty.isAgg, if_true]
    exact ⟨cs, rfl, h⟩

theorem args_data (ty : TysOk cx) {r : Reach} {base : Nat} : ∀ {ts : List TypeId} {vs : List Value} {ds : List (DataW H)} {ps : List MemPlace}, Ty.knownL (ts.map cx.T) = true → (∀ (j : Nat) t v, ts[j]? = some t → vs[j]? = some v → Value.okWide cx.P w r base t v) →
    DataW.TrodAll enc cx.P w 0 sp held ts vs ds ps → ∃ Ds, DVals w (fun _ => False) (ts.map cx.T) Ds vs ∧ WtL (ts.map cx.T) Ds
  | [], [], [], ps, _, _, h => ⟨[], trivial, trivial⟩
  | t :: ts, v :: vs, d :: ds, ps, hk, hval, h => by
    simp only [List.map_cons, Ty.knownL, Bool.and_eq_true] at hk
    obtain ⟨p, q, ⟨fuel, h1⟩, h2, _⟩ := h
    obtain ⟨i, tf⟩ := ty.get (T := cx.T t) rfl (known_of hk.1)
    obtain ⟨D1, g1, g2⟩ := trod_data ty fuel t (cx.T t) _ _ rfl hk.1 h1
    obtain ⟨Ds, g3, g4⟩ := args_data ty hk.2 (fun j t' v' hj hv => hval (j + 1) t' v' (by simpa using hj) (by simpa using hv)) h2
    exact ⟨D1 :: Ds, ⟨val_of tf (hval 0 t v rfl rfl) g1, g3⟩, g2, g4⟩
  | [], _ :: _, _, _, _, _, h | [], [], _ :: _, _, _, _, h | _ :: _, [], _, _, _, _, h | _ :: _, _ :: _, [], _, _, _, h => by simp [DataW.TrodAll] at h

theorem args_stay {P : Program} (hl : laidOutB P = true) {w' : World} : ∀ {ts : List TypeId} {vs : List Value} {ds : List (DataW H)} {ps : List MemPlace}, ts.all (fun t => P.readableRec t && Nat.blt t P.types.size) = true →
    DataW.TrodAll enc P w 0 (fun _ => true) true ts vs ds ps → Below w.heap.size w w' → (∀ x ∈ ps, x.block < w.heap.size) → DataW.TrodAll enc P w' 0 (fun b => decide (b < w.heap.size)) true ts vs ds ps
  | [], [], [], ps, _, h, _, _ => h
  | t :: ts, v :: vs, d :: ds, ps, hk, h, hb, hlt => by
    simp only [List.all_cons, Bool.and_eq_true, Nat.blt_eq] at hk
    obtain ⟨p, q, h1, h2, e⟩ := h
    subst e
    exact ⟨p, q, Go.RowKit.Below.trod hl hk.1.1 hk.1.2 h1 hb (fun x hx => hlt x (List.mem_append.2 (.inl hx))), args_stay hl (by simpa using hk.2) h2 hb (fun x hx => hlt x (List.mem_append.2 (.inr hx))), rfl⟩
  | [], _ :: _, _, _, _, h, _, _ | [], [], _ :: _, _, _, h, _, _ | _ :: _, [], _, _, _, h, _, _ | _ :: _, _ :: _, [], _, _, h, _, _ => by simp [DataW.TrodAll] at h

theorem TrodAll.dlen {P : Program} {base : Nat} : ∀ {ts : List TypeId} {vs : List Value} {ds : List (DataW H)} {ps : List MemPlace}, DataW.TrodAll enc P w base sp held ts vs ds ps → ds.length = ts.length
  | [], [], [], ps, _ => rfl
  | t :: ts, v :: vs, d :: ds, ps, h => by
    obtain ⟨p, q, _, h2, _⟩ := h
    simp [TrodAll.dlen h2]
  | [], _ :: _, _, _, h | [], [], _ :: _, _, h | _ :: _, [], _, _, h | _ :: _, _ :: _, [], _, h => by simp [DataW.TrodAll] at h

end

/-- A law that tells true of all data is true of whatever comes in. -/
theorem lift_true {cx : Cx} {C : Checked} (hP : cx.P = C.prog) (ty : TysOk cx) (hmix : C.prog.follows .mixedOrders = true) {C0 : FuncId → List D → Option (List D)} (h0 : CallsOk cx C0) (n : Nat)
    {os : Os} {f : FuncId} {fn : Func} {H : Type} {enc : TypeId × Value → H} {s : ChangeSpec} {conds : List PathCond}
    (own : ownKnob C.prog.godebug = none) (hl : laidOutB C.prog = true) (started : os.Started) (noInit : C.prog.inits.idxOf? f = none) (hfn : C.prog.funcs[f]? = some fn)
    (hcan : canCall fn = true) (hdat : isData cx f fn = true) (hread : fn.params.toList.all (fun t => C.prog.readableRec t && Nat.blt t C.prog.types.size) = true)
    {tb : TypeId} (hres : fn.resultTypes = #[tb]) (htb : C.prog.underlying tb = some .bool) (hTb : cx.T tb = .bool) (hvars : s.vars = [])
    (hspec : ∀ ds : List (DataW H), ds.length = fn.params.toList.length → s.fn H ds = { results := [.lit (.bool true)], args := ds })
    (hlaw : ∀ Ds, WtL (paramTys cx fn) Ds → ∃ k d, callF cx k n C0 d f Ds = some [.bool true])
    (witness : ∃ (w : World) (tape : Tape) (i : Input), w.os = os ∧ (w.forCall tape i).Shaped C.prog ∧ i.vars = [] ∧ Input.okWide C.prog (w.forCall tape i) .any w.heap.size f i ∧
      s.pre6 enc C.prog fn conds false (w.forCall tape i).memory i.args ∧ ({} : Assume).holds C.prog (lone (Frame.enter C.prog f i.args .normal) [] (w.forCall tape i))) :
    ReturnsInHanded {} C os f .any (s.pre6 enc C.prog fn conds false) (s.post enc C.prog fn false true false false) := by
  refine returnsInHanded_of_change own started noInit hfn witness ?_
  intro W base args ds gs before hval hW _ _
  have hW' := hW
  obtain ⟨p, q, hA, hV, e, hfz, hnd⟩ := hW
  rw [hvars] at hV
  have hgs : gs = [] ∧ q = [] := by
    cases gs with
    | nil => exact ⟨rfl, hV⟩
    | cons g gs => simp [DataW.TrodVars] at hV
  obtain ⟨hg, hq⟩ := hgs
  subst hg hq
  rw [List.append_nil] at e
  subst e
  have hkn : Ty.knownL (fn.params.toList.map cx.T) = true := by
    unfold isData at hdat
    simp only [Bool.and_eq_true] at hdat
    exact hdat.1.2
  rw [← hP] at hA hval
  obtain ⟨Ds, g1, g2⟩ := args_data ty hkn (fun j t v hj hv => hval j t v (by simpa using hj) (by simpa using hv)) hA
  rw [hP] at hA hval
  obtain ⟨k, d, hlaw'⟩ := hlaw Ds g2
  have hcalls := callF_ok ty (by rw [hP]; exact hmix) h0 k n d f fn Ds _ (by rw [hP]; exact hfn) hcan hdat hlaw' W args (fun _ => False) (fun _ h => h.elim) g1
  rw [hP] at hcalls
  refine hcalls.mono fun e W' ⟨v, he, hb, vs, hv, hr⟩ => ⟨v, he, ?_⟩
  have hrt : resTys cx fn = [.bool] := by
    unfold resTys
    rw [hres]
    simp [hTb]
  rw [hrt] at hv
  have hvt : v = .bool true := by
    cases vs with
    | nil => exact hv.elim
    | cons u us =>
      obtain ⟨hu, hus⟩ := hv
      cases us with
      | cons _ _ => exact hus.elim
      | nil =>
        have : u = .bool true := by
          simp only [DVal, Ty.isAgg, Bool.false_eq_true, if_false, DRep] at hu
          simpa using hu.2
        rw [hr, this]
        rfl
  subst hvt
  have hlen : (ds ++ ([] : List (DataW H))).length = fn.params.toList.length := by rw [List.append_nil]; exact TrodAll.dlen hA
  have hs := hspec _ hlen
  refine ⟨ds, [], before, [], before, [], hW', ?_, ?_, ?_, hb.frame _, nofun⟩
  · rw [hs, hres]
    exact Go.ChangeShapes.trodAll_mk1 (shut_bool htb true)
  · rw [hs]
    simp only [List.append_nil]
    exact args_stay hl hread hA hb (fun x hx => hW'.lt x hx)
  · rw [hvars, hs]
    exact rfl

end Go.SX

/- Trees without a bound on rounds and depth: equations to reckon by. -/
namespace Go.SX

theorem iter_mono {f g : List D → Option Res} (h : ∀ vs r, f vs = some r → g vs = some r) : ∀ {k k' : Nat} {vs : List D} {r : Res}, k ≤ k' → iter f k vs = some r → iter g k' vs = some r
  | 0, _, _, _, _, hi => by simp [iter] at hi
  | k + 1, 0, _, _, hk, _ => by omega
  | k + 1, k' + 1, vs, r, hk, hi => by
    simp only [iter] at hi ⊢
    split at hi
    · rename_i vs' hq
      rw [h _ _ hq]
      exact iter_mono h (by omega) hi
    · rename_i hne
      have := h _ _ hi
      rw [this]
      split
      · rename_i vs' hq
        injection hq with hq
        subst hq
        exact absurd hi (hne vs')
      · rfl

theorem ev_mono {C C' : FuncId → List D → Option (List D)} (hC : ∀ f ds rs, C f ds = some rs → C' f ds = some rs) {k k' : Nat} (hk : k ≤ k') : ∀ {t : Tree} {E : List D} {r : Res}, ev C k t E = some r → ev C' k' t E = some r
  | .prim p as t, E, r, h => by
    simp only [ev] at h ⊢
    split at h
    · cases h
    · split at h
      · cases h
      · exact ev_mono hC hk h
  | .call f as m t, E, r, h => by
    simp only [ev] at h ⊢
    split at h
    · cases h
    · split at h
      · cases h
      · rename_i vs _ ds hq
        rw [hC _ _ _ hq]
        split at h
        · rename_i hl
          simp only [hl, if_true]
          exact ev_mono hC hk h
        · cases h
  | .sub t m u, E, r, h => by
    simp only [ev] at h ⊢
    split at h
    · cases h
    · rename_i b vs hq
      rw [ev_mono hC hk hq]
      simp only
      split at h
      · rename_i hl
        simp only [hl, if_true]
        exact ev_mono hC hk h
      · cases h
    · rename_i r0 hne hq
      rw [ev_mono hC hk hq]
      cases r0 with
      | jmp l b vs =>
        cases l with
        | zero => exact absurd rfl (hne b vs)
        | succ l => exact h
      | fin x st E' => exact h
  | .loop init b, E, r, h => by
    simp only [ev] at h ⊢
    split at h
    · cases h
    · split at h
      · cases h
      · rename_i vs _ r0 hq
        rw [iter_mono (fun vs r hv => ev_mono hC hk hv) hk hq]
        exact h
  | .ite c a b, E, r, h => by
    simp only [ev] at h ⊢
    split at h
    · exact ev_mono hC hk h
    · exact ev_mono hC hk h
    · cases h
  | .jmp l b as, E, r, h => h
  | .fin x st, E, r, h => h
  | .fail _, E, r, h => h

section
variable (cx : Cx) (n : Nat) (C0 : FuncId → List D → Option (List D))

theorem callF_mono {k k' : Nat} (hk : k ≤ k') : ∀ {d d' : Nat} {f : FuncId} {ds rs : List D}, d ≤ d' → callF cx k n C0 d f ds = some rs → callF cx k' n C0 d' f ds = some rs
  | 0, d', f, ds, rs, _, h => by
    have h : C0 f ds = some rs := h
    cases d' with
    | zero => exact h
    | succ d' => simp only [callF, h]
  | d + 1, 0, _, _, _, hd, _ => by omega
  | d + 1, d' + 1, f, ds, rs, hd, h => by
    simp only [callF] at h ⊢
    cases h0 : C0 f ds with
    | some rs' =>
      simp only [h0] at h ⊢
      exact h
    | none =>
      simp only [h0] at h ⊢
      cases ht : treeOf cx n f with
      | none => simp [ht] at h
      | some t =>
        simp only [ht] at h ⊢
        split at h
        · rename_i hq
          rw [ev_mono (fun f ds rs hr => callF_mono hk (Nat.le_of_succ_le_succ hd) hr) hk hq]
          exact h
        · cases h

open Classical in
/-- What comes of it with rounds and depth enough. -/
noncomputable def lim {α : Type} (f : Nat → Nat → Option α) : Option α := if h : ∃ r, ∃ k d, f k d = some r then some h.choose else none
def Grows {α : Type} (f : Nat → Nat → Option α) : Prop := ∀ k k' d d' r, k ≤ k' → d ≤ d' → f k d = some r → f k' d' = some r
theorem lim_some {α : Type} {f : Nat → Nat → Option α} (hf : Grows f) {r : α} : lim f = some r ↔ ∃ k d, f k d = some r := by
  unfold lim
  split
  · rename_i h
    obtain ⟨k, d, hr⟩ := h.choose_spec
    constructor
    · intro e
      injection e with e
      exact ⟨k, d, by rw [← e]; exact hr⟩
    · rintro ⟨k', d', hr'⟩
      have h1 := hf _ (max k k') _ (max d d') _ (by omega) (by omega) hr
      have h2 := hf _ (max k k') _ (max d d') _ (by omega) (by omega) hr'
      rw [h1] at h2
      exact h2
  · rename_i h
    constructor
    · intro e; cases e
    · rintro ⟨k, d, hr⟩
      exact absurd ⟨r, k, d, hr⟩ h

noncomputable def callL (f : FuncId) (ds : List D) : Option (List D) := lim fun k d => callF cx k n C0 d f ds
noncomputable def evL (t : Tree) (E : List D) : Option Res := lim fun k d => ev (callF cx k n C0 d) k t E
noncomputable def loopL (b : Tree) (E vs : List D) : Option Res := lim fun k d => iter (fun vs => ev (callF cx k n C0 d) k b (E ++ vs)) k vs

theorem callL_some {f : FuncId} {ds rs : List D} : callL cx n C0 f ds = some rs ↔ ∃ k d, callF cx k n C0 d f ds = some rs := lim_some fun _ _ _ _ _ hk hd h => callF_mono cx n C0 hk hd h
theorem evL_some {t : Tree} {E : List D} {r : Res} : evL cx n C0 t E = some r ↔ ∃ k d, ev (callF cx k n C0 d) k t E = some r :=
  lim_some (f := fun k d => ev (callF cx k n C0 d) k t E) fun _ _ _ _ _ hk hd h => ev_mono (fun _ _ _ h => callF_mono cx n C0 hk hd h) hk h
theorem loopL_some {b : Tree} {E vs : List D} {r : Res} : loopL cx n C0 b E vs = some r ↔ ∃ k d, iter (fun vs => ev (callF cx k n C0 d) k b (E ++ vs)) k vs = some r :=
  lim_some (f := fun k d => iter (fun vs => ev (callF cx k n C0 d) k b (E ++ vs)) k vs) fun _ _ _ _ _ hk hd h => iter_mono (fun _ _ h => ev_mono (fun _ _ _ h => callF_mono cx n C0 hk hd h) hk h) hk h

theorem evL_prim {p : Prim} {as : List At} {t : Tree} {E : List D} : evL cx n C0 (.prim p as t) E = match gets E as with
    | some vs => match p.run vs with
      | some d => evL cx n C0 t (E ++ [d])
      | none => none
    | none => none := by
  apply Option.ext
  intro r
  rw [evL_some]
  simp only [ev]
  cases gets E as with
  | none => simp
  | some vs =>
    simp only
    cases p.run vs with
    | none => simp
    | some d => simp only; rw [evL_some]

theorem evL_call {f : FuncId} {as : List At} {m : Nat} {t : Tree} {E : List D} : evL cx n C0 (.call f as m t) E = match gets E as with
    | some vs => match callL cx n C0 f vs with
      | some ds => if ds.length = m then evL cx n C0 t (E ++ ds) else none
      | none => none
    | none => none := by
  apply Option.ext
  intro r
  rw [evL_some]
  simp only [ev]
  cases gets E as with
  | none => simp
  | some vs =>
    simp only
    constructor
    · rintro ⟨k, d, h⟩
      split at h
      · cases h
      · rename_i ds hq
        rw [(callL_some cx n C0).2 ⟨k, d, hq⟩]
        simp only
        split at h
        · rename_i hl
          simp only [hl, if_true]
          exact (evL_some cx n C0).2 ⟨k, d, h⟩
        · cases h
    · intro h
      split at h
      · rename_i ds hq
        obtain ⟨k, d, hq⟩ := (callL_some cx n C0).1 hq
        split at h
        · rename_i hl
          obtain ⟨k', d', h⟩ := (evL_some cx n C0).1 h
          refine ⟨max k k', max d d', ?_⟩
          rw [callF_mono cx n C0 (by omega) (by omega) hq]
          simp only [hl, if_true]
          exact ev_mono (fun _ _ _ => callF_mono cx n C0 (by omega) (by omega)) (by omega) h
        · cases h
      · cases h

theorem evL_sub {t : Tree} {m : Nat} {u : Tree} {E : List D} : evL cx n C0 (.sub t m u) E = match evL cx n C0 t E with
    | some (.jmp 0 _ vs) => if vs.length = m then evL cx n C0 u (E ++ vs) else none
    | some r => r.up
    | none => none := by
  apply Option.ext
  intro r
  rw [evL_some]
  simp only [ev]
  constructor
  · rintro ⟨k, d, h⟩
    split at h
    · cases h
    · rename_i b vs hq
      rw [(evL_some cx n C0).2 ⟨k, d, hq⟩]
      simp only
      split at h
      · rename_i hl
        simp only [hl, if_true]
        exact (evL_some cx n C0).2 ⟨k, d, h⟩
      · cases h
    · rename_i r0 hne hq
      rw [(evL_some cx n C0).2 ⟨k, d, hq⟩]
      cases r0 with
      | jmp l b vs =>
        cases l with
        | zero => exact absurd rfl (hne b vs)
        | succ l => exact h
      | fin x st E' => exact h
  · intro h
    split at h
    · rename_i b vs hq
      obtain ⟨k, d, hq⟩ := (evL_some cx n C0).1 hq
      split at h
      · rename_i hl
        obtain ⟨k', d', h⟩ := (evL_some cx n C0).1 h
        refine ⟨max k k', max d d', ?_⟩
        rw [ev_mono (fun _ _ _ => callF_mono cx n C0 (by omega : k ≤ max k k') (by omega : d ≤ max d d')) (by omega) hq]
        simp only [hl, if_true]
        exact ev_mono (fun _ _ _ => callF_mono cx n C0 (by omega) (by omega)) (by omega) h
      · cases h
    · rename_i r0 hne hq
      obtain ⟨k, d, hq⟩ := (evL_some cx n C0).1 hq
      refine ⟨k, d, ?_⟩
      rw [hq]
      cases r0 with
      | jmp l b vs =>
        cases l with
        | zero => exact absurd rfl (hne b vs)
        | succ l => exact h
      | fin x st E' => exact h
    · cases h

theorem evL_loop {init : List At} {b : Tree} {E : List D} : evL cx n C0 (.loop init b) E = match gets E init with
    | some vs => match loopL cx n C0 b E vs with
      | some r => r.up
      | none => none
    | none => none := by
  apply Option.ext
  intro r
  rw [evL_some]
  simp only [ev]
  cases gets E init with
  | none => simp
  | some vs =>
    simp only
    constructor
    · rintro ⟨k, d, h⟩
      split at h
      · cases h
      · rename_i r0 hq
        rw [(loopL_some cx n C0).2 ⟨k, d, hq⟩]
        exact h
    · intro h
      split at h
      · rename_i r0 hq
        obtain ⟨k, d, hq⟩ := (loopL_some cx n C0).1 hq
        exact ⟨k, d, by rw [hq]; exact h⟩
      · cases h

theorem loopL_eq {b : Tree} {E vs : List D} : loopL cx n C0 b E vs = match evL cx n C0 b (E ++ vs) with
    | some (.jmp 0 true vs') => loopL cx n C0 b E vs'
    | r => r := by
  apply Option.ext
  intro r
  rw [loopL_some]
  constructor
  · rintro ⟨k, d, h⟩
    cases k with
    | zero => simp [iter] at h
    | succ k =>
      simp only [iter] at h
      split at h
      · rename_i vs' hq
        rw [(evL_some cx n C0).2 ⟨_, _, hq⟩]
        exact (loopL_some cx n C0).2 ⟨k + 1, d, iter_mono (fun _ _ h => h) (by omega) h⟩
      · rename_i hne
        rw [(evL_some cx n C0).2 ⟨_, _, h⟩]
        split
        · rename_i vs' hq
          injection hq with hq
          subst hq
          exact absurd h (hne vs')
        · rfl
  · intro h
    split at h
    · rename_i vs' hq
      obtain ⟨k, d, hq⟩ := (evL_some cx n C0).1 hq
      obtain ⟨k', d', h⟩ := (loopL_some cx n C0).1 h
      have hq' := ev_mono (fun _ _ _ => callF_mono cx n C0 (by omega : k ≤ max k k' + 1) (by omega : d ≤ max d d')) (by omega : k ≤ max k k' + 1) hq
      refine ⟨max k k' + 1, max d d', ?_⟩
      simp only [iter]
      rw [hq']
      simp only
      exact iter_mono (fun _ _ h => ev_mono (fun _ _ _ => callF_mono cx n C0 (by omega) (by omega)) (by omega) h) (by omega) h
    · rename_i hne
      obtain ⟨k, d, h⟩ := (evL_some cx n C0).1 h
      refine ⟨k + 1, d, ?_⟩
      simp only [iter]
      rw [ev_mono (fun _ _ _ => callF_mono cx n C0 (by omega : k ≤ k + 1) (Nat.le_refl d)) (by omega : k ≤ k + 1) h]
      split
      · rename_i vs' hq
        injection hq with hq
        subst hq
        exact absurd ((evL_some cx n C0).2 ⟨k, d, h⟩) (hne vs')
      · rfl

theorem evL_ite {c : At} {t u : Tree} {E : List D} : evL cx n C0 (.ite c t u) E = match c.get E with
    | some (.bool true) => evL cx n C0 t E
    | some (.bool false) => evL cx n C0 u E
    | _ => none := by
  apply Option.ext
  intro r
  rw [evL_some]
  simp only [ev]
  cases c.get E with
  | none => simp
  | some x =>
    cases x with
    | bool b => cases b <;> (simp only; rw [evL_some])
    | _ => simp

theorem evL_jmp {l : Nat} {b : Bool} {as : List At} {E : List D} : evL cx n C0 (.jmp l b as) E = match gets E as with
    | some vs => some (.jmp l b vs)
    | none => none := by
  apply Option.ext
  intro r
  rw [evL_some]
  simp only [ev]
  cases gets E as <;> simp

/-- A function, by its tree. -/
theorem callL_eq {f : FuncId} {t : Tree} (ht : treeOf cx n f = some t) {ds : List D} (h0 : C0 f ds = none) : callL cx n C0 f ds = match evL cx n C0 t ds with
    | some (.jmp _ _ rs) => some rs
    | _ => none := by
  apply Option.ext
  intro r
  rw [callL_some]
  constructor
  · rintro ⟨k, d, h⟩
    cases d with
    | zero =>
      have h : C0 f ds = some r := h
      rw [h0] at h
      cases h
    | succ d =>
      simp only [callF, h0, ht] at h
      split at h
      · rename_i hq
        rw [(evL_some cx n C0).2 ⟨k, d, hq⟩]
        exact h
      · cases h
  · intro h
    split at h
    · rename_i hq
      obtain ⟨k, d, hq⟩ := (evL_some cx n C0).1 hq
      refine ⟨k, d + 1, ?_⟩
      simp only [callF, h0, ht, hq]
      exact h
    · cases h

end
end Go.SX

/- What is of a type, opened. -/
namespace Go.SX

theorem Wt.toInt {k : IntKind} {d : D} (h : Wt (.int k) d) : ∃ n : Int, d = .int k n ∧ k.min ≤ n ∧ n ≤ k.max := by
  cases d with
  | int k' n =>
    obtain ⟨h1, h2⟩ := h
    subst h1
    simp only [Lit.wf, Bool.and_eq_true, decide_eq_true_eq] at h2
    exact ⟨n, rfl, h2.1, h2.2⟩
  | _ => exact h.elim
theorem Wt.toBool {d : D} (h : Wt .bool d) : ∃ b : Bool, d = .bool b := by
  cases d with
  | bool b => exact ⟨b, rfl⟩
  | _ => exact h.elim
theorem Wt.toStr {d : D} (h : Wt .str d) : ∃ s : ByteArray, d = .str s ∧ s.size ≤ maxLen := by
  cases d with
  | str s => exact ⟨s, rfl, h⟩
  | _ => exact h.elim
theorem Wt.toSl {e : Ty} {d : D} (h : Wt (.sl e) d) : d = .nil ∨ ∃ ds, d = .sl ds ∧ ds.length ≤ maxLen ∧ WtA e ds := by
  cases d with
  | nil => exact .inl rfl
  | sl ds => exact .inr ⟨ds, rfl, h.1, h.2⟩
  | _ => exact h.elim
theorem Wt.toArr {n : Nat} {e : Ty} {d : D} (h : Wt (.arr n e) d) : ∃ ds, d = .agg ds ∧ ds.length = n ∧ WtA e ds := by
  cases d with
  | agg ds => exact ⟨ds, rfl, h.1, h.2⟩
  | _ => exact h.elim
theorem Wt.toSt {Ts : List Ty} {d : D} (h : Wt (.st Ts) d) : ∃ ds, d = .agg ds ∧ WtL Ts ds := by
  cases d with
  | agg ds => exact ⟨ds, rfl, h⟩
  | _ => exact h.elim
theorem WtL.toCons {T : Ty} {Ts : List Ty} {Ds : List D} (h : WtL (T :: Ts) Ds) : ∃ d ds, Ds = d :: ds ∧ Wt T d ∧ WtL Ts ds := by
  cases Ds with
  | nil => exact h.elim
  | cons d ds => exact ⟨d, ds, rfl, h.1, h.2⟩
theorem WtL.toNil {Ds : List D} (h : WtL [] Ds) : Ds = [] := by
  cases Ds with
  | nil => rfl
  | cons d ds => exact h.elim
theorem WtA.all {e : Ty} : ∀ {ds : List D}, WtA e ds → ∀ d ∈ ds, Wt e d
  | [], _, d, hd => by cases hd
  | x :: l, h, d, hd => by
    rcases List.mem_cons.1 hd with hd | hd
    · subst hd; exact h.1
    · exact WtA.all h.2 d hd
theorem WtA.take {e : Ty} : ∀ {ds : List D} (n : Nat), WtA e ds → WtA e (ds.take n)
  | [], _, _ => by simp [WtA]
  | _ :: _, 0, _ => trivial
  | _ :: _, n + 1, h => ⟨h.1, WtA.take n h.2⟩

end Go.SX

/- Typed reading of trees: what a tree tells, as a function of lists, numbers and tuples. Definitions. -/
namespace Go.SX

/-! ### Typed data -/
mutual
def Ty.T : Ty → Type
  | .int _ => Int
  | .bool => Bool
  | .str => List Int
  | .sl e => List e.T
  | .arr _ e => List e.T
  | .st l => Ty.Tup l
  | .no => Unit
def Ty.Tup : List Ty → Type
  | [] => Unit
  | a :: l => match l with
    | [] => a.T
    | _ :: _ => a.T × Ty.Tup l
end

def bytesI (s : ByteArray) : List Int := s.data.toList.map fun b => (b.toNat : Int)

mutual
def Ty.rd : (τ : Ty) → D → τ.T
  | .int _, d => match d with | .int _ n => n | _ => (0 : Int)
  | .bool, d => match d with | .bool b => b | _ => false
  | .str, d => match d with | .str s => bytesI s | _ => ([] : List Int)
  | .sl e, d => match d with | .sl l => (l.map (Ty.rd e) : List e.T) | _ => ([] : List e.T)
  | .arr _ e, d => match d with | .agg l => (l.map (Ty.rd e) : List e.T) | _ => ([] : List e.T)
  | .st ts, d => match d with | .agg l => Ty.rdL ts l | _ => Ty.rdL ts []
  | .no, _ => ()
def Ty.rdL : (ts : List Ty) → List D → Ty.Tup ts
  | [], _ => ()
  | a :: ts, l => match ts with
    | [] => Ty.rd a (l.headD .nil)
    | b :: us => (Ty.rd a (l.headD .nil), Ty.rdL (b :: us) l.tail)
end

def All2 {α β : Type} (R : α → β → Prop) : List α → List β → Prop
  | [], [] => True
  | a :: l, b :: m => R a b ∧ All2 R l m
  | _, _ => False

mutual
/-- What is the typed form of what. -/
def Rl : (τ : Ty) → D → τ.T → Prop
  | .int k, d, x => d = .int k x
  | .bool, d, x => d = .bool x
  | .str, d, x => ∃ s, d = .str s ∧ x = bytesI s
  | .sl e, d, x => ∃ l, d.els = some l ∧ All2 (Rl e) l x
  | .arr _ e, d, x => ∃ l, d = .agg l ∧ All2 (Rl e) l x
  | .st ts, d, x => ∃ l, d = .agg l ∧ RlL ts l x
  | .no, _, _ => True
def RlL : (ts : List Ty) → List D → Ty.Tup ts → Prop
  | [], l, _ => l = []
  | a :: ts, l, x => match ts, x with
    | [], x => ∃ d, l = [d] ∧ Rl a d x
    | b :: us, x => ∃ d m, l = d :: m ∧ Rl a d x.1 ∧ RlL (b :: us) m x.2
end

mutual
/-- Constants that are of a type. -/
def fitsD : Ty → D → Bool
  | .int k, d => match d with | .int k' _ => decide (k = k') | _ => false
  | .bool, d => match d with | .bool _ => true | _ => false
  | .str, d => match d with | .str _ => true | _ => false
  | .sl e, d => match d with | .sl l => l.all (fitsD e) | .nil => true | _ => false
  | .arr _ e, d => match d with | .agg l => l.all (fitsD e) | _ => false
  | .st ts, d => match d with | .agg l => fitsL ts l | _ => false
  | .no, _ => false
def fitsL : List Ty → List D → Bool
  | [], l => l.isEmpty
  | a :: ts, l => match l with
    | [] => false
    | d :: m => fitsD a d && fitsL ts m
end

mutual
def Ty.dec : (τ : Ty) → DecidableEq τ.T
  | .int _ => fun a b => Int.instDecidableEq a b
  | .bool => fun a b => instDecidableEqBool a b
  | .str => fun a b => @instDecidableEqList Int Int.instDecidableEq a b
  | .sl e => fun a b => @instDecidableEqList e.T (Ty.dec e) a b
  | .arr _ e => fun a b => @instDecidableEqList e.T (Ty.dec e) a b
  | .st ts => Ty.decL ts
  | .no => fun a b => instDecidableEqPUnit a b
def Ty.decL : (ts : List Ty) → DecidableEq (Ty.Tup ts)
  | [] => fun a b => instDecidableEqPUnit a b
  | a :: ts => match ts with
    | [] => Ty.dec a
    | b :: us => fun x y => @instDecidableEqProd a.T (Ty.Tup (b :: us)) (Ty.dec a) (Ty.decL (b :: us)) x y
end

structure TV where
  τ : Ty
  x : τ.T

def castT {a b : Ty} (h : a.beq b = true) (x : a.T) : b.T := Ty.beq_eq h ▸ x
def TV.as (v : TV) (τ : Ty) : Option τ.T := if h : v.τ.beq τ = true then some (castT h v.x) else none

/-! ### Operations -/
inductive TR where
  | tot (v : TV)
  | par (τ : Ty) (o : Option τ.T)

def bAnd (k : IntKind) (a b : Int) : Int := k.wrap (BitVec.ofInt k.bits a &&& BitVec.ofInt k.bits b).toNat
def bOr (k : IntKind) (a b : Int) : Int := k.wrap (BitVec.ofInt k.bits a ||| BitVec.ofInt k.bits b).toNat
def bXor (k : IntKind) (a b : Int) : Int := k.wrap (BitVec.ofInt k.bits a ^^^ BitVec.ofInt k.bits b).toNat
def bAndNot (k : IntKind) (a b : Int) : Int := k.wrap (BitVec.ofInt k.bits a &&& ~~~(BitVec.ofInt k.bits b)).toNat
def bNot (k : IntKind) (n : Int) : Int := k.wrap (BitVec.ofInt k.bits (if k.signed then -1 else k.max) ^^^ BitVec.ofInt k.bits n).toNat
def bNeg (k : IntKind) (n : Int) : Int := k.wrap (0 - n)
def quoO (k : IntKind) (a b : Int) : Option Int := if b = 0 then none else some (k.wrap (a.tdiv b))
def remO (a b : Int) : Option Int := if b = 0 then none else some (a.tmod b)
def shlO (k : IntKind) (a b : Int) : Option Int := if b < 0 then none else some (k.wrap (a * 2 ^ (min b.toNat k.bits)))
def shrO (k : IntKind) (a b : Int) : Option Int := if b < 0 then none else some (a.fdiv (2 ^ (min b.toNat k.bits)))
def sLess : List Int → List Int → Bool
  | _, [] => false
  | [], _ :: _ => true
  | a :: x, b :: y => decide (a < b) || (decide (a = b) && sLess x y)
def catO (a b : List Int) : Option (List Int) := if a.length + b.length ≤ 17592186044416 then some (a ++ b) else none
def getO {α : Type} (l : List α) (i : Int) : Option α := if 0 ≤ i then l[i.toNat]? else none
def setO {α : Type} (l : List α) (i : Int) (v : α) : Option (List α) := if 0 ≤ i ∧ i < l.length then some (l.set i.toNat v) else none
def subO {α : Type} (l : List α) (lo hi : Int) : Option (List α) := if 0 ≤ lo ∧ lo ≤ hi ∧ hi ≤ l.length then some ((l.take hi.toNat).drop lo.toNat) else none
def appO {α : Type} (by_ : Nat) (s x : List α) : Option (List α) := if roomOk (s.length + x.length) by_ = true then some (s ++ x) else none
def zextO {α : Type} (z : α) (by_ : Nat) (s : List α) (n : Int) : Option (List α) := if 0 ≤ n then appO by_ s (List.replicate n.toNat z) else none
def repO {α : Type} (z : α) (by_ : Nat) (n c : Int) : Option (List α) := if 0 ≤ n ∧ n ≤ c ∧ roomOk c.toNat by_ = true then some (List.replicate n.toNat z) else none
def cloneO {α : Type} (by_ : Nat) (s : List α) : Option (List α) := if roomOk s.length by_ = true then some s else none
def idxO (n i : Int) : Option Int := if 0 ≤ i ∧ i < n then some i else none
def idxvO (lo hi i : Int) : Option Int := if 0 ≤ i ∧ i < hi - lo then some (lo + i) else none
def rngO (n lo hi : Int) : Option Int := if 0 ≤ lo ∧ lo ≤ hi ∧ hi ≤ n then some hi else none
def rng3O (n lo hi mx : Int) : Option Int := if 0 ≤ lo ∧ lo ≤ hi ∧ hi ≤ mx ∧ mx = n then some hi else none
def rngvO (n lo l h : Int) : Option Int := if 0 ≤ lo ∧ 0 ≤ l ∧ l ≤ h ∧ lo + h ≤ n then some (lo + h) else none
def eqiO (x y : Int) : Option Int := if x = y then some y else none
def cpyT {α : Type} (l m : List α) : List α := m.take l.length ++ l.drop m.length
def cpyvO {α : Type} (l : List α) (lo hi : Int) (m : List α) : Option (List α) := if 0 ≤ lo ∧ lo ≤ hi ∧ hi ≤ l.length then some (l.take lo.toNat ++ (m.take (hi - lo).toNat ++ l.drop (lo.toNat + (m.take (hi - lo).toNat).length))) else none
def appvO {α : Type} (by_ : Nat) (l : List α) (hi : Int) (m : List α) : Option (List α) := if 0 ≤ hi ∧ hi ≤ l.length ∧ roomOk (hi.toNat + m.length) by_ = true then some (l.take hi.toNat ++ (m ++ l.drop (hi.toNat + m.length))) else none
def isnilO {α : Type} (l : List α) : Option Bool := match l with | [] => none | _ :: _ => some false
def nnO {α : Type} (l : List α) : Option (List α) := match l with | [] => none | a :: m => some (a :: m)
def b2sO (l : List Int) : Option (List Int) := if l.all (fun n => decide (0 ≤ n) && decide (n < 256)) = true then some l else none
def minT (x y : Int) : Int := if y < x then y else x
def maxT (x y : Int) : Int := if y > x then y else x

def tBinI (op : BinOp) (k : IntKind) (a b : Int) : Option TR :=
  match op with
  | .add => some (.tot ⟨.int k, k.wrap (a + b)⟩)
  | .sub => some (.tot ⟨.int k, k.wrap (a - b)⟩)
  | .mul => some (.tot ⟨.int k, k.wrap (a * b)⟩)
  | .quo => some (.par (.int k) (quoO k a b))
  | .rem => some (.par (.int k) (remO a b))
  | .and => some (.tot ⟨.int k, bAnd k a b⟩)
  | .or => some (.tot ⟨.int k, bOr k a b⟩)
  | .xor => some (.tot ⟨.int k, bXor k a b⟩)
  | .andNot => some (.tot ⟨.int k, bAndNot k a b⟩)
  | .eql => some (.tot ⟨.bool, decide (a = b)⟩)
  | .neq => some (.tot ⟨.bool, !decide (a = b)⟩)
  | .lss => some (.tot ⟨.bool, decide (a < b)⟩)
  | .leq => some (.tot ⟨.bool, decide (a ≤ b)⟩)
  | .gtr => some (.tot ⟨.bool, decide (b < a)⟩)
  | .geq => some (.tot ⟨.bool, decide (b ≤ a)⟩)
  | _ => none
def tBinS (op : BinOp) (a b : List Int) : Option TR :=
  match op with
  | .add => some (.par .str (catO a b))
  | .eql => some (.tot ⟨.bool, decide (a = b)⟩)
  | .neq => some (.tot ⟨.bool, !decide (a = b)⟩)
  | .lss => some (.tot ⟨.bool, sLess a b⟩)
  | .leq => some (.tot ⟨.bool, sLess a b || decide (a = b)⟩)
  | .gtr => some (.tot ⟨.bool, !(sLess a b || decide (a = b))⟩)
  | .geq => some (.tot ⟨.bool, !sLess a b⟩)
  | _ => none
def tBin (op : BinOp) : List TV → Option TR
  | [⟨.int k, a⟩, ⟨.int k', b⟩] => match op with
    | .shl => some (.par (.int k) (shlO k a b))
    | .shr => some (.par (.int k) (shrO k a b))
    | _ => if k = k' then tBinI op k a b else none
  | [⟨.bool, a⟩, ⟨.bool, b⟩] => match op with
    | .eql => some (.tot ⟨.bool, @decide (@Eq Bool a b) (instDecidableEqBool a b)⟩)
    | .neq => some (.tot ⟨.bool, !@decide (@Eq Bool a b) (instDecidableEqBool a b)⟩)
    | _ => none
  | [⟨.str, a⟩, ⟨.str, b⟩] => tBinS op a b
  | _ => none
def tUn (op : UnOp) : List TV → Option TR
  | [⟨.int k, n⟩] => match op with
    | .neg => some (.tot ⟨.int k, bNeg k n⟩)
    | .xor => some (.tot ⟨.int k, bNot k n⟩)
    | _ => none
  | [⟨.bool, b⟩] => match op with
    | .not => some (.tot ⟨.bool, !b⟩)
    | _ => none
  | _ => none

def projT : (ts : List Ty) → Ty.Tup ts → Nat → Option TV
  | [], _, _ => none
  | a :: ts, x, j => match ts, x with
    | [], x => match j with | 0 => some ⟨a, x⟩ | _ + 1 => none
    | b :: us, x => match j with | 0 => some ⟨a, x.1⟩ | j + 1 => projT (b :: us) x.2 j
def setT : (ts : List Ty) → Ty.Tup ts → Nat → TV → Option (Ty.Tup ts)
  | [], _, _, _ => none
  | a :: ts, x, j, v => match ts, x with
    | [], _ => match j with | 0 => v.as a | _ + 1 => none
    | b :: us, x => match j with
      | 0 => match v.as a with | some y => some (y, x.2) | none => none
      | j + 1 => match setT (b :: us) x.2 j v with | some y => some (x.1, y) | none => none
def tupOf : (vs : List TV) → Ty.Tup (vs.map TV.τ)
  | [] => ()
  | v :: vs => match vs with
    | [] => v.x
    | w :: us => (v.x, tupOf (w :: us))
def listAs (e : Ty) : List TV → Option (List e.T)
  | [] => some []
  | v :: vs => match v.as e with
    | none => none
    | some x => match listAs e vs with
      | none => none
      | some l => some (x :: l)

/-- An operation, by its parts' types. h: the type of what comes, where the parts don't tell. -/
def tP (p : Prim) (h : Ty) (vs : List TV) : Option TR :=
  match p with
  | .bin op => tBin op vs
  | .un op => tUn op vs
  | .conv k => match vs with | [⟨.int _, n⟩] => some (.tot ⟨.int k, k.wrap n⟩) | _ => none
  | .len => match vs with | [⟨.sl _, l⟩] => some (.tot ⟨.int .i64, (List.length l : Int)⟩) | _ => none
  | .get => match vs with
    | [⟨.sl e, l⟩, ⟨.int _, i⟩] => some (.par e (getO l i))
    | [⟨.arr _ e, l⟩, ⟨.int _, i⟩] => some (.par e (getO l i))
    | _ => none
  | .set => match vs with
    | [⟨.sl e, l⟩, ⟨.int _, i⟩, v] => match v.as e with | some x => some (.par (.sl e) (setO l i x)) | none => none
    | [⟨.arr n e, l⟩, ⟨.int _, i⟩, v] => match v.as e with | some x => some (.par (.arr n e) (setO l i x)) | none => none
    | _ => none
  | .fld j => match vs with | [⟨.st ts, x⟩] => (match projT ts x j with | some v => some (.tot v) | none => none) | _ => none
  | .setf j => match vs with | [⟨.st ts, x⟩, v] => (match setT ts x j v with | some y => some (.tot ⟨.st ts, y⟩) | none => none) | _ => none
  | .mk => match h with
    | .arr n e => match listAs e vs with | some l => some (.tot ⟨.arr n e, l⟩) | none => none
    | _ => some (.tot ⟨.st (vs.map TV.τ), tupOf vs⟩)
  | .mks => match h with
    | .sl e => match listAs e vs with | some l => some (.tot ⟨.sl e, l⟩) | none => none
    | _ => none
  | .sub => match vs with | [⟨.sl e, l⟩, ⟨.int _, lo⟩, ⟨.int _, hi⟩] => some (.par (.sl e) (subO l lo hi)) | _ => none
  | .app b => match vs with | [⟨.sl e, s⟩, v] => (match v.as (.sl e) with | some x => some (.par (.sl e) (appO b s x)) | none => none) | _ => none
  | .zext z b => match vs with | [⟨.sl e, s⟩, ⟨.int _, n⟩] => if fitsD e z = true then some (.par (.sl e) (zextO (Ty.rd e z) b s n)) else none | _ => none
  | .rep z b => match h, vs with | .sl e, [⟨.int _, n⟩, ⟨.int _, c⟩] => if fitsD e z = true then some (.par (.sl e) (repO (Ty.rd e z) b n c)) else none | _, _ => none
  | .clone b => match vs with | [⟨.sl e, s⟩] => some (.par (.sl e) (cloneO b s)) | _ => none
  | .idx => match vs with | [⟨.sl _, l⟩, ⟨.int k, i⟩] => some (.par (.int k) (idxO (List.length l) i)) | _ => none
  | .idxn n => match vs with | [⟨.int k, i⟩] => some (.par (.int k) (idxO n i)) | _ => none
  | .idxv => match vs with | [⟨.int _, lo⟩, ⟨.int _, hi⟩, ⟨.int _, i⟩] => some (.par (.int .i64) (idxvO lo hi i)) | _ => none
  | .rng => match vs with | [⟨.sl _, l⟩, ⟨.int _, lo⟩, ⟨.int _, hi⟩] => some (.par (.int .i64) (rngO (List.length l) lo hi)) | _ => none
  | .pick => match vs with | [⟨.bool, c⟩, ⟨τ, a⟩, v] => (match v.as τ with | some b => some (.tot ⟨τ, cond c a b⟩) | none => none) | _ => none
  | .isnil => match vs with | [⟨.sl _, l⟩] => some (.par .bool (isnilO l)) | _ => none
  | .eqv => match vs with | [⟨τ, a⟩, v] => if (τ.flat && τ.known) = true then (match v.as τ with | some b => some (.tot ⟨.bool, @decide (a = b) (Ty.dec τ a b)⟩) | none => none) else none | _ => none
  | .slen => match vs with | [⟨.str, l⟩] => some (.tot ⟨.int .i64, (List.length (α := Int) l : Int)⟩) | _ => none
  | .sget => match vs with | [⟨.str, l⟩, ⟨.int _, i⟩] => some (.par (.int .u8) (getO (α := Int) l i)) | _ => none
  | .ssub => match vs with | [⟨.str, l⟩, ⟨.int _, lo⟩, ⟨.int _, hi⟩] => some (.par .str (subO (α := Int) l lo hi)) | _ => none
  | .tosl => match vs with | [⟨.arr _ e, l⟩] => some (.tot ⟨.sl e, l⟩) | _ => none
  | .clr z => match vs with | [⟨.sl e, l⟩] => if fitsD e z = true then some (.tot ⟨.sl e, (List.replicate (List.length l) (Ty.rd e z) : List e.T)⟩) else none | _ => none
  | .cpy => match vs with
    | [⟨.arr n e, l⟩, v] => (match v.as (.sl e) with | some m => some (.tot ⟨.arr n e, (cpyT l m : List e.T)⟩) | none => none)
    | _ => none
  | .cpyv => match vs with | [⟨.sl e, l⟩, ⟨.int _, lo⟩, ⟨.int _, hi⟩, v] => (match v.as (.sl e) with | some m => some (.par (.sl e) (cpyvO l lo hi m)) | none => none) | _ => none
  | .appv b => match vs with | [⟨.sl e, l⟩, ⟨.int _, hi⟩, v] => (match v.as (.sl e) with | some m => some (.par (.sl e) (appvO b l hi m)) | none => none) | _ => none
  | .eqi => match vs with | [⟨.int _, x⟩, ⟨.int k, y⟩] => some (.par (.int k) (eqiO x y)) | _ => none
  | .vlen => match vs with | [⟨.int _, lo⟩, ⟨.int _, hi⟩] => some (.tot ⟨.int .i64, (Int.sub hi lo : Int)⟩) | _ => none
  | .vadd => match vs with | [⟨.int _, x⟩, ⟨.int _, y⟩] => some (.tot ⟨.int .i64, (Int.add x y : Int)⟩) | _ => none
  | .rng3 => match vs with | [⟨.sl _, l⟩, ⟨.int _, lo⟩, ⟨.int _, hi⟩, ⟨.int _, mx⟩] => some (.par (.int .i64) (rng3O (List.length l) lo hi mx)) | _ => none
  | .rngv => match vs with | [⟨.sl _, l⟩, ⟨.int _, lo⟩, ⟨.int _, a⟩, ⟨.int _, b⟩] => some (.par (.int .i64) (rngvO (List.length l) lo a b)) | _ => none
  | .nn => match vs with | [⟨.sl e, l⟩] => some (.par (.sl e) (nnO l)) | _ => none
  | .b2s => match vs with | [⟨.sl (.int .u8), l⟩] => some (.par .str (b2sO l)) | _ => none
  | .s2b => match vs with | [⟨.str, l⟩] => some (.tot ⟨.sl (.int .u8), l⟩) | _ => none
  | .min2 => match vs with | [⟨.int k, x⟩, ⟨.int k', y⟩] => if k = k' then some (.tot ⟨.int k, minT x y⟩) else none | _ => none
  | .max2 => match vs with | [⟨.int k, x⟩, ⟨.int k', y⟩] => if k = k' then some (.tot ⟨.int k, maxT x y⟩) else none | _ => none

/-! ### Trees with types -/
structure FnT where
  ps : List Ty
  rs : List Ty
  sem : Ty.Tup ps → Option (Ty.Tup rs)
structure PnT where
  ps : List Ty
  rs : List Ty
  sem : Ty.Tup ps → Ty.Tup rs
def PnT.fn (p : PnT) : FnT := ⟨p.ps, p.rs, fun x => some (p.sem x)⟩

inductive TA where
  | prim (p : Prim) (as : List At) (k : TA)
  | primH (p : Prim) (h : Ty) (as : List At) (k : TA)
  | mkS (ts : List Ty) (as : List At) (k : TA)
  | mkA (n : Nat) (e : Ty) (as : List At) (k : TA)
  | mkL (e : Ty) (as : List At) (k : TA)
  | call (f : FuncId) (fn : FnT) (as : List At) (m : Nat) (k : TA)
  | callp (f : FuncId) (fn : PnT) (as : List At) (m : Nat) (k : TA)
  | subp (τs : List Ty) (t : TA) (m : Nat) (k : TA)
  | sub0 (τs : List Ty) (t : TA) (m : Nat) (k : TA)
  | sub1 (τs : List Ty) (t : TA) (m : Nat) (k : TA)
  | loop (τs : List Ty) (init : List At) (b : TA)
  | ite (c : At) (t e : TA)
  | jmp (lvl : Nat) (back : Bool) (as : List At)
  | clone (n b : Nat) (e : Ty) (s : At) (k : TA)
  | fail (why : Nat)

def TA.erase : TA → Tree
  | .prim p as k => .prim p as k.erase
  | .primH p _ as k => .prim p as k.erase
  | .mkS _ as k => .prim .mk as k.erase
  | .mkA _ _ as k => .prim .mk as k.erase
  | .mkL _ as k => .prim .mks as k.erase
  | .call f _ as m k => .call f as m k.erase
  | .callp f _ as m k => .call f as m k.erase
  | .subp _ t m k => .sub t.erase m k.erase
  | .sub0 _ t m k => .sub t.erase m k.erase
  | .sub1 _ t m k => .sub t.erase m k.erase
  | .loop _ init b => .loop init b.erase
  | .ite c t e => .ite c t.erase e.erase
  | .jmp l b as => .jmp l b as
  | .clone n b _ s k => .sub (.prim .isnil [s] (.ite (.v n) (.jmp 0 false [.c .nil]) (.prim (.app b) [.c (.sl []), s] (.jmp 0 false [.v (n + 1)])))) 1 k.erase
  | .fail w => .fail w

/-- Of what is handed on, what is looked at. -/
def live : List Ty → List Ty
  | [] => []
  | t :: l => match t with | .no => live l | t => t :: live l
def liveA {α : Type} : List Ty → List α → List α
  | [], _ => []
  | t :: l, as => match as with
    | [] => []
    | a :: as => match t with | .no => liveA l as | _ => a :: liveA l as
/-- k: 0 a function's results, 1 a sub's, 2 a loop's. -/
def vis (k : Nat) (τs : List Ty) : List Ty := match k with | 0 => τs | _ + 1 => live τs
def visA {α : Type} (k : Nat) (τs : List Ty) (as : List α) : List α := match k with | 0 => as | _ + 1 => liveA τs as
def isBack (k : Nat) : Bool := match k with | 2 => true | _ => false

/-- What comes of a tree, by the places it may jump to: of each, of what kind it is, and what is handed on. -/
def J : List (Nat × List Ty) → Type
  | [] => Empty
  | (k, τs) :: l => match l with
    | [] => Ty.Tup (vis k τs)
    | _ :: _ => Sum (Ty.Tup (vis k τs)) (J l)

def nth {α : Type} : List α → Nat → Option α
  | [], _ => none
  | a :: _, 0 => some a
  | _ :: l, n + 1 => nth l n

/-- The names, the latest one first. -/
def atV (E : List TV) (n : Nat) (h : Ty) : At → Option TV
  | .v i => if Nat.blt i n then nth E (n - 1 - i) else none
  | .c d => match d with
    | .int k x => some ⟨.int k, x⟩
    | .bool b => some ⟨.bool, b⟩
    | .str s => some ⟨.str, bytesI s⟩
    | d => if fitsD h d = true then some ⟨h, Ty.rd h d⟩ else none
def atT (E : List TV) (n : Nat) (τ : Ty) : At → Option τ.T
  | .v i => if Nat.blt i n then match nth E (n - 1 - i) with | some v => v.as τ | none => none else none
  | .c d => if fitsD τ d = true then some (Ty.rd τ d) else none
def atsV (E : List TV) (n : Nat) (h : Ty) : List At → Option (List TV)
  | [] => some []
  | a :: l => match atV E n h a with
    | none => none
    | some v => match atsV E n h l with
      | none => none
      | some vs => some (v :: vs)
def atsT (E : List TV) (n : Nat) : (τs : List Ty) → List At → Option (Ty.Tup τs)
  | [], as => match as with | [] => some () | _ :: _ => none
  | τ :: τs, as => match as with
    | [] => none
    | a :: l => match τs with
      | [] => match l with | [] => atT E n τ a | _ :: _ => none
      | b :: us => match atT E n τ a with
        | none => none
        | some x => match atsT E n (b :: us) l with
          | none => none
          | some xs => some (x, xs)
def atsE (E : List TV) (n : Nat) (τ : Ty) : List At → Option (List τ.T)
  | [] => some []
  | a :: l => match atT E n τ a with
    | none => none
    | some x => match atsE E n τ l with
      | none => none
      | some xs => some (x :: xs)
def pushT : (τs : List Ty) → Ty.Tup τs → List TV → List TV
  | [], _, E => E
  | τ :: τs, x, E => match τs, x with
    | [], x => ⟨τ, x⟩ :: E
    | b :: us, x => pushT (b :: us) x.2 (⟨τ, x.1⟩ :: E)
def tvs : (τs : List Ty) → Ty.Tup τs → List TV
  | [], _ => []
  | τ :: τs, x => match τs, x with
    | [], x => [⟨τ, x⟩]
    | b :: us, x => ⟨τ, x.1⟩ :: tvs (b :: us) x.2
def mergeV : List Ty → List TV → List TV → List TV
  | [], _, E => E
  | t :: ts, vs, E => match t with
    | .no => mergeV ts vs (⟨.no, ()⟩ :: E)
    | _ => match vs with
      | [] => mergeV ts [] (⟨.no, ()⟩ :: E)
      | v :: vs => mergeV ts vs (v :: E)
def pushL (τs : List Ty) (x : Ty.Tup (live τs)) (E : List TV) : List TV := mergeV τs (tvs (live τs) x) E
def condT : (τs : List Ty) → Bool → Ty.Tup τs → Ty.Tup τs → Ty.Tup τs
  | [], _, _, _ => ()
  | τ :: τs, c, x, y => match τs, x, y with
    | [], x, y => @cond τ.T c x y
    | b :: us, x, y => (@cond τ.T c x.1 y.1, condT (b :: us) c x.2 y.2)

def asBool (v : Option TV) : Option Bool := match v with | some ⟨.bool, b⟩ => some b | _ => none

def scopeA (n : Nat) : At → Bool | .v i => Nat.blt i n | .c _ => true
def jmpJ (E : List TV) (n : Nat) (as : List At) (b : Bool) : (lv : List (Nat × List Ty)) → Nat → Option (J lv)
  | [], _ => none
  | (k, τs) :: l, lvl => match l with
    | [] => match lvl with
      | 0 => if isBack k = b ∧ as.length = τs.length ∧ as.all (scopeA n) = true then atsT E n (vis k τs) (visA k τs as) else none
      | _ + 1 => none
    | q :: us => match lvl with
      | 0 => if isBack k = b ∧ as.length = τs.length ∧ as.all (scopeA n) = true then (match atsT E n (vis k τs) (visA k τs as) with | some x => some (Sum.inl x) | none => none) else none
      | lvl + 1 => match jmpJ E n as b (q :: us) lvl with | some j => some (Sum.inr j) | none => none

/-! ### Loops -/
def loopN {S R : Type} (f : S → Option (Sum S R)) : Nat → S → Option R
  | 0, _ => none
  | n + 1, s => match f s with
    | none => none
    | some (.inl s') => loopN f n s'
    | some (.inr r) => some r
open Classical in
noncomputable def loopD {S R : Type} (f : S → Option (Sum S R)) (s : S) : Option R :=
  if h : ∃ r n, loopN f n s = some r then some (Classical.choose h) else none

/-- What comes: either on, or out. -/
def orExit {α β : Type} (o : Option (Sum α β)) (k : α → Option β) : Option β := o.bind fun r => match r with
  | .inl x => k x
  | .inr j => some j
@[simp] theorem orExit_inl {α β : Type} {x : α} {k : α → Option β} : orExit (some (.inl x)) k = k x := rfl
@[simp] theorem orExit_inr {α β : Type} {j : β} {k : α → Option β} : orExit (some (.inr j)) k = some j := rfl
@[simp] theorem orExit_none {α β : Type} {k : α → Option β} : orExit none k = none := rfl
def w64 (n : Int) : Int := IntKind.wrap .i64 n
def w32 (n : Int) : Int := IntKind.wrap .i32 n
def wu8 (n : Int) : Int := IntKind.wrap .u8 n
def wu16 (n : Int) : Int := IntKind.wrap .u16 n
def wu32 (n : Int) : Int := IntKind.wrap .u32 n
def wu64 (n : Int) : Int := IntKind.wrap .u64 n

/-- Total trees. -/
def TA.pden : TA → List TV → Nat → (τs : List Ty) → Option (Ty.Tup τs)
  | .prim p as k, E, n, τs => match atsV E n .no as with
    | none => none
    | some vs => match tP p .no vs with
      | some (.tot v) => k.pden (v :: E) (n + 1) τs
      | _ => none
  | .primH p h as k, E, n, τs => match atsV E n h as with
    | none => none
    | some vs => match tP p h vs with
      | some (.tot v) => k.pden (v :: E) (n + 1) τs
      | _ => none
  | .mkS ts as k, E, n, τs => match atsT E n ts as with
    | none => none
    | some x => k.pden (⟨.st ts, x⟩ :: E) (n + 1) τs
  | .mkA c e as k, E, n, τs => match atsE E n e as with
    | none => none
    | some x => k.pden (⟨.arr c e, x⟩ :: E) (n + 1) τs
  | .mkL e as k, E, n, τs => match atsE E n e as with
    | none => none
    | some x => k.pden (⟨.sl e, x⟩ :: E) (n + 1) τs
  | .callp _ fn as m k, E, n, τs => match atsT E n fn.ps as with
    | none => none
    | some x => if fn.rs.length = m then k.pden (pushT fn.rs (fn.sem x) E) (n + m) τs else none
  | .subp σs t m k, E, n, τs => match t.pden E n σs with
    | none => none
    | some x => if σs.length = m then k.pden (pushT σs x E) (n + m) τs else none
  | .ite c t e, E, n, τs => match asBool (atV E n .no c) with
    | none => none
    | some b => match t.pden E n τs with
      | none => none
      | some x => match e.pden E n τs with
        | none => none
        | some y => some (condT τs b x y)
  | .jmp l b as, E, n, τs => match l, b with
    | 0, false => atsT E n τs as
    | _, _ => none
  | _, _, _, _ => none

noncomputable def TA.den : TA → List TV → Nat → (lv : List (Nat × List Ty)) → Option (J lv)
  | .prim p as k, E, n, lv => match atsV E n .no as with
    | none => none
    | some vs => match tP p .no vs with
      | some (.tot v) => k.den (v :: E) (n + 1) lv
      | some (.par τ o) => o.bind fun x => k.den (⟨τ, x⟩ :: E) (n + 1) lv
      | none => none
  | .primH p h as k, E, n, lv => match atsV E n h as with
    | none => none
    | some vs => match tP p h vs with
      | some (.tot v) => k.den (v :: E) (n + 1) lv
      | some (.par τ o) => o.bind fun x => k.den (⟨τ, x⟩ :: E) (n + 1) lv
      | none => none
  | .mkS ts as k, E, n, lv => match atsT E n ts as with
    | none => none
    | some x => k.den (⟨.st ts, x⟩ :: E) (n + 1) lv
  | .mkA c e as k, E, n, lv => match atsE E n e as with
    | none => none
    | some x => k.den (⟨.arr c e, x⟩ :: E) (n + 1) lv
  | .mkL e as k, E, n, lv => match atsE E n e as with
    | none => none
    | some x => k.den (⟨.sl e, x⟩ :: E) (n + 1) lv
  | .call _ fn as m k, E, n, lv => match atsT E n fn.ps as with
    | none => none
    | some x => if fn.rs.length = m then (fn.sem x).bind fun y => k.den (pushT fn.rs y E) (n + m) lv else none
  | .callp _ fn as m k, E, n, lv => match atsT E n fn.ps as with
    | none => none
    | some x => if fn.rs.length = m then k.den (pushT fn.rs (fn.sem x) E) (n + m) lv else none
  | .subp σs t m k, E, n, lv => match t.pden E n σs with
    | none => none
    | some x => if σs.length = m then k.den (pushT σs x E) (n + m) lv else none
  | .sub0 σs t m k, E, n, lv => if σs.length = m then (TA.den t E n [(1, σs)]).bind fun x : Ty.Tup (live σs) => k.den (pushL σs x E) (n + m) lv else none
  | .sub1 σs t m k, E, n, lv => match lv with
    | [] => none
    | q :: us => if σs.length = m then (TA.den t E n ((1, σs) :: q :: us)).bind fun (r : Sum (Ty.Tup (live σs)) (J (q :: us))) => match r with
      | .inl x => k.den (pushL σs x E) (n + m) (q :: us)
      | .inr j => some j
      else none
  | .loop σs init b, E, n, lv => match lv with
    | [] => none
    | q :: us => if init.length = σs.length ∧ init.all (scopeA n) = true then match atsT E n (live σs) (liveA σs init) with
      | none => none
      | some x => loopD (fun s : Ty.Tup (live σs) => (TA.den b (pushL σs s E) (n + σs.length) ((2, σs) :: q :: us) : Option (Sum (Ty.Tup (live σs)) (J (q :: us))))) x
      else none
  | .ite c t e, E, n, lv => match asBool (atV E n .no c) with
    | none => none
    | some b => if b = true then t.den E n lv else e.den E n lv
  | .jmp l b as, E, n, lv => jmpJ E n as b lv l
  | .clone c b e s k, E, n, lv => match atT E n (.sl e) s with
    | none => none
    | some x => if Nat.beq c n = true then (cloneO b x).bind fun y : List e.T => k.den (⟨.sl e, y⟩ :: E) (n + 1) lv else none
  | .fail _, _, _, _ => none

end Go.SX

/- Typed reading of trees: operations read as they run. -/
set_option linter.unusedSimpArgs false
set_option linter.unusedVariables false
namespace Go.SX

section
variable {α β : Type} {R : α → β → Prop}
theorem All2.length_eq : ∀ {l : List α} {m : List β}, All2 R l m → l.length = m.length
  | [], [], _ => rfl
  | _ :: _, _ :: _, h => by simp [All2.length_eq h.2]
  | [], _ :: _, h => h.elim
  | _ :: _, [], h => h.elim
theorem All2.append : ∀ {l l' : List α} {m m' : List β}, All2 R l m → All2 R l' m' → All2 R (l ++ l') (m ++ m')
  | [], _, [], _, _, h => h
  | _ :: _, _, _ :: _, _, h, h' => ⟨h.1, All2.append h.2 h'⟩
  | [], _, _ :: _, _, h, _ => h.elim
  | _ :: _, _, [], _, h, _ => h.elim
theorem All2.take : ∀ {l : List α} {m : List β} (n : Nat), All2 R l m → All2 R (l.take n) (m.take n)
  | [], [], _, _ => by simp [All2]
  | _ :: _, _ :: _, 0, _ => trivial
  | _ :: _, _ :: _, n + 1, h => ⟨h.1, All2.take n h.2⟩
  | [], _ :: _, _, h => h.elim
  | _ :: _, [], _, h => h.elim
theorem All2.drop : ∀ {l : List α} {m : List β} (n : Nat), All2 R l m → All2 R (l.drop n) (m.drop n)
  | [], [], _, _ => by simp [All2]
  | _ :: _, _ :: _, 0, h => h
  | _ :: _, _ :: _, n + 1, h => All2.drop n h.2
  | [], _ :: _, _, h => h.elim
  | _ :: _, [], _, h => h.elim
theorem All2.get : ∀ {l : List α} {m : List β} {n : Nat} {b : β}, All2 R l m → m[n]? = some b → ∃ a, l[n]? = some a ∧ R a b
  | [], [], _, _, _, h => by simp at h
  | a :: _, _ :: _, 0, _, h, e => ⟨a, rfl, by simp at e; rw [← e]; exact h.1⟩
  | _ :: _, _ :: _, n + 1, _, h, e => by simpa using All2.get (n := n) h.2 (by simpa using e)
  | [], _ :: _, _, _, h, _ => h.elim
  | _ :: _, [], _, _, h, _ => h.elim
theorem All2.set : ∀ {l : List α} {m : List β} (n : Nat) {a : α} {b : β}, All2 R l m → R a b → All2 R (l.set n a) (m.set n b)
  | [], [], _, _, _, _, _ => by simp [All2]
  | _ :: _, _ :: _, 0, _, _, h, e => ⟨e, h.2⟩
  | _ :: _, _ :: _, n + 1, _, _, h, e => ⟨h.1, All2.set n h.2 e⟩
  | [], _ :: _, _, _, _, h, _ => h.elim
  | _ :: _, [], _, _, _, h, _ => h.elim
theorem All2.rep {a : α} {b : β} (h : R a b) : ∀ n, All2 R (List.replicate n a) (List.replicate n b)
  | 0 => trivial
  | n + 1 => ⟨h, All2.rep h n⟩
end

theorem castT_self {a : Ty} {h : a.beq a = true} {x : a.T} : castT h x = x := rfl
theorem as_ok {v : TV} {τ : Ty} {x : τ.T} {d : D} (h : v.as τ = some x) (hd : Rl v.τ d v.x) : Rl τ d x := by
  unfold TV.as at h
  split at h
  · rename_i hb
    injection h with h
    obtain ⟨σ, y⟩ := v
    have e := Ty.beq_eq hb
    simp only at e
    subst e
    rw [← h]
    exact hd
  · cases h

theorem els_nil {d : D} (h : d = .nil ∨ d = .sl []) : d.els = some [] := by rcases h with h | h <;> subst h <;> rfl

mutual
theorem rd_ok : ∀ {τ : Ty} {d : D}, fitsD τ d = true → Rl τ d (Ty.rd τ d)
  | .int k, .int k' n, h => by
    have e : k = k' := of_decide_eq_true h
    subst e
    exact rfl
  | .int k, .bool _, h | .int k, .str _, h | .int k, .agg _, h | .int k, .sl _, h | .int k, .nil, h => by exact absurd h Bool.false_ne_true
  | .bool, .bool b, h => rfl
  | .bool, .int _ _, h | .bool, .str _, h | .bool, .agg _, h | .bool, .sl _, h | .bool, .nil, h => by exact absurd h Bool.false_ne_true
  | .str, .str s, h => ⟨s, rfl, rfl⟩
  | .str, .int _ _, h | .str, .bool _, h | .str, .agg _, h | .str, .sl _, h | .str, .nil, h => by exact absurd h Bool.false_ne_true
  | .sl e, d, h => by
    cases d <;> simp only [fitsD, Bool.false_eq_true] at h
    · exact ⟨_, rfl, rdA_ok h⟩
    · exact ⟨[], rfl, trivial⟩
  | .arr n e, d, h => by
    cases d <;> simp only [fitsD, Bool.false_eq_true] at h
    exact ⟨_, rfl, rdA_ok h⟩
  | .st ts, d, h => by
    cases d <;> simp only [fitsD, Bool.false_eq_true] at h
    exact ⟨_, rfl, rdL_ok h⟩
  | .no, d, h => by simp [fitsD] at h
theorem rdA_ok : ∀ {e : Ty} {l : List D}, l.all (fitsD e) = true → All2 (Rl e) l (l.map (Ty.rd e))
  | e, [], _ => trivial
  | e, d :: l, h => by
    simp only [List.all_cons, Bool.and_eq_true] at h
    exact ⟨rd_ok h.1, rdA_ok h.2⟩
theorem rdL_ok : ∀ {ts : List Ty} {l : List D}, fitsL ts l = true → RlL ts l (Ty.rdL ts l)
  | [], l, h => by cases l <;> simp_all [fitsL, RlL]
  | [a], l, h => by
    cases l with
    | nil => simp [fitsL] at h
    | cons d m =>
      simp only [fitsL, Bool.and_eq_true] at h
      cases m with
      | nil => exact ⟨d, rfl, rd_ok h.1⟩
      | cons _ _ => simp [fitsL] at h
  | a :: b :: ts, l, h => by
    cases l with
    | nil => simp [fitsL] at h
    | cons d m =>
      rw [fitsL, Bool.and_eq_true] at h
      exact ⟨d, m, rfl, rd_ok h.1, rdL_ok h.2⟩
end

theorem bytesI_inj {s t : ByteArray} (h : bytesI s = bytesI t) : s.data.toList = t.data.toList := by
  unfold bytesI at h
  have : ∀ l m : List UInt8, l.map (fun b => (b.toNat : Int)) = m.map (fun b => (b.toNat : Int)) → l = m := by
    intro l
    induction l with
    | nil => intro m h; cases m <;> simp_all
    | cons a l ih =>
      intro m h
      cases m with
      | nil => simp at h
      | cons b m =>
        simp only [List.map_cons, List.cons.injEq] at h
        rw [ih m h.2]
        have h1 : a.toNat = b.toNat := by omega
        rw [UInt8.toNat_inj.1 h1]
  exact this _ _ h
theorem bytesI_eq {s t : ByteArray} : (s.data.toList = t.data.toList) ↔ bytesI s = bytesI t := ⟨fun h => by unfold bytesI; rw [h], bytesI_inj⟩
theorem bytesI_len {s : ByteArray} : (bytesI s).length = s.size := by unfold bytesI; simp

mutual
theorem dec_iff : ∀ {τ : Ty} {d d' : D} {x y : τ.T}, (τ.flat && τ.known) = true → Rl τ d x → Rl τ d' y → (d.beq d' = true ↔ x = y)
  | .int k, d, d', x, y, _, h, h' => by
    simp only [Rl] at h h'
    subst h h'
    simp only [D.beq, decide_true, Bool.true_and]
    exact @decide_eq_true_iff (@Eq Int x y) (Int.instDecidableEq x y)
  | .bool, d, d', x, y, _, h, h' => by
    simp only [Rl] at h h'
    subst h h'
    simp only [D.beq]
    exact beq_iff_eq (α := Bool)
  | .str, d, d', x, y, _, h, h' => by
    obtain ⟨s, rfl, rfl⟩ := h
    obtain ⟨t, rfl, rfl⟩ := h'
    simp only [D.beq]
    exact decide_eq_true_iff.trans bytesI_eq
  | .sl e, d, d', x, y, hf, h, h' => by simp [Ty.flat] at hf
  | .arr n e, d, d', x, y, hf, h, h' => by
    obtain ⟨l, rfl, h⟩ := h
    obtain ⟨l', rfl, h'⟩ := h'
    simp only [D.beq]
    exact decA_iff (by simpa [Ty.flat, Ty.known] using hf) h h'
  | .st ts, d, d', x, y, hf, h, h' => by
    obtain ⟨l, rfl, h⟩ := h
    obtain ⟨l', rfl, h'⟩ := h'
    simp only [D.beq]
    exact decL_iff (by simpa [Ty.flat, Ty.known] using hf) h h'
  | .no, d, d', x, y, hf, h, h' => by simp [Ty.known] at hf
theorem decA_iff : ∀ {e : Ty} {l l' : List D} {x y : List e.T}, (e.flat && e.known) = true → All2 (Rl e) l x → All2 (Rl e) l' y → (D.beqL l l' = true ↔ x = y)
  | e, [], [], [], [], _, _, _ => by simp [D.beqL]
  | e, [], _ :: _, [], _ :: _, _, _, _ => by simp [D.beqL]
  | e, _ :: _, [], _ :: _, [], _, _, _ => by simp [D.beqL]
  | e, a :: l, b :: l', x :: xs, y :: ys, hf, h, h' => by
    simp only [D.beqL, Bool.and_eq_true, List.cons.injEq]
    rw [dec_iff hf h.1 h'.1, decA_iff hf h.2 h'.2]
  | e, [], _, _ :: _, _, _, h, _ => h.elim
  | e, _ :: _, _, [], _, _, h, _ => h.elim
  | e, _, [], _, _ :: _, _, _, h => h.elim
  | e, _, _ :: _, _, [], _, _, h => h.elim
theorem decL_iff : ∀ {ts : List Ty} {l l' : List D} {x y : Ty.Tup ts}, (Ty.flatL ts && Ty.knownL ts) = true → RlL ts l x → RlL ts l' y → (D.beqL l l' = true ↔ x = y)
  | [], l, l', x, y, _, h, h' => by
    simp only [RlL] at h h'
    subst h h'
    simp only [D.beqL, true_iff]
    exact (rfl : (x : Unit) = y)
  | [a], l, l', x, y, hf, h, h' => by
    obtain ⟨d, rfl, h⟩ := h
    obtain ⟨d', rfl, h'⟩ := h'
    simp only [Ty.flatL, Ty.knownL, Bool.and_true] at hf
    simp only [D.beqL, Bool.and_true]
    exact dec_iff hf h h'
  | a :: b :: ts, l, l', x, y, hf, h, h' => by
    obtain ⟨d, m, rfl, h1, h2⟩ := h
    obtain ⟨d', m', rfl, h1', h2'⟩ := h'
    rw [Ty.flatL, Ty.knownL] at hf
    simp only [Bool.and_eq_true] at hf
    rw [D.beqL, Bool.and_eq_true, dec_iff (by simp only [Bool.and_eq_true]; exact ⟨hf.1.1, hf.2.1⟩) h1 h1', decL_iff (by simp only [Bool.and_eq_true]; exact ⟨hf.1.2, hf.2.2⟩) h2 h2']
    exact (Prod.ext_iff (α := a.T) (β := Ty.Tup (b :: ts)) (x := x) (y := y)).symm
end
theorem dec_ok {τ : Ty} {d d' : D} {x y : τ.T} (hf : (τ.flat && τ.known) = true) (h : Rl τ d x) (h' : Rl τ d' y) : d.beq d' = @decide (x = y) (Ty.dec τ x y) := by
  rw [Bool.eq_iff_iff, dec_iff hf h h']
  simp

/-! ### Operations -/
def RV (ds : List D) (vs : List TV) : Prop := All2 (fun d (v : TV) => Rl v.τ d v.x) ds vs
def TROk (o : Option D) : TR → Prop
  | .tot v => ∃ d, o = some d ∧ Rl v.τ d v.x
  | .par τ ox => ∀ x, ox = some x → ∃ d, o = some d ∧ Rl τ d x

theorem RV.one {ds : List D} {v : TV} (h : RV ds [v]) : ∃ d, ds = [d] ∧ Rl v.τ d v.x := by
  match ds, h with
  | [d], h => exact ⟨d, rfl, h.1⟩
theorem RV.two {ds : List D} {v w : TV} (h : RV ds [v, w]) : ∃ d e, ds = [d, e] ∧ Rl v.τ d v.x ∧ Rl w.τ e w.x := by
  match ds, h with
  | [d, e], h => exact ⟨d, e, rfl, h.1, h.2.1⟩
theorem RV.three {ds : List D} {v w u : TV} (h : RV ds [v, w, u]) : ∃ d e f, ds = [d, e, f] ∧ Rl v.τ d v.x ∧ Rl w.τ e w.x ∧ Rl u.τ f u.x := by
  match ds, h with
  | [d, e, f], h => exact ⟨d, e, f, rfl, h.1, h.2.1, h.2.2.1⟩
theorem RV.four {ds : List D} {v w u t : TV} (h : RV ds [v, w, u, t]) : ∃ d e f g, ds = [d, e, f, g] ∧ Rl v.τ d v.x ∧ Rl w.τ e w.x ∧ Rl u.τ f u.x ∧ Rl t.τ g t.x := by
  match ds, h with
  | [d, e, f, g], h => exact ⟨d, e, f, g, rfl, h.1, h.2.1, h.2.2.1, h.2.2.2.1⟩

theorem tBinI_ok {op : BinOp} {k : IntKind} {a b : Int} {r : TR} (h : tBinI op k a b = some r) : TROk (binI op k a b) r := by
  cases op <;> simp only [tBinI] at h <;> first
    | (injection h with h; subst h; simp [TROk, binI, Rl, bAnd, bOr, bXor, bAndNot]; done)
    | skip
  case quo =>
    injection h with h; subst h
    intro x hx
    simp only [quoO] at hx
    simp only [binI]
    split at hx
    · cases hx
    · rename_i hb
      injection hx with hx
      rw [if_neg hb]
      exact ⟨_, rfl, by simp only [Rl]; rw [hx]⟩
  case rem =>
    injection h with h; subst h
    intro x hx
    simp only [remO] at hx
    simp only [binI]
    split at hx
    · cases hx
    · rename_i hb
      injection hx with hx
      rw [if_neg hb]
      exact ⟨_, rfl, by simp only [Rl]; rw [hx]⟩
  case eql => injection h with h; subst h; simp [TROk, binI, Rl]; rfl
  case neq => injection h with h; subst h; simp [TROk, binI, Rl]; rfl
  all_goals cases h

theorem strLess_ok : ∀ (x y : List UInt8), strLess x y = sLess (x.map fun b => (b.toNat : Int)) (y.map fun b => (b.toNat : Int))
  | [], [] => by simp [strLess, sLess]
  | _ :: _, [] => by simp [strLess, sLess]
  | [], _ :: _ => by simp [strLess, sLess]
  | a :: x, b :: y => by
    simp only [strLess, sLess, List.map_cons, strLess_ok x y]
    have h1 : decide ((a.toNat : Int) < (b.toNat : Int)) = decide (a < b) := decide_eq_decide.2 (by rw [UInt8.lt_iff_toNat_lt]; omega)
    have h2 : decide ((a.toNat : Int) = (b.toNat : Int)) = (a == b) := by
      rw [Bool.eq_iff_iff]
      simp only [decide_eq_true_eq, beq_iff_eq]
      constructor
      · intro h; exact UInt8.toNat_inj.1 (by omega)
      · intro h; rw [h]
    rw [h1, h2]

theorem tBinS_ok {op : BinOp} {s t : ByteArray} {r : TR} (h : tBinS op (bytesI s) (bytesI t) = some r) : TROk (binS op s t) r := by
  have he : (s.data.toList == t.data.toList) = decide (bytesI s = bytesI t) := by
    rw [Bool.eq_iff_iff]
    simp only [beq_iff_eq, decide_eq_true_eq]
    exact bytesI_eq
  have hl : strLess s.data.toList t.data.toList = sLess (bytesI s) (bytesI t) := strLess_ok _ _
  cases op <;> simp only [tBinS] at h <;> first
    | (injection h with h; subst h; simp only [TROk, binS, Rl, he, hl]; exact ⟨_, rfl, rfl⟩)
    | skip
  case add =>
    injection h with h; subst h
    intro x hx
    simp only [catO, bytesI_len] at hx
    simp only [binS]
    split at hx
    · rename_i hc
      injection hx with hx
      rw [if_pos hc]
      refine ⟨_, rfl, _, rfl, ?_⟩
      rw [← hx]
      unfold bytesI
      show List.map _ _ ++ List.map _ _ = List.map _ _
      rw [← List.map_append]
      simp
    · cases hx
  all_goals cases h

theorem tBin_ok {op : BinOp} {vs : List TV} {ds : List D} {r : TR} (hv : RV ds vs) (h : tBin op vs = some r) : TROk (Prim.run (.bin op) ds) r := by
  unfold tBin at h
  split at h
  · rename_i k a k' b
    obtain ⟨d, e, rfl, h1, h2⟩ := hv.two
    simp only [Rl] at h1 h2
    subst h1 h2
    split at h
    · injection h with h; subst h
      intro x hx
      simp only [shlO] at hx
      simp only [Prim.run, binD, shI]
      split at hx
      · cases hx
      · rename_i hb
        injection hx with hx
        rw [if_neg hb]
        exact ⟨_, rfl, by simp only [Rl]; rw [hx]⟩
    · injection h with h; subst h
      intro x hx
      simp only [shrO] at hx
      simp only [Prim.run, binD, shI]
      split at hx
      · cases hx
      · rename_i hb
        injection hx with hx
        rw [if_neg hb]
        exact ⟨_, rfl, by simp only [Rl]; rw [hx]⟩
    · rename_i hn1 hn2
      split at h
      · rename_i hk
        subst hk
        have := tBinI_ok h
        simp only [Prim.run, binD, if_true]
        cases op <;> first | exact this | exact absurd rfl hn1 | exact absurd rfl hn2
      · cases h
  · rename_i a b
    obtain ⟨d, e, rfl, h1, h2⟩ := hv.two
    simp only [Rl] at h1 h2
    subst h1 h2
    split at h
    · injection h with h; subst h
      simp only [TROk, Prim.run, binD, binB, Rl]
      refine ⟨_, rfl, ?_⟩
      congr 1
    · injection h with h; subst h
      simp only [TROk, Prim.run, binD, binB, Rl]
      refine ⟨_, rfl, ?_⟩
      congr 1
    · cases h
  · rename_i a b
    obtain ⟨d, e, rfl, ⟨s, h1, e1⟩, ⟨t, h2, e2⟩⟩ := hv.two
    simp only at e1 e2 h1 h2
    subst h1 h2 e1 e2
    simp only [Prim.run, binD]
    exact tBinS_ok h
  · cases h

theorem tUn_ok {op : UnOp} {vs : List TV} {ds : List D} {r : TR} (hv : RV ds vs) (h : tUn op vs = some r) : TROk (Prim.run (.un op) ds) r := by
  unfold tUn at h
  split at h
  · obtain ⟨d, rfl, h1⟩ := hv.one
    simp only [Rl] at h1
    subst h1
    split at h
    · injection h with h; subst h
      simp only [TROk, Prim.run, unD, Rl, bNeg]
      exact ⟨_, rfl, rfl⟩
    · injection h with h; subst h
      simp only [TROk, Prim.run, unD, Rl, bNot]
      exact ⟨_, rfl, rfl⟩
    · cases h
  · obtain ⟨d, rfl, h1⟩ := hv.one
    simp only [Rl] at h1
    subst h1
    split at h
    · injection h with h; subst h
      simp only [TROk, Prim.run, unD, Rl]
      exact ⟨_, rfl, rfl⟩
    · cases h
  · cases h

theorem projT_ok : ∀ {ts : List Ty} {x : Ty.Tup ts} {j : Nat} {v : TV} {l : List D}, projT ts x j = some v → RlL ts l x → ∃ d, l[j]? = some d ∧ Rl v.τ d v.x
  | [], x, j, v, l, h, _ => by simp [projT] at h
  | [a], x, j, v, l, h, hl => by
    obtain ⟨d, rfl, hd⟩ := hl
    cases j with
    | zero =>
      simp only [projT] at h
      injection h with h
      subst h
      exact ⟨d, rfl, hd⟩
    | succ j => simp [projT] at h
  | a :: b :: ts, x, j, v, l, h, hl => by
    obtain ⟨d, m, rfl, h1, h2⟩ := hl
    cases j with
    | zero =>
      simp only [projT] at h
      injection h with h
      subst h
      exact ⟨d, rfl, h1⟩
    | succ j =>
      rw [projT] at h
      simpa using projT_ok h h2

theorem setT_ok : ∀ {ts : List Ty} {x y : Ty.Tup ts} {j : Nat} {v : TV} {l : List D} {d : D}, setT ts x j v = some y → RlL ts l x → Rl v.τ d v.x → j < l.length ∧ RlL ts (l.set j d) y
  | [], x, y, j, v, l, d, h, _, _ => by simp [setT] at h
  | [a], x, y, j, v, l, d, h, hl, hd => by
    obtain ⟨d', rfl, hd'⟩ := hl
    cases j with
    | zero =>
      simp only [setT] at h
      exact ⟨by simp, d, rfl, as_ok h hd⟩
    | succ j => simp [setT] at h
  | a :: b :: ts, x, y, j, v, l, d, h, hl, hd => by
    obtain ⟨d', m, rfl, h1, h2⟩ := hl
    cases j with
    | zero =>
      simp only [setT] at h
      split at h
      · rename_i z hz
        injection h with h
        subst h
        exact ⟨by simp, d, m, rfl, as_ok hz hd, h2⟩
      · cases h
    | succ j =>
      rw [setT] at h
      split at h
      · rename_i z hz
        injection h with h
        subst h
        obtain ⟨g1, g2⟩ := setT_ok hz h2 hd
        exact ⟨by simpa using g1, d', m.set j d, rfl, h1, g2⟩
      · cases h

theorem tupOf_ok : ∀ {vs : List TV} {ds : List D}, RV ds vs → RlL (vs.map TV.τ) ds (tupOf vs)
  | [], [], _ => rfl
  | [v], [d], h => ⟨d, rfl, h.1⟩
  | v :: w :: vs, d :: ds, h => ⟨d, ds, rfl, h.1, tupOf_ok h.2⟩
  | [], _ :: _, h => h.elim
  | _ :: _, [], h => h.elim
  | [_], _ :: _ :: _, h => h.2.elim
theorem listAs_ok {e : Ty} : ∀ {vs : List TV} {ds : List D} {l : List e.T}, RV ds vs → listAs e vs = some l → All2 (Rl e) ds l
  | [], [], l, _, h => by
    simp only [listAs] at h
    injection h with h
    subst h
    trivial
  | v :: vs, d :: ds, l, hv, h => by
    simp only [listAs] at h
    split at h
    · cases h
    · rename_i x hx
      split at h
      · cases h
      · rename_i m hm
        injection h with h
        subst h
        exact ⟨as_ok hx hv.1, listAs_ok hv.2 hm⟩
  | [], _ :: _, _, h, _ => h.elim
  | _ :: _, [], _, h, _ => h.elim

end Go.SX
