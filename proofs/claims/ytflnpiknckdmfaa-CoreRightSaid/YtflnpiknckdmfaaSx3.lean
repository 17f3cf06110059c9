/- Part 3 of a checked symbolic executor: what a function's code does is read off as a tree over plain data. No condition. -/
import Derived.Test.YtflnpiknckdmfaaSx2
import Derived.Laws.CopyRow
import Derived.ChangeKeysEq
import Derived.Orders

/- append: what is put, and to what is empty. -/
namespace Go.SX
open Go.RowKit (Below)

/-- What append puts: data and its cells. -/
def Src (w : World) (M : Nat → Prop) (e : Ty) (d : D) (v : Value) : Prop :=
  (d = .nil ∧ v = .slice none 0 0) ∨ ∃ l xs ad cap, d = .sl l ∧ v = .slice (some ad) l.length cap ∧ DRepA w M e l xs ∧ ∀ j u, xs[j]? = some u → w.cell? (ad.add j) = some u

theorem Src.of {w : World} {M M' : Nat → Prop} {e : Ty} {d : D} {v : Value} (hv : DVal w M (.sl e) d v) (hM : ∀ l xs, DRepA w M e l xs → DRepA w M' e l xs) : Src w M' e d v := by
  unfold DVal at hv
  simp only [Ty.isAgg, Bool.false_eq_true, if_false] at hv
  obtain ⟨_, hv⟩ := hv
  cases d <;> simp only [DRep] at hv
  · obtain ⟨a, cap, xs, h1, h2, h3, h4, h5⟩ := hv
    injection h1 with h1
    exact .inr ⟨_, xs, a, cap, rfl, h1, hM _ _ h3, h4⟩
  · injection hv with hv
    exact .inl ⟨rfl, hv⟩
theorem Src.keep {w : World} {M M' : Nat → Prop} {e : Ty} {d : D} {v : Value} (K : Keeps w w M M') (h : Src w M e d v) : Src w M' e d v := by
  rcases h with h | ⟨l, xs, ad, cap, h1, h2, h3, h4⟩
  · exact .inl h
  · exact .inr ⟨l, xs, ad, cap, h1, h2, h3.keep K, h4⟩

section
variable {C : FuncId → List D → Option (List D)} {k B0 : Nat} {X : Ctx} {cx : Cx}

/-- The elements of a row of the call's own, or of a part of it. -/
theorem row_src {e : Ty} {r : Nat} {vw : Option (At × At)} {v : Value} {a : At} (m : Mem B0 X) (hA : X.A r) (hh : HRep X e r vw v) (hR : X.μ r = .row e a) {d : D}
    (hd : match vw with | none => a.get X.E = some d | some (lo, hi) => ∃ u l h, a.get X.E = some u ∧ lo.get X.E = some l ∧ hi.get X.E = some h ∧ Prim.run .sub [u, l, h] = some d) : Src X.w X.M e d v := by
  obtain ⟨a1, d1, h1, h2, h3⟩ := hh
  rw [hR] at h1
  injection h1 with h1
  injection h1 with _ h1
  subst h1
  have hrep := m.rep r hA
  rw [hR] at hrep
  obtain ⟨d2, g1, g2⟩ := hrep
  rw [h2] at g1
  injection g1 with g1
  subst g1
  have emp : ∀ {d : D} {v : Value}, Empt d v → Src X.w X.M e d v := fun h => by
    rcases h with ⟨h, h'⟩ | ⟨h, ad, h'⟩
    · exact .inl ⟨h, h'⟩
    · exact .inr ⟨[], [], ad, 0, h, h', by simp [DRepA], fun j u hj => by simp at hj⟩
  cases vw with
  | none =>
    simp only at hd
    rw [h2] at hd
    injection hd with hd
    subst hd
    rcases h3 with ⟨p1, p2, _⟩ | ⟨bb, l, p1, p2, cap, bs, p3, p4, p5, p6⟩
    · exact emp p2
    · rcases g2 with ⟨q1, q2⟩ | ⟨b', c, te, fr, l', xs, q1, q2, q3, q4, q5, q6⟩
      · rw [p1] at q1; cases q1
      · rw [p1] at q1
        injection q1 with q1
        subst q1
        rw [p2] at q2
        injection q2 with q2
        subst q2 p2
        exact .inr ⟨l, xs, _, cap, rfl, p3, q5, fun j u hj => by rw [addr_add, Nat.zero_add]; exact cell_take q3 q6 hj⟩
  | some p =>
    obtain ⟨lo, hi⟩ := p
    obtain ⟨u, l0, h0, f1, f2, f3, f4⟩ := hd
    rw [h2] at f1
    injection f1 with f1
    subst f1
    rcases h3 with ⟨p1, p2, k, k', p4, p5⟩ | ⟨bb, l, p1, p2, ad, cap, bs, k, k', i, j, p3, p4, p5, p6, p7, p8, p9, p10, p11⟩
    · rw [p4] at f2
      rw [p5] at f3
      injection f2 with f2
      injection f3 with f3
      subst f2 f3
      have e0 : d = d1 := by
        rcases p2.em with h | h <;> subst h <;> simp [Prim.run] at f4 <;> exact f4.symm
      subst e0
      exact emp p2
    · rw [p3] at f2
      rw [p4] at f3
      injection f2 with f2
      injection f3 with f3
      subst f2 f3 p2
      have hc : (0 : Int) ≤ Int.ofNat i ∧ Int.ofNat i ≤ Int.ofNat j ∧ Int.ofNat j ≤ (l.length : Int) := ⟨by simp, by simpa using p5, by simpa using p6⟩
      simp only [Prim.run, if_pos hc] at f4
      injection f4 with f4
      subst f4
      rcases g2 with ⟨q1, q2⟩ | ⟨b', c, te, fr, l', xs, q1, q2, q3, q4, q5, q6⟩
      · rw [p1] at q1; cases q1
      · rw [p1] at q1
        injection q1 with q1
        subst q1
        injection q2 with q2
        subst q2
        have hlen : ((l.take (Int.ofNat j).toNat).drop (Int.ofNat i).toNat).length = j - i := by
          simp only [List.length_drop, List.length_take, Int.ofNat_eq_natCast, Int.toNat_natCast]
          omega
        refine .inr ⟨_, (xs.take (j * e.size)).drop (i * e.size), ad, cap, rfl, by rw [hlen, p7], ?_, fun n u hn => ?_⟩
        · simp only [Int.ofNat_eq_natCast, Int.toNat_natCast]
          exact (q5.take j).drop i
        · have hn' : n < ((xs.take (j * e.size)).drop (i * e.size)).length := by
            rcases Nat.lt_or_ge n ((xs.take (j * e.size)).drop (i * e.size)).length with h | h
            · exact h
            · rw [List.getElem?_eq_none h] at hn; cases hn
          simp only [List.length_drop, List.length_take] at hn'
          have hij : i < j := by
            rcases Nat.lt_or_ge i j with h | h
            · exact h
            · have := Nat.mul_le_mul_right e.size h
              omega
          rw [p11 (.inl (by omega)), addr_add]
          rw [List.getElem?_drop, List.getElem?_take] at hn
          split at hn
          · exact cell_take q3 q6 hn
          · cases hn

theorem srcOf_sound {e : Ty} {x : SV} {σ σ' : SS} {y : At} {v : Value} (hB : B0 ≤ X.w.heap.size) (h : Run (srcOf e x) X.μ σ y σ') (hs : Sat C k X.E σ'.bs σ'.nv) (m : Mem B0 (X.mv σ.up)) (hv : VRep (X.mv σ.up) x v) :
    Ext (X.mv σ.up) (X.mv σ'.up) ∧ Mem B0 (X.mv σ'.up) ∧ σ'.ab = σ.ab ∧ ∃ d, y.get X.E = some d ∧ Src X.w (X.mv σ'.up).M e d v := by
  have row : ∀ {e' : Ty} {r : Nat} {vw : Option (At × At)} {σ : SS} {a : At}, Mem B0 (X.mv σ.up) → VRep (X.mv σ.up) (.h e' r vw) v → (X.mv σ.up).μ r = .row e a → Run (SV.view false (.sl e) (.h e' r vw)) X.μ σ y σ' →
      Ext (X.mv σ.up) (X.mv σ'.up) ∧ Mem B0 (X.mv σ'.up) ∧ σ'.ab = σ.ab ∧ ∃ d, y.get X.E = some d ∧ Src X.w (X.mv σ'.up).M e d v := by
    intro e' r vw σ a m hv hR h
    simp only [SV.view] at h
    obtain ⟨_, s1, h1, h2⟩ := Run.bind h
    obtain ⟨hT, e1⟩ := Run.guard h1
    subst e1
    have hT := Ty.beq_eq hT
    injection hT with hT
    subst hT
    obtain ⟨a0, s2, h3, h4⟩ := Run.bind h2
    simp only [VRep, Ref] at hv
    obtain ⟨hone, hA, hh⟩ := hv
    have hA' : X.A r := hA
    obtain ⟨r1, x, m', hf, r2, ho⟩ := rowAtom_sound h3 m hB hA'
    have es := hf rfl
    subst es
    rw [hR] at r1
    simp only [Root.row?, Option.some.injEq, Prod.mk.injEq, true_and] at r1
    subst r1
    have hh' := hh (by rw [hR]; rfl)
    cases vw with
    | none =>
      obtain ⟨e1, e2⟩ := Run.pure h4
      subst e1 e2
      obtain ⟨a1, d1, g1, g2, _⟩ := id hh'
      rw [hR] at g1
      simp only [Root.row?, Option.some.injEq, Prod.mk.injEq, true_and] at g1
      subst g1
      exact ⟨Ext.refl _, m, rfl, d1, g2, row_src m hA hh' hR g2⟩
    | some p =>
      obtain ⟨lo, hi⟩ := p
      obtain ⟨⟨u, l, hh0, d, f1, f2, f3, f4, f5⟩, e1, e2⟩ := Run.op3 h4 hs
      rw [e1, e2]
      exact ⟨Ext.refl _, m, rfl, d, f5, row_src m hA hh' hR ⟨u, l, hh0, f1, f2, f3, f4⟩⟩
  have any : ∀ {T : SV}, T = x → Run (SV.view true (.sl e) T) X.μ σ y σ' → Ext (X.mv σ.up) (X.mv σ'.up) ∧ Mem B0 (X.mv σ'.up) ∧ σ'.ab = σ.ab ∧ ∃ d, y.get X.E = some d ∧ Src X.w (X.mv σ'.up).M e d v := by
    intro T hT hh
    rw [hT] at hh
    obtain ⟨x1, m1, _, hab, d, hd, hdv⟩ := view_val hB hh hs m hv
    exact ⟨x1, m1, hab, d, hd, Src.of hdv fun _ _ h => h⟩
  unfold srcOf at h
  rcases Run.ite h with ⟨hf, h⟩ | ⟨_, h⟩
  · obtain ⟨x1, m1, _, hab, d, hd, hdv⟩ := view_val hB h hs m hv
    exact ⟨x1, m1, hab, d, hd, Src.of hdv fun _ _ h => h.flat hf⟩
  · split at h
    · rename_i e' r vw _
      obtain ⟨RR, s1, h1, h2⟩ := Run.bind h
      obtain ⟨e1, e2⟩ := Run.root h1
      subst e2
      split at h2
      · rename_i e2 a2
        have hR : (X.mv s1.up).μ r = .row e2 a2 := e1.symm
        have hee : e2 = e := by
          have h := h2
          simp only [SV.view] at h
          obtain ⟨_, s2, h3, h4⟩ := Run.bind h
          obtain ⟨hT, e3⟩ := Run.guard h3
          subst e3
          have hT := Ty.beq_eq hT
          injection hT with hT
          subst hT
          obtain ⟨a0, s3, h5, _⟩ := Run.bind h4
          simp only [VRep, Ref] at hv
          obtain ⟨r1, _⟩ := rowAtom_sound h5 m hB hv.2.1
          rw [hR] at r1
          simp only [Root.row?, Option.some.injEq, Prod.mk.injEq] at r1
          exact r1.1
        subst hee
        exact row m hv hR h2
      · rename_i e'' a g
        obtain ⟨_, s2, h3, h4⟩ := Run.bind h2
        obtain ⟨hb, es⟩ := Run.guard h3
        subst es
        have hb := Ty.beq_eq hb
        subst hb
        obtain ⟨_, s3, h5, h6⟩ := Run.bind h4
        have es := Run.put h5
        subst es
        have hA : X.A r := by simp only [VRep, Ref] at hv; exact hv.2.1
        have hR : (X.mv s2.up).μ r = .mat e'' a g := e1.symm
        obtain ⟨x1, m1⟩ := m.lower (hB := hB) (r := r) hA (e := .sl e'') (a := a) (.inr ⟨e'', g, rfl, hR⟩) (R := .row (.sl e'') a) (.inr rfl)
        rw [← Ctx.mv_cons] at x1 m1
        obtain ⟨x2, m2, hab, hd⟩ := row (σ := { s2 with up := (r, Root.row (.sl e'') a) :: s2.up }) (a := a) m1 (VRep.ext x1 hv) (by rw [Ctx.mv_cons]; simp [upd_same]) h6
        exact ⟨x1.trans x2, m2, hab, hd⟩
      · exact any rfl h2
    · exact any rfl h

/-- A row that is new, or empty without a block. -/
theorem Mem.newEmpt (m : Mem B0 X) (hB : B0 ≤ X.w.heap.size) {r : Nat} (hn : ¬ X.A r) {e : Ty} {a : At} {d : D} {v : Value} (ha : a.get X.E = some d) (hv : Empt d v) :
    let X' := X.grown X.w r (.row e a) ⟨none, []⟩
    (Ext X X' ∧ Mem B0 X') ∧ VRep X' (.h e r none) v := by
  intro X'
  have hr : X'.μ r = .row e a := by simp [X', Ctx.grown, upd_same]
  have hβ : X'.β r = ⟨none, []⟩ := by simp [X', Ctx.grown, upd_same]
  refine ⟨m.grow hB hn (Below.refl _ _) (fun b hb => by simp [Root.own] at hb) (by simp [Root.own]) fun x => ⟨_, ha, .inl ⟨by rw [hβ], hv.em⟩⟩, ?_⟩
  simp only [VRep, Ref]
  obtain ⟨A, e0⟩ := hv.val
  exact ⟨by rw [e0]; exact one_slice _ _ _, .inr rfl, fun _ => ⟨a, d, by rw [hr]; rfl, ha, .inl ⟨by rw [hβ], hv, trivial⟩⟩⟩

/-- append to what is empty and without room. -/
theorem append_empt (_ty : TysOk cx) (hB : B0 ≤ X.w.heap.size) (m : Mem B0 X) {t E tt : TypeId} {e : Ty} {i : TypeInfo} (hu : cx.P.underlying t = some (.slice E)) (tf : TyFact cx E e i) {xt E2 : TypeId} (hx : cx.P.underlying xt = some (.slice E2)) {r : Nat} (hn : ¬ X.A r)
    {o d dn : D} {vs vx : Value} (hs : Empt o vs) (hd : Src X.w X.M e d vx) (happ : appD (cx.by_ E) o d = some dn) {a : At} (ha : a.get X.E = some dn) :
    ∃ v w' p, (Builtin.append_ #[t, xt] tt #[vs, vx]).run cx.P X.w = .ok v w' ∧ Below X.w.heap.size X.w w' ∧
      (Ext X (X.grown w' r (.row e a) p) ∧ Mem B0 (X.grown w' r (.row e a) p)) ∧ VRep (X.grown w' r (.row e a) p) (.h e r none) v := by
  obtain ⟨A, eA⟩ := hs.val
  subst eA
  rw [append_ty hx hu A 0 0 vx tf.info]
  simp only [appD, hs.em.els] at happ
  rcases hd with ⟨h1, h2⟩ | ⟨l, xs, ad, cap, h1, h2, h3, h4⟩
  · subst h1 h2
    simp only [D.els, List.length_nil, Nat.zero_add, List.append_nil] at happ
    split at happ
    · injection happ with happ
      have he : dn = o := by
        rcases hs.em with h | h <;> subst h <;> simp at happ <;> exact happ.symm
      subst he
      obtain ⟨h5, h6⟩ := m.newEmpt hB hn ha hs (e := e)
      exact ⟨_, X.w, ⟨none, []⟩, append_none hu tf.info (Nat.le_refl _), Below.refl _ _, h5, h6⟩
    · cases happ
  · subst h1 h2
    simp only [D.els, List.nil_append, List.length_nil, Nat.zero_add] at happ
    split at happ
    · rename_i hroom
      injection happ with happ
      cases l with
      | nil =>
        have he : dn = o := by
          rcases hs.em with h | h <;> subst h <;> simp at happ <;> exact happ.symm
        subst he
        obtain ⟨h5, h6⟩ := m.newEmpt hB hn ha hs (e := e)
        exact ⟨_, X.w, ⟨none, []⟩, append_zero hu tf.info (Nat.le_refl _), Below.refl _ _, h5, h6⟩
      | cons d0 l =>
        have he : dn = .sl (d0 :: l) := by
          rcases hs.em with h | h <;> subst h <;> simp at happ <;> exact happ.symm
        subst he
        obtain ⟨z, hz, hzd⟩ := tf.zero
        have hzs : z.cells.size = i.size := by have := (hzd X.w X.M).cells.length; rw [tf.size, ← this]; simp
        have hxl : xs.length = (d0 :: l).length * i.size := by rw [tf.size]; exact h3.length
        simp only [Cx.by_, Program.bytesOf, tf.info, Option.map_some, Option.getD_some] at hroom
        obtain ⟨cap', cells, hrun, hc1, hc2, hc3⟩ := append_new (P := cx.P) (w := X.w) (ty := tt) hu tf.info hz hzs (A := A) (n := 0) (c := 0) (olds := [])
          (by cases A with | none => exact .inl ⟨rfl, rfl, rfl, rfl⟩ | some b => exact .inr ⟨b, rfl, by simp, fun j v hj => by simp at hj⟩) (a := ad) (m := (d0 :: l).length) (c' := cap) hxl h4 (by simp) (by rw [Nat.zero_add]; exact hroom)
        have hbel : Below X.w.heap.size X.w (X.w.drew.alloc (.cells cells E)) := ((Below.refl _ _).drew).alloc (Nat.le_refl _) _
        have hnr := m.newRow hB hn hbel (e := e) (a := a) (l := d0 :: l) (xs := xs) (c := cells) (te := E) (cap := cap') ha (heap_alloc_new X.w.drew _) h3 (by simpa using hc3) (by omega) (by rw [← tf.size]; exact hc2)
        rw [Nat.zero_add] at hrun
        exact ⟨_, _, _, hrun, hbel, hnr.1, hnr.2⟩
    · cases happ
end

end Go.SX

/- append: to a row of the call's own. -/
namespace Go.SX
open Go.RowKit (Below)

section
variable {C : FuncId → List D → Option (List D)} {k B0 : Nat} {X : Ctx} {cx : Cx}

/-- A root is given up for a new one. -/
def Ctx.swapped (X : Ctx) (w' : World) (r r' : Nat) (R : Root) (p : Pl) : Ctx := { E := X.E, w := w', μ := upd (upd X.μ r .dead) r' R, β := upd X.β r' p, A := fun q => X.A q ∨ q = r', F := X.F }

theorem Mem.swap (m : Mem B0 X) (hB : B0 ≤ X.w.heap.size) {r r' : Nat} (hA : X.A r) (hn : ¬ X.A r') {w' : World} {R : Root} {p : Pl}
    (hw : ∀ b, b < X.w.heap.size → b ∉ (X.μ r).own (X.β r) → w'.heap[b]? = X.w.heap[b]?) (hs : ∀ b n, bsize X.w b = some n → bsize w' b = some n)
    (hown : ∀ b, b ∈ R.own p → X.w.heap.size ≤ b ∨ b ∈ (X.μ r).own (X.β r)) (hnd : (R.own p).Nodup) (hrep : Ext X (X.swapped w' r r' R p) → RootRep (X.swapped w' r r' R p) r' R) :
    Ext X (X.swapped w' r r' R p) ∧ Mem B0 (X.swapped w' r r' R p) := by
  have hne : r ≠ r' := fun e => hn (e ▸ hA)
  have hneq : ∀ q, X.A q → q ≠ r' := fun q hq e => hn (e ▸ hq)
  have hd : (X.swapped w' r r' R p).μ r = .dead := by simp [Ctx.swapped, upd_ne _ _ hne, upd_same]
  have hr' : (X.swapped w' r r' R p).μ r' = R := by simp [Ctx.swapped, upd_same]
  have hβ' : (X.swapped w' r r' R p).β r' = p := by simp [Ctx.swapped, upd_same]
  refine Mem.change m hB (fun q => q = r ∨ q = r') (fun _ _ h => h) (fun _ h => .inl h) (fun q h => h.elim .inl fun h => .inr (.inr h)) (fun q hq => ?_) (fun b hlt hb => hw b hlt (hb r (.inl rfl) hA)) hs ?_ ?_ ?_ ?_ ?_ ?_
  · exact ⟨by simp [Ctx.swapped, upd_ne _ _ (fun h => hq (.inr h)), upd_ne _ _ (fun h => hq (.inl h))], by simp [Ctx.swapped, upd_ne _ _ (fun h => hq (.inr h))]⟩
  · intro q b hq _ hb
    rcases hq with hq | hq
    · subst hq; rw [hd] at hb; simp [Root.own] at hb
    · subst hq
      rw [hr', hβ'] at hb
      rcases hown b hb with h | h
      · exact .inl h
      · exact .inr ⟨r, .inl rfl, hA, h⟩
  · intro q q' b hq hq' _ _ hb hb'
    rcases hq with hq | hq
    · subst hq; rw [hd] at hb; simp [Root.own] at hb
    · rcases hq' with hq' | hq'
      · subst hq'; rw [hd] at hb'; simp [Root.own] at hb'
      · rw [hq, hq']
  · intro q hq _
    rcases hq with hq | hq
    · subst hq; rw [hd]; simp [Root.own]
    · subst hq; rw [hr', hβ']; exact hnd
  · intro q hq ha
    simp [Ctx.swapped, upd_ne _ _ (hneq q ha)]
  · intro q hq ha ht
    rcases hq with hq | hq
    · subst hq; rw [hd] at ht; cases ht
    · exact absurd hq (hneq q ha)
  · intro x q hq ha
    rcases hq with hq | hq
    · subst hq; rw [hd]; trivial
    · subst hq; rw [hr']; exact hrep x

theorem Nx.swapped {up up' : List (Nat × Root)} {ab ab' ab0 r r' : Nat} {R : Root} {p : Pl} {w' : World} (x : Ext X (X.mv up)) (hb : Below B0 X.w w')
    (h : Ext (X.mv up) ((X.mv up).swapped w' r r' R p) ∧ Mem B0 ((X.mv up).swapped w' r r' R p)) (hup : up' = (r', R) :: (r, .dead) :: up) (hr : r' = ab) (ha : ab' = ab + 1) (h0 : ab = ab0) : Nx B0 X ((X.mv up).swapped w' r r' R p) up' ab0 ab' w' where
  E := rfl
  w := rfl
  μ := by rw [hup, now_cons, now_cons]; rfl
  A := fun q => by
    show (X.A q ∨ q = r') ↔ X.A q ∨ ab0 ≤ q ∧ q < ab'
    constructor
    · rintro (h | h)
      · exact .inl h
      · exact .inr (by omega)
    · rintro (h | h)
      · exact .inl h
      · exact .inr (by omega)
  ext := x.trans h.1
  mem := h.2
  below := hb

/-- append to a row of the call's own, from its beginning up to n. -/
theorem append_row (hB : B0 ≤ X.w.heap.size) (m : Mem B0 X) {t E tt : TypeId} {e : Ty} {i : TypeInfo} (hu : cx.P.underlying t = some (.slice E)) (tf : TyFact cx E e i) {xt E2 : TypeId} (hx : cx.P.underlying xt = some (.slice E2)) {r r' : Nat} (hA : X.A r) (hn : ¬ X.A r')
    {a0 : At} (hR : X.μ r = .row e a0) {b te : Nat} {c : Array Value} {l : List D} {xs : List Value} (hm : (X.β r).main = some b) (hh : X.w.heap[b]? = some (.cells c te (0, 0))) (hx0 : DRepA X.w X.M e l xs) (hc : c.toList.take xs.length = xs)
    {n cap : Nat} (h1 : n ≤ l.length) (h2 : n ≤ cap) (h3 : cap * e.size ≤ c.size) {d : D} {vx : Value} (hd : Src X.w X.M e d vx) {l2 : List D} (hl2 : d.els = some l2) (hroom : roomOk (n + l2.length) (cx.by_ E) = true)
    {tail : List D} (htail : tail = [] ∨ (tail = l.drop (n + l2.length) ∧ l.length ≤ cap)) {a : At} (ha : a.get X.E = some (.sl (l.take n ++ (l2 ++ tail)))) :
    ∃ w' g cap' bs, (Builtin.append_ #[t, xt] tt #[.slice (some ⟨b, 0, none⟩) n cap, vx]).run cx.P X.w = .ok (.slice (some ⟨g, 0, none⟩) (n + l2.length) cap') w' ∧ Below B0 X.w w' ∧
      (Ext X (X.swapped w' r r' (.row e a) ⟨some g, []⟩) ∧ Mem B0 (X.swapped w' r r' (.row e a) ⟨some g, []⟩)) ∧ n + l2.length + tail.length ≤ cap' ∧ bsize w' g = some bs ∧ cap' * e.size ≤ bs := by
  have hmem : b ∈ (X.μ r).own (X.β r) := by rw [hR]; simp [Root.own, hm]
  have hlen := hx0.length
  have hxc : xs.length ≤ c.toList.length := by rw [← hc, List.length_take]; omega
  have hmul : n * e.size ≤ xs.length := by rw [hlen]; exact Nat.mul_le_mul_right _ h1
  -- the new root's memory
  have fin : ∀ {w' : World} {g te' : Nat} {c' : Array Value} {xs' : List Value}, (∀ q, q < X.w.heap.size → q ≠ b → w'.heap[q]? = X.w.heap[q]?) → (∀ q n, bsize X.w q = some n → bsize w' q = some n) → (g = b ∨ g = X.w.heap.size) →
      w'.heap[g]? = some (.cells c' te' (0, 0)) → DRepA X.w X.M e (l.take n ++ (l2 ++ tail)) xs' → c'.toList.take xs'.length = xs' →
      Ext X (X.swapped w' r r' (.row e a) ⟨some g, []⟩) ∧ Mem B0 (X.swapped w' r r' (.row e a) ⟨some g, []⟩) := by
    intro w' g te' c' xs' f1 f2 f3 f4 f5 f6
    refine m.swap hB hA hn (fun q hq hb => f1 q hq fun e => hb (e ▸ hmem)) f2 (fun q hq => ?_) (by simp [Root.own]) fun x => ⟨_, ha, .inr ⟨g, c', te', (0, 0), _, xs', by simp [Ctx.swapped, upd_same], rfl, f4, fun _ => rfl, f5.keep x.K, f6⟩⟩
    simp only [Root.own, Option.toList, List.mem_singleton] at hq
    subst hq
    rcases f3 with f3 | f3
    · exact .inr (f3 ▸ hmem)
    · exact .inl (by omega)
  have hlow := m.low r b hA hmem
  -- nothing is put
  have none : ∀ {vx : Value}, l2 = [] → (Builtin.append_ #[t, t] tt #[.slice (some ⟨b, 0, none⟩) n cap, vx]).run cx.P X.w = .ok (.slice (some ⟨b, 0, none⟩) n cap) X.w → ∃ w' g cap' bs, (Builtin.append_ #[t, t] tt #[.slice (some ⟨b, 0, none⟩) n cap, vx]).run cx.P X.w = .ok (.slice (some ⟨g, 0, none⟩) (n + l2.length) cap') w' ∧ Below B0 X.w w' ∧
      (Ext X (X.swapped w' r r' (.row e a) ⟨some g, []⟩) ∧ Mem B0 (X.swapped w' r r' (.row e a) ⟨some g, []⟩)) ∧ n + l2.length + tail.length ≤ cap' ∧ bsize w' g = some bs ∧ cap' * e.size ≤ bs := by
    intro vx h0 hrun
    subst h0
    refine ⟨X.w, b, cap, c.size, hrun, Below.refl _ _, ?_, ?_, by simp [bsize, hh], h3⟩
    · rcases htail with ht | ⟨ht, _⟩
      · subst ht
        simp only [List.append_nil] at fin
        refine fin (fun _ _ _ => rfl) (fun _ _ h => h) (.inl rfl) hh (hx0.take n) ?_
        rw [List.length_take, Nat.min_eq_left hmul]
        rw [← hc, List.take_take, Nat.min_eq_left hmul]
      · subst ht
        simp only [List.length_nil, Nat.add_zero, List.nil_append, List.take_append_drop] at fin
        exact fin (fun _ _ _ => rfl) (fun _ _ h => h) (.inl rfl) hh hx0 hc
    · rcases htail with ht | ⟨ht, ht2⟩
      · subst ht; simpa using h2
      · subst ht; simp only [List.length_nil, Nat.add_zero, List.length_drop]; omega
  rw [append_ty hx hu (some ⟨b, 0, .none⟩) n cap vx tf.info]
  rcases hd with ⟨h4, h5⟩ | ⟨l3, ys, ad, cap2, h4, h5, h6, h7⟩
  · subst h4 h5
    simp only [D.els, Option.some.injEq] at hl2
    exact none hl2.symm (append_none hu tf.info h2)
  · subst h4 h5
    simp only [D.els, Option.some.injEq] at hl2
    subst hl2
    cases hl3 : l3 with
    | nil => exact hl3 ▸ none hl3 (by rw [hl3]; exact append_zero hu tf.info h2)
    | cons d0 l4 =>
    rw [← hl3]
    have hpos : 0 < l3.length := by rw [hl3]; simp
    clear hl3
    have hyl : ys.length = l3.length * i.size := by rw [tf.size]; exact h6.length
    by_cases hfit : n + l3.length ≤ cap
    · have hf2 : n * i.size + ys.length ≤ c.size := by
        rw [hyl, ← Nat.add_mul, tf.size]
        exact Nat.le_trans (Nat.mul_le_mul_right _ hfit) h3
      have hrun := append_room (P := cx.P) (w := X.w) (ty := tt) hu tf.info hh hyl h7 h6.ones hfit hf2 (c := cap2)
      have hsz : (patch c.toList (n * i.size) ys).toArray.size = c.size := by
        have := patch_length (cs := c.toList) (cv := ys) (o := n * i.size) (by simpa using hf2)
        simpa using this
      refine ⟨_, b, cap, c.size, hrun, below_setRow (Below.refl _ _) hlow _, ?_, ?_, by simp [bsize, setRow_heap _ _ _ _ _ _ hh, hsz], h3⟩
      · have hcells := setRow_heap _ _ _ (patch c.toList (n * i.size) ys).toArray _ _ hh
        have hoth : ∀ q, q < X.w.heap.size → q ≠ b → (X.w.setRow b (patch c.toList (n * i.size) ys).toArray).heap[q]? = X.w.heap[q]? := fun q _ hq => setRow_other _ _ _ _ hq
        have hbs : ∀ q n', bsize X.w q = some n' → bsize (X.w.setRow b (patch c.toList (n * i.size) ys).toArray) q = some n' := fun q n' h => bsize_setRow hh hsz h
        have e1 : (patch c.toList (n * i.size) ys) = xs.take (n * e.size) ++ (ys ++ c.toList.drop (n * i.size + ys.length)) := by
          simp only [patch, List.append_assoc]
          congr 1
          rw [tf.size, ← hc, List.take_take, Nat.min_eq_left hmul]
        have hl1 : (xs.take (n * e.size)).length = n * e.size := by rw [List.length_take, Nat.min_eq_left hmul]
        rcases htail with ht | ⟨ht, _⟩
        · subst ht
          simp only [List.append_nil] at fin
          refine fin hoth hbs (.inl rfl) hcells ((hx0.take n).append h6) ?_
          show (patch c.toList (n * i.size) ys).take _ = _
          rw [e1, ← List.append_assoc]
          exact List.take_left' rfl
        · subst ht
          refine fin hoth hbs (.inl rfl) hcells ((hx0.take n).append (h6.append (hx0.drop (n + l3.length)))) ?_
          show (patch c.toList (n * i.size) ys).take _ = _
          have e2 : n * i.size + ys.length = (n + l3.length) * e.size := by rw [hyl, ← Nat.add_mul, tf.size]
          rw [e1, e2]
          have e3 : xs.drop ((n + l3.length) * e.size) = (c.toList.drop ((n + l3.length) * e.size)).take (xs.length - (n + l3.length) * e.size) := by
            conv => lhs; rw [← hc, List.drop_take]
          rw [e3]
          simp only [List.length_append]
          rw [← List.append_assoc, ← List.append_assoc, ← Nat.add_assoc, List.take_append, List.take_of_length_le (by simp only [List.length_append]; omega)]
          congr 1
          simp only [List.length_append, Nat.add_sub_cancel_left]
          rw [List.length_take, List.take_eq_take_iff]
          simp only [List.length_drop]
          omega
      · rcases htail with ht | ⟨ht, ht2⟩
        · subst ht; simpa using hfit
        · subst ht; simp only [List.length_drop]; omega
    · have htl : tail = [] := by
        rcases htail with ht | ⟨ht, ht2⟩
        · exact ht
        · rw [ht]; exact List.drop_eq_nil_of_le (by omega)
      subst htl
      obtain ⟨z, hz, hzd⟩ := tf.zero
      have hzs : z.cells.size = i.size := by have := (hzd X.w X.M).cells.length; rw [tf.size, ← this]; simp
      simp only [Cx.by_, Program.bytesOf, tf.info, Option.map_some, Option.getD_some] at hroom
      have hl1 : (xs.take (n * e.size)).length = n * i.size := by rw [List.length_take, Nat.min_eq_left hmul, tf.size]
      obtain ⟨cap', cells, hrun, hc1, hc2, hc3⟩ := append_new (P := cx.P) (w := X.w) (ty := tt) hu tf.info hz hzs (A := some ⟨b, 0, .none⟩) (n := n) (c := cap) (olds := xs.take (n * e.size))
        (.inr ⟨_, rfl, hl1, fun j v hj => by
          rw [addr_add, Nat.zero_add]
          rw [List.getElem?_take] at hj
          split at hj
          · exact cell_take hh hc hj
          · cases hj⟩) (a := ad) (m := l3.length) (c' := cap2) hyl h7 (by omega) hroom
      have hbel : Below X.w.heap.size X.w (X.w.drew.alloc (.cells cells E)) := ((Below.refl _ _).drew).alloc (Nat.le_refl _) _
      refine ⟨_, X.w.heap.size, cap', cells.size, hrun, hbel.mono hB, ?_, by simpa using hc1, ?_, by rw [← tf.size]; exact hc2⟩
      · simp only [List.append_nil] at fin
        refine fin (fun q hq _ => hbel.block q hq) (fun q n' h => (bsize_of_heap (hbel.block q (bsize_some h))).trans h) (.inr rfl) (heap_alloc_new X.w.drew _) ((hx0.take n).append h6) hc3
      · have := heap_alloc_new X.w.drew (.cells cells E)
        have h' : (X.w.drew.alloc (.cells cells E)).heap[X.w.heap.size]? = some (.cells cells E) := this
        unfold bsize
        rw [h']
end

end Go.SX

/- append: a matrix to a matrix. -/
namespace Go.SX
open Go.RowKit (Below)

theorem opts_append : ∀ (l m : List (Option Nat)), opts (l ++ m) = opts l ++ opts m
  | [], _ => rfl
  | some b :: l, m => by simp only [List.cons_append, opts, opts_append l m]
  | none :: l, m => by simp only [List.cons_append, opts, opts_append l m]
theorem RowCells.append {w : World} {M : Nat → Prop} {e : Ty} : ∀ {os os' : List (Option Nat)} {ds ds' : List D} {vs vs' : List Value}, RowCells w M e os ds vs → RowCells w M e os' ds' vs' → RowCells w M e (os ++ os') (ds ++ ds') (vs ++ vs')
  | [], _, [], _, [], _, _, h => h
  | _ :: _, _, _ :: _, _, _ :: _, _, h, h' => ⟨h.1, RowCells.append h.2 h'⟩
  | [], _, _ :: _, _, _, _, h, _ | _ :: _, _, [], _, _, _, h, _ | [], _, [], _, _ :: _, _, h, _ | _ :: _, _, _ :: _, _, [], _, h, _ => by simp only [RowCells] at h
theorem RowCells.ones {w : World} {M : Nat → Prop} {e : Ty} : ∀ {os : List (Option Nat)} {ds : List D} {vs : List Value}, RowCells w M e os ds vs → ∀ v ∈ vs, One v
  | [], [], [], _, v, hv => by cases hv
  | _ :: os, _ :: ds, _ :: vs, h, v, hv => by
    rcases List.mem_cons.1 hv with hv | hv
    · subst hv; exact h.1.one
    · exact RowCells.ones h.2 v hv
  | [], _ :: _, _, h, _, _ | _ :: _, [], _, h, _, _ | [], [], _ :: _, h, _, _ | _ :: _, _ :: _, [], h, _, _ => by simp only [RowCells] at h

section
variable {k B0 : Nat} {X : Ctx} {cx : Cx}

/-- Roots become one matrix. -/
theorem Mem.fuse {e : Ty} {r' g : Nat} {a : At} {rs : List Nat} {rows : List (Option Nat)} {ds : List D} {vs : List Value} {w' : World} {c : Array Value} {te : TypeId} (m : Mem B0 X) (hB : B0 ≤ X.w.heap.size) (hrs : ∀ q ∈ rs, X.A q) (hn : ¬ X.A r')
    (hw : ∀ b, b < X.w.heap.size → (∀ s ∈ rs, b ∉ (X.μ s).own (X.β s)) → w'.heap[b]? = X.w.heap[b]?) (hs : ∀ b n, bsize X.w b = some n → bsize w' b = some n)
    (hrows : ∀ b ∈ opts rows, (∃ s ∈ rs, b ∈ (X.μ s).own (X.β s)) ∧ w'.heap[b]? = X.w.heap[b]?) (hg : X.w.heap.size ≤ g ∨ ∃ s ∈ rs, g ∈ (X.μ s).own (X.β s)) (hgn : g ∉ opts rows) (hnd : (opts rows).Nodup)
    (ha : a.get X.E = some (.sl ds)) (hh : w'.heap[g]? = some (.cells c te (0, 0))) (hcells : RowCells X.w X.M e rows ds vs) (hc : c.toList.take vs.length = vs) :
    Ext X (X.joined w' rs r' (.mat e a 0) ⟨some g, rows⟩) ∧ Mem B0 (X.joined w' rs r' (.mat e a 0) ⟨some g, rows⟩) := by
  have hrn : r' ∉ rs := fun h => hn (hrs r' h)
  have hr : (X.joined w' rs r' (.mat e a 0) ⟨some g, rows⟩).μ r' = .mat e a 0 := by simp [Ctx.joined, upd_same]
  have hβ : (X.joined w' rs r' (.mat e a 0) ⟨some g, rows⟩).β r' = ⟨some g, rows⟩ := by simp [Ctx.joined, upd_same]
  have hdead : ∀ q ∈ rs, (X.joined w' rs r' (.mat e a 0) ⟨some g, rows⟩).μ q = .dead := fun q hq => by
    have : q ≠ r' := fun h => hrn (h ▸ hq)
    simp only [Ctx.joined, upd_ne _ _ this]
    rw [if_pos hq]
  refine Mem.change m hB (fun q => q = r' ∨ q ∈ rs) (fun _ _ h => h) (fun _ h => .inl h) (fun q h => h.imp id .inl) (fun q hq => ?_) (fun b hlt hb => hw b hlt fun s h => hb s (.inr h) (hrs s h)) hs ?_ ?_ ?_ ?_ ?_ ?_
  · have h1 : q ≠ r' := fun h => hq (.inl h)
    have h2 : q ∉ rs := fun h => hq (.inr h)
    refine ⟨?_, by simp [Ctx.joined, upd_ne _ _ h1]⟩
    simp only [Ctx.joined, upd_ne _ _ h1]
    rw [if_neg h2]
  · intro q b hq _ hm
    rcases hq with hq | hq
    · subst hq
      rw [hr, hβ] at hm
      simp only [Root.own, Option.toList, List.singleton_append, List.mem_cons] at hm
      rcases hm with hm | hm
      · subst hm
        rcases hg with hg | ⟨s, h1, h2⟩
        · exact .inl hg
        · exact .inr ⟨s, .inr h1, hrs s h1, h2⟩
      · obtain ⟨⟨s, h1, h2⟩, _⟩ := hrows b hm
        exact .inr ⟨s, .inr h1, hrs s h1, h2⟩
    · rw [hdead q hq] at hm
      simp [Root.own] at hm
  · intro q q' b hq hq' _ _ hm hm'
    have no : ∀ {q}, q ∈ rs → b ∈ ((X.joined w' rs r' (.mat e a 0) ⟨some g, rows⟩).μ q).own ((X.joined w' rs r' (.mat e a 0) ⟨some g, rows⟩).β q) → False := fun h hm => by
      rw [hdead _ h] at hm
      simp [Root.own] at hm
    rcases hq with hq | hq
    · rcases hq' with hq' | hq'
      · rw [hq, hq']
      · exact (no hq' hm').elim
    · exact (no hq hm).elim
  · intro q hq _
    rcases hq with hq | hq
    · subst hq
      rw [hr, hβ]
      simp only [Root.own, Option.toList, List.singleton_append, List.nodup_cons]
      exact ⟨hgn, hnd⟩
    · rw [hdead q hq]
      simp [Root.own]
  · intro q hq hA
    rcases hq with hq | hq
    · exact absurd (hq ▸ hA) hn
    · have : q ≠ r' := fun h => hrn (h ▸ hq)
      simp [Ctx.joined, upd_ne _ _ this]
  · intro q hq hA ht
    rcases hq with hq | hq
    · exact absurd (hq ▸ hA) hn
    · rw [hdead q hq] at ht
      cases ht
  · intro x q hq _
    rcases hq with hq | hq
    · subst hq
      rw [hr]
      refine ⟨_, ha, .inr ⟨g, c, te, ds, vs, by rw [hβ], rfl, hh, ?_, hc⟩⟩
      rw [hβ]
      exact RowCells.keep x.K (fun b hb' => (hrows b (mem_opts.2 hb')).2) hcells
    · rw [hdead q hq]
      trivial

/-- Roots are given up for a matrix that is nil. -/
theorem Mem.fuseNil {e : Ty} {r' : Nat} {a : At} {rs : List Nat} (m : Mem B0 X) (hB : B0 ≤ X.w.heap.size) (hrs : ∀ q ∈ rs, X.A q) (hn : ¬ X.A r') (ha : a.get X.E = some .nil) :
    Ext X (X.joined X.w rs r' (.mat e a 0) ⟨none, []⟩) ∧ Mem B0 (X.joined X.w rs r' (.mat e a 0) ⟨none, []⟩) := by
  have hrn : r' ∉ rs := fun h => hn (hrs r' h)
  have hr : (X.joined X.w rs r' (.mat e a 0) ⟨none, []⟩).μ r' = .mat e a 0 := by simp [Ctx.joined, upd_same]
  have hβ : (X.joined X.w rs r' (.mat e a 0) ⟨none, []⟩).β r' = ⟨none, []⟩ := by simp [Ctx.joined, upd_same]
  have hdead : ∀ q ∈ rs, (X.joined X.w rs r' (.mat e a 0) ⟨none, []⟩).μ q = .dead := fun q hq => by
    have : q ≠ r' := fun h => hrn (h ▸ hq)
    simp only [Ctx.joined, upd_ne _ _ this]
    rw [if_pos hq]
  have none : ∀ {q b}, (q = r' ∨ q ∈ rs) → b ∈ ((X.joined X.w rs r' (.mat e a 0) ⟨none, []⟩).μ q).own ((X.joined X.w rs r' (.mat e a 0) ⟨none, []⟩).β q) → False := fun {q b} hq hm => by
    rcases hq with hq | hq
    · subst hq
      rw [hr, hβ] at hm
      simp [Root.own, opts] at hm
    · rw [hdead q hq] at hm
      simp [Root.own] at hm
  refine Mem.change m hB (fun q => q = r' ∨ q ∈ rs) (fun _ _ h => h) (fun _ h => .inl h) (fun q h => h.imp id .inl) (fun q hq => ?_) (fun b hlt hb => rfl) (fun _ _ h => h) ?_ ?_ ?_ ?_ ?_ ?_
  · have h1 : q ≠ r' := fun h => hq (.inl h)
    have h2 : q ∉ rs := fun h => hq (.inr h)
    refine ⟨?_, by simp [Ctx.joined, upd_ne _ _ h1]⟩
    simp only [Ctx.joined, upd_ne _ _ h1]
    rw [if_neg h2]
  · intro q b hq _ hm
    exact (none hq hm).elim
  · intro q q' b hq hq' _ _ hm hm'
    exact (none hq hm).elim
  · intro q hq _
    rcases hq with hq | hq
    · subst hq
      rw [hr, hβ]
      simp [Root.own, opts]
    · rw [hdead q hq]
      simp [Root.own]
  · intro q hq hA
    rcases hq with hq | hq
    · exact absurd (hq ▸ hA) hn
    · have : q ≠ r' := fun h => hrn (h ▸ hq)
      simp [Ctx.joined, upd_ne _ _ this]
  · intro q hq hA ht
    rcases hq with hq | hq
    · exact absurd (hq ▸ hA) hn
    · rw [hdead q hq] at ht
      cases ht
  · intro x q hq _
    rcases hq with hq | hq
    · subst hq
      rw [hr]
      exact ⟨_, ha, .inl ⟨by rw [hβ], by rw [hβ], rfl⟩⟩
    · rw [hdead q hq]
      trivial

/-- A slice of rows, each a block of its own. -/
def MatVal (X : Ctx) (e : Ty) (rs : List Nat) (d : D) (v : Value) : Prop :=
  (d = .nil ∧ v = .slice none 0 0) ∨ ∃ rows l xs b c te cap s, d = .sl l ∧ RowCells X.w X.M e rows l xs ∧ (∀ b ∈ opts rows, ∃ s ∈ rs, b ∈ (X.μ s).own (X.β s)) ∧ (opts rows).Nodup ∧
    v = .slice (some ⟨b, 0, none⟩) l.length cap ∧ l.length ≤ cap ∧ X.w.heap[b]? = some (.cells c te (0, 0)) ∧ cap ≤ c.size ∧ c.toList.take xs.length = xs ∧ s ∈ rs ∧ b ∈ (X.μ s).own (X.β s) ∧ b ∉ opts rows

theorem mat_val (m : Mem B0 X) {e : Ty} {r g : Nat} {a : At} {d : D} {v : Value} (hv : Ref X (.h (.sl e) r none) v) (hR : X.μ r = .mat e a g) (ha : a.get X.E = some d) : MatVal X e [r] d v := by
  simp only [Ref] at hv
  obtain ⟨_, hA, hh⟩ := hv
  have hrep := m.rep r hA
  have hnd := m.once r hA
  rw [hR] at hrep hnd
  obtain ⟨a', d', h1, h2, h3⟩ := hh (by rw [hR]; rfl)
  rw [hR] at h1
  simp only [Root.row?, Option.some.injEq, Prod.mk.injEq, true_and] at h1
  subst h1
  rw [ha] at h2
  injection h2 with h2
  subst h2
  obtain ⟨d2, g1, g2⟩ := hrep
  rw [ha] at g1
  injection g1 with g1
  subst g1
  rcases g2 with ⟨p1, _, p3⟩ | ⟨b, c, te, l, xs, p1, p2, p3, p4, p5⟩
  · rcases h3 with ⟨_, q2, _⟩ | ⟨b, l, q1, _⟩
    · rcases q2 with q2 | ⟨q2, _⟩
      · exact .inl q2
      · rw [p3] at q2; cases q2
    · rw [p1] at q1; cases q1
  · subst p2
    rcases h3 with ⟨q1, _⟩ | ⟨b', l', q1, q2, cap, bs, q3, q4, q5, q6⟩
    · rw [p1] at q1; cases q1
    · rw [p1] at q1
      injection q1 with q1
      injection q2 with q2
      subst q1 q2
      simp only [Root.own, p1, Option.toList, List.singleton_append, List.nodup_cons] at hnd
      simp only [bsize, p3, Option.some.injEq] at q5
      refine .inr ⟨_, l, xs, b, c, te, cap, r, rfl, p4, fun b' hb' => ⟨r, by simp, ?_⟩, hnd.2, q3, q4, p3, ?_, p5, by simp, ?_, hnd.1⟩
      · rw [hR]; simp only [Root.own, p1, Option.toList, List.singleton_append, List.mem_cons]; exact .inr hb'
      · rw [q5]
        simpa [Ty.size] using q6
      · rw [hR]; simp [Root.own, p1]

theorem mat_href {X' : Ctx} {e : Ty} {r' g : Nat} {a : At} {rows : List (Option Nat)} {l : List D} {c : Array Value} {te cap : Nat} (hA : X'.A r') (hμ : X'.μ r' = .mat e a 0) (hβ : X'.β r' = ⟨some g, rows⟩) (ha : a.get X'.E = some (.sl l))
    (hh : X'.w.heap[g]? = some (.cells c te (0, 0))) (h1 : l.length ≤ cap) (h2 : cap ≤ c.size) : VRep X' (.h (.sl e) r' none) (.slice (some ⟨g, 0, none⟩) l.length cap) := by
  simp only [VRep, Ref]
  refine ⟨one_slice _ _ _, hA, fun _ => ⟨a, _, by rw [hμ]; rfl, ha, .inr ⟨g, l, by rw [hβ], rfl, cap, c.size, rfl, h1, by simp [bsize, hh], ?_⟩⟩⟩
  simpa [Ty.size] using h2

/-- append of one to another. -/
theorem append_mat (hB : B0 ≤ X.w.heap.size) (m : Mem B0 X) {t E tt : TypeId} {e : Ty} {i : TypeInfo} (hu : cx.P.underlying t = some (.slice E)) (tf : TyFact cx E (.sl e) i) {xt E2 : TypeId} (hx : cx.P.underlying xt = some (.slice E2)) {rs1 rs2 : List Nat} {r' : Nat}
    (hrs : ∀ q ∈ rs1 ++ rs2, X.A q) (hdis : ∀ q ∈ rs1, q ∉ rs2) (hn : ¬ X.A r') {d1 d2 dn : D} {v1 v2 : Value} (h1 : MatVal X e rs1 d1 v1) (h2 : MatVal X e rs2 d2 v2) (happ : appD (cx.by_ E) d1 d2 = some dn) {a : At} (ha : a.get X.E = some dn) :
    ∃ v w' p, (Builtin.append_ #[t, xt] tt #[v1, v2]).run cx.P X.w = .ok v w' ∧ Below B0 X.w w' ∧
      (Ext X (X.joined w' (rs1 ++ rs2) r' (.mat e a 0) p) ∧ Mem B0 (X.joined w' (rs1 ++ rs2) r' (.mat e a 0) p)) ∧ VRep (X.joined w' (rs1 ++ rs2) r' (.mat e a 0) p) (.h (.sl e) r' none) v := by
  have hsz : i.size = 1 := by rw [tf.size]; rfl
  have hjμ : ∀ {w'} {p}, (X.joined w' (rs1 ++ rs2) r' (.mat e a 0) p).μ r' = .mat e a 0 := by intro w' p; simp [Ctx.joined, upd_same]
  have hjβ : ∀ {w'} {p}, (X.joined w' (rs1 ++ rs2) r' (.mat e a 0) p).β r' = p := by intro w' p; simp [Ctx.joined, upd_same]
  have hjA : ∀ {w'} {p}, (X.joined w' (rs1 ++ rs2) r' (.mat e a 0) p).A r' := by intro w' p; exact .inr rfl
  -- the first one stays as it is
  have stay : ∀ {v2 : Value}, dn = d1 → (∀ A n c, v1 = .slice A n c → n ≤ c → (Builtin.append_ #[t, t] tt #[.slice A n c, v2]).run cx.P X.w = .ok (.slice A n c) X.w) → ∃ v w' p, (Builtin.append_ #[t, xt] tt #[v1, v2]).run cx.P X.w = .ok v w' ∧ Below B0 X.w w' ∧
      (Ext X (X.joined w' (rs1 ++ rs2) r' (.mat e a 0) p) ∧ Mem B0 (X.joined w' (rs1 ++ rs2) r' (.mat e a 0) p)) ∧ VRep (X.joined w' (rs1 ++ rs2) r' (.mat e a 0) p) (.h (.sl e) r' none) v := by
    intro v2 hdn hrun
    rcases h1 with ⟨p1, p2⟩ | ⟨rows, l, xs, b, c, te, cap, s, q1, q2, q3, q4, q5, q6, q7, q8, q9, q10, q11, q12⟩
    · subst p2
      rw [hdn, p1] at ha
      refine ⟨_, X.w, ⟨none, []⟩, by rw [append_ty hx hu _ _ _ _ tf.info]; exact hrun _ _ _ rfl (Nat.le_refl _), Below.refl _ _, m.fuseNil hB hrs hn ha, ?_⟩
      simp only [VRep, Ref]
      exact ⟨one_slice _ _ _, hjA, fun _ => ⟨a, _, by rw [hjμ]; rfl, ha, .inl ⟨by rw [hjβ], .inl ⟨rfl, rfl⟩, trivial⟩⟩⟩
    · subst q5
      rw [hdn, q1] at ha
      refine ⟨_, X.w, ⟨some b, rows⟩, by rw [append_ty hx hu _ _ _ _ tf.info]; exact hrun _ _ _ rfl q6, Below.refl _ _, m.fuse hB hrs hn (fun _ _ _ => rfl) (fun _ _ h => h) (fun b hb => ⟨?_, rfl⟩) (.inr ⟨s, List.mem_append_left _ q10, q11⟩) q12 q4 ha q7 q2 q9, ?_⟩
      · obtain ⟨s, g1, g2⟩ := q3 b hb
        exact ⟨s, List.mem_append_left _ g1, g2⟩
      · exact mat_href hjA hjμ hjβ ha q7 q6 q8
  rcases h2 with ⟨p1, p2⟩ | ⟨rows2, l2, xs2, b2, c2, te2, cap2, s2, q1, q2, q3, q4, q5, q6, q7, q8, q9, q10, q11, q12⟩
  · subst p1 p2
    refine stay ?_ fun A n c _ hnc => append_none hu tf.info hnc
    unfold appD at happ
    simp only [D.els] at happ
    cases d1 <;> simp [D.els] at happ
    · exact happ.2.symm
    · exact happ.2.symm
  · subst q1 q5
    cases hl2 : l2 with
    | nil =>
      subst hl2
      refine stay ?_ fun A n c _ hnc => append_zero hu tf.info hnc
      unfold appD at happ
      simp only [D.els] at happ
      cases d1 <;> simp [D.els] at happ
      · exact happ.2.symm
      · exact happ.2.symm
    | cons d0 l20 =>
    have hpos : 0 < l2.length := by rw [hl2]; simp
    have hne : l2 ≠ [] := by rw [hl2]; simp
    rw [← hl2]
    clear hl2
    have hlen2 := RowCells.lens q2
    have hyl : xs2.length = l2.length * i.size := by rw [hsz, hlen2.2]; omega
    have hnews : ∀ j u, xs2[j]? = some u → X.w.cell? ((⟨b2, 0, none⟩ : Addr).add j) = some u := fun j u hj => by
      rw [addr_add, Nat.zero_add]
      exact cell_take q7 q9 hj
    have own2 : ∀ b ∈ opts rows2, (∃ s ∈ rs1 ++ rs2, b ∈ (X.μ s).own (X.β s)) := fun b hb => by
      obtain ⟨s, g1, g2⟩ := q3 b hb
      exact ⟨s, List.mem_append_right _ g1, g2⟩
    obtain ⟨z, hz, hzd⟩ := tf.zero
    have hzs : z.cells.size = i.size := by have := (hzd X.w X.M).cells.length; rw [tf.size, ← this]; simp
    rcases h1 with ⟨p1, p2⟩ | ⟨rows, l, xs, b, c, te, cap, s, f1, f2, f3, f4, f5, f6, f7, f8, f9, f10, f11, f12⟩
    · subst p1 p2
      have happ' : roomOk l2.length (cx.by_ E) = true ∧ dn = .sl l2 := by
        unfold appD at happ
        simp only [D.els, List.length_nil, Nat.zero_add, List.nil_append] at happ
        split at happ
        · rename_i hr
          injection happ with happ
          refine ⟨hr, ?_⟩
          rw [← happ]
          cases l2 with
          | nil => exact absurd rfl hne
          | cons _ _ => rfl
        · cases happ
      obtain ⟨hroom, hdn⟩ := happ'
      subst hdn
      simp only [Cx.by_, Program.bytesOf, tf.info, Option.map_some, Option.getD_some] at hroom
      obtain ⟨cap', cells, hrun, hc1, hc2, hc3⟩ := append_new (P := cx.P) (w := X.w) (ty := tt) hu tf.info hz hzs (A := none) (n := 0) (c := 0) (olds := []) (.inl ⟨rfl, rfl, rfl, rfl⟩) (a := ⟨b2, 0, none⟩) (m := l2.length) (c' := cap2) hyl hnews (by omega) (by rw [Nat.zero_add]; exact hroom)
      have hbel : Below X.w.heap.size X.w (X.w.drew.alloc (.cells cells E)) := ((Below.refl _ _).drew).alloc (Nat.le_refl _) _
      rw [Nat.zero_add] at hrun hc1
      rw [List.nil_append] at hc3
      refine ⟨_, _, ⟨some X.w.heap.size, rows2⟩, by rw [append_ty hx hu _ _ _ _ tf.info]; exact hrun, hbel.mono hB, m.fuse hB hrs hn (fun b hb _ => hbel.block b hb) (fun b n h => (bsize_of_heap (hbel.block b (bsize_some h))).trans h) (fun b hb => ⟨own2 b hb, hbel.block b ?_⟩) (.inl (Nat.le_refl _)) (fun hb => ?_) q4 ha (heap_alloc_new X.w.drew _) q2 hc3, ?_⟩
      · obtain ⟨s, g1, g2⟩ := own2 b hb
        exact m.lt (hrs s g1) g2
      · obtain ⟨s, g1, g2⟩ := own2 _ hb
        have := m.lt (hrs s g1) g2
        omega
      · exact mat_href hjA hjμ hjβ ha (heap_alloc_new X.w.drew _) hc1 (by rw [hsz] at hc2; omega)
    · subst f1 f5
      have happ' : roomOk (l.length + l2.length) (cx.by_ E) = true ∧ dn = .sl (l ++ l2) := by
        unfold appD at happ
        simp only [D.els] at happ
        split at happ
        · rename_i hr
          injection happ with happ
          exact ⟨hr, happ.symm⟩
        · cases happ
      obtain ⟨hroom, hdn⟩ := happ'
      subst hdn
      have hlen1 := RowCells.lens f2
      have sdis : ∀ b, (∃ s ∈ rs1, b ∈ (X.μ s).own (X.β s)) → (∃ s ∈ rs2, b ∈ (X.μ s).own (X.β s)) → False := fun b ⟨s, g1, g2⟩ ⟨s', g3, g4⟩ => by
        have := m.apart s s' b (hrs s (List.mem_append_left _ g1)) (hrs s' (List.mem_append_right _ g3)) g2 g4
        subst this
        exact hdis s g1 g3
      have hnd : (opts (rows ++ rows2)).Nodup := by
        rw [opts_append]
        exact List.nodup_append.2 ⟨f4, q4, fun b hb b' hb' e => by subst e; exact sdis b (f3 b hb) (q3 b hb')⟩
      have hownall : ∀ b' ∈ opts (rows ++ rows2), (∃ s ∈ rs1 ++ rs2, b' ∈ (X.μ s).own (X.β s)) := fun b' hb' => by
        rw [opts_append] at hb'
        rcases List.mem_append.1 hb' with hb' | hb'
        · obtain ⟨s, g1, g2⟩ := f3 b' hb'
          exact ⟨s, List.mem_append_left _ g1, g2⟩
        · exact own2 b' hb'
      have hbn : b ∉ opts (rows ++ rows2) := by
        rw [opts_append]
        intro hb
        rcases List.mem_append.1 hb with hb | hb
        · exact f12 hb
        · exact sdis b ⟨s, f10, f11⟩ (q3 b hb)
      have hcells := RowCells.append f2 q2
      have hxl : xs.length = l.length := hlen1.2
      have hxc : xs.length ≤ c.toList.length := by rw [← f9, List.length_take]; omega
      by_cases hfit : l.length + l2.length ≤ cap
      · have hf2 : l.length * i.size + xs2.length ≤ c.size := by rw [hyl, hsz]; omega
        have hrun := append_room (P := cx.P) (w := X.w) (ty := tt) hu tf.info f7 hyl hnews q2.ones hfit hf2 (c := cap2)
        have hsz2 : (patch c.toList (l.length * i.size) xs2).toArray.size = c.size := by
          have := patch_length (cs := c.toList) (cv := xs2) (o := l.length * i.size) (by simpa using hf2)
          simpa using this
        have hlow := m.low s b (hrs s (List.mem_append_left _ f10)) f11
        have hc' : (patch c.toList (l.length * i.size) xs2).toArray.toList.take (xs ++ xs2).length = xs ++ xs2 := by
          show (patch c.toList (l.length * i.size) xs2).take _ = _
          simp only [patch, hsz, Nat.mul_one]
          rw [← hxl, f9]
          exact List.take_left' rfl
        refine ⟨_, _, ⟨some b, rows ++ rows2⟩, by rw [append_ty hx hu _ _ _ _ tf.info]; exact hrun, below_setRow (Below.refl _ _) hlow _, m.fuse hB hrs hn (fun q hq hb => setRow_other _ _ _ _ fun e => hb s (List.mem_append_left _ f10) (e ▸ f11)) (fun q n' h => bsize_setRow f7 hsz2 h) (fun b' hb' => ⟨hownall b' hb', setRow_other _ _ _ _ fun e => hbn (e ▸ hb')⟩) (.inr ⟨s, List.mem_append_left _ f10, f11⟩) hbn hnd ha (setRow_heap _ _ _ _ _ _ f7) hcells hc', ?_⟩
        have := mat_href (X' := X.joined (X.w.setRow b (patch c.toList (l.length * i.size) xs2).toArray) (rs1 ++ rs2) r' (.mat e a 0) ⟨some b, rows ++ rows2⟩) (cap := cap) hjA hjμ hjβ ha (setRow_heap _ _ _ _ _ _ f7) (by rw [List.length_append]; exact hfit) (by rw [hsz2]; exact f8)
        rw [List.length_append] at this
        exact this
      · simp only [Cx.by_, Program.bytesOf, tf.info, Option.map_some, Option.getD_some] at hroom
        obtain ⟨cap', cells, hrun, hc1, hc2, hc3⟩ := append_new (P := cx.P) (w := X.w) (ty := tt) hu tf.info hz hzs (A := some ⟨b, 0, .none⟩) (n := l.length) (c := cap) (olds := xs)
          (.inr ⟨_, rfl, by rw [hsz, hxl]; omega, fun j v hj => by
            rw [addr_add, Nat.zero_add]
            exact cell_take f7 f9 hj⟩) (a := ⟨b2, 0, none⟩) (m := l2.length) (c' := cap2) hyl hnews (by omega) hroom
        have hbel : Below X.w.heap.size X.w (X.w.drew.alloc (.cells cells E)) := ((Below.refl _ _).drew).alloc (Nat.le_refl _) _
        refine ⟨_, _, ⟨some X.w.heap.size, rows ++ rows2⟩, by rw [append_ty hx hu _ _ _ _ tf.info]; exact hrun, hbel.mono hB, m.fuse hB hrs hn (fun b hb _ => hbel.block b hb) (fun b n h => (bsize_of_heap (hbel.block b (bsize_some h))).trans h) (fun b hb => ⟨hownall b hb, hbel.block b ?_⟩) (.inl (Nat.le_refl _)) (fun hb => ?_) hnd ha (heap_alloc_new X.w.drew _) hcells hc3, ?_⟩
        · obtain ⟨s, g1, g2⟩ := hownall b hb
          exact m.lt (hrs s g1) g2
        · obtain ⟨s, g1, g2⟩ := hownall _ hb
          have := m.lt (hrs s g1) g2
          omega
        · have := mat_href (X' := X.joined (X.w.drew.alloc (.cells cells E)) (rs1 ++ rs2) r' (.mat e a 0) ⟨some X.w.heap.size, rows ++ rows2⟩) (cap := cap') hjA hjμ hjβ ha (heap_alloc_new X.w.drew _) (by rw [List.length_append]; exact hc1) (by rw [hsz] at hc2; omega)
          rw [List.length_append] at this
          exact this

theorem matSrc_run {e : Ty} {x : SV} {μ : Nat → Root} {σ σ' : SS} {o : Option (Nat × At)} (h : Run (matSrc e x) μ σ o σ') : σ' = σ ∧ ∀ r a, o = some (r, a) → ∃ e' g, e = .sl e' ∧ x = .h (.sl e') r none ∧ now μ σ.up r = .mat e' a g := by
  unfold matSrc at h
  split at h
  · rename_i e' e'' r
    obtain ⟨RR, s1, h1, h2⟩ := Run.bind h
    obtain ⟨e1, es⟩ := Run.root h1
    subst es
    split at h2
    · rename_i e3 a g
      rcases Run.ite h2 with ⟨hb, h3⟩ | ⟨_, h3⟩
      · obtain ⟨e2, e4⟩ := Run.pure h3
        subst e2 e4
        simp only [Bool.and_eq_true] at hb
        have hb1 := Ty.beq_eq hb.1
        have hb2 := Ty.beq_eq hb.2
        subst hb1 hb2
        refine ⟨rfl, fun r' a' he => ?_⟩
        injection he with he
        injection he with he1 he2
        subst he1 he2
        exact ⟨_, g, rfl, rfl, e1.symm⟩
      · obtain ⟨e2, e4⟩ := Run.pure h3
        subst e2 e4
        exact ⟨rfl, fun _ _ he => by cases he⟩
    · obtain ⟨e2, e4⟩ := Run.pure h2
      subst e2 e4
      exact ⟨rfl, fun _ _ he => by cases he⟩
  · obtain ⟨e2, e4⟩ := Run.pure h
    subst e2 e4
    exact ⟨rfl, fun _ _ he => by cases he⟩
theorem killAll_run {μ : Nat → Root} : ∀ {l : List Nat} {σ σ' : SS} {u : Unit}, Run (killAll l) μ σ u σ' → σ' = { σ with up := (l.map fun r => (r, Root.dead)).reverse ++ σ.up }
  | [], σ, σ', u, h => by
    simp only [killAll] at h
    obtain ⟨_, e⟩ := Run.pure h
    subst e
    rfl
  | r :: l, σ, σ', u, h => by
    simp only [killAll] at h
    obtain ⟨_, s1, h1, h2⟩ := Run.bind h
    have es := Run.put h1
    subst es
    have := killAll_run h2
    rw [this]
    simp

theorem fuseMat_acts {C : FuncId → List D → Option (List D)} (hB : B0 ≤ X.w.heap.size) (m : Mem B0 X) {t E tt : TypeId} {e : Ty} {i : TypeInfo} (hu : cx.P.underlying t = some (.slice E)) (tf : TyFact cx E (.sl e) i) {xt E2 : TypeId} (hx : cx.P.underlying xt = some (.slice E2))
    {σ s' : SS} {o a2 : At} {rs : List Nat} {r2 : Nat} {sv : SV} (h0 : σ.up = []) (h : Run (fuseMat (.sl e) (cx.by_ E) o (rs ++ [r2]) a2) X.μ σ sv s') (hs : Sat C k X.E s'.bs s'.nv) (hfr : ∀ q, σ.ab ≤ q → q < s'.ab → ¬ X.A q)
    {d1 : D} {v1 v2 : Value} (hrs : ∀ q ∈ rs, X.A q) (hne : r2 ∉ rs) (ho : o.get X.E = some d1) (h1 : MatVal X e rs d1 v1) {g : Nat} (hR : X.μ r2 = .mat e a2 g) (hv : VRep X (.h (.sl e) r2 none) v2) :
    Acts cx.P B0 X (Builtin.append_ #[t, xt] tt #[v1, v2]) σ s' fun X' v => VRep X' sv v := by
  unfold fuseMat at h
  obtain ⟨v, s1, h2, h3⟩ := Run.bind h
  obtain ⟨_, s2, h4, h5⟩ := Run.bind h3
  obtain ⟨r, s3, h6, h7⟩ := Run.bind h5
  have es := killAll_run h4
  subst es
  obtain ⟨er, es⟩ := Run.new h6
  subst es
  obtain ⟨e1, e2⟩ := Run.pure h7
  subst e1 e2
  obtain ⟨⟨u1, u2, dn, q1, q2, q3, q4⟩, q5, q6⟩ := Run.op2 h2 hs
  rw [ho] at q1
  injection q1 with q1
  subst q1
  have hv' : Ref X (.h (.sl e) r2 none) v2 := by simpa only [VRep] using hv
  have hA2 : X.A r2 := by simp only [Ref] at hv'; exact hv'.2.1
  have h2v := mat_val m hv' hR q2
  dsimp only at hfr er
  have hnA : ¬ X.A r := hfr r (by rw [er, q6]; exact Nat.le_refl _) (by rw [er]; exact Nat.lt_succ_self _)
  obtain ⟨v, w', p, hrun, hbel, hxm, hvr⟩ := append_mat (tt := tt) (rs1 := rs) (rs2 := [r2]) hB m hu tf hx (fun q hq => by
    rcases List.mem_append.1 hq with hq | hq
    · exact hrs q hq
    · rw [List.mem_singleton.1 hq]; exact hA2) (fun q hq hq2 => hne (List.mem_singleton.1 hq2 ▸ hq)) hnA h1 h2v q3 q4
  refine ⟨v, w', X.joined w' (rs ++ [r2]) r (.mat e _ 0) p, hrun, ⟨rfl, rfl, ?_, fun q => ?_, hxm.1, hxm.2, hbel⟩, hvr⟩
  · show upd _ _ _ = _
    dsimp only
    rw [q5, h0, now_cons, er]
    congr 1
    funext q
    rw [now_dead X.μ [] _ (fun p hp => ?_), now_nil]
    · simp only [List.map_reverse, List.mem_reverse, List.map_map]
      congr 1
      simp
    · simp only [List.mem_reverse, List.mem_map] at hp
      obtain ⟨q, _, e⟩ := hp
      rw [← e]
  · show (X.A q ∨ q = r) ↔ X.A q ∨ σ.ab ≤ q ∧ q < s1.ab + 1
    rw [er, q6]
    constructor
    · rintro (h | h)
      · exact .inl h
      · exact .inr (by omega)
    · rintro (h | h)
      · exact .inl h
      · exact .inr (by omega)
end
end Go.SX

/- append, as an operation. -/
namespace Go.SX
open Go.RowKit (Below)

section
variable {C : FuncId → List D → Option (List D)} {k B0 : Nat} {X : Ctx} {cx : Cx}

theorem newRow_run {e : Ty} {a : At} {sv : SV} {μ : Nat → Root} {σ σ' : SS} (h : Run (newRow e a) μ σ sv σ') : sv = .h e σ.ab none ∧ σ' = { σ with up := (σ.ab, Root.row e a) :: σ.up, ab := σ.ab + 1 } := by
  unfold newRow at h
  obtain ⟨r, s1, h1, h2⟩ := Run.bind h
  obtain ⟨er, es⟩ := Run.new h1
  obtain ⟨e1, e2⟩ := Run.pure h2
  subst er es
  exact ⟨e1, e2⟩

/-- A root is given up. -/
theorem Mem.kill (m : Mem B0 X) (hB : B0 ≤ X.w.heap.size) (r : Nat) : Ext X { X with μ := upd X.μ r .dead } ∧ Mem B0 { X with μ := upd X.μ r .dead } := by
  refine Mem.change m hB (fun q => q = r) (fun _ _ h => h) (fun _ h => h) (fun q h => .inl h) (fun q hq => ⟨upd_ne _ _ hq, rfl⟩) (fun _ _ _ => rfl) (fun _ _ h => h) ?_ ?_ ?_ (fun _ _ _ => rfl) ?_ ?_
  · intro q b hq _ hb
    subst hq
    simp only [upd_same] at hb
    simp [Root.own] at hb
  · intro q q' b hq hq' _ _ _ _
    rw [hq, hq']
  · intro q hq _
    subst hq
    simp [upd_same, Root.own]
  · intro q hq _ ht
    subst hq
    simp [upd_same, Root.there] at ht
  · intro x q hq _
    subst hq
    simp only [upd_same]
    trivial

theorem slice_und (ty : TysOk cx) {t : TypeId} {e : Ty} (h : cx.T t = .sl e) : ∃ E, cx.P.underlying t = some (.slice E) := by
  obtain ⟨E, i, hu, _⟩ := elem_fact ty h
  exact ⟨E, hu⟩

/-- append to what is empty, behind a look at what is put. -/
theorem appendNew_acts (ty : TysOk cx) (hB : B0 ≤ X.w.heap.size) {t E tt : TypeId} {e : Ty} {i : TypeInfo} (hu : cx.P.underlying t = some (.slice E)) (tf : TyFact cx E e i) {xt E2 : TypeId} (hx : cx.P.underlying xt = some (.slice E2))
    {σ s' : SS} {o : At} {x sv : SV} (x0 : Ext X (X.mv σ.up)) (m0 : Mem B0 (X.mv σ.up)) (h : Run (appendNew e (cx.by_ E) o x) X.μ σ sv s') (hs : Sat C k X.E s'.bs s'.nv) (hfr : ∀ q, σ.ab ≤ q → q < s'.ab → ¬ X.A q)
    {d : D} {vs vx : Value} (ho : o.get X.E = some d) (he : Empt d vs) (hvx : VRep (X.mv σ.up) x vx) : Acts cx.P B0 X (Builtin.append_ #[t, xt] tt #[vs, vx]) σ s' fun X' v => VRep X' sv v := by
  unfold appendNew at h
  obtain ⟨y, s1, h1, h2⟩ := Run.bind h
  obtain ⟨a, s2, h3, h4⟩ := Run.bind h2
  obtain ⟨e1, e2⟩ := newRow_run h4
  subst e1 e2
  obtain ⟨x1, m1, hab, dy, hy, hsrc⟩ := srcOf_sound hB h1 (h3.sat hs) m0 hvx
  obtain ⟨⟨u, v, dn, q1, q2, q3, q4⟩, q5, q6⟩ := Run.op2 h3 hs
  rw [ho] at q1
  rw [hy] at q2
  injection q1 with q1
  injection q2 with q2
  subst q1 q2
  have hnA : ¬ (X.mv s1.up).A s2.ab := hfr s2.ab (by rw [q6, hab]; exact Nat.le_refl _) (by dsimp only; omega)
  obtain ⟨v, w', p, hrun, hbel, hxm, hv⟩ := append_empt (X := X.mv s1.up) (tt := tt) ty hB m1 hu tf hx hnA he hsrc q3 q4
  exact ⟨v, w', _, hrun, Nx.grown (x0.trans x1) hbel hB hxm (by rw [q5]) rfl rfl (by rw [q6, hab]), hv⟩

theorem appendRow_acts (ty : TysOk cx) (hB : B0 ≤ X.w.heap.size) {t E tt : TypeId} {e : Ty} {i : TypeInfo} (hu : cx.P.underlying t = some (.slice E)) (tf : TyFact cx E e i) {xt E2 : TypeId} (hx : cx.P.underlying xt = some (.slice E2))
    {σ s' : SS} {r : Nat} {vw : Option (At × At)} {x sv : SV} (x0 : Ext X (X.mv σ.up)) (m0 : Mem B0 (X.mv σ.up)) (h : Run (appendRow e (cx.by_ E) r vw x) X.μ σ sv s') (hs : Sat C k X.E s'.bs s'.nv) (hfr : ∀ q, σ.ab ≤ q → q < s'.ab → ¬ X.A q)
    {vs vx : Value} (hvs : Ref (X.mv σ.up) (.h e r vw) vs) (hvx : VRep (X.mv σ.up) x vx) : Acts cx.P B0 X (Builtin.append_ #[t, xt] tt #[vs, vx]) σ s' fun X' v => VRep X' sv v := by
  unfold appendRow at h
  obtain ⟨y, s1, h1, h2⟩ := Run.bind h
  obtain ⟨a, s2, h3, h4⟩ := Run.bind h2
  obtain ⟨es, hR⟩ := rowAt_sound h3
  subst es
  have hA : X.A r := by simp only [Ref] at hvs; exact hvs.2.1
  cases vw with
  | none =>
    obtain ⟨av, s3, h5, h6⟩ := Run.bind h4
    obtain ⟨_, s4, h7, h8⟩ := Run.bind h6
    have es := Run.put h7
    subst es
    obtain ⟨e1, e2⟩ := newRow_run h8
    subst e1 e2
    obtain ⟨x1, m1, hab, dy, hy, hsrc⟩ := srcOf_sound hB h1 (h5.sat hs) m0 hvx
    obtain ⟨⟨u, v, dn, q1, q2, q3, q4⟩, q5, q6⟩ := Run.op2 h5 hs
    rw [hy] at q2
    injection q2 with q2
    subst q2
    have hnA : ¬ X.A s3.ab := hfr s3.ab (by rw [q6, hab]; exact Nat.le_refl _) (by dsimp only; omega)
    have hvs' := hvs.ext x1
    have hR' : (X.mv s2.up).μ r = .row e a := hR
    rcases row_cell m1 hA hR' q1 hvs' with ⟨c1, c2⟩ | ⟨b, l, c, te, xs, cap, c1, c2, c3, c4, c5, c6, c7, c8⟩
    · obtain ⟨x2, m2⟩ := m1.kill hB r
      rw [← Ctx.mv_cons] at x2 m2
      obtain ⟨v, w', p, hrun, hbel, hxm, hv⟩ := append_empt (X := X.mv ((r, .dead) :: s2.up)) (tt := tt) ty hB m2 hu tf hx hnA c2 (hsrc.keep x2.K) q3 q4
      exact ⟨v, w', _, hrun, Nx.grown ((x0.trans x1).trans x2) hbel hB hxm (by rw [q5]) rfl rfl (by rw [q6, hab]), hv⟩
    · subst c2 c6
      cases hl2 : dy.els with
      | none =>
        have q3 : appD (cx.by_ E) (.sl l) dy = some dn := q3
        unfold appD at q3
        rw [hl2] at q3
        simp [D.els] at q3
      | some l2 =>
        have q3 : (if roomOk (l.length + l2.length) (cx.by_ E) = true then some (D.sl (l ++ l2)) else none) = some dn := by
          have q3 : appD (cx.by_ E) (.sl l) dy = some dn := q3
          unfold appD at q3
          rw [hl2] at q3
          exact q3
        split at q3
        · rename_i hroom
          injection q3 with q3
          have e1 : dn = .sl (l.take l.length ++ (l2 ++ [])) := by rw [← q3]; simp
          subst e1
          obtain ⟨w', g, cap', bs, hrun, hbel, hxm, g1, g2, g3⟩ := append_row (X := X.mv s2.up) (tt := tt) hB m1 hu tf hx hA hnA hR' c1 c3 c4 c5 (Nat.le_refl _) c7 c8 hsrc hl2 hroom (tail := []) (.inl rfl) q4
          refine ⟨_, w', _, hrun, Nx.swapped (x0.trans x1) hbel hxm (by rw [q5]) rfl rfl (by rw [q6, hab]), ?_⟩
          simp only [VRep, Ref]
          refine ⟨one_slice _ _ _, .inr rfl, fun _ => ⟨av, _, by simp [Ctx.swapped, upd_same, Root.row?], q4, .inr ⟨g, _, by simp [Ctx.swapped, upd_same], rfl, cap', bs, ?_, ?_, g2, g3⟩⟩⟩
          · simp
          · simpa using g1
        · cases q3
  | some p =>
    obtain ⟨lo, hi⟩ := p
    obtain ⟨_, s3, h5, h6⟩ := Run.bind h4
    obtain ⟨hz, es⟩ := Run.guard h5
    subst es
    obtain ⟨av, s4, h7, h8⟩ := Run.bind h6
    obtain ⟨am, s5, h9, h10⟩ := Run.bind h8
    obtain ⟨an, s6, h11, h12⟩ := Run.bind h10
    obtain ⟨_, s7, h13, h14⟩ := Run.bind h12
    have es := Run.put h13
    subst es
    obtain ⟨r', s8, h15, h16⟩ := Run.bind h14
    obtain ⟨er, es⟩ := Run.new h15
    obtain ⟨e1, e2⟩ := Run.pure h16
    subst er es
    subst e1 e2
    have hlo : lo = .c (.int .i64 0) := by
      unfold isZ at hz
      split at hz
      · rfl
      · cases hz
    subst hlo
    have hs11 : Sat C k X.E s6.bs s6.nv := hs
    obtain ⟨x1, m1, hab, dy, hy, hsrc⟩ := srcOf_sound hB h1 (h7.sat (h9.sat (h11.sat hs11))) m0 hvx
    obtain ⟨⟨u, vh, v, dn, q1, q2, q3, q4, q5⟩, q6, q7⟩ := Run.op3 h7 (h9.sat (h11.sat hs11))
    obtain ⟨⟨y1, dm, w1, w2, w3⟩, w4, w5⟩ := Run.op1 h9 (h11.sat hs11)
    obtain ⟨⟨z1, z2, dn2, z3, z4, z5, z6⟩, z7, z8⟩ := Run.op2 h11 hs11
    rw [hy] at q3 w1
    injection q3 with q3
    injection w1 with w1
    subst q3 w1
    rw [q2] at z3
    rw [w3] at z4
    injection z3 with z3
    injection z4 with z4
    subst z3 z4
    have hnA : ¬ X.A s6.ab := hfr s6.ab (by rw [z8, w5, q7, hab]; exact Nat.le_refl _) (by dsimp only; omega)
    have hup : s6.up = s3.up := by rw [z7, w4, q6]
    have habs : s6.ab = σ.ab := by rw [z8, w5, q7, hab]
    have hvs' := hvs.ext x1
    have hR' : (X.mv s3.up).μ r = .row e a := hR
    have hrep := m1.rep r hA
    rw [hR'] at hrep
    obtain ⟨dr, p1, p2⟩ := hrep
    have p1' : a.get X.E = some dr := p1
    rw [q1] at p1'
    injection p1' with p1'
    subst p1'
    cases hl2 : dy.els with
    | none =>
      cases vh <;> first
        | (simp only [Prim.run, hl2] at q4
           cases hu : u.els <;> simp [hu] at q4)
        | simp [Prim.run] at q4
    | some l2 =>
      have hdm : dm = .int .i64 l2.length := by
        cases dy <;> simp [D.els] at hl2 <;> subst hl2 <;> simp [Prim.run] at w2 <;> exact w2.symm
      subst hdm
      simp only [Ref] at hvs'
      obtain ⟨a1, d1, g1, g2, g3⟩ := hvs'.2.2 (by rw [hR']; rfl)
      rw [hR'] at g1
      simp only [Root.row?, Option.some.injEq, Prod.mk.injEq, true_and] at g1
      subst g1
      have g2' : a.get X.E = some d1 := g2
      rw [q1] at g2'
      injection g2' with g2'
      subst g2'
      rcases g3 with ⟨r1, r2, k1, k2, r3, r4⟩ | ⟨b, l, r1, r2, ad, cap, bs, k1, k2, i', j', r3, r4, r5, r6, r7, r8, r9, r10, r11⟩
      · have r4' : hi.get X.E = some (.int k2 0) := r4
        rw [q2] at r4'
        injection r4' with r4'
        subst r4'
        simp only [Prim.run, Option.some.injEq, Int.zero_add] at z5
        subst z5
        obtain ⟨x2, m2⟩ := m1.kill hB r
        rw [← Ctx.mv_cons] at x2 m2
        have happ : appD (cx.by_ E) u dy = some dn := by
          simp only [Prim.run, r2.em.els, hl2] at q4
          simp only [appD, r2.em.els, hl2, List.nil_append, List.length_nil, Nat.zero_add]
          split at q4
          · rename_i hc
            rw [if_pos (by simpa using hc.2.2)]
            rw [← q4]
            rcases r2.em with h | h <;> subst h <;> cases l2 <;> simp
          · cases q4
        obtain ⟨v, w', p, hrun, hbel, hxm, hv⟩ := append_empt (X := X.mv ((r, .dead) :: s3.up)) (tt := tt) ty hB m2 hu tf hx hnA r2 (hsrc.keep x2.K) happ q5
        refine ⟨v, w', _, hrun, Nx.grown ((x0.trans x1).trans x2) hbel hB hxm (by rw [hup]) rfl rfl (by rw [habs]), ?_⟩
        -- the whole row as a view
        simp only [VRep, Ref] at hv ⊢
        obtain ⟨hv1, hv2, hv3⟩ := hv
        refine ⟨hv1, hv2, fun ht => ?_⟩
        obtain ⟨a9, d9, f1, f2, f3⟩ := hv3 ht
        have f2' : a9.get X.E = some d9 := f2
        have f1' : a9 = av := by
          simp only [Ctx.grown, upd_same, Root.row?, Option.some.injEq, Prod.mk.injEq, true_and] at f1
          exact f1.symm
        subst f1'
        rw [q5] at f2'
        injection f2' with f2'
        subst f2'
        refine ⟨a9, dn, f1, f2, ?_⟩
        have hdn : dn.els = some l2 := by
          simp only [appD, r2.em.els, hl2, List.nil_append] at happ
          split at happ
          · injection happ with happ
            rw [← happ]
            rcases r2.em with h | h <;> subst h <;> cases l2 <;> simp [D.els]
          · cases happ
        rcases f3 with ⟨f4, f5, _⟩ | ⟨b, l, f4, f5, cap, bs, f6, f7, f8, f9⟩
        · refine .inl ⟨f4, f5, .i64, .i64, rfl, ?_⟩
          have : l2 = [] := by rw [f5.em.els] at hdn; injection hdn with hdn; exact hdn.symm
          subst this
          exact z6
        · subst f5
          simp only [D.els, Option.some.injEq] at hdn
          subst hdn
          refine .inr ⟨b, l, f4, rfl, ⟨b, 0, none⟩, cap, bs, .i64, .i64, 0, l.length, rfl, z6, Nat.zero_le _, Nat.le_refl _, by rw [f6]; rfl, by omega, f8, by rw [Nat.zero_add]; exact f9, fun _ => by simp⟩
      · have r3' : (At.c (.int .i64 0)).get X.E = some (.int k1 (Int.ofNat i')) := r3
        have r4' : hi.get X.E = some (.int k2 (Int.ofNat j')) := r4
        simp only [At.get, Option.some.injEq, D.int.injEq] at r3'
        obtain ⟨_, r3'⟩ := r3'
        have hi0 : i' = 0 := by simp only [Int.ofNat_eq_natCast] at r3'; omega
        subst hi0
        rw [q2] at r4'
        injection r4' with r4'
        subst r4' r2
        simp only [Prim.run, Option.some.injEq, Int.ofNat_eq_natCast] at z5
        subst z5
        have had := r11 (.inr rfl)
        simp only [Nat.zero_mul] at had
        subst had
        simp only [Nat.sub_zero, Nat.zero_add] at r7 r8 r10
        subst r7
        have hbd : ∃ c te xs, (X.mv s3.up).w.heap[b]? = some (.cells c te (0, 0)) ∧ DRepA (X.mv s3.up).w (X.mv s3.up).M e l xs ∧ c.toList.take xs.length = xs := by
          rcases p2 with ⟨t1, _⟩ | ⟨b', c, te, fr, l', xs, t1, t2, t3, t4, t5, t6⟩
          · rw [r1] at t1; cases t1
          · rw [r1] at t1
            injection t1 with t1
            injection t2 with t2
            subst t1 t2
            rw [t4 trivial] at t3
            exact ⟨c, te, xs, t3, t5, t6⟩
        obtain ⟨c, te, xs, t3, t5, t6⟩ := hbd
        have hbs : bs = c.size := by
          have r9' := r9
          simp only [bsize, t3, Option.some.injEq] at r9'
          exact r9'.symm
        subst hbs
        have q4 : (if 0 ≤ Int.ofNat j' ∧ Int.ofNat j' ≤ (l.length : Int) ∧ roomOk ((Int.ofNat j').toNat + l2.length) (cx.by_ E) = true then some (D.sl (l.take (Int.ofNat j').toNat ++ (l2 ++ l.drop ((Int.ofNat j').toNat + l2.length)))) else none) = some dn := by
          simp only [Prim.run, hl2] at q4
          exact q4
        split at q4
        · rename_i hc
          injection q4 with q4
          have e1 : dn = .sl (l.take j' ++ (l2 ++ l.drop (j' + l2.length))) := by rw [← q4]; simp
          subst e1
          obtain ⟨w', g, cap', bs, hrun, hbel, hxm, g1, g2, g3⟩ := append_row (X := X.mv s3.up) (tt := tt) hB m1 hu tf hx hA hnA hR' r1 t3 t5 t6 r6 (Nat.le_trans r6 r8) r10 hsrc hl2 (by simpa using hc.2.2) (tail := l.drop (j' + l2.length)) (.inr ⟨rfl, r8⟩) q5
          refine ⟨_, w', _, hrun, Nx.swapped (x0.trans x1) hbel hxm (by rw [hup]) rfl rfl (by rw [habs]), ?_⟩
          simp only [VRep, Ref]
          refine ⟨one_slice _ _ _, .inr rfl, fun _ => ⟨av, _, by simp [Ctx.swapped, upd_same, Root.row?], q5, .inr ⟨g, _, by simp [Ctx.swapped, upd_same], rfl, ⟨g, 0, none⟩, cap', bs, .i64, .i64, 0, j' + l2.length, rfl, ?_, Nat.zero_le _, ?_, ?_, ?_, g2, by simpa using g3, fun _ => by simp⟩⟩⟩
          · rw [show an.get ((X.mv s3.up).swapped w' r s6.ab (.row e av) ⟨some g, []⟩).E = an.get X.E from rfl, z6]
            simp
          · simp only [List.length_append, List.length_take, List.length_drop]; omega
          · simp
          · simp only [List.length_append, List.length_take, List.length_drop] at g1 ⊢; omega
        · cases q4

theorem appendHc_acts (ty : TysOk cx) (hB : B0 ≤ X.w.heap.size) {t E tt : TypeId} {e : Ty} {i : TypeInfo} (hu : cx.P.underlying t = some (.slice E)) (tf : TyFact cx E e i) {xt E2 : TypeId} (hx : cx.P.underlying xt = some (.slice E2))
    {σ s' : SS} {r : Nat} {hi : At} {x sv : SV} (x0 : Ext X (X.mv σ.up)) (m0 : Mem B0 (X.mv σ.up)) (h : Run (appendHc e (cx.by_ E) r hi x) X.μ σ sv s') (hs : Sat C k X.E s'.bs s'.nv) (hfr : ∀ q, σ.ab ≤ q → q < s'.ab → ¬ X.A q)
    {vs vx : Value} (hvs : Ref (X.mv σ.up) (.hc e r hi) vs) (hvx : VRep (X.mv σ.up) x vx) : Acts cx.P B0 X (Builtin.append_ #[t, xt] tt #[vs, vx]) σ s' fun X' v => VRep X' sv v := by
  unfold appendHc at h
  obtain ⟨y, s1, h1, h2⟩ := Run.bind h
  obtain ⟨a, s2, h3, h4⟩ := Run.bind h2
  obtain ⟨es, hR⟩ := rowAt_sound h3
  subst es
  have hA : X.A r := by simp only [Ref] at hvs; exact hvs.2.1
  obtain ⟨ao, s3, h5, h6⟩ := Run.bind h4
  obtain ⟨av, s4, h7, h8⟩ := Run.bind h6
  obtain ⟨_, s5, h9, h10⟩ := Run.bind h8
  have es := Run.put h9
  subst es
  obtain ⟨e1, e2⟩ := newRow_run h10
  subst e1 e2
  have hs7 : Sat C k X.E s4.bs s4.nv := hs
  obtain ⟨x1, m1, hab, dy, hy, hsrc⟩ := srcOf_sound hB h1 (h5.sat (h7.sat hs7)) m0 hvx
  obtain ⟨⟨u, z0, vh, o, q1, q2, q3, q4, q5⟩, q6, q7⟩ := Run.op3 h5 (h7.sat hs7)
  obtain ⟨⟨o', v, dn, w1, w2, w3, w4⟩, w5, w6⟩ := Run.op2 h7 hs7
  rw [q5] at w1
  rw [hy] at w2
  injection w1 with w1
  injection w2 with w2
  subst w1 w2
  simp only [i64c, At.get, Option.some.injEq] at q2
  subst q2
  have hnA : ¬ X.A s4.ab := hfr s4.ab (by rw [w6, q7, hab]; exact Nat.le_refl _) (by dsimp only; omega)
  have hup : s4.up = s2.up := by rw [w5, q6]
  have habs : s4.ab = σ.ab := by rw [w6, q7, hab]
  have hR' : (X.mv s2.up).μ r = .row e a := hR
  have hvs' := hvs.ext x1
  simp only [Ref] at hvs'
  obtain ⟨a1, d1, g1, g2, g3⟩ := hvs'.2.2 (by rw [hR']; rfl)
  rw [hR'] at g1
  simp only [Root.row?, Option.some.injEq, Prod.mk.injEq, true_and] at g1
  subst g1
  have g2' : a.get X.E = some d1 := g2
  rw [q1] at g2'
  injection g2' with g2'
  subst g2'
  have w3 : appD (cx.by_ E) o dy = some dn := w3
  rcases g3 with ⟨r1, r2, k1, r3⟩ | ⟨b, l, k1, j, bs, r1, r2, r3, r4, r5, r6, r7⟩
  · have r3' : hi.get X.E = some (.int k1 0) := r3
    rw [q3] at r3'
    injection r3' with r3'
    subst r3'
    have ho : o = u := by rcases r2.em with h | h <;> subst h <;> simp [Prim.run] at q4 <;> exact q4.symm
    subst ho
    obtain ⟨x2, m2⟩ := m1.kill hB r
    rw [← Ctx.mv_cons] at x2 m2
    obtain ⟨v, w', p, hrun, hbel, hxm, hv⟩ := append_empt (X := X.mv ((r, .dead) :: s2.up)) (tt := tt) ty hB m2 hu tf hx hnA r2 (hsrc.keep x2.K) w3 w4
    exact ⟨v, w', _, hrun, Nx.grown ((x0.trans x1).trans x2) hbel hB hxm (by rw [hup]) rfl rfl (by rw [habs]), hv⟩
  · have r3' : hi.get X.E = some (.int k1 (Int.ofNat j)) := r3
    rw [q3] at r3'
    injection r3' with r3'
    subst r3' r2 r5
    have ho : o = .sl (l.take j) := by
      simp only [Prim.run] at q4
      rw [if_pos ⟨Int.le_refl _, by simp, by simpa using r4⟩] at q4
      injection q4 with q4
      rw [← q4]
      simp
    subst ho
    have hrep := m1.rep r hA
    rw [hR'] at hrep
    obtain ⟨dr, p1, p2⟩ := hrep
    have p1' : a.get X.E = some dr := p1
    rw [q1] at p1'
    injection p1' with p1'
    subst p1'
    rcases p2 with ⟨t1, _⟩ | ⟨b', c, te, fr, l', xs, t1, t2, t3, t4, t5, t6⟩
    · rw [r1] at t1; cases t1
    · rw [r1] at t1
      injection t1 with t1
      injection t2 with t2
      subst t1 t2
      rw [t4 trivial] at t3
      have hbs : bs = c.size := by
        have r6' := r6
        simp only [bsize, t3, Option.some.injEq] at r6'
        exact r6'.symm
      subst hbs
      cases hl2 : dy.els with
      | none =>
        unfold appD at w3
        rw [hl2] at w3
        simp [D.els] at w3
      | some l2 =>
        have w3 : (if roomOk ((l.take j).length + l2.length) (cx.by_ E) = true then some (D.sl (l.take j ++ l2)) else none) = some dn := by
          unfold appD at w3
          rw [hl2] at w3
          exact w3
        have hlj : (l.take j).length = j := by rw [List.length_take]; omega
        rw [hlj] at w3
        split at w3
        · rename_i hroom
          injection w3 with w3
          have e1 : dn = .sl (l.take j ++ (l2 ++ [])) := by rw [← w3]; simp
          subst e1
          obtain ⟨w', g, cap', bs, hrun, hbel, hxm, g1, g2, g3⟩ := append_row (X := X.mv s2.up) (tt := tt) hB m1 hu tf hx hA hnA hR' r1 t3 t5 t6 r4 (Nat.le_refl _) r7 hsrc hl2 hroom (tail := []) (.inl rfl) w4
          refine ⟨_, w', _, hrun, Nx.swapped (x0.trans x1) hbel hxm (by rw [hup]) rfl rfl (by rw [habs]), ?_⟩
          simp only [VRep, Ref]
          refine ⟨one_slice _ _ _, .inr rfl, fun _ => ⟨av, _, by simp [Ctx.swapped, upd_same, Root.row?], w4, .inr ⟨g, _, by simp [Ctx.swapped, upd_same], rfl, cap', bs, ?_, ?_, g2, g3⟩⟩⟩
          · simp [hlj]
          · simpa [hlj] using g1
        · cases w3

theorem isNil_val {e : Ty} {s : SV} {v : Value} (h : isNil e s = true) (hv : VRep X s v) : v = .slice none 0 0 := by
  unfold isNil at h
  split at h
  · simp only [VRep] at hv
    exact hv
  · have := Ty.beq_eq h
    subst this
    obtain ⟨d, h1, h2⟩ := VRep.data.1 hv
    simp only [At.get, Option.some.injEq] at h1
    subst h1
    rcases h2.slice with ⟨_, h⟩ | ⟨_, _, _, h, _⟩
    · exact h
    · cases h
  · cases h

theorem stepAppend_acts (ty : TysOk cx) (hB : B0 ≤ X.w.heap.size) (m : Mem B0 X) {t xt tt : TypeId} {s x sv : SV} {s0 s' : SS} (h0 : s0.up = []) (h : Run (stepAppend cx t xt s x) X.μ s0 sv s') (hs : Sat C k X.E s'.bs s'.nv) (hfr : ∀ q, s0.ab ≤ q → q < s'.ab → ¬ X.A q)
    {vs vx : Value} (hvs : VRep X s vs) (hvx : VRep X x vx) : Acts cx.P B0 X (Builtin.append_ #[t, xt] tt #[vs, vx]) s0 s' fun X' v => VRep X' sv v := by
  have hX : X.mv s0.up = X := by rw [h0]; rfl
  unfold stepAppend at h
  split at h
  · rename_i e e2 hT hT2
    obtain ⟨E, i, hu, tf⟩ := elem_fact ty hT
    obtain ⟨E2, hx⟩ := slice_und ty hT2
    simp only [hu] at h
    obtain ⟨E', s1, h1, h2⟩ := Run.bind h
    obtain ⟨e1, e2⟩ := Run.pure h1
    subst e1 e2
    obtain ⟨_, s2, h3, h4⟩ := Run.bind h2
    obtain ⟨hg, es⟩ := Run.guard h3
    subst es
    have m0 : Mem B0 (X.mv s2.up) := by rw [hX]; exact m
    have x0 : Ext X (X.mv s2.up) := by rw [hX]; exact Ext.refl _
    have hvs0 : VRep (X.mv s2.up) s vs := by rw [hX]; exact hvs
    have hvx0 : VRep (X.mv s2.up) x vx := by rw [hX]; exact hvx
    rcases Run.ite h4 with ⟨hn, h5⟩ | ⟨_, h5⟩
    · have := isNil_val hn hvs
      subst this
      obtain ⟨o, s3, h6, h7⟩ := Run.bind h5
      obtain ⟨es, ho⟩ := matSrc_run h6
      subst es
      split at h7
      · rename_i r2 a2
        obtain ⟨e', g, e1, e2, e3⟩ := ho r2 a2 rfl
        subst e1 e2
        rw [h0, now_nil] at e3
        exact fuseMat_acts (rs := []) (d1 := .nil) hB m hu tf hx h0 h7 hs hfr (by simp) (by simp) rfl (.inl ⟨rfl, rfl⟩) e3 hvx
      · exact appendNew_acts ty hB hu tf hx x0 m0 h7 hs hfr (d := .nil) rfl (.inl ⟨rfl, rfl⟩) hvx0
    · split at h5
      · rename_i e' a _
        obtain ⟨_, s3, h6, h7⟩ := Run.bind h5
        obtain ⟨hb, es⟩ := Run.guard h6
        subst es
        have hb := Ty.beq_eq hb
        subst hb
        simp only [VRep, Ref] at hvs
        obtain ⟨dz, lz, xz, z1, z2, z3, z4⟩ := hvs
        subst z3
        rcases Run.ite h7 with ⟨hsm, h8⟩ | ⟨_, h8⟩
        · obtain ⟨av, s4, h9, h10⟩ := Run.bind h8
          obtain ⟨e1, e2⟩ := newRow_run h10
          subst e1 e2
          obtain ⟨⟨u, dn, q1, q2, q3⟩, q4, q5⟩ := Run.op1 h9 hs
          rw [z1] at q1
          injection q1 with q1
          subst q1
          -- what is put is what it is the beginning of
          have hxd : x = .d (.sl e') a := by
            unfold sameAt at hsm
            split at hsm
            · rename_i T a' b'
              simp only [Bool.and_eq_true] at hsm
              rw [Ty.beq_eq hsm.1, At.beq_eq hsm.2]
            · cases hsm
          subst hxd
          obtain ⟨dx, hdx, hdv⟩ := VRep.data.1 hvx
          rw [z1] at hdx
          injection hdx with hdx
          subst hdx
          have hsrc : Src X.w X.M e' dz vx := Src.of hdv fun _ _ h => h
          simp only [Prim.run, z2] at q2
          split at q2
          · rename_i hroom
            injection q2 with q2
            subst q2
            have hbase : ∃ o, Empt o (.slice xz 0 0) ∧ appD (cx.by_ E') o dz = some dz := by
              cases dz <;> simp [D.els] at z2
              · subst z2
                refine ⟨.sl [], ?_, ?_⟩
                · cases xz with
                  | none => have := z4.1 rfl; cases this
                  | some ad => exact .inr ⟨rfl, ad, rfl⟩
                · simp [appD, D.els, hroom]
              · subst z2
                refine ⟨.nil, ?_, ?_⟩
                · rw [z4.2 rfl]
                  exact .inl ⟨rfl, rfl⟩
                · simp at hroom
                  simp [appD, D.els, hroom]
            obtain ⟨o, hE, happ⟩ := hbase
            have hnA : ¬ X.A s4.ab := hfr s4.ab (by rw [q5]; exact Nat.le_refl _) (by dsimp only; omega)
            obtain ⟨v, w', p, hrun, hbel, hxm, hv⟩ := append_empt (X := X) (tt := tt) ty hB m hu tf hx hnA hE hsrc happ q3
            exact ⟨v, w', _, hrun, Nx.grown (up := []) (Ext.refl X) hbel hB hxm (by rw [q4, h0]) rfl rfl q5, hv⟩
          · cases q2
        · obtain ⟨ao, s4, h9, h10⟩ := Run.bind h8
          have hs4 : Sat C k X.E s4.bs s4.nv := h10.sat hs
          obtain ⟨⟨u, c1, c2, dn, q1, q2, q3, q4, q5⟩, q6, q7⟩ := Run.op3 h9 hs4
          rw [z1] at q1
          injection q1 with q1
          subst q1
          simp only [i64c, At.get, Option.some.injEq] at q2 q3
          subst q2 q3
          have hE : Empt dn (.slice xz 0 0) := by
            cases dz <;> simp [D.els] at z2
            · simp [Prim.run] at q4
              subst q4
              cases xz with
              | none => have := z4.1 rfl; cases this
              | some ad => exact .inr ⟨rfl, ad, rfl⟩
            · simp [Prim.run] at q4
              subst q4
              rw [z4.2 rfl]
              exact .inl ⟨rfl, rfl⟩
          have := appendNew_acts ty hB hu tf hx (tt := tt) (σ := s4) (by rw [q6]; exact x0) (by rw [q6]; exact m0) h10 hs (fun q hq1 hq2 => hfr q (by rw [← q7]; exact hq1) hq2) q5 hE (by rw [q6]; exact hvx0)
          unfold Acts at this ⊢
          rw [q7] at this
          exact this
      · rename_i e' r hi _
        obtain ⟨_, s3, h6, h7⟩ := Run.bind h5
        obtain ⟨hb, es⟩ := Run.guard h6
        subst es
        have hb := Ty.beq_eq hb
        subst hb
        simp only [VRep] at hvs0
        exact appendHc_acts ty hB hu tf hx x0 m0 h7 hs hfr hvs0 hvx0
      · rename_i e' r vw _
        obtain ⟨_, s3, h6, h7⟩ := Run.bind h5
        obtain ⟨hb, es⟩ := Run.guard h6
        subst es
        have hb := Ty.beq_eq hb
        subst hb
        simp only [VRep] at hvs0
        obtain ⟨RR, s4, h8, h9⟩ := Run.bind h7
        obtain ⟨e1, es⟩ := Run.root h8
        subst es
        split at h9
        · rename_i e'' a g
          obtain ⟨_, s5, h10, h11⟩ := Run.bind h9
          obtain ⟨hb, es⟩ := Run.guard h10
          subst es
          have hb := Ty.beq_eq hb
          subst hb
          have hA : X.A r := by simp only [Ref] at hvs0; exact hvs0.2.1
          have hR : (X.mv s5.up).μ r = .mat e'' a g := e1.symm
          have low : Run (SX.X.putRoot r (.row (.sl e'') a) >>= fun _ => appendRow (.sl e'') (cx.by_ E') r vw x) X.μ s5 sv s' → Acts cx.P B0 X (Builtin.append_ #[t, xt] tt #[vs, vx]) s5 s' fun X' v => VRep X' sv v := by
            intro h11
            obtain ⟨_, s6, h12, h13⟩ := Run.bind h11
            have es := Run.put h12
            subst es
            obtain ⟨x1, m1⟩ := m0.lower (hB := hB) (r := r) hA (e := .sl e'') (a := a) (.inr ⟨e'', g, rfl, hR⟩) (R := .row (.sl e'') a) (.inr rfl)
            rw [← Ctx.mv_cons] at x1 m1
            exact appendRow_acts ty hB hu tf hx (σ := { s5 with up := (r, Root.row (.sl e'') a) :: s5.up }) (x0.trans x1) m1 h13 hs hfr (hvs0.ext x1) (VRep.ext x1 hvx0)
          obtain ⟨o, s6, h12, h13⟩ := Run.bind h11
          obtain ⟨es, ho⟩ := matSrc_run h12
          subst es
          split at h13
          · rename_i r2 a2
            obtain ⟨e', g2, e3, e4, e5⟩ := ho r2 a2 rfl
            injection e3 with e3
            subst e3 e4
            rw [h0, now_nil] at e5
            rcases Run.ite h13 with ⟨hc, h14⟩ | ⟨_, h14⟩
            · simp only [Bool.and_eq_true, Option.isNone_iff_eq_none, Bool.not_eq_true'] at hc
              obtain ⟨hc1, hc2⟩ := hc
              subst hc1
              have hr2 : r2 ≠ r := fun e => by
                subst e
                simp at hc2
              have hR' : X.μ r = .mat e'' a g := by rw [hX] at hR; exact hR
              have hvs1 : Ref X (.h (.sl e'') r none) vs := by rw [hX] at hvs0; exact hvs0
              have hrep := m.rep r hA
              rw [hR'] at hrep
              obtain ⟨d0, hd0, _⟩ := hrep
              exact fuseMat_acts (rs := [r]) (d1 := d0) hB m hu tf hx h0 h14 hs hfr (fun q hq => by rw [List.mem_singleton.1 hq]; exact hA) (by simpa using hr2) hd0 (mat_val m hvs1 hR' hd0) e5 hvx
            · exact low h14
          · exact low h13
        · exact appendRow_acts ty hB hu tf hx x0 m0 h9 hs hfr hvs0 hvx0
      · exact (Run.fail h5).elim
  · exact (Run.fail h).elim
  · exact (Run.fail h).elim
end

end Go.SX

/- clear of a part of a row; clear and copy, as operations. -/
namespace Go.SX
open Go.RowKit (Below)

section
variable {C : FuncId → List D → Option (List D)} {k B0 : Nat} {X : Ctx} {cx : Cx}

/-- A row's content under another name. -/
theorem Mem.rerow {e : Ty} {r : Nat} {a a' : At} {d : D} (m : Mem B0 X) (hB : B0 ≤ X.w.heap.size) (hA : X.A r) (hR : X.μ r = .row e a) (ha : a.get X.E = some d) (ha' : a'.get X.E = some d) :
    Ext X { X with μ := upd X.μ r (.row e a') } ∧ Mem B0 { X with μ := upd X.μ r (.row e a') } := by
  refine Mem.change m hB (fun q => q = r) (fun _ _ h => h) (fun _ h => h) (fun q h => .inl h) (fun q hq => ⟨upd_ne _ _ hq, rfl⟩) (fun _ _ _ => rfl) (fun _ _ h => h) ?_ ?_ ?_ (fun _ _ _ => rfl) ?_ ?_
  · intro q b hq _ hb
    subst hq
    simp only [upd_same] at hb
    exact .inr ⟨q, rfl, hA, by rw [hR]; exact hb⟩
  · intro q q' b hq hq' _ _ _ _
    rw [hq, hq']
  · intro q hq _
    subst hq
    have := m.once q hA
    rw [hR] at this
    simp only [upd_same]
    exact this
  · intro q hq _ _
    subst hq
    refine ⟨by rw [hR]; rfl, fun e1 a1 d1 hr hd => ?_, fun e1 a1 g1 hr => ?_⟩
    · rw [hR] at hr
      simp only [Root.row?, Option.some.injEq, Prod.mk.injEq] at hr
      obtain ⟨r1, r2⟩ := hr
      subst r1 r2
      rw [ha] at hd
      injection hd with hd
      subst hd
      exact ⟨a', d, by simp [upd_same, Root.row?], ha', sameLen.refl _⟩
    · simp only [upd_same] at hr
      cases hr
  · intro x q hq _
    subst hq
    simp only [upd_same]
    have hrep := m.rep q hA
    rw [hR] at hrep
    obtain ⟨d1, h1, h2⟩ := hrep
    rw [ha] at h1
    injection h1 with h1
    subst h1
    refine ⟨d, ha', ?_⟩
    rcases h2 with h2 | ⟨b, c, te, fr, l, xs, p1, p2, p3, p4, p5, p6⟩
    · exact .inl h2
    · exact .inr ⟨b, c, te, fr, l, xs, p1, p2, p3, p4, p5.keep x.K, p6⟩

theorem clear_none {P : Program} {w : World} {t e : TypeId} {T : TypeId} {A : Option Addr} {cap : Nat} (hu : P.underlying t = some (.slice e)) : (Builtin.clear_ #[t] T #[.slice A 0 cap]).run P w = .ok (.tuple #[]) w := by
  cases A <;> simp [Builtin.clear_, run_und hu]

theorem clear_acts_view (ty : TysOk cx) (hB : B0 ≤ X.w.heap.size) (m : Mem B0 X) {t T : TypeId} {e : Ty} {r : Nat} {a lo hi y z a' : At} {s0 s1 s2 s' sf : SS} (hT : cx.T t = .sl e) (hR : X.μ r = .row e a) (h1 : Run (SX.X.op .sub [a, lo, hi]) X.μ s0 y s1)
    (h2 : Run (SX.X.op (.clr e.zero) [y]) X.μ s1 z s2) (h3 : Run (SX.X.op .cpyv [a, lo, hi, z]) X.μ s2 a' s') (hs : Sat C k X.E s'.bs s'.nv) {v : Value} (hv : Ref X (.h e r (some (lo, hi))) v) (h0 : s0.up = []) (hup : sf.up = (r, Root.row e a') :: s'.up) (hab : sf.ab = s'.ab) :
    Acts cx.P B0 X (Builtin.clear_ #[t] T #[v]) s0 sf fun _ _ => True := by
  obtain ⟨E, i, hu, tf⟩ := elem_fact ty hT
  obtain ⟨zv, hz, _, hd⟩ := zero_run tf (w := X.w)
  simp only [Ref] at hv
  obtain ⟨_, hA, hv⟩ := hv
  have hrep := m.rep r hA
  rw [hR] at hrep
  obtain ⟨d, g1, g2⟩ := hrep
  obtain ⟨a1, d1, f1, f2, f3⟩ := hv (by rw [hR]; rfl)
  rw [hR] at f1
  simp only [Root.row?, Option.some.injEq, Prod.mk.injEq, true_and] at f1
  subst f1
  rw [g1] at f2
  injection f2 with f2
  subst f2
  obtain ⟨⟨u, vl, vh, yd, q1, q2, q3, q4, q5⟩, q6, q7⟩ := Run.op3 h1 (h2.sat (h3.sat hs))
  obtain ⟨⟨y', zd, p1, p2, p3⟩, p4, p5⟩ := Run.op1 h2 (h3.sat hs)
  obtain ⟨⟨u', vl', vh', zd', od, o1, o2, o3, o4, o5, o6⟩, o7, o8⟩ := Run.op4 h3 hs
  rw [g1] at q1 o1
  rw [q5] at p1
  rw [q2] at o2
  rw [q3] at o3
  rw [p3] at o4
  injection q1 with q1
  injection o1 with o1
  injection p1 with p1
  injection o2 with o2
  injection o3 with o3
  injection o4 with o4
  subst q1 o1 p1 o2 o3 o4
  have hup' : sf.up = [(r, Root.row e a')] := by rw [hup, o7, p4, q6, h0]
  have habf : sf.ab = s0.ab := by rw [hab, o8, p5, q7]
  have same : od = d → ∀ {A : Option Addr} {cap : Nat}, v = .slice A 0 cap → Acts cx.P B0 X (Builtin.clear_ #[t] T #[v]) s0 sf fun _ _ => True := by
    intro he A cap hve
    subst he hve
    obtain ⟨x2, m2⟩ := m.rerow hB hA hR g1 o6
    exact ⟨_, X.w, { X with μ := upd X.μ r (.row e a') }, clear_none hu, ⟨rfl, rfl, by rw [hup', now_cons, now_nil], fun q => ⟨fun h => .inl h, fun h => h.elim id fun h => by omega⟩, x2, m2, Below.refl _ _⟩, trivial⟩
  rcases f3 with ⟨c1, c2, k1, k2, c3, c4⟩ | ⟨b, l, c1, c2, ad, cap, bs, k1, k2, i', j', c3, c4, c5, c6, c7, c8, c9, c10, c11⟩
  · rw [q2] at c3
    rw [q3] at c4
    injection c3 with c3
    injection c4 with c4
    subst c3 c4
    obtain ⟨A, hve⟩ := c2.val
    refine same ?_ hve
    rcases c2.em with h | h <;> subst h
    · simp [Prim.run] at q4
      subst q4
      simp [Prim.run] at p2
      subst p2
      simp [Prim.run, D.els] at o5
      exact o5.symm
    · simp [Prim.run] at q4
      subst q4
      simp [Prim.run] at p2
      subst p2
      simp [Prim.run, D.els] at o5
      exact o5.symm
  · rw [q2] at c3
    rw [q3] at c4
    injection c3 with c3
    injection c4 with c4
    subst c3 c4 c2
    have hc : (0 : Int) ≤ Int.ofNat i' ∧ Int.ofNat i' ≤ Int.ofNat j' ∧ Int.ofNat j' ≤ (l.length : Int) := ⟨by simp, by simpa using c5, by simpa using c6⟩
    simp only [Prim.run, if_pos hc] at q4
    injection q4 with q4
    have hyl : ((l.take (Int.ofNat j').toNat).drop (Int.ofNat i').toNat).length = j' - i' := by
      simp only [List.length_drop, List.length_take, Int.ofNat_eq_natCast, Int.toNat_natCast]
      omega
    have hyd : zd = .sl (List.replicate (j' - i') e.zero) := by
      rw [← q4] at p2
      simp only [Prim.run, hyl, Option.some.injEq] at p2
      exact p2.symm
    subst hyd
    have hod : od = .sl (l.take i' ++ (List.replicate (j' - i') e.zero ++ l.drop j')) := by
      have e1 : (Int.ofNat j' - Int.ofNat i').toNat = j' - i' := by simp only [Int.ofNat_eq_natCast]; omega
      simp only [Prim.run, D.els, if_pos hc, e1] at o5
      injection o5 with o5
      rw [← o5]
      have e2 : (List.replicate (j' - i') e.zero).take (j' - i') = List.replicate (j' - i') e.zero := List.take_of_length_le (by simp)
      rw [e2]
      simp only [Int.ofNat_eq_natCast, Int.toNat_natCast, List.length_replicate]
      rw [show i' + (j' - i') = j' by omega]
    by_cases hij : i' = j'
    · subst hij
      refine same ?_ (A := some ad) (cap := cap) (by rw [c7]; simp)
      rw [hod]
      simp
    · rcases g2 with ⟨t1, _⟩ | ⟨b', c, te, fr, l', xs, t1, t2, t3, t4, t5, t6⟩
      · rw [c1] at t1; cases t1
      · rw [c1] at t1
        injection t1 with t1
        injection t2 with t2
        subst t1 t2
        rw [t4 trivial] at t3
        have hbs : bs = c.size := by
          have c9' := c9
          simp only [bsize, t3, Option.some.injEq] at c9'
          exact c9'.symm
        subst hbs
        have had := c11 (.inl (by omega))
        subst had c7
        have hzl := (hd X.w X.M).cells.length
        have hzl' : zv.cells.size = e.size := by simpa using hzl
        have hfl := flat_length zv.cells.toList (j' - i')
        have hxl := t5.length
        have hxs : xs.length ≤ c.toList.length := by rw [← t6, List.length_take]; omega
        have hjx : j' * e.size ≤ xs.length := by rw [hxl]; exact Nat.mul_le_mul_right _ c6
        have hsum : i' * e.size + (j' - i') * e.size = j' * e.size := by rw [← Nat.add_mul]; congr 1; omega
        have hfit : i' * e.size + (List.replicate (j' - i') zv.cells.toList).flatten.length ≤ xs.length := by
          rw [hfl, hzl, hsum]; exact hjx
        have hrun := clear_row (P := cx.P) (w := X.w) (T := T) (o := i' * e.size) (n := j' - i') (cap := cap) hu hz t3 (by rw [hzl', hsum]; simp at hxs; omega) (hd X.w X.M).cells.ones
        have hpx : patch xs (i' * e.size) (List.replicate (j' - i') zv.cells.toList).flatten = xs.take (i' * e.size) ++ ((List.replicate (j' - i') zv.cells.toList).flatten ++ xs.drop (j' * e.size)) := by
          unfold patch
          rw [hfl, hzl, hsum, List.append_assoc]
        have hnew : DRepA X.w X.M e (l.take i' ++ (List.replicate (j' - i') e.zero ++ l.drop j')) (patch xs (i' * e.size) (List.replicate (j' - i') zv.cells.toList).flatten) := by
          rw [hpx]
          exact (t5.take i').append ((rep_cells (hd X.w X.M).cells (j' - i')).append (t5.drop j'))
        obtain ⟨hmem, hw⟩ := m.rewrite hB hA hR c1 g1 (hod ▸ o6) (by simp; omega) t3 (c' := (patch c.toList (i' * e.size) (List.replicate (j' - i') zv.cells.toList).flatten).toArray) (by simpa using patch_length (Nat.le_trans hfit hxs)) hnew (by
          show (patch c.toList _ _).take _ = _
          rw [patch_length hfit, patch_take hxs hfit, t6])
        exact ⟨_, _, _, hrun, Nx.wrote (up := []) (Ext.refl X) m hA hmem hw hup' habf, trivial⟩

theorem stepClear_acts (ty : TysOk cx) (hB : B0 ≤ X.w.heap.size) (m : Mem B0 X) {t T : TypeId} {s sv : SV} {s0 s' : SS} (h0 : s0.up = []) (h : Run (stepClear cx t s) X.μ s0 sv s') (hs : Sat C k X.E s'.bs s'.nv) {v : Value} (hv : VRep X s v) :
    Acts cx.P B0 X (Builtin.clear_ #[t] T #[v]) s0 s' fun X' u => VRep X' sv u := by
  have fin : ∀ {sf : SS}, sv = .un 1 → Acts cx.P B0 X (Builtin.clear_ #[t] T #[v]) s0 sf (fun _ _ => True) → Acts cx.P B0 X (Builtin.clear_ #[t] T #[v]) s0 sf fun X' u => VRep X' sv u := fun h ⟨u, w', X', h1, h2, _⟩ => ⟨u, w', X', h1, h2, by subst h; simp only [VRep]⟩
  unfold stepClear at h
  split at h
  · rename_i e e' r hT
    obtain ⟨_, s1, h1, h2⟩ := Run.bind h
    obtain ⟨hg, es⟩ := Run.guard h1
    subst es
    simp only [Bool.and_eq_true] at hg
    have he := Ty.beq_eq hg.1
    subst he
    obtain ⟨RR, s2, h3, h4⟩ := Run.bind h2
    obtain ⟨hR, es⟩ := Run.root h3
    subst es
    rw [h0, now_nil] at hR
    split at h4
    · rename_i e'' a
      obtain ⟨_, s3, h5, h6⟩ := Run.bind h4
      obtain ⟨hg2, es⟩ := Run.guard h5
      subst es
      have he := Ty.beq_eq hg2
      subst he
      obtain ⟨a', s4, h7, h8⟩ := Run.bind h6
      obtain ⟨_, s5, h9, h10⟩ := Run.bind h8
      have es := Run.put h9
      obtain ⟨e1, e2⟩ := Run.pure h10
      subst es
      subst e1 e2
      simp only [VRep] at hv
      exact fin rfl (clear_acts_row ty hB m hT hR.symm h7 hs hv h0 rfl rfl)
    · exact (Run.fail h4).elim
  · rename_i e e' r ix g hT
    obtain ⟨_, s1, h1, h2⟩ := Run.bind h
    obtain ⟨hg, es⟩ := Run.guard h1
    subst es
    simp only [Bool.and_eq_true] at hg
    have he := Ty.beq_eq hg.1
    subst he
    obtain ⟨RR, s2, h3, h4⟩ := Run.bind h2
    obtain ⟨hR, es⟩ := Run.root h3
    subst es
    rw [h0, now_nil] at hR
    split at h4
    · rename_i e'' a g'
      obtain ⟨_, s3, h5, h6⟩ := Run.bind h4
      obtain ⟨hg2, es⟩ := Run.guard h5
      subst es
      simp only [Bool.and_eq_true] at hg2
      have he := Ty.beq_eq hg2.1
      have hgg := nat_beq hg2.2
      subst he hgg
      obtain ⟨y, s4, h7, h8⟩ := Run.bind h6
      obtain ⟨y', s5, h9, h10⟩ := Run.bind h8
      obtain ⟨a', s6, h11, h12⟩ := Run.bind h10
      obtain ⟨_, s7, h13, h14⟩ := Run.bind h12
      have es := Run.put h13
      obtain ⟨e1, e2⟩ := Run.pure h14
      subst es
      subst e1 e2
      simp only [VRep] at hv
      exact fin rfl (clear_acts_mat ty hB m hT hR.symm h7 h9 h11 hs hv h0 rfl rfl)
    · exact (Run.fail h4).elim
  · rename_i e e' r lo hi hT
    obtain ⟨_, s1, h1, h2⟩ := Run.bind h
    obtain ⟨hg, es⟩ := Run.guard h1
    subst es
    simp only [Bool.and_eq_true] at hg
    have he := Ty.beq_eq hg.1
    subst he
    obtain ⟨RR, s2, h3, h4⟩ := Run.bind h2
    obtain ⟨hR, es⟩ := Run.root h3
    subst es
    rw [h0, now_nil] at hR
    split at h4
    · rename_i e'' a
      obtain ⟨_, s3, h5, h6⟩ := Run.bind h4
      obtain ⟨hg2, es⟩ := Run.guard h5
      subst es
      have he := Ty.beq_eq hg2
      subst he
      obtain ⟨y, s4, h7, h8⟩ := Run.bind h6
      obtain ⟨z, s5, h9, h10⟩ := Run.bind h8
      obtain ⟨a', s6, h11, h12⟩ := Run.bind h10
      obtain ⟨_, s7, h13, h14⟩ := Run.bind h12
      have es := Run.put h13
      obtain ⟨e1, e2⟩ := Run.pure h14
      subst es
      subst e1 e2
      simp only [VRep] at hv
      exact fin rfl (clear_acts_view ty hB m hT hR.symm h7 h9 h11 hs hv h0 rfl rfl)
    · exact (Run.fail h4).elim
  · exact (Run.fail h).elim

/-- A variable is written anew, whole. -/
theorem copy_acts (ty : TysOk cx) (hB : B0 ≤ X.w.heap.size) (m : Mem B0 X) {t xt T : TypeId} {s x sv : SV} {s0 s' : SS} (h0 : s0.up = []) (h : Run (stepCopy cx t s x) X.μ s0 sv s') (hs : Sat C k X.E s'.bs s'.nv) {vs vx : Value} (hvs : VRep X s vs) (hvx : VRep X x vx) :
    Acts cx.P B0 X (Builtin.copy_ #[t, xt] T #[vs, vx]) s0 s' fun X' u => VRep X' sv u := by
  unfold stepCopy at h
  split at h
  · rename_i e R e' n r hT
    obtain ⟨E, i, hu, tf⟩ := elem_fact ty hT
    obtain ⟨_, s1, h1, h2⟩ := Run.bind h
    obtain ⟨hg, es⟩ := Run.guard h1
    subst es
    simp only [Bool.and_eq_true] at hg
    have he := Ty.beq_eq hg.1.1.1
    have heR := Ty.beq_eq hg.1.1.2
    have h1s := nat_beq hg.1.2
    have hfl := hg.2
    subst he heR
    obtain ⟨y, s2, h3, h4⟩ := Run.bind h2
    obtain ⟨RR, s3, h5, h6⟩ := Run.bind h4
    obtain ⟨hR, es⟩ := Run.root h5
    subst es
    split at h6
    · rename_i R' T' a
      obtain ⟨_, s4, h7, h8⟩ := Run.bind h6
      obtain ⟨hg2, es⟩ := Run.guard h7
      subst es
      simp only [Bool.and_eq_true] at hg2
      have e1 := Ty.beq_eq hg2.1
      have e2 := Ty.beq_eq hg2.2
      subst e1 e2
      obtain ⟨v, s5, h9, h10⟩ := Run.bind h8
      obtain ⟨_, s6, h11, h12⟩ := Run.bind h10
      have es := Run.put h11
      obtain ⟨e1, e2⟩ := Run.pure h12
      subst es
      subst e1 e2
      have hs9 : Sat C k X.E s5.bs s5.nv := hs
      obtain ⟨u1, u2, d, hd, hdv⟩ := view0 hB m h0 h3 (h9.sat hs9) hvx
      obtain ⟨⟨da, dy, dn, q1, q2, q3, q4⟩, q5, q6⟩ := Run.op2 h9 hs9
      rw [hd] at q2
      injection q2 with q2
      subst q2
      simp only [VRep, Ref] at hvs
      obtain ⟨hA, _, _, b, hb, hve⟩ := hvs
      subst hve
      rw [u1, now_nil] at hR
      have hR := hR.symm
      have hrep := m.rep r hA
      rw [hR] at hrep
      obtain ⟨b', c, te, w1, w2, _, w4⟩ := hrep
      rw [hb] at w1
      injection w1 with w1
      subst w1
      simp only [CRep] at w4
      obtain ⟨dd, y1, y2⟩ := w4
      rw [q1] at y1
      injection y1 with y1
      subst y1
      cases da <;> simp only [DRep] at y2
      rename_i l
      obtain ⟨hln, y2⟩ := y2
      have hsrc : Src X.w X.M e' d vx := Src.of hdv fun _ _ h => h.flat hfl
      have hcl : c.toList.length = n := by rw [y2.length, h1s, hln, Nat.mul_one]
      have hmem : b ∈ (X.μ r).own (X.β r) := by rw [hR]; simp [Root.own, hb]
      have size1 : (cx.P.info? E).map (·.size) = some 1 := by rw [tf.info]; simp [tf.size, h1s]
      have fin : ∀ {c' : Array Value} {u : Value}, c'.size = c.size → DRep X.w X.M (.arr n e') dn c'.toList → (Builtin.copy_ #[t, xt] T #[.slice (some ⟨b, 0, none⟩) n n, vx]).run cx.P X.w = .ok u (X.w.setRow b c') →
          Acts cx.P B0 X (Builtin.copy_ #[t, xt] T #[.slice (some ⟨b, 0, none⟩) n n, vx]) s1 { s5 with up := (r, Root.box (.arr n e') (.d (.arr n e') v)) :: s5.up } fun X' u => VRep X' (.un 1) u := by
        intro c' u f1 f2 f3
        have hw := m.write hB (c' := c') (R := .box (.arr n e') (.d (.arr n e') v)) hA hmem w2 f1 (by rw [hR]; rfl) (fun _ => ⟨by rw [hR]; rfl, fun e a d hr => (by rw [hR] at hr; cases hr), fun e a g hr => (by simp only [Ctx.wrote, upd_same] at hr; cases hr)⟩)
          (fun x => ⟨b, _, te, hb, setRow_heap _ _ _ _ _ _ w2, rfl, by simp only [CRep]; exact ⟨dn, q4, f2.keep x.K⟩⟩)
        exact ⟨_, _, _, f3, Nx.wrote (up := []) (Ext.refl X) m hA hmem hw (by rw [q5, u1]) (q6.trans u2), by simp only [VRep]⟩
      rcases hsrc with ⟨g1, g2⟩ | ⟨l2, ys, ad, cap, g1, g2, g3, g4⟩
      · subst g1 g2
        simp only [Prim.run, D.els, List.take_nil, List.nil_append, List.length_nil, List.drop_zero, Option.some.injEq] at q3
        subst q3
        refine fin (c' := c) (u := goInt 0) rfl (by simp only [DRep]; exact ⟨hln, y2⟩) ?_
        rw [setRow_self X.w b c te (0, 0) w2]
        exact run_copy_nil cx.P X.w t xt T E _ n n hu (by rw [tf.info]; rfl)
      · subst g1 g2
        simp only [Prim.run, D.els, Option.some.injEq] at q3
        subst q3
        have hyl : ys.length = l2.length := by rw [g3.length, h1s, Nat.mul_one]
        have hmin : (ys.take n).length = Nat.min l2.length n := by rw [List.length_take, hyl, Nat.min_comm]
        have hrun := run_copy_row cx.P X.w t xt T E b 0 n n ad l2.length cap c te (ys.take n) hu size1 w2 hmin (fun j v hj => by
          rw [List.getElem?_take] at hj
          split at hj
          · exact g4 j v hj
          · cases hj) (by rw [Nat.zero_add, List.length_take]; simp at hcl; omega) (fun v hv => (g3.ones v (List.mem_of_mem_take hv)).one)
        refine fin ?_ ?_ hrun
        · simp only [List.take_zero, List.nil_append, Nat.zero_add]
          simp only [List.size_toArray, List.length_append, List.length_drop, List.length_take]
          simp at hcl ⊢
          omega
        · simp only [DRep, List.take_zero, List.nil_append, Nat.zero_add, hln]
          refine ⟨by simp; omega, ?_⟩
          have t1 := g3.take n
          rw [h1s, Nat.mul_one] at t1
          refine t1.append ?_
          by_cases hle : l2.length ≤ n
          · rw [show (ys.take n).length = l2.length by rw [List.length_take]; omega]
            have t2 := y2.drop l2.length
            rw [h1s, Nat.mul_one] at t2
            exact t2
          · rw [List.drop_eq_nil_of_le (by omega), List.drop_eq_nil_of_le (by rw [List.length_take]; omega)]
            simp [DRepA]
    · exact (Run.fail h6).elim
  · exact (Run.fail h).elim
end

end Go.SX

/- Calls by contract: plain data in, plain data out. -/
namespace Go.SX
open Go.RowKit (Below)

def DVals (w : World) (M : Nat → Prop) : List Ty → List D → List Value → Prop
  | [], [], [] => True
  | T :: Ts, d :: ds, v :: vs => DVal w M T d v ∧ DVals w M Ts ds vs
  | _, _, _ => False
theorem DVal.keep {w w' : World} {M M' : Nat → Prop} (K : Keeps w w' M M') {T : Ty} {d : D} {v : Value} (h : DVal w M T d v) : DVal w' M' T d v := by
  unfold DVal at h ⊢
  split
  · rename_i c; rw [if_pos c] at h; obtain ⟨cs, h3, h4⟩ := h; exact ⟨cs, h3, h4.keep K⟩
  · rename_i c; rw [if_neg c] at h; exact ⟨h.1, h.2.keep K⟩
theorem DVals.keep {w w' : World} {M M' : Nat → Prop} (K : Keeps w w' M M') : ∀ {Ts : List Ty} {ds : List D} {vs : List Value}, DVals w M Ts ds vs → DVals w' M' Ts ds vs
  | [], [], [], h => h
  | _ :: _, _ :: _, _ :: _, h => ⟨h.1.keep K, DVals.keep K h.2⟩
  | [], [], _ :: _, h | [], _ :: _, _, h | _ :: _, [], _, h | _ :: _, _ :: _, [], h => h
theorem DVal.flat {w w' : World} {M M' : Nat → Prop} {T : Ty} {d : D} {v : Value} (hf : T.flat = true) (h : DVal w M T d v) : DVal w' M' T d v := by
  unfold DVal at h ⊢
  split
  · rename_i c; rw [if_pos c] at h; obtain ⟨cs, h3, h4⟩ := h; exact ⟨cs, h3, h4.flat hf⟩
  · rename_i c; rw [if_neg c] at h; exact ⟨h.1, h.2.flat hf⟩
theorem DVals.flat {w w' : World} {M M' : Nat → Prop} : ∀ {Ts : List Ty} {ds : List D} {vs : List Value}, Ty.flatL Ts = true → DVals w M Ts ds vs → DVals w' M' Ts ds vs
  | [], [], [], _, h => h
  | T :: Ts, d :: ds, v :: vs, hf, h => by
    simp only [Ty.flatL, Bool.and_eq_true] at hf
    exact ⟨h.1.flat hf.1, DVals.flat hf.2 h.2⟩
  | [], [], _ :: _, _, h | [], _ :: _, _, _, h | _ :: _, [], _, _, h | _ :: _, _ :: _, [], _, h => h

def resVal : List Value → Value
  | [u] => u
  | us => .tuple us.toArray
/-- What a call hands back. -/
def ResIs (w : World) (M : Nat → Prop) (Ts : List Ty) (ds : List D) (v : Value) : Prop :=
  ∃ vs, DVals w M Ts ds vs ∧ v = resVal vs

/-- The contracts hold. -/
def CallsOk (cx : Cx) (C : FuncId → List D → Option (List D)) : Prop :=
  ∀ (f : FuncId) (fn : Func) (ds rs : List D), cx.P.funcs[f]? = some fn → canCall fn = true → isData cx f fn = true → C f ds = some rs →
    ∀ (w : World) (args : Array Value) (M : Nat → Prop), (∀ b, M b → b < w.heap.size) → DVals w M (paramTys cx fn) ds args.toList →
      Calls cx.P f args w fun e w' => ∃ v, e = .returned v ∧ Below w.heap.size w w' ∧ ResIs w' M (resTys cx fn) rs v

section
variable {C : FuncId → List D → Option (List D)} {k B0 : Nat} {X : Ctx} {cx : Cx}

/-- Many values, as data. -/
theorem viewL_vals (hB : B0 ≤ X.w.heap.size) {fz : Bool} : ∀ {l : List SV} {Ts : List Ty} {σ σ' : SS} {as : List At} {vs : List Value}, Run (SV.viewL fz Ts l) X.μ σ as σ' → Sat C k X.E σ'.bs σ'.nv → Mem B0 (X.mv σ.up) → VRepL (X.mv σ.up) l vs →
    Ext (X.mv σ.up) (X.mv σ'.up) ∧ Mem B0 (X.mv σ'.up) ∧ (fz = false → σ'.up = σ.up) ∧ σ'.ab = σ.ab ∧ ∃ ds, gets X.E as = some ds ∧ DVals X.w (seen fz (X.mv σ'.up)) Ts ds vs
  | [], [], σ, σ', as, vs, h, hs, m, hv => by
    simp only [SV.viewL] at h
    obtain ⟨e1, e2⟩ := Run.pure h
    subst e1 e2
    simp only [VRepL] at hv
    subst hv
    exact ⟨Ext.refl _, m, fun _ => rfl, rfl, [], rfl, trivial⟩
  | s :: l, T :: Ts, σ, σ', as, vs, h, hs, m, hv => by
    simp only [SV.viewL] at h
    obtain ⟨a, s1, h1, h2⟩ := Run.bind h
    obtain ⟨as', s2, h3, h4⟩ := Run.bind h2
    obtain ⟨e1, e2⟩ := Run.pure h4
    subst e1 e2
    simp only [VRepL] at hv
    obtain ⟨v, r, ev, hv1, hv2⟩ := hv
    subst ev
    obtain ⟨x1, m1, f1, b1, d, g1, r1⟩ := view_val hB h1 (h3.sat hs) m hv1
    obtain ⟨x2, m2, f2, b2, ds, g2, r2⟩ := viewL_vals hB h3 hs m1 (SX.VRepL.ext x1 hv2)
    exact ⟨x1.trans x2, m2, fun e => by rw [f2 e, f1 e], by rw [b2, b1], d :: ds, gets_of_cons g1 g2, r1.keep (seen_keeps x2 rfl), r2⟩
  | [], _ :: _, σ, σ', as, vs, h, hs, m, hv => by simp only [SV.viewL] at h; exact (Run.fail h).elim
  | _ :: _, [], σ, σ', as, vs, h, hs, m, hv => by simp only [SV.viewL] at h; exact (Run.fail h).elim

theorem frozen_rep {X : Ctx} : ∀ {Ts : List Ty} {rs : List D} {vs : List Value} {n : Nat}, DVals X.w X.M Ts rs vs → (∀ (j : Nat) (d : D), rs[j]? = some d → X.E[n + j]? = some d) → VRepL X (frozen Ts n) vs
  | [], [], [], n, _, _ => by simp only [frozen, VRepL]
  | T :: Ts, d :: ds, v :: vs, n, h, hE => by
    simp only [frozen, VRepL]
    refine ⟨v, vs, rfl, VRep.data.2 ⟨d, hE 0 d rfl, h.1⟩, frozen_rep h.2 fun j d' hj => ?_⟩
    have := hE (j + 1) d' (by simpa using hj)
    rw [← this]
    congr 1
    omega
  | [], [], _ :: _, _, h, _ | [], _ :: _, _, _, h, _ | _ :: _, [], _, _, h, _ | _ :: _, _ :: _, [], _, h, _ => h.elim

theorem DVals.len {w : World} {M : Nat → Prop} : ∀ {Ts : List Ty} {ds : List D} {vs : List Value}, DVals w M Ts ds vs → vs.length = Ts.length
  | [], [], [], _ => rfl
  | T :: Ts, d :: ds, v :: vs, h => by simp [DVals.len h.2]
  | [], [], _ :: _, h | [], _ :: _, _, h | _ :: _, [], _, h | _ :: _, _ :: _, [], h => h.elim
theorem frozen_len : ∀ (Ts : List Ty) (n : Nat), (frozen Ts n).length = Ts.length
  | [], _ => rfl
  | T :: Ts, n => by simp [frozen, frozen_len Ts]

theorem VRepL.length {X : Ctx} : ∀ {l : List SV} {vs : List Value}, VRepL X l vs → vs.length = l.length
  | [], vs, h => by simp only [VRepL] at h; simp [h]
  | s :: l, vs, h => by
    simp only [VRepL] at h
    obtain ⟨v, r, e, _, h2⟩ := h
    simp [e, VRepL.length h2]

theorem resSV_rep {X : Ctx} {l : List SV} {vs : List Value} (h : VRepL X l vs) : VRep X (resSV l) (resVal vs) := by
  have hl := VRepL.length h
  unfold resSV resVal
  split
  · rename_i s
    simp only [VRepL] at h
    obtain ⟨v, r, e, h1, h2⟩ := h
    subst e h2
    exact h1
  · rename_i l' hne
    split
    · rename_i u
      match l, hl with
      | [s], _ => exact absurd rfl (hne s)
    · simp only [VRep]
      exact ⟨vs.toArray, rfl, by simpa using h⟩

theorem callData_sound (hC : CallsOk cx C) (hB : B0 ≤ X.w.heap.size) (m : Mem B0 X) {f : FuncId} {fn : Func} {args : List SV} {sv : SV} {s0 s' : SS} (h0 : s0.up = []) (h : Run (callData cx f fn args) X.μ s0 sv s') (hs : Sat C k X.E s'.bs s'.nv)
    (hf : cx.P.funcs[f]? = some fn) (hcan : canCall fn = true) (hdat : isData cx f fn = true) {vs : Array Value} (hv : VRepL X args vs.toList) :
    Calls cx.P f vs X.w fun e w' => ∃ v, e = .returned v ∧ ∃ X', Nx B0 X X' s'.up s0.ab s'.ab w' ∧ VRep X' sv v := by
  unfold callData at h
  obtain ⟨as, s1, h1, h2⟩ := Run.bind h
  obtain ⟨x, s2, h3, h4⟩ := Run.bind h2
  obtain ⟨e1, e2⟩ := Run.pure h4
  subst e1 e2
  obtain ⟨ex, es⟩ := Run.call h3
  have hs1 : Sat C k X.E s1.bs s1.nv := h3.sat hs
  rw [es] at hs
  obtain ⟨n, en, ⟨vs', rs, c1, c2, c3, c4⟩, _⟩ := hs
  have : n = s1.nv := by simp only [Bd.outs] at en; omega
  subst this
  subst ex es
  obtain ⟨x1, m1, hup, hab, ds, hds, hdv⟩ := viewL_vals hB h1 hs1 (by rw [h0]; exact m) (by rw [h0]; exact hv)
  have hX : X.mv s0.up = X := by rw [h0]; rfl
  rw [hX] at x1
  rw [hds] at c1
  injection c1 with c1
  subst c1
  have fin : ∀ (M : Nat → Prop), (∀ b, M b → b < X.w.heap.size) → DVals X.w M (paramTys cx fn) ds vs.toList → (∀ w' rs' us, DVals w' M (resTys cx fn) rs' us → Keeps X.w w' (X.mv s1.up).M (X.mv s1.up).M → DVals w' (X.mv s1.up).M (resTys cx fn) rs' us) →
      Calls cx.P f vs X.w fun e w' => ∃ v, e = .returned v ∧ ∃ X', Nx B0 X X' s1.up s0.ab s1.ab w' ∧ VRep X' (resSV (frozen (resTys cx fn) s1.nv)) v := by
    intro M hM hdM hres
    refine (hC f fn ds rs hf hcan hdat c2 X.w vs M hM hdM).mono fun e w' ⟨v, he, hb, us, hus, hvu⟩ => ?_
    refine ⟨v, he, ?_⟩
    obtain ⟨x2, m2⟩ := m1.world (X := X.mv s1.up) hB hb
    refine ⟨{ X.mv s1.up with w := w' }, ⟨rfl, rfl, rfl, fun q => ⟨fun h => .inl h, fun h => h.elim id fun h => by omega⟩, x1.trans x2, m2, hb.mono hB⟩, ?_⟩
    rw [hvu]
    exact resSV_rep (frozen_rep (X := { X.mv s1.up with w := w' }) (hres w' rs us hus x2.K) c4)
  cases hfl : Ty.flatL (resTys cx fn) with
  | true =>
    rw [hfl] at hdv
    exact fin (fun _ => False) (fun _ h => h.elim) hdv fun w' rs' us h _ => h.flat hfl
  | false =>
    rw [hfl] at hdv
    exact fin (X.mv s1.up).M (fun b hb => m1.lt' (X := X.mv s1.up) hB hb) hdv fun w' rs' us h _ => h
end

end Go.SX

/- Structs and arrays are compared part by part. -/
namespace Go.SX

section
variable {cx : Cx} {w : World} {M : Nat → Prop}

def EqD (cx : Cx) (w : World) (M : Nat → Prop) (dd : Nat) (t : TypeId) : Prop :=
  ∀ d d' v v', DVal w M (cx.T t) d v → DVal w M (cx.T t) d' v' → (Op.equalIn dd t v v').run cx.P w = .ok (d.beq d') w

theorem cut_drop {l c1 c2 : List Value} {n m : Nat} (h : l.drop n = c1 ++ c2) (hm : c1.length = m) : (l.drop n).take m = c1 ∧ l.drop (n + m) = c2 := by
  constructor
  · rw [h, ← hm]; simp
  · rw [← List.drop_drop, h, ← hm]; simp

theorem eqFields_ok (ty : TysOk cx) {dd : Nat} {xs ys : Array Value} : ∀ {fs : List Field} {n : Nat} {ds ds' : List D}, offsOk cx.T fs n = true → (∀ f ∈ fs, f.name ≠ "_" ∧ (cx.T f.type).known = true ∧ EqD cx w M dd f.type) →
    DRepL w M (fs.map fun f => cx.T f.type) ds (xs.toList.drop n) → DRepL w M (fs.map fun f => cx.T f.type) ds' (ys.toList.drop n) → (Op.eqFields dd xs ys fs).run cx.P w = .ok (D.beqL ds ds') w
  | [], n, ds, ds', _, _, h, h' => by
    cases ds <;> cases ds' <;> simp [DRepL] at h h'
    simp [Op.eqFields, D.beqL]
  | f :: fs, n, ds, ds', ho, hf, h, h' => by
    cases ds with
    | nil => simp [DRepL] at h
    | cons d ds =>
      cases ds' with
      | nil => simp [DRepL] at h'
      | cons d' ds' =>
        obtain ⟨c1, c2, e1, g1, g2⟩ := h
        obtain ⟨c1', c2', e1', g1', g2'⟩ := h'
        obtain ⟨hn, hk, hE⟩ := hf f (by simp)
        obtain ⟨i, tf⟩ := ty.get (T := cx.T f.type) rfl (known_ne hk)
        simp only [offsOk, Bool.and_eq_true] at ho
        have hoff := nat_beq ho.1
        obtain ⟨a1, a2⟩ := cut_drop e1 g1.length
        obtain ⟨b1, b2⟩ := cut_drop e1' g1'.length
        obtain ⟨v, r1, v1⟩ := part_val (w := w) (M := M) tf (cs := xs) (off := n) (d := d) (by rw [a1]; exact g1)
        obtain ⟨v', r2, v2⟩ := part_val (w := w) (M := M) tf (cs := ys) (off := n) (d := d') (by rw [b1]; exact g1')
        have r3 := hE d d' v v' v1 v2
        have ih := eqFields_ok ty (dd := dd) (fs := fs) ho.2 (fun g hg => hf g (by simp [hg])) (by rw [a2]; exact g2) (by rw [b2]; exact g2')
        simp only [Op.eqFields, hn, ne_eq, not_false_eq_true, if_true, Sem.run_bind, hoff, r1, r2, r3, Result.andThen_ok]
        simp only [D.beqL]
        cases d.beq d'
        · simp
        · simpa using ih

theorem eqItems_ok (ty : TysOk cx) {dd : Nat} {t : TypeId} {i : TypeInfo} (tf : TyFact cx t (cx.T t) i) (hE : EqD cx w M dd t) {xs ys : Array Value} : ∀ {m n : Nat} {ds ds' : List D}, ds.length = m → ds'.length = m →
    DRepA w M (cx.T t) ds (xs.toList.drop (n * (cx.T t).size)) → DRepA w M (cx.T t) ds' (ys.toList.drop (n * (cx.T t).size)) → (Op.eqItems dd t (cx.T t).size xs ys (List.range' n m)).run cx.P w = .ok (D.beqL ds ds') w
  | 0, n, ds, ds', hl, hl', h, h' => by
    cases ds <;> cases ds' <;> simp at hl hl'
    simp [Op.eqItems, D.beqL]
  | m + 1, n, ds, ds', hl, hl', h, h' => by
    cases ds with
    | nil => simp at hl
    | cons d ds =>
      cases ds' with
      | nil => simp at hl'
      | cons d' ds' =>
        obtain ⟨c1, c2, e1, g1, g2⟩ := h
        obtain ⟨c1', c2', e1', g1', g2'⟩ := h'
        obtain ⟨a1, a2⟩ := cut_drop e1 g1.length
        obtain ⟨b1, b2⟩ := cut_drop e1' g1'.length
        obtain ⟨v, r1, v1⟩ := part_val (w := w) (M := M) tf (cs := xs) (off := n * (cx.T t).size) (d := d) (by rw [a1]; exact g1)
        obtain ⟨v', r2, v2⟩ := part_val (w := w) (M := M) tf (cs := ys) (off := n * (cx.T t).size) (d := d') (by rw [b1]; exact g1')
        have r3 := hE d d' v v' v1 v2
        have en : (n + 1) * (cx.T t).size = n * (cx.T t).size + (cx.T t).size := by rw [Nat.succ_mul]
        have ih := eqItems_ok ty tf hE (m := m) (n := n + 1) (ds := ds) (ds' := ds') (by simpa using hl) (by simpa using hl') (by rw [en, a2]; exact g2) (by rw [en, b2]; exact g2')
        rw [List.range'_succ]
        simp only [Op.eqItems, Sem.run_bind, r1, r2, r3, Result.andThen_ok]
        simp only [D.beqL]
        cases d.beq d'
        · simp
        · simpa using ih

theorem eqD_ok (ty : TysOk cx) (d : Nat) : ∀ (m : Nat) (t : TypeId), eqOk cx m t = true → (cx.T t).known = true → EqD cx w M (d + m) t
  | 0, _, h, _ => by simp [eqOk] at h
  | m + 1, t, h, hk => by
    intro x y v v' hv hv'
    obtain ⟨i, tf⟩ := ty.get (T := cx.T t) rfl (known_ne hk)
    have hdesc := tf.desc
    rw [show d + (m + 1) = (d + m) + 1 from rfl]
    cases hT : cx.T t with
    | no => rw [hT] at hk; simp [Ty.known] at hk
    | int k =>
      rw [hT] at hv hv' hdesc
      have hu : cx.P.underlying t = some (.int k) := hdesc
      obtain ⟨n1, rfl, rfl⟩ := hv.int
      obtain ⟨n2, rfl, rfl⟩ := hv'.int
      rw [run_equalIn_int w (d + m) t k k n1 n2 hu]
      simp only [D.beq, decide_true, Bool.true_and]
      rfl
    | bool =>
      rw [hT] at hv hv' hdesc
      have hu : cx.P.underlying t = some .bool := hdesc
      obtain ⟨n1, rfl, rfl⟩ := hv.bool
      obtain ⟨n2, rfl, rfl⟩ := hv'.bool
      rw [run_equalIn_bool' w (d + m) t n1 n2 hu]
      rfl
    | str =>
      rw [hT] at hv hv' hdesc
      have hu : cx.P.underlying t = some .string := hdesc
      obtain ⟨n1, rfl, rfl⟩ := hv.str
      obtain ⟨n2, rfl, rfl⟩ := hv'.str
      rw [run_equalIn_string w (d + m) t n1 n2 hu]
      simp only [D.beq, ByteArray.toList_eq]
      congr 1
      rw [Bool.eq_iff_iff]
      simp
    | sl e =>
      rw [hT] at hdesc
      obtain ⟨E, hu, _⟩ := hdesc
      simp [eqOk, hu] at h
    | st Ts =>
      rw [hT] at hv hv' hdesc
      obtain ⟨fs, hu, hTs, ho⟩ := hdesc
      simp only [eqOk, hu, Bool.and_eq_true, Bool.not_eq_true'] at h
      unfold DVal at hv hv'
      simp only [Ty.isAgg, if_true] at hv hv'
      obtain ⟨cs, rfl, hv⟩ := hv
      obtain ⟨cs', rfl, hv'⟩ := hv'
      have hfs : cx.P.fieldsOf t = fs := by simp [Program.fieldsOf, hu]
      rw [run_equalIn_struct w (d + m) t cs cs' (by rw [hfs]; exact hu) h.1, hfs]
      cases x <;> simp only [DRep] at hv
      cases y <;> simp only [DRep] at hv'
      rename_i ds ds'
      simp only [D.beq]
      rw [hT] at hk
      simp only [Ty.known] at hk
      have hall := h.2
      refine eqFields_ok ty (M := M) (n := 0) ho (fun f hf => ?_) (by rw [← hTs]; simpa using hv) (by rw [← hTs]; simpa using hv')
      have hf' := List.all_eq_true.1 hall f hf
      simp only [Bool.and_eq_true, Bool.not_eq_true', beq_eq_false_iff_ne] at hf'
      have hkf : (cx.T f.type).known = true := by
        obtain ⟨j, hj, hj'⟩ := List.getElem_of_mem hf
        refine knownL_get (j := j) hk ?_
        rw [hTs, List.getElem?_map, List.getElem?_eq_getElem hj, hj']
        rfl
      exact ⟨hf'.1, hkf, eqD_ok ty d m f.type hf'.2 hkf⟩
    | arr n e =>
      rw [hT] at hv hv' hdesc
      obtain ⟨E, hu, hE⟩ := hdesc
      simp only [eqOk, hu] at h
      unfold DVal at hv hv'
      simp only [Ty.isAgg, if_true] at hv hv'
      obtain ⟨cs, rfl, hv⟩ := hv
      obtain ⟨cs', rfl, hv'⟩ := hv'
      rw [hT] at hk
      simp only [Ty.known] at hk
      rw [← hE] at hk
      obtain ⟨j, tfE⟩ := ty.get (T := cx.T E) rfl (known_ne hk)
      rw [run_equalIn_array w (d + m) cs cs' hu tfE.info]
      have hcell : cx.P.cellsOf E = (cx.T E).size := by
        have := tfE.size
        simp [Program.cellsOf, tfE.info, this]
      rw [hcell, List.range_eq_range']
      cases x <;> simp only [DRep] at hv
      cases y <;> simp only [DRep] at hv'
      rename_i ds ds'
      simp only [D.beq]
      rw [← hE] at hv hv'
      exact eqItems_ok ty tfE (eqD_ok ty d m E h hk) hv.1 hv'.1 (by simpa using hv.2) (by simpa using hv'.2)

/-- A struct or an array is compared. -/
theorem eqAgg_run (ty : TysOk cx) {xt : TypeId} {T : Ty} {d d' : D} {vx vy : Value} (ox oy : Operand) (hT : cx.T xt = T) (ha : T.isAgg = true) (hkn : T.known = true) (hg : cx.P.eqGuardType cx.P.depth xt = false) (he : eqOk cx 20 xt = true)
    (hx : DVal w M T d vx) (hy : DVal w M T d' vy) :
    (do eqGuard .eql xt ox oy vx vy; binOp .eql xt vx vy : Sem Value).run cx.P w = .ok (.bool (d.beq d')) w ∧ (do eqGuard .neq xt ox oy vx vy; binOp .neq xt vx vy : Sem Value).run cx.P w = .ok (.bool (!(d.beq d'))) w := by
  subst hT
  have main := eqD_ok (w := w) (M := M) ty 9980 20 xt he hkn d d' vx vy hx hy
  unfold DVal at hx hy
  simp only [ha, if_true] at hx hy
  obtain ⟨cs, rfl, _⟩ := hx
  obtain ⟨cs', rfl, _⟩ := hy
  have main : (Op.equalIn 10000 xt (.agg cs) (.agg cs')).run cx.P w = .ok (d.beq d') w := main
  constructor
  · simp only [Sem.run_bind, run_eqGuard_agg w .eql xt ox oy cs cs' hg, Result.andThen_ok, run_eql_struct, main]
  · simp only [Sem.run_bind, run_eqGuard_agg w .neq xt ox oy cs cs' hg, Result.andThen_ok, run_neq_struct, main]
end
end Go.SX

/- Variables are put in for others. -/
namespace Go.SX
open Go.RowKit (Below)

/-- X' says with variables of its own what X says with others. -/
structure Tr (n n0 : Nat) (sg : List At) (X X' : Ctx) : Prop where
  at_ : ∀ a : At, a.okAt n = true → (a.inst n0 sg).get X.E = a.get X'.E
  w : X'.w = X.w
  A : ∀ r, X'.A r ↔ X.A r
  β : X'.β = X.β
  F : X'.F = X.F
  μ : ∀ r, X.A r → X.μ r = (X'.μ r).inst n0 sg
  ok : ∀ r, X.A r → (X'.μ r).okAt n = true

section
variable {n n0 : Nat} {sg : List At} {X X' : Ctx}

theorem Root.inst_own (R : Root) (p : Pl) : (R.inst n0 sg).own p = R.own p := by cases R <;> rfl
theorem Root.inst_there (R : Root) : (R.inst n0 sg).there = R.there := by cases R <;> rfl
theorem Root.inst_row {R : Root} {e : Ty} {a : At} (h : (R.inst n0 sg).row? = some (e, a)) : ∃ a', R.row? = some (e, a') ∧ a = a'.inst n0 sg := by
  cases R <;> simp only [Root.inst, Root.row?, Option.some.injEq, Prod.mk.injEq, reduceCtorEq] at h
  all_goals (obtain ⟨h1, h2⟩ := h; subst h1 h2; exact ⟨_, rfl, rfl⟩)
theorem Root.row_ok {R : Root} {e : Ty} {a : At} (h : R.row? = some (e, a)) (ho : R.okAt n = true) : a.okAt n = true := by
  cases R <;> simp only [Root.row?, Option.some.injEq, Prod.mk.injEq, reduceCtorEq] at h
  all_goals (obtain ⟨_, h2⟩ := h; subst h2; exact ho)

theorem tyAt_inst : ∀ {q : List Stp} {T : Ty}, tyAt (q.map (Stp.inst n0 sg)) T = tyAt q T
  | [], _ => rfl
  | .f j :: q, T => by
    cases T <;> simp only [List.map_cons, Stp.inst, tyAt]
    split
    · exact tyAt_inst
    · rfl
  | .i a :: q, T => by
    cases T <;> simp only [List.map_cons, Stp.inst, tyAt]
    exact tyAt_inst
theorem tOff_inst {E E' : List D} (hE : ∀ a : At, a.okAt n = true → (a.inst n0 sg).get E = a.get E') : ∀ {q : List Stp} {T : Ty}, pathOkAt n q = true → tOff E (q.map (Stp.inst n0 sg)) T = tOff E' q T
  | [], _, _ => rfl
  | .f j :: q, T, h => by
    simp only [pathOkAt, Stp.okAt, Bool.true_and] at h
    cases T <;> simp only [List.map_cons, Stp.inst, tOff]
    split
    · rw [tOff_inst hE h]
    · rfl
  | .i a :: q, T, h => by
    simp only [pathOkAt, Stp.okAt, Bool.and_eq_true] at h
    cases T <;> simp only [List.map_cons, Stp.inst, tOff]
    rw [hE a h.1]
    split
    · rw [tOff_inst hE h.2]
    · rfl

theorem Tr.M (t : Tr n n0 sg X X') (b : Nat) : X'.M b ↔ X.M b := by
  unfold Ctx.M
  rw [t.F, t.β]
  constructor
  · rintro (h | ⟨r, h1, h2⟩)
    · exact .inl h
    · exact .inr ⟨r, (t.A r).1 h1, by rw [t.μ r ((t.A r).1 h1), Root.inst_own]; exact h2⟩
  · rintro (h | ⟨r, h1, h2⟩)
    · exact .inl h
    · exact .inr ⟨r, (t.A r).2 h1, by rw [t.μ r h1, Root.inst_own] at h2; exact h2⟩
theorem Tr.K (t : Tr n n0 sg X X') : Keeps X.w X'.w X.M X'.M := by
  rw [t.w]
  exact ⟨fun _ _ h _ => h, fun a v _ h h' => h ((t.M _).1 h')⟩

theorem Tr.h (t : Tr n n0 sg X X') {e : Ty} {r : Nat} {vw : Option (At × At)} {v : Value} (hA : X.A r) (ho : vwOkAt n vw = true) (h : HRep X e r (vwInst n0 sg vw) v) : HRep X' e r vw v := by
  obtain ⟨a, d, h1, h2, h3⟩ := h
  rw [t.μ r hA] at h1
  obtain ⟨a', r1, r2⟩ := Root.inst_row h1
  subst r2
  have hao := Root.row_ok r1 (t.ok r hA)
  refine ⟨a', d, r1, by rw [← t.at_ a' hao]; exact h2, ?_⟩
  rw [t.β, t.w]
  rcases h3 with ⟨b1, b2, b4⟩ | ⟨b, l, b1, b2, b3⟩
  · refine .inl ⟨b1, b2, ?_⟩
    cases vw with
    | none => trivial
    | some p =>
      obtain ⟨lo, hi⟩ := p
      simp only [vwOkAt, Bool.and_eq_true] at ho
      obtain ⟨k, k', u, u'⟩ := b4
      exact ⟨k, k', by rw [← t.at_ lo ho.1]; exact u, by rw [← t.at_ hi ho.2]; exact u'⟩
  · refine .inr ⟨b, l, b1, b2, ?_⟩
    cases vw with
    | none => exact b3
    | some p =>
      obtain ⟨lo, hi⟩ := p
      simp only [vwOkAt, Bool.and_eq_true] at ho
      obtain ⟨ad, cap, bs, k, k', i, j, g1, g2, g3⟩ := b3
      exact ⟨ad, cap, bs, k, k', i, j, by rw [← t.at_ lo ho.1]; exact g1, by rw [← t.at_ hi ho.2]; exact g2, g3⟩

theorem Tr.ref (t : Tr n n0 sg X X') {s : SV} {v : Value} (ho : s.okAt n = true) (h : Ref X (s.inst n0 sg) v) : Ref X' s v := by
  cases s <;> simp only [SV.inst, Ref] at h ⊢ <;> try exact h
  case h e r vw =>
    simp only [SV.okAt] at ho
    refine ⟨h.1, (t.A r).2 h.2.1, fun ht => t.h h.2.1 ho (h.2.2 ?_)⟩
    rw [t.μ r h.2.1, Root.inst_there]
    exact ht
  case hc e r hi =>
    simp only [SV.okAt] at ho
    refine ⟨h.1, (t.A r).2 h.2.1, fun ht => ?_⟩
    obtain ⟨a, d, h1, h2, h3⟩ := h.2.2 (by rw [t.μ r h.2.1, Root.inst_there]; exact ht)
    rw [t.μ r h.2.1] at h1
    obtain ⟨a', r1, r2⟩ := Root.inst_row h1
    subst r2
    refine ⟨a', d, r1, by rw [← t.at_ a' (Root.row_ok r1 (t.ok r h.2.1))]; exact h2, ?_⟩
    rw [t.β, t.w, ← t.at_ hi ho]
    exact h3
  case z e a =>
    simp only [SV.okAt] at ho
    obtain ⟨d, l, y, h1, h2⟩ := h
    exact ⟨d, l, y, by rw [← t.at_ a ho]; exact h1, h2⟩
  case p R T r q =>
    simp only [SV.okAt] at ho
    obtain ⟨hA, b, off, h1, h2, h3, h4⟩ := h
    exact ⟨(t.A r).2 hA, b, off, h1, by rw [t.β]; exact h2, by rw [← tOff_inst t.at_ ho]; exact h3, by rw [← tyAt_inst]; exact h4⟩
  case pd T a =>
    simp only [SV.okAt] at ho
    obtain ⟨ad, d, xs, h1, h2, h3, h4, h5⟩ := h
    exact ⟨ad, d, xs, h1, by rw [← t.at_ a ho]; exact h2, h3.keep t.K, by rw [t.w]; exact h4, fun hx hM => h5 hx ((t.M _).1 hM)⟩
  case hb R e n' r q =>
    obtain ⟨hA, h1, h2, b, h3, h4⟩ := h
    have hq : q = [] := by
      cases q with
      | nil => rfl
      | cons a l => simp at h1
    exact ⟨(t.A r).2 hA, hq, h2, b, by rw [t.β]; exact h3, h4⟩
  case hr e r ix g =>
    simp only [SV.okAt] at ho
    refine ⟨h.1, (t.A r).2 h.2.1, fun e' a' g' hm => ?_⟩
    have hμ := t.μ r h.2.1
    have hok := t.ok r h.2.1
    rw [hm] at hμ hok
    simp only [Root.inst] at hμ
    simp only [Root.okAt] at hok
    obtain ⟨hle, hh⟩ := h.2.2 _ _ _ hμ
    refine ⟨hle, fun eg => ?_⟩
    obtain ⟨he, k, i, ds, d, o, h1, h2, h3, h4, h5⟩ := hh eg
    exact ⟨he, k, i, ds, d, o, by rw [← t.at_ a' hok]; exact h1, by rw [← t.at_ ix ho]; exact h2, h3, by rw [t.β]; exact h4, by rw [t.w]; exact h5⟩
  case pm e T r ix q g =>
    simp only [SV.okAt, Bool.and_eq_true] at ho
    refine ⟨h.1, (t.A r).2 h.2.1, fun e' a' g' hm => ?_⟩
    have hμ := t.μ r h.2.1
    rw [hm] at hμ
    simp only [Root.inst] at hμ
    obtain ⟨hle, hh⟩ := h.2.2 _ _ _ hμ
    refine ⟨hle, fun eg => ?_⟩
    obtain ⟨he, k, i, b, off, h1, h2, h3, h4, h5⟩ := hh eg
    exact ⟨he, k, i, b, off, by rw [← t.at_ ix ho.1]; exact h1, by rw [t.β]; exact h2, h3, by rw [← tOff_inst t.at_ ho.2]; exact h4, by rw [← tyAt_inst]; exact h5⟩

theorem SV.inst_hasTy {s : SV} {T : Ty} (h : (s.inst n0 sg).hasTy T) : s.hasTy T := by cases s <;> exact h

mutual
theorem Tr.crep (t : Tr n n0 sg X X') : ∀ {s : SV} {cs : List Value}, s.okAt n = true → CRep X (s.inst n0 sg) cs → CRep X' s cs
  | .un _, cs, _, h => by simpa only [SV.inst, CRep] using h
  | .cv _, cs, _, h => by simpa only [SV.inst, CRep] using h
  | .d T a, cs, ho, h => by
    simp only [SV.inst, CRep] at h ⊢
    simp only [SV.okAt] at ho
    obtain ⟨d, h1, h2⟩ := h
    exact ⟨d, by rw [← t.at_ a ho]; exact h1, h2.keep t.K⟩
  | .ag T l, cs, ho, h => by
    simp only [SV.okAt] at ho
    cases T <;> simp only [SV.inst, CRep] at h ⊢
    exact Tr.crepL t ho h
  | .fn f us caps, cs, ho, h => by
    simp only [SV.inst, CRep] at h ⊢
    simp only [SV.okAt, Bool.and_eq_true] at ho
    obtain ⟨us, vs, h1, h2, h3⟩ := h
    exact ⟨us, vs, h1, Tr.vrepL t ho.1 h2, Tr.vrepL t ho.2 h3⟩
  | .tu _, _, _, h => by simp only [SV.inst, CRep] at h
  | .h e r vw, cs, ho, h => by simp only [SV.inst, CRep] at h ⊢; obtain ⟨v, h1, h2⟩ := h; exact ⟨v, h1, t.ref ho h2⟩
  | .hc e r i, cs, ho, h => by simp only [SV.inst, CRep] at h ⊢; obtain ⟨v, h1, h2⟩ := h; exact ⟨v, h1, t.ref ho h2⟩
  | .z e a, cs, ho, h => by simp only [SV.inst, CRep] at h ⊢; obtain ⟨v, h1, h2⟩ := h; exact ⟨v, h1, t.ref ho h2⟩
  | .p R T r q, cs, ho, h => by simp only [SV.inst, CRep] at h ⊢; obtain ⟨v, h1, h2⟩ := h; exact ⟨v, h1, t.ref ho h2⟩
  | .pd T a, cs, ho, h => by simp only [SV.inst, CRep] at h ⊢; obtain ⟨v, h1, h2⟩ := h; exact ⟨v, h1, t.ref ho h2⟩
  | .hb R e n r q, cs, ho, h => by simp only [SV.inst, CRep] at h ⊢; obtain ⟨v, h1, h2⟩ := h; exact ⟨v, h1, t.ref ho h2⟩
  | .hr e r i g, cs, ho, h => by simp only [SV.inst, CRep] at h ⊢; obtain ⟨v, h1, h2⟩ := h; exact ⟨v, h1, t.ref ho h2⟩
  | .pm e T r i q g, cs, ho, h => by simp only [SV.inst, CRep] at h ⊢; obtain ⟨v, h1, h2⟩ := h; exact ⟨v, h1, t.ref ho h2⟩
theorem Tr.crepL (t : Tr n n0 sg X X') : ∀ {l : List SV} {Ts : List Ty} {cs : List Value}, SV.okAtL n l = true → CRepL X (SV.instL n0 sg l) Ts cs → CRepL X' l Ts cs
  | [], [], cs, _, h => by simpa only [SV.instL, CRepL] using h
  | s :: l, T :: Ts, cs, ho, h => by
    simp only [SV.instL, CRepL] at h ⊢
    simp only [SV.okAtL, Bool.and_eq_true] at ho
    obtain ⟨c1, c2, e, h0, h1, h2⟩ := h
    exact ⟨c1, c2, e, SV.inst_hasTy h0, Tr.crep t ho.1 h1, Tr.crepL t ho.2 h2⟩
  | [], _ :: _, _, _, h => by simp only [SV.instL, CRepL] at h
  | _ :: _, [], _, _, h => by simp only [SV.instL, CRepL] at h
theorem Tr.vrep (t : Tr n n0 sg X X') : ∀ {s : SV} {v : Value}, s.okAt n = true → VRep X (s.inst n0 sg) v → VRep X' s v
  | .un _, v, _, h => by simp only [VRep]
  | .cv v', v, _, h => by simpa only [SV.inst, VRep] using h
  | .d T a, v, ho, h => by
    simp only [SV.okAt] at ho
    simp only [SV.inst] at h
    obtain ⟨d, h1, h2⟩ := VRep.data.1 h
    exact VRep.data.2 ⟨d, by rw [← t.at_ a ho]; exact h1, h2.keep t.K⟩
  | .ag T l, v, ho, h => by
    simp only [SV.okAt] at ho
    cases T <;> simp only [SV.inst, VRep] at h ⊢
    obtain ⟨cs, h1, h2⟩ := h
    exact ⟨cs, h1, Tr.crepL t ho h2⟩
  | .fn f us caps, v, ho, h => by
    simp only [SV.inst, VRep] at h ⊢
    simp only [SV.okAt, Bool.and_eq_true] at ho
    obtain ⟨us, vs, h1, h2, h3⟩ := h
    exact ⟨us, vs, h1, Tr.vrepL t ho.1 h2, Tr.vrepL t ho.2 h3⟩
  | .tu l, v, ho, h => by
    simp only [SV.inst, VRep] at h ⊢
    simp only [SV.okAt] at ho
    obtain ⟨vs, h1, h2⟩ := h
    exact ⟨vs, h1, Tr.vrepL t ho h2⟩
  | .h e r vw, cs, ho, h => by simp only [SV.inst, VRep] at h ⊢; exact t.ref ho h
  | .hc e r i, cs, ho, h => by simp only [SV.inst, VRep] at h ⊢; exact t.ref ho h
  | .z e a, cs, ho, h => by simp only [SV.inst, VRep] at h ⊢; exact t.ref ho h
  | .p R T r q, cs, ho, h => by simp only [SV.inst, VRep] at h ⊢; exact t.ref ho h
  | .pd T a, cs, ho, h => by simp only [SV.inst, VRep] at h ⊢; exact t.ref ho h
  | .hb R e n r q, cs, ho, h => by simp only [SV.inst, VRep] at h ⊢; exact t.ref ho h
  | .hr e r i g, cs, ho, h => by simp only [SV.inst, VRep] at h ⊢; exact t.ref ho h
  | .pm e T r i q g, cs, ho, h => by simp only [SV.inst, VRep] at h ⊢; exact t.ref ho h
theorem Tr.vrepL (t : Tr n n0 sg X X') : ∀ {l : List SV} {vs : List Value}, SV.okAtL n l = true → VRepL X (SV.instL n0 sg l) vs → VRepL X' l vs
  | [], vs, _, h => by simpa only [SV.instL, VRepL] using h
  | s :: l, vs, ho, h => by
    simp only [SV.instL, VRepL] at h ⊢
    simp only [SV.okAtL, Bool.and_eq_true] at ho
    obtain ⟨v, r, e, h1, h2⟩ := h
    exact ⟨v, r, e, Tr.vrep t ho.1 h1, Tr.vrepL t ho.2 h2⟩
end

theorem Tr.row (t : Tr n n0 sg X X') {r : Nat} {e : Ty} {a : At} {z : Prop} (ho : a.okAt n = true) (h : RowRep X r e (a.inst n0 sg) z) : RowRep X' r e a z := by
  obtain ⟨d, h1, h2⟩ := h
  refine ⟨d, by rw [← t.at_ a ho]; exact h1, ?_⟩
  rw [t.β, t.w]
  rcases h2 with h2 | ⟨b, c, te, fr, l, xs, p1, p2, p3, p4, p5, p6⟩
  · exact .inl h2
  · have K := t.K
    rw [t.w] at K
    exact .inr ⟨b, c, te, fr, l, xs, p1, p2, p3, p4, p5.keep K, p6⟩

theorem Tr.mem {B0 : Nat} (t : Tr n n0 sg X X') (m : Mem B0 X) : Mem B0 X' where
  rep := fun r hA' => by
    have hA := (t.A r).1 hA'
    have h := m.rep r hA
    have ho := t.ok r hA
    rw [t.μ r hA] at h
    cases hR : X'.μ r with
    | dead => trivial
    | box T v =>
      rw [hR] at h ho
      obtain ⟨b, c, te, h1, h2, h3, h4⟩ := h
      exact ⟨b, c, te, by rw [t.β]; exact h1, by rw [t.w]; exact h2, SV.inst_hasTy h3, t.crep ho h4⟩
    | row e a => rw [hR] at h ho; exact t.row ho h
    | fz e a =>
      rw [hR] at h ho
      exact ⟨t.row ho h.1, fun b hb hM => h.2 b (by rw [t.β] at hb; exact hb) ((t.M b).1 hM)⟩
    | mat e a g =>
      rw [hR] at h ho
      obtain ⟨d, h1, h2⟩ := h
      refine ⟨d, by rw [← t.at_ a ho]; exact h1, ?_⟩
      have K := t.K
      rw [t.w] at K
      rw [t.β, t.w]
      rcases h2 with h2 | ⟨b, c, te, l, xs, p1, p2, p3, p4, p5⟩
      · exact .inl h2
      · exact .inr ⟨b, c, te, l, xs, p1, p2, p3, p4.keep K (fun _ _ => rfl), p5⟩
  apart := fun r r' b h1 h2 h3 h4 => m.apart r r' b ((t.A r).1 h1) ((t.A r').1 h2) (by rw [t.μ r ((t.A r).1 h1), Root.inst_own, ← t.β]; exact h3) (by rw [t.μ r' ((t.A r').1 h2), Root.inst_own, ← t.β]; exact h4)
  once := fun r h1 => by
    have := m.once r ((t.A r).1 h1)
    rw [t.μ r ((t.A r).1 h1), Root.inst_own, ← t.β] at this
    exact this
  low := fun r b h1 h2 => m.low r b ((t.A r).1 h1) (by rw [t.μ r ((t.A r).1 h1), Root.inst_own, ← t.β]; exact h2)
  frame := fun b h => m.frame b (t.F ▸ h)

/-- What was carried on so far still is. -/
theorem Tr.ext {Xe : Ctx} (t : Tr n n0 sg X X') (x : Ext Xe X) (hE : ∀ (i : Nat) (d : D), Xe.E[i]? = some d → X'.E[i]? = some d) : Ext Xe X' where
  E := hE
  K := ⟨fun a v h hm => t.K.cell a v (x.K.cell a v h hm) (x.K.free a v h hm), fun a v h hm => t.K.free a v (x.K.cell a v h hm) (x.K.free a v h hm)⟩
  A := fun r h => (t.A r).2 (x.A r h)
  F := t.F.trans x.F
  β := fun r h => ⟨fun ht => (x.β r h).1 (by rw [t.μ r (x.A r h), Root.inst_there]; exact ht), by rw [t.β]; exact (x.β r h).2⟩
  row := fun r e a d h ht hr hd => by
    obtain ⟨a', d', r1, r2, r3⟩ := x.row r e a d h (by rw [t.μ r (x.A r h), Root.inst_there]; exact ht) hr hd
    rw [t.μ r (x.A r h)] at r1
    obtain ⟨a'', q1, q2⟩ := Root.inst_row r1
    subst q2
    exact ⟨a'', d', q1, by rw [← t.at_ a'' (Root.row_ok q1 (t.ok r (x.A r h)))]; exact r2, r3⟩
  mat := fun r e a' g h hm => by
    have hμ := t.μ r (x.A r h)
    have hok := t.ok r (x.A r h)
    rw [hm] at hμ hok
    simp only [Root.inst] at hμ
    simp only [Root.okAt] at hok
    obtain ⟨a, g0, r1, q⟩ := x.mat r e _ g h hμ
    refine ⟨a, g0, r1, fun eg => ?_⟩
    obtain ⟨q1, q2, q3⟩ := q eg
    rw [t.β, t.w]
    exact ⟨q1, q2, fun d hd => by rw [← t.at_ a' hok]; exact q3 d hd⟩
  gen := fun r e a g e' a' g' h h1 h2 => by
    have hμ := t.μ r (x.A r h)
    rw [h2] at hμ
    simp only [Root.inst] at hμ
    exact x.gen r e a g e' _ g' h h1 hμ
  size := fun r b k h ht hb hk => by
    rw [t.w]
    exact x.size r b k h (by rw [t.μ r (x.A r h), Root.inst_there]; exact ht) hb hk
end

/-! ### Nothing is put in -/
theorem At.inst_nil {n : Nat} {a : At} (h : a.okAt n = true) : a.inst n [] = a := by
  cases a with
  | c d => rfl
  | v i =>
    simp only [At.okAt, Nat.blt_eq] at h
    simp only [At.inst]
    rw [if_neg (by simp only [Nat.ble_eq]; omega)]
theorem path_inst_nil {n : Nat} : ∀ {q : List Stp}, pathOkAt n q = true → q.map (Stp.inst n []) = q
  | [], _ => rfl
  | .f j :: q, h => by
    simp only [pathOkAt, Stp.okAt, Bool.true_and] at h
    simp only [List.map_cons, Stp.inst, path_inst_nil h]
  | .i a :: q, h => by
    simp only [pathOkAt, Stp.okAt, Bool.and_eq_true] at h
    simp only [List.map_cons, Stp.inst, At.inst_nil h.1, path_inst_nil h.2]
mutual
theorem SV.inst_nil {n : Nat} : ∀ {s : SV}, s.okAt n = true → s.inst n [] = s
  | .un _, _ => rfl
  | .cv _, _ => rfl
  | .d T a, ho => by simp only [SV.okAt] at ho; simp only [SV.inst, At.inst_nil ho]
  | .pd T a, ho => by simp only [SV.okAt] at ho; simp only [SV.inst, At.inst_nil ho]
  | .z e a, ho => by simp only [SV.okAt] at ho; simp only [SV.inst, At.inst_nil ho]
  | .hc e r a, ho => by simp only [SV.okAt] at ho; simp only [SV.inst, At.inst_nil ho]
  | .h e r none, _ => rfl
  | .h e r (some (a, b)), ho => by
    simp only [SV.okAt, vwOkAt, Bool.and_eq_true] at ho
    simp only [SV.inst, vwInst, At.inst_nil ho.1, At.inst_nil ho.2]
  | .p R T r q, ho => by simp only [SV.okAt] at ho; simp only [SV.inst, path_inst_nil ho]
  | .hb R e k r q, ho => by simp only [SV.okAt] at ho; simp only [SV.inst, path_inst_nil ho]
  | .hr e r i g, ho => by simp only [SV.okAt] at ho; simp only [SV.inst, At.inst_nil ho]
  | .pm e T r i q g, ho => by
    simp only [SV.okAt, Bool.and_eq_true] at ho
    simp only [SV.inst, At.inst_nil ho.1, path_inst_nil ho.2]
  | .ag T l, ho => by simp only [SV.okAt] at ho; simp only [SV.inst, SV.instL_nil ho]
  | .tu l, ho => by simp only [SV.okAt] at ho; simp only [SV.inst, SV.instL_nil ho]
  | .fn f a l, ho => by
    simp only [SV.okAt, Bool.and_eq_true] at ho
    simp only [SV.inst, SV.instL_nil ho.1, SV.instL_nil ho.2]
theorem SV.instL_nil {n : Nat} : ∀ {l : List SV}, SV.okAtL n l = true → SV.instL n [] l = l
  | [], _ => rfl
  | s :: l, ho => by
    simp only [SV.okAtL, Bool.and_eq_true] at ho
    simp only [SV.instL, SV.inst_nil ho.1, SV.instL_nil ho.2]
end
theorem Root.inst_nil {n : Nat} {R : Root} (h : R.okAt n = true) : R.inst n [] = R := by
  cases R <;> simp only [Root.okAt] at h <;> simp only [Root.inst, At.inst_nil, SV.inst_nil, h]
theorem rootsOkAt_get {n : Nat} : ∀ {l : List Root} {r : Nat}, rootsOkAt n l = true → (memFn l r).okAt n = true
  | [], r, _ => by simp [memFn, Root.okAt]
  | R :: l, 0, h => by simp only [rootsOkAt, Bool.and_eq_true] at h; exact h.1
  | R :: l, r + 1, h => by
    simp only [rootsOkAt, Bool.and_eq_true] at h
    exact rootsOkAt_get (l := l) (r := r) h.2

end Go.SX

/- What says less holds too. -/
namespace Go.SX
open Go.RowKit (Below)

theorem pathBeq_eq : ∀ {q q' : List Stp}, pathBeq q q' = true → q = q'
  | [], [], _ => rfl
  | a :: l, b :: l', h => by
    simp only [pathBeq, Bool.and_eq_true] at h
    have h1 : a = b := by
      cases a <;> cases b <;> simp only [Stp.beq, Bool.false_eq_true] at h
      · rw [nat_beq h.1]
      · exact h.1.elim
      · exact h.1.elim
      · rw [At.beq_eq h.1]
    rw [h1, pathBeq_eq h.2]
  | [], _ :: _, h => by simp [pathBeq] at h
  | _ :: _, [], h => by simp [pathBeq] at h
theorem vwBeq_eq : ∀ {a b : Option (At × At)}, vwBeq a b = true → a = b
  | none, none, _ => rfl
  | some (a, b), some (c, d), h => by
    simp only [vwBeq, Bool.and_eq_true] at h
    rw [At.beq_eq h.1, At.beq_eq h.2]
  | none, some _, h => by simp [vwBeq] at h
  | some _, none, h => by simp [vwBeq] at h
theorem valBeq_eq {a b : Value} (h : valBeq a b = true) : a = b := by
  unfold valBeq at h
  split at h <;> simp_all

section
variable {X : Ctx}

mutual
theorem CRep.csize : ∀ {s : SV} {cs : List Value}, CRep X s cs → cs.length = s.csize
  | .un n, cs, h => by simp only [CRep] at h; exact h.1
  | .cv v, cs, h => by
    simp only [CRep] at h
    rw [h.1, SV.csize, h.2.cells]
    rfl
  | .d T' a, cs, h => by simp only [CRep] at h; obtain ⟨d, _, h⟩ := h; exact h.length
  | .ag T' l, cs, h => by
    cases T' <;> simp only [CRep] at h
    simp only [SV.csize]
    exact CRepL.csize h
  | .fn _ _ _, cs, h => by simp only [CRep] at h; obtain ⟨us, vs, h, _⟩ := h; simp [h, SV.csize]
  | .tu _, cs, h => by simp only [CRep] at h
  | .h _ _ _, cs, h => by simp only [CRep] at h; obtain ⟨v, h, _⟩ := h; simp [h, SV.csize]
  | .hc _ _ _, cs, h => by simp only [CRep] at h; obtain ⟨v, h, _⟩ := h; simp [h, SV.csize]
  | .z _ _, cs, h => by simp only [CRep] at h; obtain ⟨v, h, _⟩ := h; simp [h, SV.csize]
  | .hb _ _ _ _ _, cs, h => by simp only [CRep] at h; obtain ⟨v, h, _⟩ := h; simp [h, SV.csize]
  | .hr _ _ _ _, cs, h => by simp only [CRep] at h; obtain ⟨v, h, _⟩ := h; simp [h, SV.csize]
  | .p _ _ _ _, cs, h => by simp only [CRep] at h; obtain ⟨v, h, _⟩ := h; simp [h, SV.csize]
  | .pm _ _ _ _ _ _, cs, h => by simp only [CRep] at h; obtain ⟨v, h, _⟩ := h; simp [h, SV.csize]
  | .pd _ _, cs, h => by simp only [CRep] at h; obtain ⟨v, h, _⟩ := h; simp [h, SV.csize]
theorem CRepL.csize : ∀ {l : List SV} {Ts : List Ty} {cs : List Value}, CRepL X l Ts cs → cs.length = SV.csizeL l
  | [], [], cs, h => by simp only [CRepL] at h; simp [h, SV.csizeL]
  | s :: l, T :: Ts, cs, h => by
    simp only [CRepL] at h
    obtain ⟨c1, c2, e, ht, h1, h2⟩ := h
    simp [e, SV.csizeL, CRep.csize h1, CRepL.csize h2]
  | [], _ :: _, _, h => by simp only [CRepL] at h
  | _ :: _, [], _, h => by simp only [CRepL] at h
end

/-- What a comparison of values comes to, but for what is unknown. -/
theorem le_cases {a b : SV} (hle : a.le b = true) : (∃ n, b = .un n ∧ a.csize = n) ∨ (∃ T l l', a = .ag T l ∧ b = .ag T l' ∧ SV.leL l l' = true) ∨ (∃ l l', a = .tu l ∧ b = .tu l' ∧ SV.leL l l' = true) ∨
    (∃ f u u' l l', a = .fn f u l ∧ b = .fn f u' l' ∧ SV.leL u u' = true ∧ SV.leL l l' = true) ∨ a = b := by
  cases b with
  | un n => exact .inl ⟨n, rfl, nat_beq (by cases a <;> exact hle)⟩
  | cv v => cases a <;> simp only [SV.le, Bool.false_eq_true] at hle; exact .inr (.inr (.inr (.inr (by rw [valBeq_eq hle]))))
  | d T x => cases a <;> simp only [SV.le, Bool.false_eq_true, Bool.and_eq_true] at hle; exact .inr (.inr (.inr (.inr (by rw [Ty.beq_eq hle.1, At.beq_eq hle.2]))))
  | ag T l =>
    cases a <;> simp only [SV.le, Bool.false_eq_true, Bool.and_eq_true] at hle
    exact .inr (.inl ⟨_, _, _, by rw [Ty.beq_eq hle.1], rfl, hle.2⟩)
  | h e r vw => cases a <;> simp only [SV.le, Bool.false_eq_true, Bool.and_eq_true] at hle; exact .inr (.inr (.inr (.inr (by rw [Ty.beq_eq hle.1.1, nat_beq hle.1.2, vwBeq_eq hle.2]))))
  | z e x => cases a <;> simp only [SV.le, Bool.false_eq_true, Bool.and_eq_true] at hle; exact .inr (.inr (.inr (.inr (by rw [Ty.beq_eq hle.1, At.beq_eq hle.2]))))
  | p R T r q => cases a <;> simp only [SV.le, Bool.false_eq_true, Bool.and_eq_true] at hle; exact .inr (.inr (.inr (.inr (by rw [Ty.beq_eq hle.1.1.1, Ty.beq_eq hle.1.1.2, nat_beq hle.1.2, pathBeq_eq hle.2]))))
  | pd T x => cases a <;> simp only [SV.le, Bool.false_eq_true, Bool.and_eq_true] at hle; exact .inr (.inr (.inr (.inr (by rw [Ty.beq_eq hle.1, At.beq_eq hle.2]))))
  | hb R e n r q => cases a <;> simp only [SV.le, Bool.false_eq_true, Bool.and_eq_true] at hle; exact .inr (.inr (.inr (.inr (by rw [Ty.beq_eq hle.1.1.1.1, Ty.beq_eq hle.1.1.1.2, nat_beq hle.1.1.2, nat_beq hle.1.2, pathBeq_eq hle.2]))))
  | hr e r i g => cases a <;> simp only [SV.le, Bool.false_eq_true, Bool.and_eq_true] at hle; exact .inr (.inr (.inr (.inr (by rw [Ty.beq_eq hle.1.1.1, nat_beq hle.1.1.2, At.beq_eq hle.1.2, nat_beq hle.2]))))
  | hc e r i => cases a <;> simp only [SV.le, Bool.false_eq_true, Bool.and_eq_true] at hle; exact .inr (.inr (.inr (.inr (by rw [Ty.beq_eq hle.1.1, nat_beq hle.1.2, At.beq_eq hle.2]))))
  | pm e T r i q g => cases a <;> simp only [SV.le, Bool.false_eq_true, Bool.and_eq_true] at hle; exact .inr (.inr (.inr (.inr (by rw [Ty.beq_eq hle.1.1.1.1.1, Ty.beq_eq hle.1.1.1.1.2, nat_beq hle.1.1.1.2, At.beq_eq hle.1.1.2, pathBeq_eq hle.1.2, nat_beq hle.2]))))
  | fn f u l =>
    cases a <;> simp only [SV.le, Bool.false_eq_true, Bool.and_eq_true] at hle
    exact .inr (.inr (.inr (.inl ⟨f, _, _, _, _, by rw [nat_beq hle.1.1], rfl, hle.1.2, hle.2⟩)))
  | tu l =>
    cases a <;> simp only [SV.le, Bool.false_eq_true] at hle
    exact .inr (.inr (.inl ⟨_, _, rfl, rfl, hle⟩))

theorem le_hasTy {a b : SV} {T : Ty} {cs : List Value} (hle : a.le b = true) (ht : a.hasTy T) (hc : CRep X a cs) : b.hasTy T := by
  rcases le_cases hle with ⟨n, e, h⟩ | ⟨T', l, l', e1, e2, _⟩ | ⟨l, l', e1, e2, _⟩ | ⟨f, u, u', l, l', e1, e2, _⟩ | e
  · subst e
    simp only [SV.hasTy]
    rw [← h, ← CRep.csize hc, CRep.length ht hc]
  · subst e1 e2; exact ht
  · subst e1 e2; exact ht
  · subst e1 e2; exact ht
  · subst e; exact ht

mutual
theorem le_crep : ∀ {b a : SV} {cs : List Value}, a.le b = true → CRep X a cs → CRep X b cs
  | b, a, cs, hle, hc => by
    cases hb : b with
    | ag T' l' =>
      subst hb
      rcases le_cases hle with ⟨n, e, h⟩ | ⟨T, l, l1, e1, e2, h⟩ | ⟨l, l1, e1, e2, _⟩ | ⟨f, u, u', l, l1, e1, e2, _⟩ | e
      · cases e
      · injection e2 with e2 e3
        subst e1 e2 e3
        cases T' <;> simp only [CRep] at hc ⊢
        exact le_crepL h hc
      · cases e2
      · cases e2
      · subst e; exact hc
    | fn f' u' l' =>
      subst hb
      rcases le_cases hle with ⟨n, e, h⟩ | ⟨T, l, l1, e1, e2, h⟩ | ⟨l, l1, e1, e2, _⟩ | ⟨f, u, u1, l, l1, e1, e2, h1, h2⟩ | e
      · cases e
      · cases e2
      · cases e2
      · injection e2 with e2 e3 e4
        subst e1 e2 e3 e4
        simp only [CRep] at hc ⊢
        obtain ⟨us, vs, g1, g2, g3⟩ := hc
        exact ⟨us, vs, g1, le_vrepL h1 g2, le_vrepL h2 g3⟩
      · subst e; exact hc
    | un n =>
      subst hb
      rcases le_cases hle with ⟨n', e, h⟩ | ⟨T, l, l1, e1, e2, h⟩ | ⟨l, l1, e1, e2, _⟩ | ⟨f, u, u1, l, l1, e1, e2, h1, h2⟩ | e
      · injection e with e
        subst e
        simp only [CRep]
        exact ⟨by rw [CRep.csize hc, h], CRep.ones hc⟩
      · cases e2
      · cases e2
      · cases e2
      · subst e; exact hc
    | tu l' =>
      subst hb
      rcases le_cases hle with ⟨n', e, h⟩ | ⟨T, l, l1, e1, e2, h⟩ | ⟨l, l1, e1, e2, _⟩ | ⟨f, u, u1, l, l1, e1, e2, h1, h2⟩ | e
      · cases e
      · cases e2
      · subst e1; simp only [CRep] at hc
      · cases e2
      · subst e; exact hc
    | _ =>
      subst hb
      rcases le_cases hle with ⟨n', e, h⟩ | ⟨T, l, l1, e1, e2, h⟩ | ⟨l, l1, e1, e2, _⟩ | ⟨f, u, u1, l, l1, e1, e2, h1, h2⟩ | e
      · cases e
      · cases e2
      · cases e2
      · cases e2
      · subst e; exact hc
theorem le_crepL : ∀ {l' l : List SV} {Ts : List Ty} {cs : List Value}, SV.leL l l' = true → CRepL X l Ts cs → CRepL X l' Ts cs
  | [], [], _, cs, _, h => h
  | b :: l', a :: l, T :: Ts, cs, hle, h => by
    simp only [SV.leL, Bool.and_eq_true] at hle
    simp only [CRepL] at h ⊢
    obtain ⟨c1, c2, e, h0, h1, h2⟩ := h
    exact ⟨c1, c2, e, le_hasTy hle.1 h0 h1, le_crep hle.1 h1, le_crepL hle.2 h2⟩
  | _ :: _, [], _, _, h, _ => by simp [SV.leL] at h
  | [], _ :: _, _, _, h, _ => by simp [SV.leL] at h
  | _ :: _, _ :: _, [], _, _, h => by simp only [CRepL] at h
theorem le_vrep : ∀ {b a : SV} {v : Value}, a.le b = true → VRep X a v → VRep X b v
  | b, a, v, hle, hv => by
    cases hb : b with
    | ag T' l' =>
      subst hb
      rcases le_cases hle with ⟨n, e, h⟩ | ⟨T, l, l1, e1, e2, h⟩ | ⟨l, l1, e1, e2, _⟩ | ⟨f, u, u', l, l1, e1, e2, _⟩ | e
      · cases e
      · injection e2 with e2 e3
        subst e1 e2 e3
        cases T' <;> simp only [VRep] at hv ⊢
        obtain ⟨cs, h1, h2⟩ := hv
        exact ⟨cs, h1, le_crepL h h2⟩
      · cases e2
      · cases e2
      · subst e; exact hv
    | fn f' u' l' =>
      subst hb
      rcases le_cases hle with ⟨n, e, h⟩ | ⟨T, l, l1, e1, e2, h⟩ | ⟨l, l1, e1, e2, _⟩ | ⟨f, u, u1, l, l1, e1, e2, h1, h2⟩ | e
      · cases e
      · cases e2
      · cases e2
      · injection e2 with e2 e3 e4
        subst e1 e2 e3 e4
        simp only [VRep] at hv ⊢
        obtain ⟨us, vs, g1, g2, g3⟩ := hv
        exact ⟨us, vs, g1, le_vrepL h1 g2, le_vrepL h2 g3⟩
      · subst e; exact hv
    | tu l' =>
      subst hb
      rcases le_cases hle with ⟨n', e, h⟩ | ⟨T, l, l1, e1, e2, h⟩ | ⟨l, l1, e1, e2, h⟩ | ⟨f, u, u1, l, l1, e1, e2, h1, h2⟩ | e
      · cases e
      · cases e2
      · injection e2 with e2
        subst e1 e2
        simp only [VRep] at hv ⊢
        obtain ⟨vs, g1, g2⟩ := hv
        exact ⟨vs, g1, le_vrepL h g2⟩
      · cases e2
      · subst e; exact hv
    | un n => simp only [VRep]
    | _ =>
      subst hb
      rcases le_cases hle with ⟨n', e, h⟩ | ⟨T, l, l1, e1, e2, h⟩ | ⟨l, l1, e1, e2, _⟩ | ⟨f, u, u1, l, l1, e1, e2, h1, h2⟩ | e
      · cases e
      · cases e2
      · cases e2
      · cases e2
      · subst e; exact hv
theorem le_vrepL : ∀ {l' l : List SV} {vs : List Value}, SV.leL l l' = true → VRepL X l vs → VRepL X l' vs
  | [], [], _, _, h => h
  | b :: l', a :: l, vs, hle, h => by
    simp only [SV.leL, Bool.and_eq_true] at hle
    simp only [VRepL] at h ⊢
    obtain ⟨v, r, e, h1, h2⟩ := h
    exact ⟨v, r, e, le_vrep hle.1 h1, le_vrepL hle.2 h2⟩
  | _ :: _, [], _, h, _ => by simp [SV.leL] at h
  | [], _ :: _, _, h, _ => by simp [SV.leL] at h
end
theorem leSlot_vrep {a b : SV} {v : Value} (hle : a.leSlot b = true) (hv : VRep X a v) : VRep X b v := by
  cases b with
  | un n => simp only [VRep]
  | _ => exact le_vrep hle hv

/-! ### Roots -/
variable {B0 : Nat}
theorem Mem.rebox (m : Mem B0 X) (hB : B0 ≤ X.w.heap.size) {r : Nat} {T : Ty} {v v' : SV} (hA : X.A r) (hR : X.μ r = .box T v) (hle : v.le v' = true) : Ext X { X with μ := upd X.μ r (.box T v') } ∧ Mem B0 { X with μ := upd X.μ r (.box T v') } := by
  refine Mem.change m hB (fun q => q = r) (fun _ _ h => h) (fun _ h => h) (fun q h => .inl h) (fun q hq => ⟨upd_ne _ _ hq, rfl⟩) (fun _ _ _ => rfl) (fun _ _ h => h) ?_ ?_ ?_ (fun _ _ _ => rfl) ?_ ?_
  · intro q b hq _ hb
    subst hq
    simp only [upd_same] at hb
    exact .inr ⟨q, rfl, hA, by rw [hR]; exact hb⟩
  · intro q q' b hq hq' _ _ _ _
    rw [hq, hq']
  · intro q hq _
    subst hq
    have := m.once q hA
    rw [hR] at this
    simp only [upd_same]
    exact this
  · intro q hq _ _
    subst hq
    refine ⟨by rw [hR]; rfl, fun e1 a1 d1 hr hd => ?_, fun e1 a1 g1 hr => ?_⟩
    · rw [hR] at hr
      cases hr
    · simp only [upd_same] at hr
      cases hr
  · intro x q hq _
    subst hq
    simp only [upd_same]
    have hrep := m.rep q hA
    rw [hR] at hrep
    obtain ⟨b, c, te, h1, h2, h3, h4⟩ := hrep
    exact ⟨b, c, te, h1, h2, le_hasTy hle h3 h4, CRep.ext x (le_crep hle h4)⟩

theorem Mem.same_root (m : Mem B0 X) {r : Nat} : Ext X { X with μ := upd X.μ r (X.μ r) } ∧ Mem B0 { X with μ := upd X.μ r (X.μ r) } := by
  have : upd X.μ r (X.μ r) = X.μ := by
    funext q
    by_cases h : q = r
    · subst h; rw [upd_same]
    · rw [upd_ne _ _ h]
  rw [this]
  exact ⟨Ext.refl X, m⟩

theorem Mem.weaken (m : Mem B0 X) (hB : B0 ≤ X.w.heap.size) {r : Nat} {R : Root} (hA : X.A r) (hle : (X.μ r).le R = true) : Ext X { X with μ := upd X.μ r R } ∧ Mem B0 { X with μ := upd X.μ r R } := by
  cases hk : X.μ r with
  | dead =>
    rw [hk] at hle
    cases R <;> simp only [Root.le, Bool.false_eq_true] at hle
    exact m.kill hB r
  | box T v =>
    rw [hk] at hle
    cases R with
    | dead => exact m.kill hB r
    | box T' v' =>
      simp only [Root.le, Bool.and_eq_true] at hle
      have := Ty.beq_eq hle.1
      subst this
      exact m.rebox hB hA hk hle.2
    | _ => simp only [Root.le, Bool.false_eq_true] at hle
  | row e a =>
    rw [hk] at hle
    cases R with
    | dead => exact m.kill hB r
    | row e' a' =>
      simp only [Root.le, Bool.and_eq_true] at hle
      have h1 := Ty.beq_eq hle.1
      have h2 := At.beq_eq hle.2
      subst h1 h2
      exact m.lower hB hA (.inl hk) (.inr rfl)
    | fz e' a' =>
      simp only [Root.le, Bool.and_eq_true] at hle
      have h1 := Ty.beq_eq hle.1
      have h2 := At.beq_eq hle.2
      subst h1 h2
      exact m.lower hB hA (.inl hk) (.inl rfl)
    | _ => simp only [Root.le, Bool.false_eq_true] at hle
  | mat e a g =>
    rw [hk] at hle
    cases R with
    | dead => exact m.kill hB r
    | row e' a' =>
      simp only [Root.le, Bool.and_eq_true] at hle
      have h1 := Ty.beq_eq hle.1
      have h2 := At.beq_eq hle.2
      subst h1 h2
      exact m.lower hB hA (.inr ⟨e, g, rfl, hk⟩) (.inr rfl)
    | fz e' a' =>
      simp only [Root.le, Bool.and_eq_true] at hle
      have h1 := Ty.beq_eq hle.1
      have h2 := At.beq_eq hle.2
      subst h1 h2
      exact m.lower hB hA (.inr ⟨e, g, rfl, hk⟩) (.inl rfl)
    | mat e' a' g' =>
      simp only [Root.le, Bool.and_eq_true] at hle
      have h1 := Ty.beq_eq hle.1.1
      have h2 := At.beq_eq hle.1.2
      have h3 := nat_beq hle.2
      subst h1 h2 h3
      rw [← hk]
      exact m.same_root
    | _ => simp only [Root.le, Bool.false_eq_true] at hle
  | fz e a =>
    rw [hk] at hle
    cases R with
    | dead => exact m.kill hB r
    | fz e' a' =>
      simp only [Root.le, Bool.and_eq_true] at hle
      have h1 := Ty.beq_eq hle.1
      have h2 := At.beq_eq hle.2
      subst h1 h2
      rw [← hk]
      exact m.same_root
    | _ => simp only [Root.le, Bool.false_eq_true] at hle

/-- Names that aren't taken say nothing. -/
theorem Mem.outside (m : Mem B0 X) {μ' : Nat → Root} (h : ∀ r, X.A r → μ' r = X.μ r) : Ext X { X with μ := μ' } ∧ Mem B0 { X with μ := μ' } := by
  have hM : ∀ b, Ctx.M { X with μ := μ' } b → X.M b := fun b hb => by
    rcases hb with hb | ⟨r, h1, h2⟩
    · exact .inl hb
    · exact .inr ⟨r, h1, by rw [← h r h1]; exact h2⟩
  have x : Ext X { X with μ := μ' } :=
    { E := fun _ _ h => h
      K := ⟨fun _ _ h _ => h, fun _ _ _ h h' => h (hM _ h')⟩
      F := rfl
      A := fun _ h => h
      β := fun r hA => ⟨fun ht => by rw [← h r hA]; exact ht, rfl⟩
      row := fun r e a d hA _ hr hd => ⟨a, d, by show (μ' r).row? = _; rw [h r hA]; exact hr, hd, sameLen.refl d⟩
      mat := fun r e a g hA hr => ⟨a, g, by rw [← h r hA]; exact hr, fun _ => ⟨rfl, fun _ _ _ h => h, fun d hd => ⟨d, hd, sameRows.refl d⟩⟩⟩
      gen := fun r e a g e' a' g' hA h1 h2 => by
        have h2' : μ' r = .mat e' a' g' := h2
        rw [h r hA, h1] at h2'
        injection h2' with _ _ e
        omega
      size := fun _ _ _ _ _ _ h => h }
  refine ⟨x, Mem.of x m (fun r hA => .inl ⟨hA, h r hA, rfl, fun _ _ => rfl, fun e a b hr hb => ⟨rfl, fun hM' => ?_⟩⟩) (fun r r' b h1 h2 h3 h4 => m.apart r r' b h1 h2 (by rw [← h r h1]; exact h3) (by rw [← h r' h2]; exact h4)) (fun r h1 => ?_) (fun r b h1 h2 => m.low r b h1 (by rw [← h r h1]; exact h2))⟩
  · have := m.rep r hA
    rw [hr] at this
    exact this.2 b hb (hM _ hM')
  · have := m.once r h1
    show ((μ' r).own _).Nodup
    rw [h r h1]
    exact this

/-- Many roots say less. -/
theorem Mem.weakenAll (m : Mem B0 X) (hB : B0 ≤ X.w.heap.size) {μ' : Nat → Root} {N : Nat} (hN : ∀ r, X.A r → r < N) (hle : ∀ r, X.A r → μ' r = X.μ r ∨ (X.μ r).le (μ' r) = true) : Ext X { X with μ := μ' } ∧ Mem B0 { X with μ := μ' } := by
  have main : ∀ n, Ext X { X with μ := fun r => if r < n then (if X.w.heap.size = X.w.heap.size then (match (Classical.propDecidable (X.A r)) with | .isTrue _ => μ' r | .isFalse _ => X.μ r) else X.μ r) else X.μ r } ∧ Mem B0 { X with μ := fun r => if r < n then (if X.w.heap.size = X.w.heap.size then (match (Classical.propDecidable (X.A r)) with | .isTrue _ => μ' r | .isFalse _ => X.μ r) else X.μ r) else X.μ r } := by
    intro n
    induction n with
    | zero =>
      simp only [Nat.not_lt_zero, if_false]
      exact ⟨Ext.refl X, m⟩
    | succ n ih =>
      generalize hμ1 : (fun r => if r < n then (if X.w.heap.size = X.w.heap.size then (match (Classical.propDecidable (X.A r)) with | .isTrue _ => μ' r | .isFalse _ => X.μ r) else X.μ r) else X.μ r) = μ1 at ih
      obtain ⟨x1, m1⟩ := ih
      have hn : μ1 n = X.μ n := by rw [← hμ1]; simp
      have hnext : (fun r => if r < n + 1 then (if X.w.heap.size = X.w.heap.size then (match (Classical.propDecidable (X.A r)) with | .isTrue _ => μ' r | .isFalse _ => X.μ r) else X.μ r) else X.μ r) = upd μ1 n (match (Classical.propDecidable (X.A n)) with | .isTrue _ => μ' n | .isFalse _ => X.μ n) := by
        funext r
        by_cases h : r = n
        · subst h; simp [upd_same]
        · rw [upd_ne _ _ h, ← hμ1]
          by_cases h2 : r < n
          · simp [h2, Nat.lt_succ_of_lt h2]
          · have : ¬ r < n + 1 := by omega
            simp [h2, this]
      rw [hnext]
      cases hd : Classical.propDecidable (X.A n) with
      | isFalse hno =>
        simp only []
        rw [← hn]
        obtain ⟨x2, m2⟩ := m1.same_root (r := n)
        exact ⟨x1.trans x2, m2⟩
      | isTrue hyes =>
        simp only []
        rcases hle n hyes with h | h
        · rw [h, ← hn]
          obtain ⟨x2, m2⟩ := m1.same_root (r := n)
          exact ⟨x1.trans x2, m2⟩
        · have h' : (({ X with μ := μ1 } : Ctx).μ n).le (μ' n) = true := by show (μ1 n).le _ = true; rw [hn]; exact h
          obtain ⟨x2, m2⟩ := m1.weaken (X := { X with μ := μ1 }) hB hyes h'
          exact ⟨x1.trans x2, m2⟩
  obtain ⟨x1, m1⟩ := main N
  have hout := m1.outside (X := { X with μ := fun r => if r < N then (if X.w.heap.size = X.w.heap.size then (match (Classical.propDecidable (X.A r)) with | .isTrue _ => μ' r | .isFalse _ => X.μ r) else X.μ r) else X.μ r }) (μ' := μ') (fun r hA => by
    have hA' : X.A r := hA
    show μ' r = if r < N then _ else _
    rw [if_pos (hN r hA'), if_pos rfl]
    cases hd : Classical.propDecidable (X.A r) with
    | isTrue _ => rfl
    | isFalse hno => exact absurd hA' hno)
  exact ⟨x1.trans hout.1, hout.2⟩
end

end Go.SX

/- Calls whose bodies are run in place. -/
namespace Go.SX
open Go.RowKit (Below)

/-- A function's body, run in place, does what is said. -/
def InlOk (cx : Cx) (C : FuncId → List D → Option (List D)) (k : Nat) (inl : FuncId → List SV → Nat → List Root → Option Inl) : Prop :=
  ∀ (f : FuncId) (args : List SV) (nv : Nat) (mem : List Root) (i : Inl), inl f args nv mem = some i → mem.length ≤ i.mem.length →
    ∀ (B0 : Nat) (X : Ctx) (vals : Array Value), X.E.length = nv → (∀ r, X.A r ↔ r < mem.length) → X.μ = memFn mem → Mem B0 X → B0 ≤ X.w.heap.size → VRepL X args vals.toList →
      ∀ bk vs, ev C k i.t X.E = some (.jmp 0 bk vs) → vs.length = i.m →
        Calls cx.P f vals X.w fun e w' => ∃ v, e = .returned v ∧ ∃ X' : Ctx, X'.E = X.E ++ vs ∧ X'.w = w' ∧ (∀ r, X'.A r ↔ r < i.mem.length) ∧ X'.μ = memFn i.mem ∧ Ext X X' ∧ Mem B0 X' ∧ Below B0 X.w w' ∧ VRep X' i.res v

section
variable {C : FuncId → List D → Option (List D)} {k B0 : Nat} {X : Ctx} {cx : Cx}

theorem askAll_run {μ : Nat → Root} : ∀ {n r : Nat} {l : List Root} {σ σ' : SS}, Run (askAll n r) μ σ l σ' → σ' = σ ∧ l.length = n ∧ ∀ j, j < n → l[j]? = some (now μ σ.up (r + j))
  | 0, r, l, σ, σ', h => by
    simp only [askAll] at h
    obtain ⟨e1, e2⟩ := Run.pure h
    subst e1 e2
    exact ⟨rfl, rfl, fun j hj => by omega⟩
  | n + 1, r, l, σ, σ', h => by
    simp only [askAll] at h
    obtain ⟨R, s1, h1, h2⟩ := Run.bind h
    obtain ⟨eR, es⟩ := Run.root h1
    subst es
    obtain ⟨l', s2, h3, h4⟩ := Run.bind h2
    obtain ⟨e1, e2⟩ := Run.pure h4
    subst e1 e2
    obtain ⟨es, hl, hg⟩ := askAll_run h3
    refine ⟨es, by simp [hl], fun j hj => ?_⟩
    cases j with
    | zero => simp [eR]
    | succ j =>
      simp only [List.getElem?_cons_succ]
      rw [hg j (by omega)]
      congr 2
      omega

theorem upd_now (μ : Nat → Root) (up : List (Nat × Root)) (r q : Nat) (R : Root) : now μ ((r, R) :: up) q = if q = r then R else now μ up q := by rw [now_cons]; rfl

/-- Behind the writes: what is new, or what was and says no more. -/
theorem putAll_run {μ : Nat → Root} : ∀ {l o : List Root} {r : Nat} {u : Unit} {σ σ' : SS}, Run (putAll r o l) μ σ u σ' → (o ≠ [] → r + o.length = σ.ab) → (o = [] → r = σ.ab) → o.length ≤ l.length → (∀ j O, o[j]? = some O → now μ σ.up (r + j) = O) →
    σ'.bs = σ.bs ∧ σ'.nv = σ.nv ∧ σ'.ab = r + l.length ∧ (∀ q, q < r → now μ σ'.up q = now μ σ.up q) ∧ (∀ q, r + l.length ≤ q → now μ σ'.up q = now μ σ.up q) ∧
      ∀ j R, l[j]? = some R → now μ σ'.up (r + j) = R ∨ (j < o.length ∧ R.le (now μ σ'.up (r + j)) = true)
  | [], o, r, u, σ, σ', h, h1, h2, hlen, hold => by
    have ho : o = [] := List.eq_nil_of_length_eq_zero (by simpa using hlen)
    subst ho
    simp only [putAll] at h
    obtain ⟨e1, e2⟩ := Run.pure h
    subst e2
    exact ⟨rfl, rfl, by rw [← h2 rfl]; rfl, fun _ _ => rfl, fun _ _ => rfl, fun j R hj => by simp at hj⟩
  | R :: l, [], r, u, σ, σ', h, h1, h2, hlen, hold => by
    simp only [putAll] at h
    obtain ⟨n, s1, h3, h4⟩ := Run.bind h
    obtain ⟨en, es⟩ := Run.new h3
    subst en es
    have hr := h2 rfl
    obtain ⟨g1, g2, g3, g4, g5, g6⟩ := putAll_run h4 (fun h => absurd rfl h) (fun _ => by rw [hr]) (by simp) (fun j O hj => by simp at hj)
    refine ⟨g1, g2, by rw [g3]; simp only [List.length_cons]; omega, fun q hq => ?_, fun q hq => ?_, fun j R' hj => ?_⟩
    · rw [g4 q (by omega), upd_now, if_neg (by omega)]
    · simp only [List.length_cons] at hq
      rw [g5 q (by omega), upd_now, if_neg (by omega)]
    · cases j with
      | zero =>
        simp at hj
        subst hj
        left
        rw [Nat.add_zero, g4 r (by omega), upd_now, if_pos (by omega)]
      | succ j =>
        simp only [List.getElem?_cons_succ] at hj
        have := g6 j R' hj
        rcases this with this | ⟨h, _⟩
        · left
          rw [← this]
          congr 1
          omega
        · simp at h
  | R :: l, O :: o, r, u, σ, σ', h, h1, h2, hlen, hold => by
    simp only [putAll] at h
    have hab := h1 (by simp)
    simp only [List.length_cons] at hab
    rcases Run.ite h with ⟨hle, h3⟩ | ⟨_, h3⟩
    · obtain ⟨g1, g2, g3, g4, g5, g6⟩ := putAll_run h3 (fun _ => by omega) (fun he => by subst he; simp at hab; exact hab) (by simpa using hlen) (fun j O' hj => by
        have := hold (j + 1) O' (by simpa using hj)
        rw [← this]; congr 1; omega)
      refine ⟨g1, g2, by rw [g3]; simp only [List.length_cons]; omega, fun q hq => g4 q (by omega), fun q hq => ?_, fun j R' hj => ?_⟩
      · simp only [List.length_cons] at hq
        exact g5 q (by omega)
      · cases j with
        | zero =>
          simp at hj
          subst hj
          right
          refine ⟨by simp, ?_⟩
          rw [Nat.add_zero, g4 r (by omega)]
          have := hold 0 O rfl
          rw [Nat.add_zero] at this
          rw [this]
          exact hle
        | succ j =>
          simp only [List.getElem?_cons_succ] at hj
          have e : r + (j + 1) = r + 1 + j := by omega
          rw [e]
          rcases g6 j R' hj with h | ⟨h, h'⟩
          · exact .inl h
          · exact .inr ⟨by simp only [List.length_cons]; omega, h'⟩
    · obtain ⟨_, s1, h4, h5⟩ := Run.bind h3
      have es := Run.put h4
      subst es
      obtain ⟨g1, g2, g3, g4, g5, g6⟩ := putAll_run h5 (fun _ => by show _ = σ.ab; omega) (fun he => by subst he; simp at hab; exact hab) (by simpa using hlen) (fun j O' hj => by
        have := hold (j + 1) O' (by simpa using hj)
        rw [upd_now, if_neg (by omega), ← this]; congr 1; omega)
      refine ⟨g1, g2, by rw [g3]; simp only [List.length_cons]; omega, fun q hq => ?_, fun q hq => ?_, fun j R' hj => ?_⟩
      · rw [g4 q (by omega), upd_now, if_neg (by omega)]
      · simp only [List.length_cons] at hq
        rw [g5 q (by omega), upd_now, if_neg (by omega)]
      · cases j with
        | zero =>
          simp at hj
          subst hj
          left
          rw [Nat.add_zero, g4 r (by omega), upd_now, if_pos rfl]
        | succ j =>
          simp only [List.getElem?_cons_succ] at hj
          have e : r + (j + 1) = r + 1 + j := by omega
          rw [e]
          rcases g6 j R' hj with h | ⟨h, h'⟩
          · exact .inl h
          · exact .inr ⟨by simp only [List.length_cons]; omega, h'⟩

/-- More variables. -/
theorem Mem.moreE (m : Mem B0 X) (hB : B0 ≤ X.w.heap.size) {E' : List D} (hE : ∀ (i : Nat) (d : D), X.E[i]? = some d → E'[i]? = some d) : Ext X { X with E := E' } ∧ Mem B0 { X with E := E' } := by
  refine Mem.change m hB (fun _ => False) hE (fun _ h => h) (fun q h => .inl h) (fun q _ => ⟨rfl, rfl⟩) (fun _ _ _ => rfl) (fun _ _ h => h) ?_ ?_ ?_ ?_ ?_ ?_
  · intro _ _ h; exact h.elim
  · intro _ _ _ h; exact h.elim
  · intro _ h; exact h.elim
  · intro _ h; exact h.elim
  · intro _ h; exact h.elim
  · intro _ _ h; exact h.elim

theorem memFn_get {l : List Root} {r : Nat} {R : Root} (h : l[r]? = some R) : memFn l r = R := by simp [memFn, h]
theorem memFn_out {l : List Root} {r : Nat} (h : l.length ≤ r) : memFn l r = .dead := by simp [memFn, List.getElem?_eq_none h]

theorem okAtL_append {n : Nat} : ∀ {a b : List SV}, SV.okAtL n (a ++ b) = (SV.okAtL n a && SV.okAtL n b)
  | [], b => by simp [SV.okAtL]
  | s :: a, b => by simp [SV.okAtL, okAtL_append, Bool.and_assoc]

theorem inline_sound {inl : FuncId → List SV → Nat → List Root → Option Inl} (hI : InlOk cx C k inl) (hB : B0 ≤ X.w.heap.size) (m : Mem B0 X) {f : FuncId} {args : List SV} {sv : SV} {s0 s' : SS} (h0 : s0.up = [])
    (h : Run (inlineCall inl f args) X.μ s0 sv s')
    (hs : Sat C k X.E s'.bs s'.nv) (hA : ∀ r, X.A r ↔ r < s0.ab) {vs : Array Value} (hv : VRepL X args vs.toList) :
    Calls cx.P f vs X.w fun e w' => ∃ v, e = .returned v ∧ ∃ X', Nx B0 X X' s'.up s0.ab s'.ab w' ∧ VRep X' sv v := by
  unfold inlineCall at h
  obtain ⟨⟨nv, ab⟩, s1, h1, h2⟩ := Run.bind h
  obtain ⟨e1, es⟩ := Run.nvab h1
  subst es
  simp only [Prod.mk.injEq] at e1
  obtain ⟨e1, e2⟩ := e1
  subst e1 e2
  obtain ⟨mem, s2, h3, h4⟩ := Run.bind h2
  obtain ⟨es, hlen, hget⟩ := askAll_run h3
  subst es
  obtain ⟨_, s3, h5, h6⟩ := Run.bind h4
  obtain ⟨hg, es⟩ := Run.guard h5
  subst es
  simp only [Bool.and_eq_true] at hg
  simp only at h6
  cases hi : inl f args s3.nv mem with
  | none =>
    simp only [hi, runInl] at h6
    exact (Run.fail h6).elim
  | some i =>
    simp only [hi, runInl] at h6
    obtain ⟨_, s4, h7, h8⟩ := Run.bind h6
    obtain ⟨hg2, es⟩ := Run.guard h7
    subst es
    rw [Nat.ble_eq] at hg2
    obtain ⟨_, s5, h9, h10⟩ := Run.bind h8
    have es := Run.sub h9
    subst es
    obtain ⟨_, s6, h11, h12⟩ := Run.bind h10
    obtain ⟨e1, e2⟩ := Run.pure h12
    subst e1 e2
    simp only at hlen hget hi hg
    have hmem : ∀ r, X.A r → memFn mem r = X.μ r := fun r hr => by
      have hr' := (hA r).1 hr
      rw [memFn_get (hget r hr'), h0, Nat.zero_add]
      rfl
    obtain ⟨g1, g2, g3, g4, g5, g6⟩ := putAll_run h11 (fun _ => by show 0 + mem.length = s4.ab; omega) (fun he => by subst he; simp at hlen; exact hlen) hg2 (fun j O hj => by
      have hjl : j < s4.ab := by rw [← hlen]; exact (List.getElem?_eq_some_iff.1 hj).1
      have := hget j hjl
      rw [hj] at this
      injection this with this
      rw [this])
    rw [g1, g2] at hs
    obtain ⟨n, en, ⟨bk, rs, hn, c1, c2, c3⟩, _⟩ := hs
    have : n = s4.nv := by simp only [Bd.outs] at en; omega
    subst this
    -- inside
    have tr : Tr s4.nv s4.nv [] X { X with E := X.E.take s4.nv, μ := memFn mem } :=
      { at_ := fun a ha => by
          rw [At.inst_nil ha]
          cases a with
          | c d => rfl
          | v j =>
            simp only [At.okAt, Nat.blt_eq] at ha
            simp only [At.get]
            rw [List.getElem?_take, if_pos ha]
        w := rfl
        A := fun _ => Iff.rfl
        β := rfl
        F := rfl
        μ := fun r hr => by
          show X.μ r = (memFn mem r).inst s4.nv []
          rw [Root.inst_nil (rootsOkAt_get hg.2), hmem r hr]
        ok := fun r _ => rootsOkAt_get hg.2 }
    have hvin : VRepL { X with E := X.E.take s4.nv, μ := memFn mem } args vs.toList := tr.vrepL hg.1 (by rw [SV.instL_nil hg.1]; exact hv)
    refine (hI f args s4.nv mem i hi hg2 B0 _ vs (by simp [Nat.min_eq_left hn]) (fun r => by rw [hlen]; exact hA r) rfl (tr.mem m) hB hvin bk rs c1 c2).mono fun e w' ⟨v, he, X', k1, k2, k3, k4, k5, k6, k7, k8⟩ => ?_
    refine ⟨v, he, ?_⟩
    have hB' : B0 ≤ X'.w.heap.size := by rw [k2]; exact Nat.le_trans hB k7.size
    have hE' : ∀ (j : Nat) (d : D), X'.E[j]? = some d → X.E[j]? = some d := fun j d hj => by
      rw [k1] at hj
      simp only at hj
      rcases Nat.lt_or_ge j (X.E.take s4.nv).length with hlt | hge
      · rw [List.getElem?_append_left hlt, List.getElem?_take] at hj
        split at hj
        · exact hj
        · cases hj
      · rw [List.getElem?_append_right hge] at hj
        have := c3 _ d hj
        rw [List.length_take, Nat.min_eq_left hn] at hge this
        rw [← this]
        congr 1
        omega
    obtain ⟨x1, m1⟩ := k6.moreE hB' hE'
    have hab : s'.ab = i.mem.length := by rw [g3, Nat.zero_add]
    have hwk := m1.weakenAll (X := { X' with E := X.E }) hB' (μ' := now X.μ s'.up) (N := i.mem.length) (fun r hr => (k3 r).1 hr) (fun r hr => by
      have hr' := (k3 r).1 hr
      have hir : i.mem[r]? = some i.mem[r] := List.getElem?_eq_getElem hr'
      have hμr : X'.μ r = i.mem[r] := by rw [k4, memFn_get hir]
      show now X.μ s'.up r = X'.μ r ∨ _
      have := g6 r _ hir
      rw [Nat.zero_add] at this
      rw [hμr]
      rcases this with h | ⟨_, h⟩
      · exact .inl h
      · exact .inr h)
    have xx : Ext X { X' with E := X.E, μ := now X.μ s'.up } := by
      have x2 : Ext { X with E := X.E.take s4.nv, μ := memFn mem } { X' with E := X.E, μ := now X.μ s'.up } := (k5.trans x1).trans hwk.1
      -- from the caller's context
      exact
        { E := fun _ _ h => h
          K := ⟨fun a v h hm => x2.K.cell a v h (fun hM => hm ((tr.M _).1 hM)), fun a v h hm => x2.K.free a v h (fun hM => hm ((tr.M _).1 hM))⟩
          F := x2.F
          A := x2.A
          β := fun r hr => ⟨fun ht => by rw [← hmem r hr]; exact (x2.β r hr).1 ht, (x2.β r hr).2⟩
          row := fun r e a d hr ht h1 h2 => by
            have h1' : (memFn mem r).row? = some (e, a) := by rw [hmem r hr]; exact h1
            have hok : a.okAt s4.nv = true := Root.row_ok h1' (rootsOkAt_get hg.2)
            exact x2.row r e a d hr ht h1' (by have := tr.at_ a hok; rw [At.inst_nil hok] at this; exact this.symm.trans h2)
          mat := fun r e a' g hr h1 => by
            obtain ⟨a, g0, q1, q2⟩ := x2.mat r e a' g hr h1
            have q1' : memFn mem r = .mat e a g0 := q1
            have hok : a.okAt s4.nv = true := by
              have := rootsOkAt_get (r := r) hg.2
              rw [q1'] at this
              exact this
            refine ⟨a, g0, by rw [← hmem r hr]; exact q1', fun eg => ?_⟩
            obtain ⟨p1, p2, p3⟩ := q2 eg
            exact ⟨p1, p2, fun d hd => p3 d (by have := tr.at_ a hok; rw [At.inst_nil hok] at this; exact this.symm.trans hd)⟩
          gen := fun r e a g e' a' g' hr h1 h2 => x2.gen r e a g e' a' g' hr (by show memFn mem r = _; rw [hmem r hr]; exact h1) h2
          size := fun r b n hr ht hb hn => x2.size r b n hr ht hb hn }
    refine ⟨{ X' with E := X.E, μ := now X.μ s'.up }, ⟨rfl, k2, rfl, fun r => ?_, xx, hwk.2, k7⟩, VRep.ext (x1.trans hwk.1) k8⟩
    show X'.A r ↔ _
    rw [k3 r, hA r, hab]
    constructor
    · intro h
      by_cases h' : r < s4.ab
      · exact .inl h'
      · exact .inr (by omega)
    · rintro (h | h)
      · omega
      · exact h.2
end

end Go.SX

/- Any operation. -/
namespace Go.SX
open Go.RowKit (Below)

section
variable {C : FuncId → List D → Option (List D)} {k B0 : Nat} {X : Ctx} {cx : Cx}

theorem Holds.value {P : Program} {o : Oper} {a : Act} {sem : Sem Value} {sv : SV} {s0 s' : SS} (he : execOp a.eval o = (do let v ← sem; pure (.value v))) (h : Acts P B0 X sem s0 s' fun X' v => VRep X' sv v) : Holds P B0 o a X sv s0.ab s' := by
  obtain ⟨v, w', X', h1, h2, h3⟩ := h
  exact Out.value (by rw [he]; simp [h1]) ⟨X', h2, h3⟩
theorem Holds.skip {P : Program} {o : Oper} {a : Act} {sem : Sem Unit} {sv : SV} {s0 s' : SS} (he : execOp a.eval o = (do sem; pure .skip)) (h : Acts P B0 X sem s0 s' fun _ _ => sv = .un 1) : Holds P B0 o a X sv s0.ab s' := by
  obtain ⟨v, w', X', h1, h2, h3⟩ := h
  subst h3
  exact Out.skip (w' := w') (by rw [he]; simp [h1]) ⟨X', h2, by simp only [VRep]⟩
theorem Holds.same {P : Program} {o : Oper} {a : Act} {sv : SV} {s0 s' : SS} {v : Value} (m : Mem B0 X) (h0 : s0.up = []) (hup : s'.up = s0.up) (hab : s'.ab = s0.ab) (he : (execOp a.eval o).run P X.w = .ok (.value v) X.w) (hv : VRep X sv v) : Holds P B0 o a X sv s0.ab s' := by
  refine Out.value he ⟨X, ?_, hv⟩
  rw [hup, hab, h0]
  exact Nx.same (up := []) (Ext.refl X) m

theorem parts_rep {ρ : Tmp → SV} {a : Act} (hρ : ∀ t, VRep X (ρ t) (a.tmps.getD t undef)) : ∀ (l : List (Nat × Operand)), PartsRep X (l.map fun (i, x) => (i, opnd ρ x)) (l.map fun (i, x) => (i, a.eval x))
  | [] => trivial
  | (_, x) :: l => ⟨rfl, opnd_rep hρ x, parts_rep hρ l⟩
theorem opnds_rep {ρ : Tmp → SV} {a : Act} (hρ : ∀ t, VRep X (ρ t) (a.tmps.getD t undef)) : ∀ (l : List Operand), VRepL X (l.map (opnd ρ)) (l.map a.eval)
  | [] => by simp only [List.map_nil, VRepL]
  | x :: l => by
    simp only [List.map_cons, VRepL]
    exact ⟨_, _, rfl, opnd_rep hρ x, opnds_rep hρ l⟩
theorem VRepL.append : ∀ {l l' : List SV} {vs vs' : List Value}, VRepL X l vs → VRepL X l' vs' → VRepL X (l ++ l') (vs ++ vs')
  | [], _, vs, _, h, h' => by simp only [VRepL] at h; subst h; simpa using h'
  | s :: l, _, vs, vs', h, h' => by
    simp only [VRepL] at h
    obtain ⟨v, r, e, h1, h2⟩ := h
    subst e
    simp only [List.cons_append, VRepL]
    exact ⟨v, r ++ vs', rfl, h1, VRepL.append h2 h'⟩

theorem run_call {P : Program} {o : Oper} {a : Act} {w : World} {c : Call} {g : Operand} {f : FuncId} {us caps : Array Value} {fn : Func} (ho : o.op = .call c) (hc : c.callee = .value g) (hg : a.eval g = .func (.func f) us caps) (hf : P.funcs[f]? = some fn) (hcan : canCall fn = true) :
    (execOp a.eval o).run P w = .ok (.enter f (us ++ c.args.map a.eval ++ caps)) w := by
  unfold canCall at hcan
  simp only [Bool.and_eq_true, Bool.not_eq_true'] at hcan
  have hb : fn.body.isNone = false := by cases hb : fn.body <;> simp_all
  unfold execOp
  rw [ho]
  simp only [resolve, hc, hg, Deferred.ofValue, Sem.run_bind, Sem.run_pure, Result.andThen_ok, invoke, callFunc, run_program, hf, hcan.2, hb, Bool.false_eq_true, if_false]

theorem clone_sound {inl : FuncId → List SV → Nat → List Root → Option Inl} (hI : InlOk cx C k inl) (hB : B0 ≤ X.w.heap.size) (m : Mem B0 X) {f : FuncId} {fn : Func} {e : Ty} {b : Nat} {s sv : SV} {s0 s' : SS} (h0 : s0.up = [])
    (h : Run (cloneCall e b s) X.μ s0 sv s') (hs : Sat C k X.E s'.bs s'.nv) (hfr : ∀ r, s0.ab ≤ r → r < s'.ab → ¬ X.A r) (hc : cloneFn cx inl f fn = some (e, b)) {vals : Array Value} (hv : VRepL X [s] vals.toList) :
    Calls cx.P f vals X.w fun x w' => ∃ v, x = .returned v ∧ ∃ X', Nx B0 X X' s'.up s0.ab s'.ab w' ∧ VRep X' sv v := by
  unfold cloneCall at h
  obtain ⟨a, s1, h1, h2⟩ := Run.bind h
  obtain ⟨av, s2, h3, h4⟩ := Run.bind h2
  obtain ⟨e1, e2⟩ := newRow_run h4
  subst e1 e2
  have hs1 : Sat C k X.E s1.bs s1.nv := h3.sat hs
  simp only [VRepL] at hv
  obtain ⟨v0, r0, ev0, hv0, er0⟩ := hv
  subst er0
  obtain ⟨u1, u2, d, f1, f2⟩ := view0 hB m h0 h1 hs1 hv0
  obtain ⟨⟨d', dn, q1, q2, q3⟩, q5, q6⟩ := Run.op1 h3 hs
  rw [f1] at q1
  injection q1 with q1
  subst q1
  -- what the function is
  unfold cloneFn at hc
  split at hc
  · rename_i e' hp
    rcases hfl : e'.flat with _ | _
    · rw [hfl] at hc; simp at hc
    · rw [hfl] at hc
      simp only [if_true] at hc
      split at hc
      · rename_i i hi
        split at hc
        · rename_i b' hb
          injection hc with hc
          injection hc with hc1 hc2
          subst hc1 hc2
          unfold clonePat at hb
          split at hb
          · rename_i b2 e2 e3 ht hres hmem
            split at hb
            · rename_i hcond
              simp only [Bool.and_eq_true] at hcond
              injection hb with hb
              subst hb
              have hm1 := nat_beq hcond.1.1
              have he2 := Ty.beq_eq hcond.1.2
              have he3 := Ty.beq_eq hcond.2
              subst he2 he3
              let X0 : Ctx := ⟨[d], X.w, memFn [], fun _ => ⟨none, []⟩, fun _ => False, fun _ => False⟩
              have m0 : Mem X.w.heap.size X0 := ⟨fun _ h => h.elim, fun _ _ _ h => h.elim, fun _ h => h.elim, fun _ _ h => h.elim, fun _ h => h.elim⟩
              have hX0 : ∀ b, ¬ X0.M b := fun b => by
                rintro (h | ⟨r, h, _⟩)
                · exact h
                · exact h
              have hvl : VRepL X0 [.d (.sl e3) (.v 0)] vals.toList := by
                simp only [VRepL]
                refine ⟨v0, [], ev0, VRep.data.2 ⟨d, rfl, f2.keep ⟨fun _ _ h _ => h, fun a v _ _ hM => hX0 _ hM⟩⟩, rfl⟩
              have hev : ∃ l, d.els = some l ∧ dn = d ∧ ev C k i.t [d] = some (.jmp 0 false [d]) := by
                rw [ht]
                simp only [Prim.run] at q2
                cases d with
                | sl l =>
                  simp only [D.els] at q2
                  split at q2
                  · rename_i hroom
                    injection q2 with q2
                    refine ⟨l, rfl, q2.symm, ?_⟩
                    simp [ev, gets, At.get, Prim.run, appD, D.els, hroom]
                  · cases q2
                | nil =>
                  simp only [D.els] at q2
                  split at q2
                  · injection q2 with q2
                    refine ⟨[], rfl, q2.symm, ?_⟩
                    simp [ev, gets, At.get, Prim.run]
                  · cases q2
                | _ => simp [D.els] at q2
              obtain ⟨l, hl, hdn, hev⟩ := hev
              subst hdn
              refine (hI f _ 1 [] i hi (Nat.zero_le _) X.w.heap.size X0 vals rfl (fun r => by simp [X0]) rfl m0 (Nat.le_refl _) hvl false [dn] hev hm1.symm).mono fun x w' ⟨v, hx, X', x1, x2, x3, x4, x5, x6, x7, x8⟩ => ?_
              refine ⟨v, hx, ?_⟩
              have hA0 : X'.A 0 := by rw [x3, hmem]; simp
              have hμ0 : X'.μ 0 = .row e3 (.v 1) := by rw [x4, hmem]; rfl
              have hE' : X'.E = [dn, dn] := by rw [x1]; rfl
              have hrep := x6.rep 0 hA0
              rw [hμ0] at hrep
              obtain ⟨d2, g1, g2⟩ := hrep
              have g1' : (At.v 1).get X'.E = some d2 := g1
              rw [hE'] at g1'
              simp only [At.get, List.getElem?_cons_succ, List.getElem?_cons_zero, Option.some.injEq] at g1'
              subst g1'
              have hnA : ¬ X.A s2.ab := hfr s2.ab (by rw [q6, u2]; exact Nat.le_refl _) (by dsimp only; omega)
              rw [hres] at x8
              simp only [VRep, Ref] at x8
              obtain ⟨hone, _, hh⟩ := x8
              obtain ⟨a9, d9, k1, k2, k3⟩ := hh (by rw [hμ0]; rfl)
              rw [hμ0] at k1
              simp only [Root.row?, Option.some.injEq, Prod.mk.injEq, true_and] at k1
              subst k1
              rw [hE'] at k2
              simp only [At.get, List.getElem?_cons_succ, List.getElem?_cons_zero, Option.some.injEq] at k2
              subst k2
              have hlow := x6.low 0
              have main : ∀ p : Pl, p = ⟨(X'.β 0).main, []⟩ → (Ext X (X.grown w' s2.ab (.row e3 av) p) ∧ Mem B0 (X.grown w' s2.ab (.row e3 av) p)) ∧ VRep (X.grown w' s2.ab (.row e3 av) p) (.h e3 s2.ab none) v := by
                intro p hp
                have hμg : (X.grown w' s2.ab (.row e3 av) p).μ s2.ab = .row e3 av := by simp [Ctx.grown, upd_same]
                have hβg : (X.grown w' s2.ab (.row e3 av) p).β s2.ab = p := by simp [Ctx.grown, upd_same]
                refine ⟨m.grow hB hnA x7 (fun b hb => ?_) ?_ fun x => ?_, ?_⟩
                · refine hlow b hA0 ?_
                  rw [hμ0]
                  simp only [Root.own, hp] at hb ⊢
                  exact hb
                · simp only [Root.own, hp]
                  cases (X'.β 0).main <;> simp
                · refine ⟨dn, q3, ?_⟩
                  rcases g2 with ⟨p1, p2⟩ | ⟨b, c, te, fr, l', xs, p1, p2, p3, p4, p5, p6⟩
                  · exact .inl ⟨by rw [hβg, hp]; exact p1, p2⟩
                  · refine .inr ⟨b, c, te, fr, l', xs, by rw [hβg, hp]; exact p1, p2, by rw [← x2]; exact p3, p4, ?_, p6⟩
                    have := p5.flat (w' := w') (M' := (X.grown w' s2.ab (.row e3 av) p).M) hfl
                    exact this
                · simp only [VRep, Ref]
                  refine ⟨hone, .inr rfl, fun _ => ⟨av, dn, by rw [hμg]; rfl, q3, ?_⟩⟩
                  rcases k3 with ⟨p1, p2, p3⟩ | ⟨b, l', p1, p2, cap, bs, p3, p4, p5, p6⟩
                  · exact .inl ⟨by rw [hβg, hp]; exact p1, p2, trivial⟩
                  · exact .inr ⟨b, l', by rw [hβg, hp]; exact p1, p2, cap, bs, p3, p4, by rw [← x2] at *; exact p5, p6⟩
              obtain ⟨hxm, hvv⟩ := main _ rfl
              exact ⟨_, Nx.grown (up := []) (Ext.refl X) x7 hB hxm (by rw [q5, u1]) rfl rfl (by rw [q6, u2]), hvv⟩
            · cases hb
          · cases hb
        · cases hc
      · cases hc
  · cases hc

theorem stepCall_sound (hC : CallsOk cx C) {inl : FuncId → List SV → Nat → List Root → Option Inl} (hI : InlOk cx C k inl) (hB : B0 ≤ X.w.heap.size) (m : Mem B0 X) {callee : SV} {args : List SV} {sv : SV} {s0 s' : SS} (h0 : s0.up = [])
    (h : Run (stepCall cx inl callee args) X.μ s0 sv s') (hs : Sat C k X.E s'.bs s'.nv) (hfr : ∀ r, s0.ab ≤ r → r < s'.ab → ¬ X.A r) (hA : hasSub s'.bs = true → ∀ r, X.A r ↔ r < s0.ab) {o : Oper} {a : Act} {c : Call} {g : Operand} (ho : o.op = .call c) (hc : c.callee = .value g)
    (hg : VRep X callee (a.eval g)) (hargs : VRepL X args (c.args.map a.eval).toList) : Holds cx.P B0 o a X sv s0.ab s' := by
  unfold stepCall at h
  split at h
  · rename_i f fst caps
    simp only [VRep] at hg
    obtain ⟨us, vs, e, hus, hvs⟩ := hg
    split at h
    · exact (Run.fail h).elim
    · rename_i fn hf
      obtain ⟨_, s1, h1, h2⟩ := Run.bind h
      obtain ⟨hcan, es⟩ := Run.guard h1
      subst es
      have hrun := run_call (P := cx.P) (w := X.w) ho hc e hf hcan
      rcases Run.ite h2 with ⟨hd, h3⟩ | ⟨_, h3⟩
      · simp only [Bool.and_eq_true, List.isEmpty_iff] at hd
        obtain ⟨⟨hdat, hcap⟩, hfst⟩ := hd
        subst hcap hfst
        simp only [VRepL] at hus hvs
        have eu : us = #[] := by simpa using hus
        have ev : vs = #[] := by simpa using hvs
        subst eu ev
        simp only [Array.empty_append, Array.append_empty] at hrun
        exact Out.enter hrun (callData_sound hC hB m h0 h3 hs hf hcan hdat hargs)
      · have inl_ : Run (inlineCall inl f (fst ++ args ++ caps)) X.μ s1 sv s' → Holds cx.P B0 o a X sv s1.ab s' := by
          intro h3
          have hsub : hasSub s'.bs = true := by
            unfold inlineCall at h3
            obtain ⟨p, s2, h4, h5⟩ := Run.bind h3
            obtain ⟨mem, s3, h6, h7⟩ := Run.bind h5
            obtain ⟨_, s4, h8, h9⟩ := Run.bind h7
            cases hi : inl f (fst ++ args ++ caps) p.1 mem with
            | none => simp only [hi, runInl] at h9; exact (Run.fail h9).elim
            | some i =>
              simp only [hi, runInl] at h9
              obtain ⟨_, s5, h10, h11⟩ := Run.bind h9
              obtain ⟨hg2, es⟩ := Run.guard h10
              subst es
              rw [Nat.ble_eq] at hg2
              obtain ⟨_, s6, h12, h13⟩ := Run.bind h11
              have es := Run.sub h12
              obtain ⟨_, s7, h14, h15⟩ := Run.bind h13
              obtain ⟨_, e2⟩ := Run.pure h15
              obtain ⟨e3, hlen, hget⟩ := askAll_run h6
              obtain ⟨e4, e5⟩ := Run.nvab h4
              obtain ⟨_, e6⟩ := Run.guard h8
              subst e2 e5
              have hab : p.2 = s6.ab := by rw [es, e6, e3, e4]
              obtain ⟨g1, _⟩ := putAll_run h14 (fun _ => by rw [← hab]; omega) (fun he => by subst he; simp at hlen; rw [← hab]; exact hlen) hg2 (fun j O hj => by
                have hjl : j < p.2 := by rw [← hlen]; exact (List.getElem?_eq_some_iff.1 hj).1
                have := hget j hjl
                rw [hj] at this
                injection this with this
                rw [this, es, e6, e3])
              rw [g1, es]
              rfl
          refine Out.enter hrun (inline_sound hI hB m h0 h3 hs (hA hsub) ?_)
          simp only [Array.toList_append]
          exact VRepL.append (VRepL.append hus hargs) hvs
        split at h3
        · rename_i e b s hcl
          rcases hcond : (fst.isEmpty && caps.isEmpty) with _ | _
          · rw [hcond] at hcl; simp at hcl
          · rw [hcond] at hcl
            simp only [if_true] at hcl
            simp only [Bool.and_eq_true, List.isEmpty_iff] at hcond
            obtain ⟨hfst, hcap⟩ := hcond
            subst hcap hfst
            simp only [VRepL] at hus hvs
            have eu : us = #[] := by simpa using hus
            have ev : vs = #[] := by simpa using hvs
            subst eu ev
            simp only [Array.empty_append, Array.append_empty] at hrun
            exact Out.enter hrun (clone_sound hI hB m h0 h3 hs hfr hcl hargs)
        · exact inl_ h3
  · exact (Run.fail h).elim

theorem lenOk_val {t : TypeId} {x : SV} {v : Value} (h : lenOk cx t x = true) (hv : VRep X x v) : ((∃ A n c, v = .slice A n c) → ∃ E, cx.P.underlying t = some (.slice E)) ∧ ((∃ b, v = .string b) → (∃ a, simple x = .d .str a) → cx.P.underlying t = some .string) := by
  have hx := simple_rep hv
  unfold lenOk at h
  split at h
  · rename_i a hs hu
    rw [hs] at hx
    obtain ⟨d, _, hd⟩ := VRep.data.1 hx
    obtain ⟨s, _, e⟩ := hd.str
    exact ⟨fun ⟨A, n, c, e'⟩ => (by rw [e] at e'; cases e'), fun _ _ => hu⟩
  · cases h
  · rename_i E hu hne
    exact ⟨fun _ => ⟨E, hu⟩, fun _ ⟨a, ha⟩ => absurd ha (hne a)⟩
  · cases h

theorem stepOp_sound (ty : TysOk cx) (hC : CallsOk cx C) {inl : FuncId → List SV → Nat → List Root → Option Inl} (hI : InlOk cx C k inl) (hB : B0 ≤ X.w.heap.size) (m : Mem B0 X) {kn : List (At × Bool)} (hk : ∀ a b, (a, b) ∈ kn → a.get X.E = some (.bool b))
    {ρ : Tmp → SV} {a : Act} (hρ : ∀ t, VRep X (ρ t) (a.tmps.getD t undef)) {o : Oper} {sv : SV} {s0 s' : SS} (h0 : s0.up = []) (h : Run (stepOp cx inl kn ρ o) X.μ s0 sv s') (hs : Sat C k X.E s'.bs s'.nv)
    (hfr : ∀ r, s0.ab ≤ r → r < s'.ab → ¬ X.A r) (hA : hasSub s'.bs = true → ∀ r, X.A r ↔ r < s0.ab) : Holds cx.P B0 o a X sv s0.ab s' := by
  unfold stepOp at h
  split at h
  · rename_i x ho
    obtain ⟨e1, e2⟩ := Run.pure h
    subst e1 e2
    exact Holds.same m h0 rfl rfl (by simp only [execOp, ho]; rfl) (asg_rep (opnd_rep hρ x))
  · rename_i x ho
    obtain ⟨e1, e2⟩ := Run.pure h
    subst e1 e2
    exact Holds.same m h0 rfl rfl (by simp only [execOp, ho]; rfl) (asg_rep (opnd_rep hρ x))
  · rename_i c x y ho
    obtain ⟨h1, h2, b, h3, h4⟩ := stepPick_pure hk h hs (opnd_rep hρ c) (opnd_rep hρ x) (opnd_rep hρ y)
    refine Holds.same m h0 h1 h2 ?_ h4
    simp only [execOp, ho, h3]
    cases b <;> rfl
  · rename_i t ho
    exact Holds.value (by simp only [execOp, ho]) (alloc_acts ty hB m hfr h0 h)
  · rename_i t x ho
    exact Holds.value (by simp only [execOp, ho]) (box_acts hB m hfr h0 h (opnd_rep hρ x))
  · rename_i t parts ho
    refine Holds.value (sem := Instr.build t (parts.map fun (i, x) => (i, a.eval x))) (by simp only [execOp, ho]) ?_
    have := build_acts ty hB m h0 h hs (parts_rep hρ parts.toList)
    rwa [← Array.toList_map, Array.toArray_toList] at this
  · rename_i t n parts ho
    refine Holds.value (sem := Instr.buildSlice t n (parts.map fun (i, x) => (i, a.eval x))) (by simp only [execOp, ho]) ?_
    have := buildSlice_acts ty hB m hfr h0 h hs (parts_rep hρ parts.toList)
    rwa [← Array.toList_map, Array.toArray_toList] at this
  · rename_i t x ho
    exact Holds.value (by simp only [execOp, ho]) (Acts.of_pure m h0 (stepLoad_pure ty m h0 h hs (opnd_rep hρ x)))
  · rename_i t x v ho
    exact Holds.skip (by simp only [execOp, ho]) (stepStore_acts ty hB m h0 h hs (opnd_rep hρ x) (opnd_rep hρ v))
  · rename_i x ho
    have hx := opnd_rep hρ x
    have key : ∀ {s : SV}, opnd ρ x = s → (∃ v, a.eval x = v ∧ (execOp a.eval o).run cx.P X.w = .ok (.value v) X.w) → Run (SX.X.pure s) X.μ s0 sv s' → Holds cx.P B0 o a X sv s0.ab s' := fun he ⟨v, hv, hr⟩ hh => by
      obtain ⟨e1, e2⟩ := Run.pure hh
      subst e1 e2
      exact Holds.same m h0 rfl rfl hr (by rw [← hv, ← he]; exact hx)
    split at h
    · rename_i R T r q hsx
      rw [hsx] at hx
      simp only [VRep, Ref] at hx
      obtain ⟨_, b, off, hv, _⟩ := hx
      exact key hsx ⟨_, hv, by simp only [execOp, ho, hv]; rfl⟩ h
    · rename_i T at_ hsx
      rw [hsx] at hx
      simp only [VRep, Ref] at hx
      obtain ⟨ad, d, xs, hv, _⟩ := hx
      exact key hsx ⟨_, hv, by simp only [execOp, ho, hv]; rfl⟩ h
    · rename_i f u l hsx
      rw [hsx] at hx
      simp only [VRep] at hx
      obtain ⟨us, vs, hv, _⟩ := hx
      exact key hsx ⟨_, hv, by simp only [execOp, ho, hv]; rfl⟩ h
    · rename_i e T r ix q g hsx
      obtain ⟨ma, s1, hm1, hm2⟩ := Run.bind h
      obtain ⟨es, hR⟩ := matAt_sound hm1
      subst es
      rw [h0, now_nil] at hR
      rw [hsx] at hx
      simp only [VRep, Ref] at hx
      obtain ⟨_, _, hx⟩ := hx
      obtain ⟨_, hx⟩ := hx _ _ _ hR
      obtain ⟨_, kk, i, b, off, _, _, hv, _⟩ := hx rfl
      exact key hsx ⟨_, hv, by simp only [execOp, ho, hv]; rfl⟩ hm2
    · exact (Run.fail h).elim
  · rename_i op xt x y yt ho
    exact Holds.value (by simp only [execOp, ho]) (Acts.of_pure m h0 (stepBin_pure ty hB m h0 h hs (opnd_rep hρ x) (opnd_rep hρ y) x y (fun hT ha hk hg he hx hy => eqAgg_run ty x y hT ha hk hg he hx hy)))
  · rename_i op xt x ho
    exact Holds.value (by simp only [execOp, ho]) (Acts.of_pure m h0 (unOp_pure h hs (opnd_rep hρ x)))
  · rename_i src dst x ho
    exact Holds.value (by simp only [execOp, ho]) (convert_acts ty hB m h0 h hs (opnd_rep hρ x))
  · rename_i f first captured ho
    obtain ⟨e1, e2⟩ := Run.pure h
    subst e1 e2
    refine Holds.same m h0 rfl rfl (v := .func (.func f) (first.map a.eval) (captured.map a.eval)) (by simp only [execOp, ho, Instr.makeFunc]; rfl) ?_
    simp only [VRep]
    exact ⟨_, _, rfl, by rw [Array.toList_map]; exact opnds_rep hρ _, by rw [Array.toList_map]; exact opnds_rep hρ _⟩
  · rename_i t l c ho
    exact Holds.value (by simp only [execOp, ho]) (makeSlice_acts ty hB m hfr h0 h hs (opnd_rep hρ l) (opnd_rep hρ c))
  · rename_i t x lo hi mx ho
    have opt : ∀ (y : Option Operand), OptRep X (svOfOpt ρ y) (y.map a.eval) := fun y => by
      cases y with
      | none => simp [svOfOpt, OptRep]
      | some y => simp only [svOfOpt, Option.map_some, OptRep]; exact opnd_rep hρ y
    exact Holds.value (by simp only [execOp, ho]) (Acts.of_pure m h0 (stepSlice_pure ty hB m h0 h hs (opnd_rep hρ x) (opt lo) (opt hi) (opt mx)))
  · rename_i t x j ho
    exact Holds.value (by simp only [execOp, ho]) (Acts.of_pure m h0 (stepFieldAddr_pure ty h hs (opnd_rep hρ x)))
  · rename_i t x j ho
    exact Holds.value (by simp only [execOp, ho]) (Acts.of_pure m h0 (stepField_pure ty h hs (opnd_rep hρ x)))
  · rename_i t x i ho
    exact Holds.value (by simp only [execOp, ho]) (Acts.of_pure m h0 (stepIndexAddr_pure ty hB m h0 h hs (opnd_rep hρ x) (opnd_rep hρ i)))
  · rename_i t x i ho
    exact Holds.value (by simp only [execOp, ho]) (Acts.of_pure m h0 (stepIndex_pure ty h hs (opnd_rep hρ x) (opnd_rep hρ i)))
  · rename_i x j ho
    have hx := opnd_rep hρ x
    split at h
    · rename_i l hsx
      rw [hsx] at hx
      exact Holds.value (by simp only [execOp, ho]) (Acts.of_pure m h0 (extract_pure h hx))
    · exact (Run.fail h).elim
  · rename_i b args argTypes ho
    have run : ∃ cs, ∀ w, (execOp a.eval o).run cx.P w = (builtin b argTypes o.type cs (args.map a.eval)).run cx.P w := by
      unfold execOp
      rw [ho]
      simp only [resolve, Sem.run_bind, Sem.run_pure, Result.andThen_ok, invoke]
      exact ⟨_, fun _ => rfl⟩
    have bi : ∀ {sem : Sem Value}, (∀ cs w, (builtin b argTypes o.type cs (args.map a.eval)).run cx.P w = (do let v ← sem; pure (.value v) : Sem Next).run cx.P w) → Acts cx.P B0 X sem s0 s' (fun X' v => VRep X' sv v) → Holds cx.P B0 o a X sv s0.ab s' := fun hb hA => by
      obtain ⟨v, w', X', h1, h2, h3⟩ := hA
      obtain ⟨cs, hrun⟩ := run
      refine Out.value ?_ ⟨X', h2, h3⟩
      rw [hrun, hb]
      simp [h1]
    have one : ∀ {x : SV}, args.toList.map (opnd ρ) = [x] → ∃ y, args = #[y] ∧ x = opnd ρ y := fun h => by
      match hl : args.toList, h with
      | [y], h => simp at h; exact ⟨y, by rw [← Array.toArray_toList (xs := args), hl], h.symm⟩
    have two : ∀ {x y : SV}, args.toList.map (opnd ρ) = [x, y] → ∃ x' y', args = #[x', y'] ∧ x = opnd ρ x' ∧ y = opnd ρ y' := fun h => by
      match hl : args.toList, h with
      | [x', y'], h => simp at h; exact ⟨x', y', by rw [← Array.toArray_toList (xs := args), hl], h.1.symm, h.2.symm⟩
    have ty1 : ∀ {t : TypeId}, argTypes.toList = [t] → argTypes = #[t] := fun h => by rw [← Array.toArray_toList (xs := argTypes), h]
    have ty2 : ∀ {t u : TypeId}, argTypes.toList = [t, u] → argTypes = #[t, u] := fun h => by rw [← Array.toArray_toList (xs := argTypes), h]
    split at h
    · rename_i x t hx ht
      obtain ⟨y, ey, ex⟩ := one hx
      have et := ty1 ht
      subst ey ex et
      obtain ⟨_, s1, h1, h2⟩ := Run.bind h
      obtain ⟨hg, es⟩ := Run.guard h1
      subst es
      have hy := opnd_rep hρ y
      obtain ⟨l1, l2⟩ := lenOk_val hg hy
      obtain ⟨u1, u2, u3⟩ := lenOf_pure hB m h0 h2 hs hy
      refine bi (sem := Builtin.len_ #[t] o.type #[a.eval y]) (fun cs w => by simp [builtin]) (Acts.of_pure m h0 ⟨u1, u2, ?_⟩)
      rcases u3 with ⟨A, n, c, e, hv⟩ | ⟨b, e, hst, hv⟩
      · obtain ⟨E, hu⟩ := l1 ⟨A, n, c, e⟩
        exact ⟨_, by rw [e]; exact run_lenSlice hu, hv⟩
      · exact ⟨_, by rw [e]; exact run_lenString (l2 ⟨b, e⟩ hst), hv⟩
    · rename_i x y t xt hx ht
      obtain ⟨x', y', ey, ex, ex2⟩ := two hx
      have et := ty2 ht
      subst ey ex ex2 et
      exact bi (sem := Builtin.append_ #[t, xt] o.type #[a.eval x', a.eval y']) (fun cs w => by simp [builtin]) (stepAppend_acts ty hB m h0 h hs hfr (opnd_rep hρ x') (opnd_rep hρ y'))
    · rename_i x t hx ht
      obtain ⟨y, ey, ex⟩ := one hx
      have et := ty1 ht
      subst ey ex et
      exact bi (sem := Builtin.clear_ #[t] o.type #[a.eval y]) (fun cs w => by simp [builtin]) (stepClear_acts ty hB m h0 h hs (opnd_rep hρ y))
    · rename_i x y t u hx ht
      obtain ⟨x', y', ey, ex, ex2⟩ := two hx
      have et := ty2 ht
      subst ey ex ex2 et
      exact bi (sem := Builtin.copy_ #[t, u] o.type #[a.eval x', a.eval y']) (fun cs w => by simp [builtin]) (copy_acts ty hB m h0 h hs (opnd_rep hρ x') (opnd_rep hρ y'))
    · rename_i x y hx
      obtain ⟨x', y', ey, ex, ex2⟩ := two hx
      subst ey ex ex2
      obtain ⟨u1, u2, kk, p, q, d, ad, e1, e2, e3, e4, e5⟩ := minmax_pure h hs (opnd_rep hρ x') (opnd_rep hρ y')
      subst e5
      refine bi (sem := Builtin.min_ argTypes o.type #[a.eval x', a.eval y']) (fun cs w => by simp [builtin]) (Acts.of_pure m h0 ⟨u1, u2, ?_⟩)
      simp only [Prim.run, if_true, Option.some.injEq] at e3
      subst e3
      exact ⟨_, by simp [Builtin.min_, e1, e2, Builtin.min2], VRep.data.2 ⟨_, e4, DVal.of_int _ _⟩⟩
    · rename_i x y hx
      obtain ⟨x', y', ey, ex, ex2⟩ := two hx
      subst ey ex ex2
      obtain ⟨u1, u2, kk, p, q, d, ad, e1, e2, e3, e4, e5⟩ := minmax_pure h hs (opnd_rep hρ x') (opnd_rep hρ y')
      subst e5
      refine bi (sem := Builtin.max_ argTypes o.type #[a.eval x', a.eval y']) (fun cs w => by simp [builtin]) (Acts.of_pure m h0 ⟨u1, u2, ?_⟩)
      simp only [Prim.run, if_true, Option.some.injEq] at e3
      subst e3
      exact ⟨_, by simp [Builtin.max_, e1, e2, Builtin.max2], VRep.data.2 ⟨_, e4, DVal.of_int _ _⟩⟩
    · exact (Run.fail h).elim
  · rename_i f args argTypes ho
    exact stepCall_sound hC hI hB m h0 h hs hfr hA ho rfl (opnd_rep hρ f) (by rw [Array.toList_map]; exact opnds_rep hρ _)
  · exact (Run.fail h).elim
end

end Go.SX

/- A region's tree: the way that is taken. -/
namespace Go.SX
open Go.RowKit (Below)

theorem X.run_outs {α : Type} (μ : Nat → Root) : ∀ (x : X α) (s : SS) {a : α} {s' : SS} {l : List Nat}, x.run μ s = some (a, s', l) → s'.nv + outsL s.bs = s.nv + outsL s'.bs
  | .pure a, s, _, s', l, h => by
    simp only [X.run, Option.some.injEq, Prod.mk.injEq] at h
    obtain ⟨_, h, _⟩ := h
    subst h
    rfl
  | .fail n, s, _, s', l, h => by simp [X.run] at h
  | .root r k, s, a, s', l, h => by
    simp only [X.run] at h
    cases hu : upFind r s.up with
    | some R => simp only [hu] at h; exact X.run_outs μ (k R) s h
    | none =>
      simp only [hu] at h
      cases h2 : (k (μ r)).run μ s with
      | none => simp [h2] at h
      | some p =>
        obtain ⟨a', s1, l1⟩ := p
        simp only [h2, Option.some.injEq, Prod.mk.injEq] at h
        obtain ⟨_, h, _⟩ := h
        subst h
        exact X.run_outs μ (k (μ r)) s h2
  | .put r R k, s, a, s', l, h => by
    simp only [X.run] at h
    exact X.run_outs μ k { s with up := (r, R) :: s.up } h
  | .new R k, s, a, s', l, h => by
    simp only [X.run] at h
    exact X.run_outs μ (k s.ab) { s with up := (s.ab, R) :: s.up, ab := s.ab + 1 } h
  | .bd b k, s, a, s', l, h => by
    simp only [X.run] at h
    have := X.run_outs μ (k s.nv) { s with bs := b :: s.bs, nv := s.nv + b.outs } h
    simp only [outsL] at this
    omega
  | .at_ k, s, a, s', l, h => by
    simp only [X.run] at h
    exact X.run_outs μ (k s.nv s.ab) s h

/-! ### Bindings, one behind the other -/
section
variable {C : FuncId → List D → Option (List D)} {k : Nat}

theorem get_app {E F : List D} {i : Nat} {d : D} (h : E[i]? = some d) : (E ++ F)[i]? = some d := by
  rw [List.getElem?_append_left (List.getElem?_eq_some_iff.1 h).1]
  exact h
theorem At.get_app {E F : List D} {a : At} {d : D} (h : a.get E = some d) : a.get (E ++ F) = some d := At.get_ext (fun _ _ => SX.get_app) h
theorem gets_app {E F : List D} : ∀ {as : List At} {ds : List D}, gets E as = some ds → gets (E ++ F) as = some ds
  | [], ds, h => h
  | a :: l, ds, h => by
    obtain ⟨d, ds', h1, h2, h3⟩ := gets_cons h
    subst h3
    exact gets_of_cons (At.get_app h1) (gets_app h2)

theorem SatB.app {E F : List D} {n : Nat} {b : Bd} (h : SatB C k E n b) : SatB C k (E ++ F) n b := by
  cases b with
  | prim p as =>
    obtain ⟨vs, d, h1, h2, h3⟩ := h
    exact ⟨vs, d, gets_app h1, h2, get_app h3⟩
  | call f as m =>
    obtain ⟨vs, ds, h1, h2, h3, h4⟩ := h
    exact ⟨vs, ds, gets_app h1, h2, h3, fun j d hj => get_app (h4 j d hj)⟩
  | sub t m =>
    obtain ⟨bk, vs, h0, h1, h2, h3⟩ := h
    refine ⟨bk, vs, by simp; omega, ?_, h2, fun j d hj => get_app (h3 j d hj)⟩
    rw [List.take_append_of_le_length h0]
    exact h1
theorem Sat.app {E F : List D} : ∀ {bs : List Bd} {n : Nat}, Sat C k E bs n → Sat C k (E ++ F) bs n
  | [], _, _ => trivial
  | _ :: _, _, ⟨m, h1, h2, h3⟩ => ⟨m, h1, h2.app, Sat.app h3⟩

theorem iter_only {f : List D → Option Res} {n : Nat} (hf : ∀ vs r, f vs = some r → ∃ l b ws, r = .jmp l b ws ∧ l < n + 1) : ∀ (j : Nat) (vs : List D) (r : Res), iter f j vs = some r → ∃ l b ws, r = .jmp l b ws ∧ l < n + 1
  | 0, vs, r, h => by simp [iter] at h
  | j + 1, vs, r, h => by
    simp only [iter] at h
    split at h
    · exact iter_only hf j _ r h
    · exact hf _ _ h

/-- Such a tree ends in a jump. -/
theorem ev_only : ∀ {t : Tree} {n : Nat} {E : List D} {r : Res}, t.only n = true → ev C k t E = some r → ∃ l b vs, r = .jmp l b vs ∧ l < n
  | .prim p as t, n, E, r, ho, h => by
    simp only [Tree.only] at ho
    simp only [ev] at h
    cases h1 : gets E as with
    | none => simp [h1] at h
    | some vs =>
      simp only [h1] at h
      cases h2 : p.run vs with
      | none => simp [h2] at h
      | some d => simp only [h2] at h; exact ev_only ho h
  | .call f as m t, n, E, r, ho, h => by
    simp only [Tree.only] at ho
    simp only [ev] at h
    cases h1 : gets E as with
    | none => simp [h1] at h
    | some vs =>
      simp only [h1] at h
      cases h2 : C f vs with
      | none => simp [h2] at h
      | some ds =>
        simp only [h2] at h
        split at h
        · exact ev_only ho h
        · cases h
  | .sub t m u, n, E, r, ho, h => by
    simp only [Tree.only, Bool.and_eq_true] at ho
    simp only [ev] at h
    cases h1 : ev C k t E with
    | none => simp [h1] at h
    | some r' =>
      obtain ⟨l, b, vs, e, hl⟩ := ev_only ho.1 h1
      subst e
      simp only [h1] at h
      cases l with
      | zero =>
        simp only at h
        split at h
        · exact ev_only ho.2 h
        · cases h
      | succ l =>
        simp only [Res.up, Option.some.injEq] at h
        exact ⟨l, b, vs, h.symm, by omega⟩
  | .loop init t, n, E, r, ho, h => by
    simp only [Tree.only] at ho
    simp only [ev] at h
    cases h1 : gets E init with
    | none => simp [h1] at h
    | some vs =>
      simp only [h1] at h
      cases h2 : iter (fun vs => ev C k t (E ++ vs)) k vs with
      | none => simp [h2] at h
      | some r' =>
        simp only [h2] at h
        obtain ⟨l, b, ws, e, hl⟩ := iter_only (fun vs r hr => ev_only ho hr) k vs r' h2
        subst e
        cases l with
        | zero => simp [Res.up] at h
        | succ l =>
          simp only [Res.up, Option.some.injEq] at h
          exact ⟨l, b, ws, h.symm, by omega⟩
  | .ite c a b, n, E, r, ho, h => by
    simp only [Tree.only, Bool.and_eq_true] at ho
    simp only [ev] at h
    split at h
    · exact ev_only ho.1 h
    · exact ev_only ho.2 h
    · cases h
  | .jmp l b as, n, E, r, ho, h => by
    simp only [Tree.only, Nat.blt_eq] at ho
    simp only [ev] at h
    split at h
    · cases h
    · rename_i vs _
      injection h with h
      exact ⟨l, b, vs, h.symm, ho⟩
  | .fin x st, n, E, r, ho, h => by simp [Tree.only] at ho
  | .fail _, n, E, r, ho, h => by simp [ev] at h

theorem ev_bd {E : List D} {b : Bd} {t : Tree} {r : Res} (hb : bdsOk [b] = true) (h : ev C k (b.on t) E = some r) : ∃ F, F.length = b.outs ∧ SatB C k (E ++ F) E.length b ∧ ev C k t (E ++ F) = some r := by
  cases b with
  | prim p as =>
    simp only [Bd.on, ev] at h
    cases h1 : gets E as with
    | none => simp [h1] at h
    | some vs =>
      simp only [h1] at h
      cases h2 : p.run vs with
      | none => simp [h2] at h
      | some d =>
        simp only [h2] at h
        exact ⟨[d], rfl, ⟨vs, d, gets_app h1, h2, by simp⟩, h⟩
  | call f as m =>
    simp only [Bd.on, ev] at h
    cases h1 : gets E as with
    | none => simp [h1] at h
    | some vs =>
      simp only [h1] at h
      cases h2 : C f vs with
      | none => simp [h2] at h
      | some ds =>
        simp only [h2] at h
        split at h
        · rename_i hl
          exact ⟨ds, hl, ⟨vs, ds, gets_app h1, h2, hl, fun j d hj => by rw [List.getElem?_append_right (by omega)]; simpa using hj⟩, h⟩
        · cases h
  | sub t' m =>
    simp only [bdsOk, Bool.and_true] at hb
    simp only [Bd.on, ev] at h
    cases h1 : ev C k t' E with
    | none => simp [h1] at h
    | some r' =>
      obtain ⟨l, bk, vs, e, hl⟩ := ev_only hb h1
      have : l = 0 := by omega
      subst this e
      simp only [h1] at h
      split at h
      · rename_i hvl
        refine ⟨vs, hvl, ⟨bk, vs, by simp, ?_, hvl, fun j d hj => by rw [List.getElem?_append_right (by omega)]; simpa using hj⟩, h⟩
        rw [List.take_left' rfl]
        exact h1
      · cases h

theorem bdsOk_cons {b : Bd} {l : List Bd} (h : bdsOk (b :: l) = true) : bdsOk [b] = true ∧ bdsOk l = true := by
  cases b <;> simp_all [bdsOk]

theorem ev_bds : ∀ {bs : List Bd} {E : List D} {t : Tree} {r : Res}, bdsOk bs = true → ev C k (bdsOn bs t) E = some r → ∃ F, F.length = outsL bs ∧ Sat C k (E ++ F) bs (E ++ F).length ∧ ev C k t (E ++ F) = some r
  | [], E, t, r, _, h => ⟨[], rfl, trivial, by simpa [bdsOn] using h⟩
  | b :: l, E, t, r, hb, h => by
    obtain ⟨hb1, hb2⟩ := bdsOk_cons hb
    simp only [bdsOn] at h
    obtain ⟨F, h1, h2, h3⟩ := ev_bds hb2 h
    obtain ⟨G, g1, g2, g3⟩ := ev_bd hb1 h3
    refine ⟨F ++ G, by simp [outsL, h1, g1, Nat.add_comm], ⟨(E ++ F).length, by rw [← List.append_assoc, List.length_append, g1], ?_, ?_⟩, by rw [← List.append_assoc]; exact g3⟩
    · rw [← List.append_assoc]; exact g2
    · rw [← List.append_assoc]; exact h2.app
end

/-! ### The way -/
def GuardIs (E : List D) (st : St) (ops : List Oper) (o : Oper) (run : Bool) : Prop :=
  match o.guard with
  | none => run = true
  | some (j, want) => ∃ s, guardOf st ops j = some s ∧ ((∃ a b, s = .d .bool a ∧ a.get E = some (.bool b) ∧ run = (b == want)) ∨ (s = .tu [] ∧ run = false))

def KnOk (E : List D) (kn : List (At × Bool)) : Prop := ∀ a b, (a, b) ∈ kn → a.get E = some (.bool b)
theorem KnOk.known {E : List D} : ∀ {kn : List (At × Bool)} {a : At} {b : Bool}, KnOk E kn → knownAt kn a = some b → a.get E = some (.bool b)
  | [], a, b, _, h => by simp [knownAt] at h
  | (c, v) :: l, a, b, hk, h => by
    simp only [knownAt] at h
    split at h
    · rename_i hc
      injection h with h
      subst h
      rw [← At.beq_eq hc]
      exact hk c v (by simp)
    · exact KnOk.known (fun a b hm => hk a b (List.mem_cons_of_mem _ hm)) h

def Steps (cx : Cx) (inl : FuncId → List SV → Nat → List Root → Option Inl) (C : FuncId → List D → Option (List D)) (k : Nat) (E : List D) (ops : List Oper) : List Oper → Nat → St → List Eff → St → Prop
  | [], _, st, [], stf => stf = st
  | o :: rest, i, st, e :: es, stf => GuardIs E st ops o e.run ∧
      ((e.run = true ∧ ∃ kn, KnOk E kn ∧ stepEff cx inl kn st.slot st.root st.nv st.mem.length i o = some e ∧ Sat C k E e.bs e.nv') ∨ e = skipEff i o st) ∧ Steps cx inl C k E ops rest (i + 1) (st.after e) es stf
  | _, _, _, _, _ => False

section
variable {cx : Cx} {inl : FuncId → List SV → Nat → List Root → Option Inl} {C : FuncId → List D → Option (List D)} {k : Nat}

theorem stepEff_some {kn : List (At × Bool)} {ρ : Tmp → SV} {μ : Nat → Root} {nv ab i : Nat} {o : Oper} {e : Eff} (h : stepEff cx inl kn ρ μ nv ab i o = some e) :
    ∃ s, (stepOp cx inl kn ρ o).run μ ⟨[], nv, [], ab⟩ = some (e.sv, s, e.foot) ∧ e.i = i ∧ e.run = true ∧ e.dst = o.dst ∧ e.bs = s.bs ∧ e.up = s.up ∧ e.nv = nv ∧ e.ab = ab ∧ e.nv' = s.nv ∧ e.ab' = s.ab ∧ upOk e.ab' e.up = true ∧ bdsOk e.bs = true := by
  unfold stepEff at h
  split at h
  · cases h
  · rename_i sv s foot hr
    split at h
    · rename_i hok
      simp only [Bool.and_eq_true] at hok
      injection h with h
      subst h
      exact ⟨s, hr, rfl, rfl, rfl, rfl, rfl, rfl, rfl, rfl, rfl, hok.1, hok.2⟩
    · cases h

theorem guardD_is {E : List D} {st : St} {ops : List Oper} {kn : List (At × Bool)} {o : Oper} (hk : KnOk E kn) :
    (guardD st ops kn o = .go → GuardIs E st ops o true) ∧ (guardD st ops kn o = .skip → GuardIs E st ops o false) ∧
    (∀ a want b, guardD st ops kn o = .ask a want → a.get E = some (.bool b) → GuardIs E st ops o (b == want)) := by
  unfold guardD GuardIs
  cases hg : o.guard with
  | none => simp
  | some p =>
    obtain ⟨j, want⟩ := p
    simp only
    cases hs : guardOf st ops j with
    | none => simp
    | some s =>
      split
      · rename_i b heq
        injection heq with heq
        subst heq
        cases hbw : (b == want) with
        | true => simp only [if_true, reduceCtorEq, false_implies, forall_const, implies_true, and_true, and_self]; exact ⟨_, rfl, .inl ⟨_, b, rfl, rfl, hbw.symm⟩⟩
        | false => simp only [Bool.false_eq_true, if_false, reduceCtorEq, false_implies, forall_const, implies_true, and_true, true_and]; exact ⟨_, rfl, .inl ⟨_, b, rfl, rfl, hbw.symm⟩⟩
      · rename_i a _ heq
        injection heq with heq
        subst heq
        split
        · rename_i b hkn
          have ha := hk.known hkn
          cases hbw : (b == want) with
          | true => simp only [if_true, reduceCtorEq, false_implies, forall_const, implies_true, and_true, and_self]; exact ⟨_, rfl, .inl ⟨a, b, rfl, ha, hbw.symm⟩⟩
          | false => simp only [Bool.false_eq_true, if_false, reduceCtorEq, false_implies, forall_const, implies_true, and_true, true_and]; exact ⟨_, rfl, .inl ⟨a, b, rfl, ha, hbw.symm⟩⟩
        · refine ⟨nofun, nofun, fun a' want' b h ha => ?_⟩
          injection h with h1 h2
          subst h1 h2
          exact ⟨_, rfl, .inl ⟨a, b, rfl, ha, rfl⟩⟩
      · rename_i heq
        injection heq with heq
        subst heq
        exact ⟨nofun, fun _ => ⟨_, rfl, .inr ⟨rfl, by simp⟩⟩, nofun⟩
      · exact ⟨nofun, nofun, nofun⟩

theorem GuardIs.app {E F : List D} {st : St} {ops : List Oper} {o : Oper} {run : Bool} (h : GuardIs E st ops o run) : GuardIs (E ++ F) st ops o run := by
  unfold GuardIs at h ⊢
  split
  · rename_i hg; simp only [hg] at h; exact h
  · rename_i j want hg
    simp only [hg] at h
    obtain ⟨s, h1, h2⟩ := h
    refine ⟨s, h1, ?_⟩
    rcases h2 with ⟨a, b, e1, e2, e3⟩ | h2
    · exact .inl ⟨a, b, e1, At.get_app e2, e3⟩
    · exact .inr h2
theorem KnOk.app {E F : List D} {kn : List (At × Bool)} (h : KnOk E kn) : KnOk (E ++ F) kn := fun a b hm => At.get_app (h a b hm)

theorem after_nv (st : St) (e : Eff) : (st.after e).nv = e.nv' := rfl

/-- The way that is taken through a region's tree. -/
theorem region_path {draw : Bool} {ops : List Oper} {bf : List Nat} : ∀ {rest : List Oper} {i : Nat} {st : St} {kn : List (At × Bool)} {log : List Eff} {E : List D} {r : Res},
    ev C k (regionT cx inl draw ops bf rest i st kn log) E = some r → E.length = st.nv → KnOk E kn →
    ∃ stf F es, r = .fin .normal stf (E ++ F) ∧ (E ++ F).length = stf.nv ∧ Steps cx inl C k (E ++ F) ops rest i st es stf ∧ (draw = true → orderOk bf ((log.reverse ++ es).map (footOf ops)) = true)
  | [], i, st, kn, log, E, r, h, hE, hk => by
    simp only [regionT] at h
    split at h
    · rename_i hc
      simp only [ev, Option.some.injEq] at h
      refine ⟨st, [], [], by simp [h], by simpa using hE, rfl, fun hd => ?_⟩
      subst hd
      simpa [List.map_reverse] using hc
    · simp [ev] at h
  | o :: rest, i, st, kn, log, E, r, h, hE, hk => by
    have go : ∀ {kn : List (At × Bool)}, KnOk E kn → GuardIs E st ops o true → ev C k (match stepEff cx inl kn st.slot st.root st.nv st.mem.length i o with
        | none => .fail (stepWhy cx inl kn st.slot st.root st.nv st.mem.length o)
        | some e => bdsOn e.bs (regionT cx inl draw ops bf rest (i + 1) (st.after e) kn (e :: log))) E = some r →
        ∃ stf F es, r = .fin .normal stf (E ++ F) ∧ (E ++ F).length = stf.nv ∧ Steps cx inl C k (E ++ F) ops (o :: rest) i st es stf ∧ (draw = true → orderOk bf ((log.reverse ++ es).map (footOf ops)) = true) := by
      intro kn hk hg h
      split at h
      · simp [ev] at h
      · rename_i e he
        obtain ⟨s, hr, p1, p2, p3, p4, p5, p6, p7, p8, p9, p10, p11⟩ := stepEff_some he
        have hnv := X.run_outs _ _ _ hr
        simp only [outsL, Nat.add_zero] at hnv
        obtain ⟨G, g1, g2, g3⟩ := ev_bds p11 h
        obtain ⟨stf, F, es, f1, f2, f3, f4⟩ := region_path g3 (by rw [after_nv, p8, hnv, List.length_append, g1, hE, p4]) hk.app
        rw [List.append_assoc] at f1 f2 f3
        refine ⟨stf, G ++ F, e :: es, f1, f2, ⟨by rw [p2]; exact hg.app, .inl ⟨p2, kn, hk.app, he, ?_⟩, f3⟩, fun hd => by simpa [List.append_assoc] using f4 hd⟩
        rw [← List.append_assoc]
        have hlen : (E ++ G).length = e.nv' := by rw [p8, hnv, List.length_append, g1, hE, p4]
        rw [← hlen]
        exact g2.app
    have skip : ∀ {kn : List (At × Bool)}, KnOk E kn → GuardIs E st ops o false → ev C k (regionT cx inl draw ops bf rest (i + 1) (st.after (skipEff i o st)) kn (skipEff i o st :: log)) E = some r →
        ∃ stf F es, r = .fin .normal stf (E ++ F) ∧ (E ++ F).length = stf.nv ∧ Steps cx inl C k (E ++ F) ops (o :: rest) i st es stf ∧ (draw = true → orderOk bf ((log.reverse ++ es).map (footOf ops)) = true) := by
      intro kn hk hg h
      obtain ⟨stf, F, es, f1, f2, f3, f4⟩ := region_path h (by rw [after_nv]; exact hE) hk
      exact ⟨stf, F, skipEff i o st :: es, f1, f2, ⟨hg.app, .inr rfl, f3⟩, fun hd => by simpa [List.append_assoc] using f4 hd⟩
    obtain ⟨G1, G2, G3⟩ := guardD_is (st := st) (ops := ops) (o := o) hk
    simp only [regionT] at h
    split at h
    · rename_i hgd
      exact go hk (G1 hgd) h
    · rename_i hgd
      exact skip hk (G2 hgd) h
    · rename_i a want hgd
      simp only [ev] at h
      have hk1 : ∀ {b : Bool}, a.get E = some (.bool b) → KnOk E ((a, b) :: kn) := fun ha c v hm => by
        rcases List.mem_cons.1 hm with hm | hm
        · injection hm with h1 h2
          subst h1 h2
          exact ha
        · exact hk c v hm
      split at h
      · rename_i ha
        have hg := G3 a want true hgd ha
        cases want with
        | true => simp only [if_true] at h; exact go (hk1 ha) hg h
        | false => simp only [Bool.false_eq_true, if_false] at h; exact skip (hk1 ha) hg h
      · rename_i ha
        have hg := G3 a want false hgd ha
        cases want with
        | true => simp only [if_true] at h; exact skip (hk1 ha) hg h
        | false => simp only [Bool.false_eq_true, if_false] at h; exact go (hk1 ha) hg h
      · cases h
    · simp [ev] at h
end

end Go.SX

/- Regions: whatever the order. -/
namespace Go.SX
open Go.RowKit (Below)

/-! ### An operation looks at its operands alone -/
theorem parts_congr {ρ ρ' : Tmp → SV} : ∀ {l : List (Nat × Operand)}, (∀ x ∈ l.map (·.2), opnd ρ x = opnd ρ' x) → l.map (fun (i, x) => (i, opnd ρ x)) = l.map fun (i, x) => (i, opnd ρ' x)
  | [], _ => rfl
  | (i, x) :: l, h => by
    simp only [List.map_cons]
    rw [h x (by simp), parts_congr fun y hy => h y (by simp only [List.map_cons, List.mem_cons]; exact .inr hy)]

theorem stepOp_congr {cx : Cx} {inl : FuncId → List SV → Nat → List Root → Option Inl} {kn : List (At × Bool)} {ρ ρ' : Tmp → SV} {o : Oper} (h : ∀ x ∈ o.op.operands, opnd ρ x = opnd ρ' x) : stepOp cx inl kn ρ o = stepOp cx inl kn ρ' o := by
  obtain ⟨dst, op, type, pos, after, guard⟩ := o
  have opts : ∀ {x : Option Operand}, (∀ y, x = some y → opnd ρ y = opnd ρ' y) → svOfOpt ρ x = svOfOpt ρ' x := fun hx => by
    rename_i x
    cases x with
    | none => rfl
    | some y => simp [svOfOpt, hx y rfl]
  cases op <;> simp only [Op.operands] at h <;> (try rfl)
  case move x => simp only [stepOp]; rw [h x (by simp)]
  case assign x => simp only [stepOp]; rw [h x (by simp)]
  case pick c x y => simp only [stepOp]; rw [h c (by simp), h x (by simp), h y (by simp)]
  case box t x => simp only [stepOp]; rw [h x (by simp)]
  case build t ps => simp only [stepOp]; rw [parts_congr fun x hx => h x (by simpa using hx)]
  case buildSlice t n ps => simp only [stepOp]; rw [parts_congr fun x hx => h x (by simpa using hx)]
  case load t x => simp only [stepOp]; rw [h x (by simp)]
  case store t x v => simp only [stepOp]; rw [h x (by simp), h v (by simp)]
  case nilCheck x => simp only [stepOp]; rw [h x (by simp)]
  case binOp op xt x y yt => simp only [stepOp]; rw [h x (by simp), h y (by simp)]
  case unOp op xt x => simp only [stepOp]; rw [h x (by simp)]
  case convert s d x => simp only [stepOp]; rw [h x (by simp)]
  case makeFunc fn first captured =>
    cases fn <;> simp only [stepOp]
    rw [List.map_congr_left (l := first.toList) fun x hx => h x (by simp at hx ⊢; exact .inl hx), List.map_congr_left (l := captured.toList) fun x hx => h x (by simp at hx ⊢; exact .inr hx)]
  case makeSlice t l c => simp only [stepOp]; rw [h l (by simp), h c (by simp)]
  case slice t x lo hi mx =>
    simp only [stepOp]
    rw [h x (by simp), opts (x := lo) fun y hy => h y (by subst hy; simp), opts (x := hi) fun y hy => h y (by subst hy; simp), opts (x := mx) fun y hy => h y (by subst hy; simp)]
  case fieldAddr t x j => simp only [stepOp]; rw [h x (by simp)]
  case field t x j => simp only [stepOp]; rw [h x (by simp)]
  case indexAddr t x i => simp only [stepOp]; rw [h x (by simp), h i (by simp)]
  case index t x i => simp only [stepOp]; rw [h x (by simp), h i (by simp)]
  case extract x j => simp only [stepOp]; rw [h x (by simp)]
  case call c =>
    obtain ⟨callee, args, argTypes⟩ := c
    have hargs : args.toList.map (opnd ρ) = args.toList.map (opnd ρ') := List.map_congr_left fun x hx => h x (by simp [Call.operands]; exact .inr (by simpa using hx))
    cases callee with
    | value f => simp only [stepOp]; rw [hargs, h f (by simp [Call.operands])]
    | builtin b => simp only [stepOp]; rw [hargs]
    | invoke r m => rfl

/-! ### Some of the operations -/
def putL (l : List SV) (t : Option Tmp) (s : SV) : List SV := match t with | none => l | some t => l.set t s
def selSlots (S : Nat → Bool) : List Eff → List SV → List SV
  | [], l => l
  | e :: es, l => selSlots S es (if S e.i then putL l e.dst e.sv else l)
def selRoots (S : Nat → Bool) : List Eff → (Nat → Root) → (Nat → Root)
  | [], μ => μ
  | e :: es, μ => selRoots S es (if S e.i then now μ e.up else μ)
def selNames (S : Nat → Bool) (es : List Eff) (ab : Nat) (r : Nat) : Prop := r < ab ∨ ∃ e ∈ es, S e.i = true ∧ e.ab ≤ r ∧ r < e.ab'

theorem putL_length (l : List SV) (t : Option Tmp) (s : SV) : (putL l t s).length = l.length := by cases t <;> simp [putL]
theorem putL_ne {l : List SV} {t : Option Tmp} {s : SV} {q : Tmp} (h : t ≠ some q) : (putL l t s)[q]? = l[q]? := by
  cases t with
  | none => rfl
  | some t => simp only [putL]; exact List.getElem?_set_ne (fun e => h (by rw [e]))
theorem putL_comm {l : List SV} {t u : Option Tmp} {s v : SV} (h : ∀ q, t = some q → u ≠ some q) : putL (putL l t s) u v = putL (putL l u v) t s := by
  cases t with
  | none => rfl
  | some t => cases u with
    | none => rfl
    | some u => simp only [putL]; exact List.set_comm _ _ (fun e => h t rfl (by rw [e]))
theorem selSlots_length (S : Nat → Bool) : ∀ (es : List Eff) (l : List SV), (selSlots S es l).length = l.length
  | [], _ => rfl
  | e :: es, l => by simp only [selSlots]; rw [selSlots_length S es]; split <;> simp [putL_length]
theorem selSlots_app (S : Nat → Bool) : ∀ (es es' : List Eff) (l : List SV), selSlots S (es ++ es') l = selSlots S es' (selSlots S es l)
  | [], _, _ => rfl
  | e :: es, es', l => by simp only [List.cons_append, selSlots]; exact selSlots_app S es es' _
theorem selRoots_app (S : Nat → Bool) : ∀ (es es' : List Eff) (μ : Nat → Root), selRoots S (es ++ es') μ = selRoots S es' (selRoots S es μ)
  | [], _, _ => rfl
  | e :: es, es', μ => by simp only [List.cons_append, selRoots]; exact selRoots_app S es es' _

theorem now_out {μ : Nat → Root} {up : List (Nat × Root)} {r : Nat} (h : r ∉ up.map (·.1)) : now μ up r = μ r := by
  induction up with
  | nil => rfl
  | cons p l ih =>
    obtain ⟨q, R⟩ := p
    simp only [List.map_cons, List.mem_cons, not_or] at h
    rw [upd_now, if_neg h.1, ih h.2]
theorem now_in {μ μ' : Nat → Root} {up : List (Nat × Root)} {r : Nat} (h : r ∈ up.map (·.1)) : now μ up r = now μ' up r := by
  induction up with
  | nil => simp at h
  | cons p l ih =>
    obtain ⟨q, R⟩ := p
    rw [upd_now, upd_now]
    split
    · rfl
    · rename_i hne
      simp only [List.map_cons, List.mem_cons] at h
      exact ih (h.resolve_left hne)
theorem now_at {μ μ' : Nat → Root} {up : List (Nat × Root)} {r : Nat} (h : μ r = μ' r) : now μ up r = now μ' up r := by
  by_cases hm : r ∈ up.map (·.1)
  · exact now_in hm
  · rw [now_out hm, now_out hm, h]
theorem now_comm {μ : Nat → Root} {up up' : List (Nat × Root)} (h : ∀ r, r ∈ up.map (·.1) → r ∉ up'.map (·.1)) : now (now μ up) up' = now (now μ up') up := by
  funext r
  by_cases h1 : r ∈ up.map (·.1)
  · rw [now_out (h r h1), now_in h1]
  · rw [now_out (μ := now μ up') h1]
    exact now_at (now_out h1)

section
variable {S : Nat → Bool}

theorem sel_pre {t : Tmp} : ∀ {es : List Eff} {l l' : List SV}, (∀ e ∈ es, S e.i = false → e.dst ≠ some t) → l[t]? = l'[t]? → l.length = l'.length → (selSlots S es l)[t]? = (selSlots (fun _ => true) es l')[t]?
  | [], l, l', _, h, _ => h
  | e :: es, l, l', hd, h, hl => by
    simp only [selSlots, if_true]
    refine sel_pre (fun e' he' => hd e' (List.mem_cons_of_mem _ he')) ?_ ?_
    · cases hS : S e.i with
      | true =>
        simp only [if_true]
        cases hdst : e.dst with
        | none => exact h
        | some q =>
          simp only [putL]
          by_cases hq : q = t
          · subst hq
            rw [List.getElem?_set, List.getElem?_set, if_pos rfl, if_pos rfl, hl]
          · rw [List.getElem?_set_ne hq, List.getElem?_set_ne hq, h]
      | false =>
        simp only [Bool.false_eq_true, if_false]
        rw [putL_ne (hd e (by simp) hS), h]
    · split <;> simp [putL_length, hl]
theorem sel_post {t : Tmp} : ∀ {es : List Eff} {l : List SV}, (∀ e ∈ es, S e.i = true → e.dst ≠ some t) → (selSlots S es l)[t]? = l[t]?
  | [], _, _ => rfl
  | e :: es, l, hd => by
    simp only [selSlots]
    rw [sel_post fun e' he' => hd e' (List.mem_cons_of_mem _ he')]
    split
    · rename_i hS; exact putL_ne (hd e (by simp) hS)
    · rfl
theorem selR_pre {r : Nat} : ∀ {es : List Eff} {μ μ' : Nat → Root}, (∀ e ∈ es, S e.i = false → r ∉ e.up.map (·.1)) → μ r = μ' r → selRoots S es μ r = selRoots (fun _ => true) es μ' r
  | [], _, _, _, h => h
  | e :: es, μ, μ', hd, h => by
    simp only [selRoots, if_true]
    refine selR_pre (fun e' he' => hd e' (List.mem_cons_of_mem _ he')) ?_
    cases hS : S e.i with
    | true => simp only [if_true]; exact now_at h
    | false =>
      simp only [Bool.false_eq_true, if_false]
      rw [now_out (hd e (by simp) hS), h]
theorem selR_post {r : Nat} : ∀ {es : List Eff} {μ : Nat → Root}, (∀ e ∈ es, S e.i = true → r ∉ e.up.map (·.1)) → selRoots S es μ r = μ r
  | [], _, _ => rfl
  | e :: es, μ, hd => by
    simp only [selRoots]
    rw [selR_post fun e' he' => hd e' (List.mem_cons_of_mem _ he')]
    split
    · rename_i hS; exact now_out (hd e (by simp) hS)
    · rfl
/-- An operation more, behind others from which it is apart. -/
theorem sel_put {t : Option Tmp} {v : SV} : ∀ {es : List Eff} {l : List SV}, (∀ e ∈ es, S e.i = true → ∀ q, t = some q → e.dst ≠ some q) → selSlots S es (putL l t v) = putL (selSlots S es l) t v
  | [], _, _ => rfl
  | e :: es, l, hd => by
    simp only [selSlots]
    cases hS : S e.i with
    | true =>
      simp only [if_true]
      rw [putL_comm fun q hq => hd e (by simp) hS q hq]
      exact sel_put fun e' he' => hd e' (List.mem_cons_of_mem _ he')
    | false =>
      simp only [Bool.false_eq_true, if_false]
      exact sel_put fun e' he' => hd e' (List.mem_cons_of_mem _ he')
theorem selR_put {up : List (Nat × Root)} : ∀ {es : List Eff} {μ : Nat → Root}, (∀ e ∈ es, S e.i = true → ∀ r, r ∈ up.map (·.1) → r ∉ e.up.map (·.1)) → selRoots S es (now μ up) = now (selRoots S es μ) up
  | [], _, _ => rfl
  | e :: es, μ, hd => by
    simp only [selRoots]
    cases hS : S e.i with
    | true =>
      simp only [if_true]
      rw [now_comm (hd e (by simp) hS)]
      exact selR_put fun e' he' => hd e' (List.mem_cons_of_mem _ he')
    | false =>
      simp only [Bool.false_eq_true, if_false]
      exact selR_put fun e' he' => hd e' (List.mem_cons_of_mem _ he')
theorem sel_congr {S S' : Nat → Bool} : ∀ {es : List Eff} {l : List SV}, (∀ e ∈ es, S e.i = S' e.i) → selSlots S es l = selSlots S' es l
  | [], _, _ => rfl
  | e :: es, l, h => by
    simp only [selSlots]
    rw [h e (by simp)]
    exact sel_congr fun e' he' => h e' (List.mem_cons_of_mem _ he')
theorem selR_congr {S S' : Nat → Bool} : ∀ {es : List Eff} {μ : Nat → Root}, (∀ e ∈ es, S e.i = S' e.i) → selRoots S es μ = selRoots S' es μ
  | [], _, _ => rfl
  | e :: es, μ, h => by
    simp only [selRoots]
    rw [h e (by simp)]
    exact selR_congr fun e' he' => h e' (List.mem_cons_of_mem _ he')
end

/-! ### The way, as a list -/
theorem padTo_length : ∀ (n : Nat) (l : List Root), (padTo n l).length = max n l.length
  | 0, l => by simp [padTo]
  | n + 1, R :: l => by simp [padTo, padTo_length n l] <;> omega
  | n + 1, [] => by simp [padTo, padTo_length n []]
theorem padTo_get : ∀ (n : Nat) (l : List Root) (r : Nat), memFn (padTo n l) r = memFn l r
  | 0, l, r => by simp [padTo]
  | n + 1, R :: l, 0 => rfl
  | n + 1, R :: l, r + 1 => padTo_get n l r
  | n + 1, [], 0 => rfl
  | n + 1, [], r + 1 => by
    have := padTo_get n [] r
    simp only [padTo]
    show memFn (padTo n []) r = _
    rw [this]
    simp [memFn]
theorem putUps_length : ∀ (up : List (Nat × Root)) (m : List Root), (putUps up m).length = m.length
  | [], _ => rfl
  | (r, R) :: l, m => by simp [putUps, putUps_length l m]
theorem putUps_get : ∀ {up : List (Nat × Root)} {m : List Root} (r : Nat), upOk m.length up = true → memFn (putUps up m) r = now (memFn m) up r
  | [], m, r, _ => rfl
  | (q, R) :: l, m, r, h => by
    simp only [upOk, Bool.and_eq_true, Nat.blt_eq] at h
    rw [upd_now, ← putUps_get r h.2]
    simp only [putUps, memFn]
    by_cases hq : r = q
    · subst hq
      rw [if_pos rfl, List.getElem?_set_self (by rw [putUps_length]; exact h.1)]
      rfl
    · rw [if_neg hq, List.getElem?_set_ne (Ne.symm hq)]
theorem upOk_mono : ∀ {up : List (Nat × Root)} {n m : Nat}, n ≤ m → upOk n up = true → upOk m up = true
  | [], _, _, _, _ => rfl
  | (r, R) :: l, n, m, hle, h => by
    simp only [upOk, Bool.and_eq_true, Nat.blt_eq] at h ⊢
    exact ⟨by omega, upOk_mono hle h.2⟩

theorem root_fn (st : St) : st.root = memFn st.mem := rfl
theorem after_root {st : St} {e : Eff} (h : upOk e.ab' e.up = true) (hl : st.mem.length ≤ e.ab') : (st.after e).root = now st.root e.up ∧ (st.after e).mem.length = e.ab' := by
  have hlen : (padTo e.ab' st.mem).length = e.ab' := by rw [padTo_length]; omega
  refine ⟨?_, ?_⟩
  · funext r
    rw [root_fn, root_fn]
    show memFn (putUps e.up (padTo e.ab' st.mem)) r = _
    rw [putUps_get r (by rw [hlen]; exact h)]
    exact now_at (padTo_get _ _ _)
  · show (putUps e.up (padTo e.ab' st.mem)).length = _
    rw [putUps_length, hlen]

section
variable {cx : Cx} {inl : FuncId → List SV → Nat → List Root → Option Inl} {C : FuncId → List D → Option (List D)} {k : Nat} {E : List D} {ops : List Oper}

/-- What one operation did. -/
structure EffOk (cx : Cx) (inl : FuncId → List SV → Nat → List Root → Option Inl) (C : FuncId → List D → Option (List D)) (k : Nat) (E : List D) (ops : List Oper) (o : Oper) (i : Nat) (st : St) (e : Eff) : Prop where
  guard : GuardIs E st ops o e.run
  i : e.i = i
  dst : e.dst = o.dst
  ab : e.ab = st.mem.length
  ab' : e.ab ≤ e.ab'
  up : upOk e.ab' e.up = true
  eff : (e.run = true ∧ ∃ kn s, KnOk E kn ∧ (stepOp cx inl kn st.slot o).run st.root ⟨[], st.nv, [], st.mem.length⟩ = some (e.sv, s, e.foot) ∧ e.bs = s.bs ∧ e.up = s.up ∧ e.ab' = s.ab ∧ Sat C k E s.bs s.nv) ∨ (e.run = false ∧ e.sv = .tu [] ∧ e.up = [] ∧ e.ab' = e.ab ∧ e.bs = [])

theorem EffOk.of {o : Oper} {i : Nat} {st : St} {e : Eff} (hg : GuardIs E st ops o e.run)
    (h : (e.run = true ∧ ∃ kn, KnOk E kn ∧ stepEff cx inl kn st.slot st.root st.nv st.mem.length i o = some e ∧ Sat C k E e.bs e.nv') ∨ e = skipEff i o st) : EffOk cx inl C k E ops o i st e := by
  rcases h with ⟨h1, kn, h2, h3, h4⟩ | h
  · obtain ⟨s, hr, p1, p2, p3, p4, p5, p6, p7, p8, p9, p10, p11⟩ := stepEff_some h3
    have hab := (X.run_mono _ _ _ hr).2.1
    simp only at hab
    exact ⟨hg, p1, p3, p7, by rw [p7, p9]; exact hab, p10, .inl ⟨h1, kn, s, h2, hr, p4, p5, p9, by rw [← p4, ← p8]; exact h4⟩⟩
  · subst h
    exact ⟨hg, rfl, rfl, rfl, Nat.le_refl _, rfl, .inr ⟨rfl, rfl, rfl, rfl, rfl⟩⟩

theorem EffOk.after {o : Oper} {i : Nat} {st : St} {e : Eff} (h : EffOk cx inl C k E ops o i st e) : (st.after e).root = now st.root e.up ∧ (st.after e).mem.length = e.ab' ∧ (st.after e).slots = putL st.slots e.dst e.sv := by
  obtain ⟨h1, h2⟩ := after_root h.up (by rw [← h.ab]; exact h.ab')
  exact ⟨h1, h2, by cases hd : e.dst <;> simp [St.after, St.put, putL, hd]⟩

theorem Steps.len : ∀ {rest : List Oper} {i : Nat} {st stf : St} {es : List Eff}, Steps cx inl C k E ops rest i st es stf → es.length = rest.length
  | [], _, _, _, [], _ => rfl
  | o :: rest, i, st, stf, e :: es, h => by simp [Steps.len h.2.2]
  | [], _, _, _, _ :: _, h => h.elim
  | _ :: _, _, _, _, [], h => h.elim

/-- All of them, one behind the other. -/
theorem Steps.all : ∀ {rest : List Oper} {i : Nat} {st stf : St} {es : List Eff}, Steps cx inl C k E ops rest i st es stf →
    stf.slots = selSlots (fun _ => true) es st.slots ∧ stf.root = selRoots (fun _ => true) es st.root ∧ st.mem.length ≤ stf.mem.length ∧ (∀ e ∈ es, st.mem.length ≤ e.ab ∧ e.ab ≤ e.ab' ∧ e.ab' ≤ stf.mem.length ∧ i ≤ e.i ∧ e.i < i + rest.length) ∧
    (∀ r, st.mem.length ≤ r → r < stf.mem.length → ∃ e ∈ es, e.ab ≤ r ∧ r < e.ab') ∧ stf.base = st.base
  | [], i, st, stf, [], h => by
    have : stf = st := h
    subst this
    exact ⟨rfl, rfl, Nat.le_refl _, by simp, fun r h1 h2 => by omega, rfl⟩
  | o :: rest, i, st, stf, e :: es, h => by
    have he := EffOk.of (i := i) h.1 h.2.1
    obtain ⟨a1, a2, a3⟩ := he.after
    obtain ⟨b1, b2, b3, b4, b5, b6⟩ := Steps.all h.2.2
    rw [a2] at b3 b4 b5
    refine ⟨by simp only [selSlots, if_true]; rw [b1, a3], by simp only [selRoots, if_true]; rw [b2, a1], ?_, fun e' he' => ?_, fun r h1 h2 => ?_, b6⟩
    · have := he.ab; have := he.ab'; omega
    · rcases List.mem_cons.1 he' with h1 | h1
      · subst h1
        have := he.ab; have := he.ab'; have := he.i
        simp only [List.length_cons]
        exact ⟨by omega, by omega, by omega, by omega, by omega⟩
      · obtain ⟨c1, c2, c3, c4, c5⟩ := b4 e' h1
        have := he.ab; have := he.ab'
        simp only [List.length_cons]
        exact ⟨by omega, by omega, by omega, by omega, by omega⟩
    · by_cases hr : r < e.ab'
      · exact ⟨e, by simp, by rw [he.ab]; exact h1, hr⟩
      · obtain ⟨e', c1, c2⟩ := b5 r (by omega) h2
        exact ⟨e', by simp [c1], c2⟩
  | [], _, _, _, _ :: _, h => h.elim
  | _ :: _, _, _, _, [], h => h.elim

theorem Steps.split : ∀ {r1 : List Oper} {o : Oper} {r2 : List Oper} {i : Nat} {st stf : St} {es : List Eff}, Steps cx inl C k E ops (r1 ++ o :: r2) i st es stf →
    ∃ pre e post stn, es = pre ++ e :: post ∧ pre.length = r1.length ∧ Steps cx inl C k E ops r1 i st pre stn ∧ EffOk cx inl C k E ops o (i + r1.length) stn e ∧ Steps cx inl C k E ops r2 (i + r1.length + 1) (stn.after e) post stf
  | [], o, r2, i, st, stf, e :: es, h => ⟨[], e, es, st, rfl, rfl, rfl, EffOk.of h.1 h.2.1, h.2.2⟩
  | o1 :: r1, o, r2, i, st, stf, e1 :: es, h => by
    obtain ⟨pre, e, post, stn, h1, h2, h3, h4, h5⟩ := Steps.split h.2.2
    refine ⟨e1 :: pre, e, post, stn, by rw [h1]; rfl, by simp [h2], ⟨h.1, h.2.1, h3⟩, ?_, ?_⟩
    · have : i + 1 + r1.length = i + (o1 :: r1).length := by simp only [List.length_cons]; omega
      rw [← this]; exact h4
    · have : i + 1 + r1.length = i + (o1 :: r1).length := by simp only [List.length_cons]; omega
      rw [← this]; exact h5
  | [], _, _, _, _, _, [], h => h.elim
  | _ :: _, _, _, _, _, _, [], h => h.elim
end

end Go.SX

/- Regions: what holds on the way, in any order. -/
namespace Go.SX
open Go.RowKit (Below)

/-- What holds of a static state: slots, roots, names. -/
def Inv (B0 : Nat) (w0 : World) (Xe : Ctx) (E : List D) (sl : List SV) (μ : Nat → Root) (A : Nat → Prop) (a : Act) (w : World) : Prop :=
  ∃ X : Ctx, X.E = E ∧ X.w = w ∧ X.μ = μ ∧ (∀ r, X.A r ↔ A r) ∧ Mem B0 X ∧ Ext Xe X ∧ Below B0 w0 w ∧ a.tmps.size = sl.length ∧ a.defers = [] ∧ ∀ t, VRep X ((sl[t]?).getD (.un 1)) (a.tmps.getD t undef)

theorem put_rep {X : Ctx} {sl : List SV} {a : Act} (hs : a.tmps.size = sl.length) (h : ∀ t, VRep X ((sl[t]?).getD (.un 1)) (a.tmps.getD t undef)) (dst : Option Tmp) {s : SV} {v : Value} (hv : VRep X s v) :
    (a.put dst v).tmps.size = (putL sl dst s).length ∧ (a.put dst v).defers = a.defers ∧ ∀ t, VRep X (((putL sl dst s)[t]?).getD (.un 1)) ((a.put dst v).tmps.getD t undef) := by
  cases dst with
  | none => exact ⟨hs, rfl, h⟩
  | some d =>
    refine ⟨by simp [Act.put, putL, hs], rfl, fun t => ?_⟩
    simp only [Act.put, putL]
    by_cases ht : d = t
    · subst ht
      rcases Nat.lt_or_ge d sl.length with hlt | hge
      · rw [List.getElem?_set_self hlt]
        have : d < a.tmps.size := by rw [hs]; exact hlt
        simp [Array.getD_eq_getD_getElem?, this]
        exact hv
      · rw [List.getElem?_eq_none (by simpa using hge)]
        simp only [Option.getD_none, VRep]
    · rw [List.getElem?_set_ne ht]
      have := h t
      simp only [Array.getD_eq_getD_getElem?] at this ⊢
      rw [Array.getElem?_setIfInBounds_ne ht]
      exact this

/-! ### Feet -/
theorem disj_not {a b : List Nat} (h : disj a b = true) {x : Nat} (ha : x ∈ a) (hb : x ∈ b) : False := by
  simp only [disj, List.all_eq_true, Bool.not_eq_true', List.contains_eq_mem, decide_eq_false_iff_not] at h
  exact h x ha hb
structure ApartE (ops : List Oper) (a b : Eff) : Prop where
  wr : ∀ r, r ∈ a.up.map (·.1) → r ∉ b.foot
  ww : ∀ r, r ∈ a.up.map (·.1) → r ∉ b.up.map (·.1)
  rw_ : ∀ r, r ∈ b.up.map (·.1) → r ∉ a.foot
  twr : ∀ o t, ops[b.i]? = some o → a.dst = some t → t ∉ operTmps o ++ guardTmps ops o
  tww : ∀ t, a.dst = some t → b.dst ≠ some t
  trw : ∀ o t, ops[a.i]? = some o → b.dst = some t → t ∉ operTmps o ++ guardTmps ops o
  subA : hasSub a.bs = true → ¬ b.ab < b.ab'
  subB : hasSub b.bs = true → ¬ a.ab < a.ab'
theorem apart_of {ops : List Oper} {a b : Eff} {oa ob : Oper} (ha : ops[a.i]? = some oa) (hb : ops[b.i]? = some ob) (hda : a.dst = oa.dst) (hdb : b.dst = ob.dst) (h : apartF (footOf ops a) (footOf ops b) = true) : ApartE ops a b := by
  simp only [apartF, footOf, ha, hb, Bool.and_eq_true] at h
  obtain ⟨⟨⟨⟨⟨h1, h2⟩, h3⟩, h4⟩, h5⟩, h6⟩ := h
  have wsa : ∀ r, r ∈ a.up.map (·.1) → r ∈ (if hasSub a.bs = true then allNames :: a.up.map (·.1) else a.up.map (·.1)) := fun r hr => by split <;> simp_all
  have wsb : ∀ r, r ∈ b.up.map (·.1) → r ∈ (if hasSub b.bs = true then allNames :: b.up.map (·.1) else b.up.map (·.1)) := fun r hr => by split <;> simp_all
  have rsa : ∀ r, r ∈ a.foot → r ∈ (if Nat.blt a.ab a.ab' = true then allNames :: a.foot else a.foot) := fun r hr => by split <;> simp_all
  have rsb : ∀ r, r ∈ b.foot → r ∈ (if Nat.blt b.ab b.ab' = true then allNames :: b.foot else b.foot) := fun r hr => by split <;> simp_all
  exact
    { wr := fun r h h' => disj_not h1 (wsa r h) (rsb r h')
      ww := fun r h h' => disj_not h2 (wsa r h) (wsb r h')
      rw_ := fun r h h' => disj_not h3 (wsb r h) (rsa r h')
      twr := fun o t ho ht hm => by
        rw [hb] at ho
        injection ho with ho
        subst ho
        exact disj_not h4 (x := t) (by rw [← hda, ht]; simp) hm
      tww := fun t ht ht' => disj_not h5 (x := t) (by rw [← hda, ht]; simp) (by rw [← hdb, ht']; simp)
      trw := fun o t ho ht hm => by
        rw [ha] at ho
        injection ho with ho
        subst ho
        exact disj_not h6 (x := t) (by rw [← hdb, ht]; simp) hm
      subA := fun h hlt => disj_not h1 (x := allNames) (by rw [if_pos h]; simp) (by rw [if_pos (by rw [Nat.blt_eq]; exact hlt)]; simp)
      subB := fun h hlt => disj_not h3 (x := allNames) (by rw [if_pos h]; simp) (by rw [if_pos (by rw [Nat.blt_eq]; exact hlt)]; simp) }

section
variable {cx : Cx} {inl : FuncId → List SV → Nat → List Root → Option Inl} {C : FuncId → List D → Option (List D)} {k B0 : Nat} {E : List D}

def addS (S : Nat → Bool) (i : Nat) : Nat → Bool := fun j => S j || j == i

/-- One operation, where some have been done. -/
theorem inv_step (ty : TysOk cx) (hC : CallsOk cx C) (hI : InlOk cx C k inl) {opsA : Array Oper} {w0 : World} {Xe : Ctx} (hB0 : B0 ≤ w0.heap.size) {st stn stf : St} {pre post : List Eff} {e : Eff} {o : Oper} {r1 r2 : List Oper} {Q : Exit → Act → World → Prop}
    (h1 : Steps cx inl C k E opsA.toList r1 0 st pre stn) (he : EffOk cx inl C k E opsA.toList o r1.length stn e) (h2 : Steps cx inl C k E opsA.toList r2 (r1.length + 1) (stn.after e) post stf) (ho : opsA[r1.length]? = some o)
    {S : Nat → Bool} (hSi : S e.i = false) (hpre : ∀ e' ∈ pre, S e'.i = false → ApartE opsA.toList e' e) (hpost : ∀ e' ∈ post, S e'.i = true → ApartE opsA.toList e e')
    {a : Act} {w : World} (hinv : Inv B0 w0 Xe E (selSlots S (pre ++ e :: post) st.slots) (selRoots S (pre ++ e :: post) st.root) (selNames S (pre ++ e :: post) st.mem.length) a w) :
    wpOp cx.P opsA Q r1.length (fun a' w' => Inv B0 w0 Xe E (selSlots (addS S e.i) (pre ++ e :: post) st.slots) (selRoots (addS S e.i) (pre ++ e :: post) st.root) (selNames (addS S e.i) (pre ++ e :: post) st.mem.length) a' w') a w := by
  have ei := he.i
  have hoL : opsA.toList[e.i]? = some o := by rw [ei, Array.getElem?_toList]; exact ho
  obtain ⟨s1, s2, s3, s4, s5, s6⟩ := h1.all
  obtain ⟨p1, p2, p3, p4, p5, p6⟩ := h2.all
  obtain ⟨a1, a2, a3⟩ := he.after
  -- what it looks at is as it is in the text's order
  have slotAt : ∀ t, t ∈ operTmps o ++ guardTmps opsA.toList o → (selSlots S (pre ++ e :: post) st.slots)[t]? = stn.slots[t]? := fun t ht => by
    rw [selSlots_app]
    simp only [selSlots, hSi, Bool.false_eq_true, if_false]
    rw [sel_post fun e' he' hS => fun hd => (hpost e' he' hS).trw o t hoL hd ht, s1]
    exact sel_pre (fun e' he' hS => fun hd => (hpre e' he' hS).twr o t hoL hd ht) rfl rfl
  have rootAt : ∀ r, r ∈ e.foot → selRoots S (pre ++ e :: post) st.root r = stn.root r := fun r hr => by
    rw [selRoots_app]
    simp only [selRoots, hSi, Bool.false_eq_true, if_false]
    rw [selR_post fun e' he' hS => fun hd => (hpost e' he' hS).rw_ r hd hr, s2]
    exact selR_pre (fun e' he' hS => fun hd => (hpre e' he' hS).wr r hd hr) rfl
  -- behind it
  have hnot : ∀ e' ∈ pre ++ post, e'.i ≠ e.i := fun e' he' h => by
    rcases List.mem_append.1 he' with hm | hm
    · have := (s4 e' hm).2.2.2.2; omega
    · have := (p4 e' hm).2.2.2.1; omega
  have slots' : selSlots (addS S e.i) (pre ++ e :: post) st.slots = putL (selSlots S (pre ++ e :: post) st.slots) e.dst e.sv := by
    rw [selSlots_app, selSlots_app]
    have e1 : (addS S e.i) e.i = true := by simp [addS]
    simp only [selSlots, hSi, e1, Bool.false_eq_true, if_false, if_true]
    rw [sel_congr (S := addS S e.i) (S' := S) (es := pre) fun e' he' => by simp [addS, hnot e' (List.mem_append_left _ he')], sel_congr (S := addS S e.i) (S' := S) (es := post) fun e' he' => by simp [addS, hnot e' (List.mem_append_right _ he')]]
    exact sel_put fun e' he' hS q hq => (hpost e' he' hS).tww q hq
  have roots' : selRoots (addS S e.i) (pre ++ e :: post) st.root = now (selRoots S (pre ++ e :: post) st.root) e.up := by
    rw [selRoots_app, selRoots_app]
    have e1 : (addS S e.i) e.i = true := by simp [addS]
    simp only [selRoots, hSi, e1, Bool.false_eq_true, if_false, if_true]
    rw [selR_congr (S := addS S e.i) (S' := S) (es := pre) fun e' he' => by simp [addS, hnot e' (List.mem_append_left _ he')], selR_congr (S := addS S e.i) (S' := S) (es := post) fun e' he' => by simp [addS, hnot e' (List.mem_append_right _ he')]]
    exact selR_put fun e' he' hS q hq => (hpost e' he' hS).ww q hq
  have names' : ∀ r, selNames (addS S e.i) (pre ++ e :: post) st.mem.length r ↔ selNames S (pre ++ e :: post) st.mem.length r ∨ (e.ab ≤ r ∧ r < e.ab') := fun r => by
    unfold selNames
    constructor
    · rintro (h | ⟨e', hm, hS, h⟩)
      · exact .inl (.inl h)
      · simp only [addS, Bool.or_eq_true, beq_iff_eq] at hS
        rcases hS with hS | hS
        · exact .inl (.inr ⟨e', hm, hS, h⟩)
        · have : e' = e := by
            rcases List.mem_append.1 hm with hm | hm
            · exact absurd hS (hnot e' (List.mem_append_left _ hm))
            · rcases List.mem_cons.1 hm with hm | hm
              · exact hm
              · exact absurd hS (hnot e' (List.mem_append_right _ hm))
          subst this
          exact .inr h
    · rintro ((h | ⟨e', hm, hS, h⟩) | h)
      · exact .inl h
      · exact .inr ⟨e', hm, by simp [addS, hS], h⟩
      · exact .inr ⟨e, by simp, by simp [addS], h⟩
  rw [slots', roots']
  obtain ⟨X, x1, x2, x3, x4, x5, x6, x7, x8, x9, x10⟩ := hinv
  have hB : B0 ≤ X.w.heap.size := by rw [x2]; exact Nat.le_trans hB0 x7.size
  -- the guard
  have hwant : Region.wanted o (yielded opsA a.tmps) = e.run := by
    have hg := he.guard
    unfold GuardIs at hg
    unfold Region.wanted
    cases hgd : o.guard with
    | none => simp only [hgd] at hg; rw [hg]
    | some p =>
      obtain ⟨j, want⟩ := p
      simp only [hgd] at hg ⊢
      obtain ⟨s, hs1, hs2⟩ := hg
      unfold guardOf at hs1
      cases hoj : opsA.toList[j]? with
      | none => simp [hoj] at hs1
      | some oj =>
        simp only [hoj] at hs1
        cases hdj : oj.dst with
        | none => simp [hdj] at hs1
        | some t =>
          simp only [hdj, Option.some.injEq] at hs1
          have hsl := slotAt t (List.mem_append_right _ (by simp [guardTmps, hgd, hoj, hdj]))
          have hst : stn.slot t = ((selSlots S (pre ++ e :: post) st.slots)[t]?).getD (.un 1) := by rw [hsl]; rfl
          have hv := simple_rep (x10 t)
          rw [← hst, hs1] at hv
          have hoj' : opsA[j]? = some oj := by rw [← Array.getElem?_toList]; exact hoj
          have hy : yielded opsA a.tmps j = (match a.tmps[t]? with | some (.bool b) => some b | _ => none) := by
            simp [yielded, hoj', hdj]
            rfl
          have hin : t < a.tmps.size := by
            rcases Nat.lt_or_ge t a.tmps.size with h | h
            · exact h
            · have : stn.slot t = .un 1 := by rw [hst, List.getElem?_eq_none (by omega)]; rfl
              rw [this] at hs1
              subst hs1
              rcases hs2 with ⟨a', b, h, _⟩ | ⟨h, _⟩ <;> cases h
          have hget : a.tmps.getD t undef = a.tmps[t] := by simp [Array.getD_eq_getD_getElem?, hin]
          rw [hget] at hv
          rw [hy, Array.getElem?_eq_getElem hin]
          rcases hs2 with ⟨a', b, h, ha', hr⟩ | ⟨h, hr⟩
          · subst h
            obtain ⟨d, hd, hdv⟩ := VRep.data.1 hv
            rw [x1, ha'] at hd
            injection hd with hd
            subst hd
            obtain ⟨b', e1, e2⟩ := hdv.bool
            injection e1 with e1
            subst e1
            rw [e2, hr]
            simp
          · subst h
            simp only [VRep, VRepL] at hv
            obtain ⟨vs, hv, _⟩ := hv
            rw [hv, hr]
            rfl
  unfold wpOp
  rw [ho]
  simp only
  rw [hwant]
  rcases he.eff with ⟨hrun, kn, s, hkn, hr, hbs, hup, hab', hsat⟩ | ⟨hrun, hsv, hup, hab, hbs⟩
  · rw [hrun]
    simp only [if_true]
    left
    -- run at the actual state
    have hρ : ∀ t, VRep X (((selSlots S (pre ++ e :: post) st.slots)[t]?).getD (.un 1)) (a.tmps.getD t undef) := x10
    have hcong : stepOp cx inl kn stn.slot o = stepOp cx inl kn (fun t => ((selSlots S (pre ++ e :: post) st.slots)[t]?).getD (.un 1)) o := stepOp_congr fun x hx => by
      cases x with
      | tmp t =>
        simp only [opnd]
        have := slotAt t (List.mem_append_left _ (by
          simp only [operTmps, List.mem_filterMap]
          exact ⟨.tmp t, by simpa using hx, rfl⟩))
        rw [this]
        rfl
      | _ => rfl
    have hr2 : Run (stepOp cx inl kn (fun t => ((selSlots S (pre ++ e :: post) st.slots)[t]?).getD (.un 1)) o) X.μ ⟨[], stn.nv, [], stn.mem.length⟩ e.sv s := by
      rw [← hcong]
      exact ⟨e.foot, SX.X.run_local stn.root X.μ _ _ hr fun r hr => by rw [x3, rootAt r hr]⟩
    have hfr : ∀ r, stn.mem.length ≤ r → r < s.ab → ¬ X.A r := fun r h1 h2 hA => by
      rw [x4 r] at hA
      have hae := he.ab
      rcases hA with h | ⟨e', hm, hS, h3, h4⟩
      · omega
      · rcases List.mem_append.1 hm with hm | hm
        · have := (s4 e' hm).2.2.1; omega
        · rcases List.mem_cons.1 hm with hm | hm
          · subst hm; rw [hSi] at hS; cases hS
          · have := (p4 e' hm).1
            rw [a2] at this
            omega
    have hA : hasSub s.bs = true → ∀ r, X.A r ↔ r < stn.mem.length := fun hsub r => by
      rw [← hbs] at hsub
      rw [x4 r]
      constructor
      · rintro (h | ⟨e', hm, hS, h3, h4⟩)
        · omega
        · rcases List.mem_append.1 hm with hm | hm
          · have := (s4 e' hm).2.2.1; omega
          · rcases List.mem_cons.1 hm with hm | hm
            · subst hm; rw [hSi] at hS; cases hS
            · exact absurd (Nat.lt_of_le_of_lt h3 h4) ((hpost e' hm hS).subA hsub)
      · intro h
        by_cases hr : r < st.mem.length
        · exact .inl hr
        · obtain ⟨e', hm, h3, h4⟩ := s5 r (by omega) h
          refine .inr ⟨e', List.mem_append_left _ hm, ?_, h3, h4⟩
          cases hS : S e'.i with
          | true => rfl
          | false => exact absurd (Nat.lt_of_le_of_lt h3 h4) ((hpre e' hm hS).subB hsub)
    have hold := stepOp_sound ty hC hI hB x5 (kn := kn) (fun a b hm => by rw [x1]; exact hkn a b hm) hρ rfl hr2 (by rw [x1]; exact hsat) hfr hA
    have hold' := hold (fun a' w' => Inv B0 w0 Xe E (putL (selSlots S (pre ++ e :: post) st.slots) e.dst e.sv) (now (selRoots S (pre ++ e :: post) st.root) e.up) (selNames (addS S e.i) (pre ++ e :: post) st.mem.length) a' w') Q (fun v w' ⟨X', nx, hv⟩ => by
      rw [← he.dst]
      obtain ⟨g1, g2, g3⟩ := put_rep (X := X') (s := e.sv) (v := v) x8 (fun t => VRep.ext nx.ext (x10 t)) e.dst hv
      refine ⟨X', by rw [nx.E, x1], nx.w, by rw [nx.μ, x3, hup], fun r => ?_, nx.mem, x6.trans nx.ext, x7.trans (by rw [← x2]; exact nx.below), g1, by rw [g2]; exact x9, g3⟩
      rw [nx.A r, x4 r, names' r, he.ab, hab'])
    rw [x2] at hold'
    exact hold'
  · rw [hrun]
    simp only [Bool.false_eq_true, if_false]
    obtain ⟨g1, g2, g3⟩ := put_rep (X := X) (s := e.sv) (v := undef) x8 x10 e.dst (by rw [hsv]; simp only [VRep, VRepL]; exact ⟨#[], rfl, rfl⟩)
    rw [← he.dst]
    refine ⟨X, x1, x2, by rw [x3, hup]; rfl, fun r => ?_, x5, x6, x7, g1, by rw [g2]; exact x9, g3⟩
    rw [x4 r, names' r]
    constructor
    · exact .inl
    · rintro (h | h)
      · exact h
      · omega
end

end Go.SX

/- Regions: in the text's order, and in any. -/
namespace Go.SX
open Go.RowKit (Below)

section
variable {cx : Cx} {inl : FuncId → List SV → Nat → List Root → Option Inl} {C : FuncId → List D → Option (List D)} {k B0 : Nat} {E : List D}

theorem inv_all {w0 : World} {Xe : Ctx} {ops : List Oper} {st stf : St} {es : List Eff} {S : Nat → Bool} (h : Steps cx inl C k E ops ops 0 st es stf) (hS : ∀ e ∈ es, S e.i = true) {a : Act} {w : World}
    (hinv : Inv B0 w0 Xe E (selSlots S es st.slots) (selRoots S es st.root) (selNames S es st.mem.length) a w) : Inv B0 w0 Xe E stf.slots stf.root (fun r => r < stf.mem.length) a w := by
  obtain ⟨s1, s2, s3, s4, s5, _⟩ := h.all
  rw [sel_congr (S' := fun _ => true) (fun e he => hS e he), selR_congr (S' := fun _ => true) (fun e he => hS e he), ← s1, ← s2] at hinv
  obtain ⟨X, x1, x2, x3, x4, rest⟩ := hinv
  refine ⟨X, x1, x2, x3, fun r => ?_, rest⟩
  rw [x4 r]
  constructor
  · rintro (h | ⟨e, he, _, h1, h2⟩)
    · omega
    · have := (s4 e he).2.2.1; omega
  · intro hr
    by_cases h : r < st.mem.length
    · exact .inl h
    · obtain ⟨e, he, h1, h2⟩ := s5 r (by omega) hr
      exact .inr ⟨e, he, hS e he, h1, h2⟩

theorem inv_none {w0 : World} {Xe : Ctx} {st : St} {es : List Eff} {S : Nat → Bool} (hS : ∀ e ∈ es, S e.i = false) {a : Act} {w : World} (hinv : Inv B0 w0 Xe E st.slots st.root (fun r => r < st.mem.length) a w) :
    Inv B0 w0 Xe E (selSlots S es st.slots) (selRoots S es st.root) (selNames S es st.mem.length) a w := by
  have h1 : ∀ (es : List Eff) (l : List SV), (∀ e ∈ es, S e.i = false) → selSlots S es l = l := by
    intro es
    induction es with
    | nil => intro l _; rfl
    | cons e es ih => intro l h; simp only [selSlots, h e (by simp), Bool.false_eq_true, if_false]; exact ih l fun e' he' => h e' (List.mem_cons_of_mem _ he')
  have h2 : ∀ (es : List Eff) (μ : Nat → Root), (∀ e ∈ es, S e.i = false) → selRoots S es μ = μ := by
    intro es
    induction es with
    | nil => intro l _; rfl
    | cons e es ih => intro l h; simp only [selRoots, h e (by simp), Bool.false_eq_true, if_false]; exact ih l fun e' he' => h e' (List.mem_cons_of_mem _ he')
  rw [h1 es _ hS, h2 es _ hS]
  obtain ⟨X, x1, x2, x3, x4, rest⟩ := hinv
  refine ⟨X, x1, x2, x3, fun r => ?_, rest⟩
  rw [x4 r]
  constructor
  · exact .inl
  · rintro (h | ⟨e, he, hS', _⟩)
    · exact h
    · rw [hS e he] at hS'; cases hS'

theorem splitAt_ops {ops : List Oper} {i : Nat} {o : Oper} (h : ops[i]? = some o) : ops = ops.take i ++ o :: ops.drop (i + 1) := by
  have hlt := (List.getElem?_eq_some_iff.1 h).1
  have := (List.getElem?_eq_some_iff.1 h).2
  rw [← this, List.getElem_cons_drop, List.take_append_drop]

theorem region_text (ty : TysOk cx) (hC : CallsOk cx C) (hI : InlOk cx C k inl) {opsA : Array Oper} {w0 : World} {Xe : Ctx} (hB0 : B0 ≤ w0.heap.size) {st stf : St} {es : List Eff} (h : Steps cx inl C k E opsA.toList opsA.toList 0 st es stf) {Q : Exit → Act → World → Prop}
    (hQ : ∀ a w, Inv B0 w0 Xe E stf.slots stf.root (fun r => r < stf.mem.length) a w → Q .normal a w) {a : Act} {w : World} (hinv : Inv B0 w0 Xe E st.slots st.root (fun r => r < st.mem.length) a w) : wpOps cx.P opsA Q (List.range opsA.size) a w := by
  have hall := h.all.2.2.2.1
  have main : ∀ (m i : Nat) (a : Act) (w : World), i + m = opsA.size → Inv B0 w0 Xe E (selSlots (fun j => decide (j < i)) es st.slots) (selRoots (fun j => decide (j < i)) es st.root) (selNames (fun j => decide (j < i)) es st.mem.length) a w →
      wpOps cx.P opsA Q (List.range' i m) a w := by
    intro m
    induction m with
    | zero =>
      intro i a w hi hinv
      refine hQ a w (inv_all h (fun e he => ?_) hinv)
      have := (hall e he).2.2.2.2
      simp at this ⊢
      omega
    | succ m ih =>
      intro i a w hi hinv
      have hlt : i < opsA.size := by omega
      have ho : opsA[i]? = some opsA[i] := Array.getElem?_eq_getElem hlt
      have hoL : opsA.toList[i]? = some opsA[i] := by rw [Array.getElem?_toList]; exact ho
      rw [List.range'_succ, wpOps_cons]
      have hsp := h
      rw [splitAt_ops hoL] at hsp
      have hlen : (opsA.toList.take i).length = i := by rw [List.length_take]; simp; omega
      obtain ⟨pre, e, post, stn, e1, e2, h1, he, h2⟩ := Steps.split (ops := opsA.toList.take i ++ opsA[i] :: opsA.toList.drop (i + 1)) hsp
      rw [← splitAt_ops hoL] at h1 he h2
      rw [Nat.zero_add, hlen] at he h2
      have ei := he.i
      subst e1
      have hst := inv_step (Q := Q) ty hC hI hB0 (r1 := opsA.toList.take i) (o := opsA[i]) h1 (by rw [hlen]; exact he) (by rw [hlen]; exact h2) (by rw [hlen]; exact ho) (S := fun j => decide (j < i)) (by simp [ei]) (fun e' he' hS => by
          have := (h1.all.2.2.2.1 e' he').2.2.2.2
          rw [hlen] at this
          simp at hS
          omega) (fun e' he' hS => by
          have := (h2.all.2.2.2.1 e' he').2.2.2.1
          simp at hS
          omega) hinv
      rw [hlen] at hst
      refine wpOp_mono (fun a' w' hinv' => ih (i + 1) a' w' (by omega) ?_) hst
      have : addS (fun j => decide (j < i)) e.i = fun j => decide (j < i + 1) := by
        funext j
        simp only [addS, ei]
        by_cases h1 : j < i
        · simp [h1, Nat.lt_succ_of_lt h1]
        · by_cases h2 : j = i
          · subst h2
            simp
          · have h3 : ¬ j < i + 1 := by omega
            simp [h1, h2, h3]
      rw [this] at hinv'
      exact hinv'
  rw [List.range_eq_range']
  exact main opsA.size 0 a w (by omega) (inv_none (fun e he => by simp) hinv)

/-! ### Any order -/
def cnt (p : Nat → Bool) : Nat → Nat
  | 0 => 0
  | n + 1 => cnt p n + (if p n then 1 else 0)
theorem cnt_le {p q : Nat → Bool} (h : ∀ j, p j = true → q j = true) : ∀ n, cnt p n ≤ cnt q n
  | 0 => Nat.le_refl _
  | n + 1 => by
    have := cnt_le h n
    simp only [cnt]
    by_cases hp : p n = true
    · rw [if_pos hp, if_pos (h n hp)]; omega
    · rw [if_neg hp]; split <;> omega
theorem cnt_lt {p q : Nat → Bool} {i : Nat} (h : ∀ j, p j = true → q j = true) (hp : p i = false) (hq : q i = true) : ∀ n, i < n → cnt p n < cnt q n
  | 0, hi => by omega
  | n + 1, hi => by
    simp only [cnt]
    by_cases he : i = n
    · subst he
      have := cnt_le h i
      rw [hp, hq]
      simp
      omega
    · have := cnt_lt h hp hq n (by omega)
      by_cases hpn : p n = true
      · rw [if_pos hpn, if_pos (h n hpn)]; omega
      · rw [if_neg hpn]; split <;> omega
theorem cnt_zero {p : Nat → Bool} : ∀ {n : Nat}, cnt p n = 0 → ∀ i, i < n → p i = false
  | 0, _, i, hi => by omega
  | n + 1, h, i, hi => by
    simp only [cnt] at h
    by_cases he : i = n
    · subst he
      cases hp : p i with
      | false => rfl
      | true => rw [hp] at h; simp at h
    · exact cnt_zero (n := n) (by omega) i (by omega)

def bitsOf (acc : List Nat) (o : Oper) : Nat := o.after.toList.foldl (fun s e => if Region.binds .any e then Nat.lor (Nat.lor s (2 ^ e.on)) ((acc[e.on]?).getD 0) else s) 0
theorem bits_fold {acc : List Nat} {m : Nat} : ∀ (es : List Edge) (s : Nat), (es.foldl (fun s e => if Region.binds .any e then Nat.lor (Nat.lor s (2 ^ e.on)) ((acc[e.on]?).getD 0) else s) s).testBit m = true →
    s.testBit m = true ∨ ∃ e ∈ es, Region.binds .any e = true ∧ (m = e.on ∨ ((acc[e.on]?).getD 0).testBit m = true)
  | [], s, h => .inl h
  | e :: es, s, h => by
    simp only [List.foldl_cons] at h
    rcases bits_fold es _ h with h | ⟨e', h1, h2⟩
    · by_cases hb : Region.binds .any e = true
      · rw [if_pos hb] at h
        have h' : (s ||| 2 ^ e.on ||| ((acc[e.on]?).getD 0)).testBit m = true := h
        rw [Nat.testBit_or, Nat.testBit_or, Nat.testBit_two_pow] at h'
        simp only [Bool.or_eq_true, decide_eq_true_eq] at h'
        rcases h' with (h' | h') | h'
        · exact .inl h'
        · exact .inr ⟨e, by simp, hb, .inl h'.symm⟩
        · exact .inr ⟨e, by simp, hb, .inr h'⟩
      · rw [if_neg hb] at h; exact .inl h
    · exact .inr ⟨e', List.mem_cons_of_mem _ h1, h2⟩
theorem get_app' {α : Type} {E F : List α} {i : Nat} {d : α} (h : E[i]? = some d) : (E ++ F)[i]? = some d := by
  rw [List.getElem?_append_left (List.getElem?_eq_some_iff.1 h).1]
  exact h
theorem before_pre : ∀ (l : List Oper) (acc : List Nat) (j : Nat) (x : Nat), acc[j]? = some x → (beforeL.go l acc)[j]? = some x
  | [], acc, j, x, h => h
  | o :: l, acc, j, x, h => by
    simp only [beforeL.go]
    exact before_pre l _ j x (get_app' h)
theorem before_spec : ∀ (l : List Oper) (acc : List Nat) (i : Nat) (o : Oper) (m : Nat), l[i]? = some o → (((beforeL.go l acc)[acc.length + i]?).getD 0).testBit m = true →
    ∃ e ∈ o.after.toList, Region.binds .any e = true ∧ (m = e.on ∨ (((beforeL.go l acc)[e.on]?).getD 0).testBit m = true)
  | [], acc, i, o, m, h, _ => by simp at h
  | o :: l, acc, 0, o', m, h, hb => by
    simp at h
    subst h
    simp only [beforeL.go, Nat.add_zero] at hb ⊢
    have hx : (acc ++ [bitsOf acc o])[acc.length]? = some (bitsOf acc o) := by simp
    have := before_pre l _ _ _ hx
    unfold bitsOf at this
    rw [this] at hb
    rcases bits_fold _ _ hb with h | ⟨e, h1, h2, h3⟩
    · simp at h
    · refine ⟨e, h1, h2, ?_⟩
      rcases h3 with h3 | h3
      · exact .inl h3
      · right
        cases hy : acc[e.on]? with
        | none => rw [hy] at h3; simp at h3
        | some y =>
          rw [hy] at h3
          have := before_pre l (acc ++ [bitsOf acc o]) e.on y (get_app' hy)
          unfold bitsOf at this
          rw [this]
          exact h3
  | o :: l, acc, i + 1, o', m, h, hb => by
    simp only [List.getElem?_cons_succ] at h
    simp only [beforeL.go] at hb ⊢
    refine before_spec l _ i o' m h ?_
    rw [List.length_append, List.length_singleton, show acc.length + 1 + i = acc.length + (i + 1) by omega]
    exact hb

theorem edges_spec : ∀ (l : List Oper) (n i : Nat) (o : Oper), edgesOk.go l n = true → l[i]? = some o → ∀ e ∈ o.after.toList, Region.binds .any e = true → e.on < n + i
  | [], n, i, o, _, h => by simp at h
  | o :: l, n, 0, o', h, hi => by
    simp at hi
    subst hi
    simp only [edgesOk.go, Bool.and_eq_true, List.all_eq_true, Bool.or_eq_true, Bool.not_eq_true', Nat.blt_eq] at h
    intro e he hb
    rcases h.1 e he with h1 | h1
    · rw [h1] at hb; cases hb
    · omega
  | o :: l, n, i + 1, o', h, hi => by
    simp only [List.getElem?_cons_succ] at hi
    simp only [edgesOk.go, Bool.and_eq_true] at h
    intro e he hb
    have := edges_spec l (n + 1) i o' h.2 hi e he hb
    omega

theorem order_pairs {bf : List Nat} {ops : List Oper} : ∀ {pre : List Eff} {e : Eff} {post : List Eff}, orderOk bf ((pre ++ e :: post).map (footOf ops)) = true →
    (∀ e' ∈ pre, ((bf[(footOf ops e).i]?).getD 0).testBit (footOf ops e').i = true ∨ apartF (footOf ops e') (footOf ops e) = true) ∧
    (∀ e' ∈ post, ((bf[(footOf ops e').i]?).getD 0).testBit (footOf ops e).i = true ∨ apartF (footOf ops e) (footOf ops e') = true)
  | [], e, post, h => by
    simp only [List.nil_append, List.map_cons, orderOk, Bool.and_eq_true, List.all_eq_true, Bool.or_eq_true] at h
    exact ⟨by simp, fun e' he' => h.1 _ (List.mem_map_of_mem he')⟩
  | e1 :: pre, e, post, h => by
    simp only [List.cons_append, List.map_cons, orderOk, Bool.and_eq_true, List.all_eq_true, Bool.or_eq_true] at h
    obtain ⟨i1, i2⟩ := order_pairs h.2
    refine ⟨fun e' he' => ?_, i2⟩
    rcases List.mem_cons.1 he' with he' | he'
    · subst he'
      exact h.1 _ (List.mem_map_of_mem (by simp))
    · exact i1 e' he'

theorem foot_i {ops : List Oper} (e : Eff) : (footOf ops e).i = e.i := by unfold footOf; split <;> rfl

theorem region_any (ty : TysOk cx) (hC : CallsOk cx C) (hI : InlOk cx C k inl) {opsA : Array Oper} {w0 : World} {Xe : Ctx} (hB0 : B0 ≤ w0.heap.size) {st stf : St} {es : List Eff} (h : Steps cx inl C k E opsA.toList opsA.toList 0 st es stf) {Q : Exit → Act → World → Prop}
    (hord : orderOk (beforeL opsA.toList []) (es.map (footOf opsA.toList)) = true) (hedge : edgesOk opsA.toList 0 = true)
    (hQ : ∀ a w, Inv B0 w0 Xe E stf.slots stf.root (fun r => r < stf.mem.length) a w → Q .normal a w) {a : Act} {w : World} (hinv : Inv B0 w0 Xe E st.slots st.root (fun r => r < st.mem.length) a w) :
    wpAny cx.P .any opsA Q opsA.size (Array.replicate opsA.size false) a w := by
  have hall := h.all.2.2.2.1
  have hall' : ∀ e ∈ es, e.i < opsA.size := fun e he => by have := (hall e he).2.2.2.2; simpa using this
  have main : ∀ (fuel : Nat) (listed : Array Bool) (a : Act) (w : World), listed.size = opsA.size → cnt (fun j => !listed.getD j false) opsA.size ≤ fuel →
      (∀ j m, listed.getD j false = true → (((beforeL opsA.toList [])[j]?).getD 0).testBit m = true → listed.getD m false = true) →
      Inv B0 w0 Xe E (selSlots (fun j => listed.getD j false) es st.slots) (selRoots (fun j => listed.getD j false) es st.root) (selNames (fun j => listed.getD j false) es st.mem.length) a w → wpAny cx.P .any opsA Q fuel listed a w := by
    intro fuel
    induction fuel with
    | zero =>
      intro listed a w hsz hc hcl hinv
      have hdone : ∀ j, j < opsA.size → listed.getD j false = true := fun j hj => by
        have := cnt_zero (Nat.le_zero.1 hc) j hj
        simpa using this
      refine ⟨?_, hQ a w (inv_all h (fun e he => hdone e.i (hall' e he)) hinv)⟩
      refine List.eq_nil_iff_forall_not_mem.2 fun j hj => ?_
      obtain ⟨h1, o, ho, _⟩ := mem_ready.1 hj
      have hlt := (Array.getElem?_eq_some_iff.1 ho).1
      have := hdone j hlt
      have hls : j < listed.size := by omega
      simp [Array.getD_eq_getD_getElem?, hls] at h1 this
      rw [h1] at this
      cases this
    | succ fuel ih =>
      intro listed a w hsz hc hcl hinv
      refine ⟨fun hr => ?_, fun i hi => ?_⟩
      · -- nothing is ready: all are done
        have hdone : ∀ j, j < opsA.size → listed.getD j false = true := fun j => by
          induction j using Nat.strongRecOn with
          | ind j ihj =>
            intro hj
            cases hl : listed.getD j false with
            | true => rfl
            | false =>
              exfalso
              have hm : j ∈ Region.ready .any opsA listed := by
                refine mem_ready.2 ⟨?_, opsA[j], Array.getElem?_eq_getElem hj, fun e he hb => ?_⟩
                · have hls : j < listed.size := by omega
                  simp [Array.getD_eq_getD_getElem?, hls] at hl ⊢
                  exact hl
                · have := edges_spec opsA.toList 0 j opsA[j] hedge (by rw [Array.getElem?_toList]; exact Array.getElem?_eq_getElem hj) e (by simpa using he) hb
                  exact ihj e.on (by omega) (by omega)
              rw [hr] at hm
              cases hm
        exact hQ a w (inv_all h (fun e he => hdone e.i (hall' e he)) hinv)
      · obtain ⟨h1, o, ho, hdeps⟩ := mem_ready.1 hi
        have hlt := (Array.getElem?_eq_some_iff.1 ho).1
        have hls : i < listed.size := by omega
        have hun : listed.getD i false = false := by
          simp [Array.getD_eq_getD_getElem?, hls] at h1 ⊢
          exact h1
        have hoL : opsA.toList[i]? = some o := by rw [Array.getElem?_toList]; exact ho
        have hsp := h
        rw [splitAt_ops hoL] at hsp
        have hlen : (opsA.toList.take i).length = i := by rw [List.length_take]; simp; omega
        obtain ⟨pre, e, post, stn, e1, e2, g1, he, g2⟩ := Steps.split (ops := opsA.toList.take i ++ o :: opsA.toList.drop (i + 1)) hsp
        rw [← splitAt_ops hoL] at g1 he g2
        rw [Nat.zero_add, hlen] at he g2
        have ei := he.i
        subst e1
        have hbefore : ∀ m, (((beforeL opsA.toList [])[i]?).getD 0).testBit m = true → listed.getD m false = true := fun m hm => by
          have hm' : (((beforeL.go opsA.toList [])[([] : List Nat).length + i]?).getD 0).testBit m = true := by rw [List.length_nil, Nat.zero_add]; exact hm
          obtain ⟨ed, h2, h3, h4⟩ := before_spec _ _ i o m hoL hm'
          have hl := hdeps ed (by simpa using h2) h3
          rcases h4 with h4 | h4
          · rw [h4]; exact hl
          · exact hcl ed.on m hl h4
        obtain ⟨o1, o2⟩ := order_pairs hord
        have getO : ∀ e' ∈ pre ++ e :: post, ∃ o', opsA.toList[e'.i]? = some o' ∧ e'.dst = o'.dst := fun e' he' => by
          have hlt' := hall' e' he'
          have hoL' : opsA.toList[e'.i]? = some opsA[e'.i] := by rw [Array.getElem?_toList]; exact Array.getElem?_eq_getElem hlt'
          refine ⟨_, hoL', ?_⟩
          have hsp' := h
          rw [splitAt_ops hoL'] at hsp'
          obtain ⟨pre', e3, post', stn', q1, q2, _, q4, _⟩ := Steps.split (ops := opsA.toList.take e'.i ++ opsA[e'.i] :: opsA.toList.drop (e'.i + 1)) hsp'
          have hlen' : (opsA.toList.take e'.i).length = e'.i := by rw [List.length_take]; simp; omega
          -- the place of an operation is its number
          have place : ∀ (es : List Eff) (l : List Oper) (i0 : Nat) (s s' : St), Steps cx inl C k E opsA.toList l i0 s es s' → ∀ (j : Nat) (x : Eff), es[j]? = some x → x.i = i0 + j := by
            intro es
            induction es with
            | nil => intro l i0 s s' _ j x hx; simp at hx
            | cons y es ih2 =>
              intro l i0 s s' hs j x hx
              cases l with
              | nil => exact hs.elim
              | cons o4 l =>
                cases j with
                | zero =>
                  simp at hx
                  subst hx
                  exact (EffOk.of (i := i0) hs.1 hs.2.1).i
                | succ j =>
                  have := ih2 l (i0 + 1) _ _ hs.2.2 j x (by simpa using hx)
                  omega
          obtain ⟨j, hj⟩ := List.getElem?_of_mem he'
          have hj' := place _ _ _ _ _ h j e' hj
          have hej : (pre ++ e :: post)[e'.i]? = some e3 := by
            rw [q1, List.getElem?_append_right (by rw [q2, hlen']; exact Nat.le_refl _), q2, hlen', Nat.sub_self]
            rfl
          have : e3 = e' := by
            rw [show e'.i = j by omega, hj] at hej
            injection hej with hej
            exact hej.symm
          have q5 := q4.dst
          rw [this] at q5
          exact q5
        obtain ⟨oe, hoe, hde⟩ := getO e (by simp)
        have hst := inv_step (Q := Q) ty hC hI hB0 (r1 := opsA.toList.take i) (o := o) g1 (by rw [hlen]; exact he) (by rw [hlen]; exact g2) (by rw [hlen]; exact ho) (S := fun j => listed.getD j false) (by rw [ei]; exact hun)
          (fun e' he' hS => by
            obtain ⟨o', ho', hd'⟩ := getO e' (List.mem_append_left _ he')
            rcases o1 e' he' with hb | hb
            · rw [foot_i, foot_i, ei] at hb
              rw [hbefore _ hb] at hS
              cases hS
            · exact apart_of ho' hoe hd' hde hb)
          (fun e' he' hS => by
            obtain ⟨o', ho', hd'⟩ := getO e' (List.mem_append_right _ (List.mem_cons_of_mem _ he'))
            rcases o2 e' he' with hb | hb
            · rw [foot_i, foot_i] at hb
              have := hcl _ _ hS hb
              rw [ei, hun] at this
              cases this
            · exact apart_of hoe ho' hde hd' hb) hinv
        rw [hlen] at hst
        refine wpOp_mono (fun a' w' hinv' => ?_) hst
        have hS' : addS (fun j => listed.getD j false) e.i = fun j => (listed.setIfInBounds i true).getD j false := by
          funext j
          simp only [addS, ei]
          by_cases hj : j = i
          · subst hj
            simp [Array.getD_eq_getD_getElem?, hls]
          · simp [Array.getD_eq_getD_getElem?, Array.getElem?_setIfInBounds_ne (Ne.symm hj), hj]
        rw [hS'] at hinv'
        have gi : ∀ j, (listed.setIfInBounds i true).getD j false = (listed.getD j false || j == i) := fun j => by
          have := congrFun hS' j
          simp only [addS, ei] at this
          exact this.symm
        refine ih _ a' w' (by simpa using hsz) ?_ (fun j m hj hb => ?_) hinv'
        · have := cnt_lt (p := fun j => !(listed.setIfInBounds i true).getD j false) (q := fun j => !listed.getD j false) (i := i) (fun j hj => by rw [gi j] at hj; simp at hj ⊢; exact hj.1) (by rw [gi i]; simp) (by rw [hun]; rfl) opsA.size hlt
          omega
        · rw [gi] at hj ⊢
          simp only [Bool.or_eq_true, beq_iff_eq] at hj ⊢
          rcases hj with hj | hj
          · exact .inl (hcl j m hj hb)
          · subst hj
            exact .inl (hbefore m hb)
  refine main opsA.size _ a w (by simp) ?_ (fun j m hj => ?_) (inv_none (fun e he => ?_) hinv)
  · have : ∀ n, cnt (fun j => !(Array.replicate opsA.size false).getD j false) n ≤ n := fun n => by
      induction n with
      | zero => exact Nat.le_refl _
      | succ n ih => simp only [cnt]; split <;> omega
    exact this _
  · simp only [Array.getD_eq_getD_getElem?, Array.getElem?_replicate] at hj
    split at hj <;> simp at hj
  · simp only [Array.getD_eq_getD_getElem?, Array.getElem?_replicate]
    split <;> rfl
end

end Go.SX
