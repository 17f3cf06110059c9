/- Rows of a bound: a law that is true of whatever comes in, if that is of bulk at most 1048576. Any program whose types are as the table says. -/
import Derived.Test.YtihchahfnhoapaaLim
import Derived.Test.YtihchahfnhoapaaRows
import Derived.JoinedCond
set_option linter.unusedSimpArgs false
set_option linter.unusedVariables false
namespace Go.Proofs.Ytihchahfnhoapaa
open Go.SX
open Go.RowKit (Below okWide_bool_mk ok_one shut_bool)

theorem bulk_one {H : Type} (d : DataW H) : 1 ≤ Rows.uptoBulk d := by
  cases d with
  | lit l => cases l <;> simp [Rows.uptoBulk]
  | _ => simp [Rows.uptoBulk]
theorem bulk_part {H : Type} {d : DataW H} : ∀ {l : List (DataW H)}, d ∈ l → Rows.uptoBulk d ≤ Rows.uptoBulkAll l
  | x :: r, h => by
    simp only [Rows.uptoBulkAll]
    rcases List.mem_cons.1 h with e | e
    · subst e; omega
    · have := bulk_part e; omega
theorem bulk_len {H : Type} : ∀ (l : List (DataW H)), l.length ≤ Rows.uptoBulkAll l
  | [] => by simp [Rows.uptoBulkAll]
  | x :: r => by
    have := bulk_one x
    have := bulk_len r
    simp only [Rows.uptoBulkAll, List.length_cons]
    omega

mutual
/-- No list in it has more than N elements. -/
def fitD (N : Nat) : D → Prop
  | .sl l => l.length ≤ N ∧ fitL N l
  | .agg l => fitL N l
  | _ => True
def fitL (N : Nat) : List D → Prop
  | [] => True
  | d :: l => fitD N d ∧ fitL N l
end
theorem fitL_all {N : Nat} : ∀ {l : List D}, (∀ (j : Nat) (d : D), l[j]? = some d → fitD N d) → fitL N l
  | [], _ => trivial
  | d :: l, h => ⟨h 0 d rfl, fitL_all fun j x hx => h (j + 1) x (by simpa using hx)⟩
mutual
/-- No list inside an array. -/
def upTy : Ty → Bool
  | .sl e => upTy e
  | .st l => upTys l
  | .arr _ e => e.flat
  | _ => true
def upTys : List Ty → Bool
  | [] => true
  | t :: l => upTy t && upTys l
end
theorem upTys_get : ∀ {l : List Ty} {j : Nat} {T : Ty}, upTys l = true → l[j]? = some T → upTy T = true
  | [], _, _, _, h => by simp at h
  | t :: l, 0, T, hu, h => by simp at h; subst h; simp only [upTys, Bool.and_eq_true] at hu; exact hu.1
  | t :: l, j + 1, T, hu, h => by simp only [upTys, Bool.and_eq_true] at hu; exact upTys_get hu.2 (by simpa using h)
theorem offs_get {f : TypeId → Ty} : ∀ {l : List Field} {n j : Nat} {x : Field}, offsOk f l n = true → l[j]? = some x → x.offset = n + Ty.sizeL ((l.map fun x => f x.type).take j)
  | [], _, _, _, _, h => by simp at h
  | y :: l, n, 0, x, ho, h => by
    simp only [List.getElem?_cons_zero, Option.some.injEq] at h
    subst h
    simp only [offsOk, Bool.and_eq_true] at ho
    simp only [List.take_zero, Ty.sizeL, Nat.add_zero]
    exact nat_beq ho.1
  | y :: l, n, j + 1, x, ho, h => by
    simp only [offsOk, Bool.and_eq_true] at ho
    have := offs_get ho.2 (show l[j]? = some x by simpa using h)
    rw [this]
    simp only [List.map_cons, List.take_succ_cons, Ty.sizeL]
    omega

section
variable {H : Type} {enc : TypeId × Value → H} {cx : Cx} {w : World} {sp : Nat → Bool} {held : Bool}

mutual
theorem fit_flat {M : Nat → Prop} {N : Nat} : ∀ {T : Ty} {d : D} {cs : List Value}, T.flat = true → DRep w M T d cs → fitD N d
  | T, .int _ _, _, _, _ => trivial
  | T, .bool _, _, _, _ => trivial
  | T, .str _, _, _, _ => trivial
  | T, .nil, _, _, _ => trivial
  | T, .sl ds, cs, hf, h => by
    cases T <;> simp only [DRep] at h
    cases hf
  | T, .agg ds, cs, hf, h => by
    cases T <;> simp only [DRep] at h
    · exact fit_flatL hf h
    · rename_i n e
      exact fit_flatA (e := e) hf h.2
theorem fit_flatL {M : Nat → Prop} {N : Nat} : ∀ {Ts : List Ty} {ds : List D} {cs : List Value}, Ty.flatL Ts = true → DRepL w M Ts ds cs → fitL N ds
  | _, [], _, _, _ => trivial
  | [], d :: ds, cs, _, h => by simp only [DRepL] at h
  | T :: Ts, d :: ds, cs, hf, h => by
    simp only [DRepL] at h
    simp only [Ty.flatL, Bool.and_eq_true] at hf
    obtain ⟨c1, c2, _, h1, h2⟩ := h
    exact ⟨fit_flat hf.1 h1, fit_flatL hf.2 h2⟩
theorem fit_flatA {M : Nat → Prop} {N : Nat} : ∀ {e : Ty} {ds : List D} {cs : List Value}, e.flat = true → DRepA w M e ds cs → fitL N ds
  | _, [], _, _, _ => trivial
  | e, d :: ds, cs, hf, h => by
    simp only [DRepA] at h
    obtain ⟨c1, c2, _, h1, h2⟩ := h
    exact ⟨fit_flat hf h1, fit_flatA hf h2⟩
end

/-- What reads as data of a bulk has no list longer than that. -/
theorem trod_fit (ty : TysOk cx) {M : Nat → Prop} {N : Nat} : ∀ (fuel : Nat) (t : TypeId) (T : Ty) (cs : List Value) (x : DataW H × List MemPlace) (d : D), cx.T t = T → T.known = true → upTy T = true → DataW.trod enc cx.P w 0 sp held fuel t cs = some x → Rows.uptoBulk x.1 ≤ N → DRep w M T d cs → fitD N d
  | 0, t, T, cs, x, d, _, _, _, h, _, _ => by simp [DataW.trod] at h
  | fuel + 1, t, T, cs, x, d, hT, hn, hup, h, hb, hd => by
    obtain ⟨i, tf⟩ := ty.get hT (known_of hn)
    have hdesc := tf.desc
    cases T with
    | no => cases hn
    | int k => exact fit_flat (T := .int k) rfl hd
    | bool => exact fit_flat (T := .bool) rfl hd
    | str => exact fit_flat (T := .str) rfl hd
    | arr n e => exact fit_flat (T := .arr n e) hup hd
    | sl e =>
      obtain ⟨E, hu, hE⟩ := hdesc
      have hne : e.known = true := by simpa [Ty.known] using hn
      obtain ⟨i', tf'⟩ := ty.get hE (known_of hne)
      cases d <;> simp only [DRep] at hd
      · rename_i ds
        obtain ⟨a0, cap0, xs, c1, c2, c3, c4, c5⟩ := hd
        rcases DataW.trod_slice hu h with ⟨e1, _⟩ | ⟨a, len, cap, elems, rest, m, e1, e2, e3, e4, e5, e6, e7, e8, _⟩
        · rw [c1] at e1; simp at e1
        · injection e1 with e1
          subst e1
          rw [c1] at e2
          simp only [List.cons.injEq, Value.slice.injEq, Option.some.injEq, and_true] at e2
          obtain ⟨q1, q2, q3⟩ := e2
          subst q1 q3
          rw [tf'.cells] at e8
          subst e3
          have hlen := bulk_len (elems.map (·.1))
          simp only [Rows.uptoBulk] at hb
          simp only [List.length_map] at hlen
          refine ⟨by omega, fitL_all fun j dj hj => ?_⟩
          have hjl : j < ds.length := (List.getElem?_eq_some_iff.1 hj).1
          have hp := DRepA.part c3 hj
          have hk := e8 j (by omega)
          have hxl := c3.length
          rw [List.getElem?_eq_getElem (by omega), Option.bind_eq_some_iff] at hk
          obtain ⟨cs', k1, k2⟩ := hk
          obtain ⟨k3, k4⟩ := cells_some k1
          have hle : (j + 1) * e.size ≤ ds.length * e.size := Nat.mul_le_mul_right _ hjl
          rw [Nat.succ_mul] at hle
          have hcs : (xs.drop (j * e.size)).take e.size = cs' := by
            apply List.ext_getElem?
            intro n
            rw [List.getElem?_take]
            split
            · rename_i hn'
              rw [List.getElem?_drop, ← k4 n hn', add_add]
              have hx : j * e.size + n < xs.length := by omega
              rw [c4 (j * e.size + n) xs[j * e.size + n] (List.getElem?_eq_getElem hx), List.getElem?_eq_getElem hx]
            · rename_i hn'
              rw [List.getElem?_eq_none (by omega)]
          rw [hcs] at hp
          refine trod_fit ty fuel E e cs' _ dj hE hne hup k2 ?_ hp
          have := bulk_part (l := elems.map (·.1)) (d := (elems[j]'(by omega)).1) (List.mem_map.2 ⟨_, List.getElem_mem _, rfl⟩)
          omega
      · exact trivial
    | st Ts =>
      obtain ⟨fs, hu, hTs, hoff⟩ := hdesc
      obtain ⟨xs, m, e1, e2, e3, e4, e5⟩ := DataW.trod_struct hu h
      injection e1 with e1
      subst e1
      subst e2
      have hkn : Ty.knownL Ts = true := by simpa [Ty.known] using hn
      have hups : upTys Ts = true := hup
      cases d <;> simp only [DRep] at hd
      rename_i ds
      simp only [Rows.uptoBulk] at hb
      refine fitL_all fun j dj hj => ?_
      have hjl : j < ds.length := (List.getElem?_eq_some_iff.1 hj).1
      have hlT := hd.len
      have hjT : j < Ts.length := by omega
      have hgT : Ts[j]? = some Ts[j] := List.getElem?_eq_getElem hjT
      have hp := hd.part hgT hj
      have hfl : fs.toList.length = Ts.length := by rw [hTs]; simp
      have hjf : j < fs.size := by simp only [Array.length_toList] at hfl; omega
      have hgf : fs[j]? = some fs[j] := Array.getElem?_eq_getElem hjf
      have hgl : fs.toList[j]? = some fs[j] := by simp
      have hT2 : Ts[j] = cx.T fs[j].type := by
        have : Ts[j]? = (fs.toList.map fun f => cx.T f.type)[j]? := by rw [← hTs]
        rw [hgT, List.getElem?_map, hgl] at this
        simpa using this
      have hx := e5 j fs[j] hgf
      have ho := offs_get hoff hgl
      rw [← hTs, Nat.zero_add] at ho
      have hkj : Ts[j].known = true := by
        have aux : ∀ {l : List Ty} {j : Nat} {T : Ty}, Ty.knownL l = true → l[j]? = some T → T.known = true := by
          intro l
          induction l with
          | nil => intro j T _ h; simp at h
          | cons t l ih =>
            intro j T hk h
            simp only [Ty.knownL, Bool.and_eq_true] at hk
            cases j with
            | zero => simp at h; subst h; exact hk.1
            | succ j => exact ih hk.2 (by simpa using h)
        exact aux hkn hgT
      obtain ⟨i2, tf2⟩ := ty.get (T := Ts[j]) hT2.symm (known_of hkj)
      rw [tf2.cells, ho] at hx
      have hkl : j < xs.length := by omega
      rw [List.getElem?_eq_getElem hkl] at hx
      refine trod_fit ty fuel fs[j].type Ts[j] _ _ dj hT2.symm hkj (upTys_get hups hgT) hx ?_ hp
      have := bulk_part (l := xs.map (·.1)) (d := xs[j].1) (List.mem_map.2 ⟨_, List.getElem_mem _, rfl⟩)
      omega

theorem args_fit (ty : TysOk cx) {M : Nat → Prop} {N : Nat} : ∀ {ts : List TypeId} {vs : List Value} {ds : List (DataW H)} {Ds : List D} {ps : List MemPlace}, Ty.knownL (ts.map cx.T) = true → upTys (ts.map cx.T) = true →
    DataW.TrodAll enc cx.P w 0 sp held ts vs ds ps → Rows.uptoBulkAll ds ≤ N → DVals w M (ts.map cx.T) Ds vs → fitL N Ds
  | [], [], [], Ds, ps, _, _, h, _, g => by
    cases Ds with
    | nil => trivial
    | cons _ _ => exact g.elim
  | t :: ts, v :: vs, d :: ds, [], ps, _, _, h, _, g => g.elim
  | t :: ts, v :: vs, d :: ds, D1 :: Ds, ps, hk, hu, h, hb, g => by
    simp only [List.map_cons, Ty.knownL, upTys, Bool.and_eq_true] at hk hu
    simp only [Rows.uptoBulkAll] at hb
    obtain ⟨p, q, ⟨fuel, h1⟩, h2, _⟩ := h
    obtain ⟨g1, g2⟩ := g
    refine ⟨?_, args_fit ty hk.2 hu.2 h2 (by omega) g2⟩
    have hr : DRep w M (cx.T t) D1 v.cells.toList := by
      unfold DVal at g1
      split at g1
      · obtain ⟨cs, e, g⟩ := g1
        subst e
        exact g
      · rw [g1.1.cells]
        exact g1.2
    exact trod_fit ty fuel t _ _ _ D1 rfl hk.1 hu.1 h1 (by simp only; omega) hr
  | [], _ :: _, _, _, _, _, _, h, _, _ | [], [], _ :: _, _, _, _, _, h, _, _ | _ :: _, [], _, _, _, _, _, h, _, _ | _ :: _, _ :: _, [], _, _, _, _, h, _, _ => by simp [DataW.TrodAll] at h
end

/-- A law, from what its function tells of what is of no greater bulk. -/
theorem law_of_fit {cx : Cx} {n N : Nat} {C0 : FuncId → List D → Option (List D)} {f : FuncId} {fn : Func} {ps : List Ty} {sem : Ty.Tup ps → Option Bool} (ok : FnOk cx n C0 f ⟨ps, [.bool], sem⟩) (hp : paramTys cx fn = ps)
    (h : ∀ Ds x, RlL ps Ds x → fitL N Ds → OkL ps x → sem x = some true) :
    ∀ Ds, WtL (paramTys cx fn) Ds → fitL N Ds → ∃ k d, callF cx k n C0 d f Ds = some [.bool true] := by
  intro Ds hD hN
  subst hp
  obtain ⟨x, h1, h2⟩ := wtL_ok hD
  obtain ⟨rs, h3, h4⟩ := ok Ds x true h1 (h Ds x h1 hN h2)
  obtain ⟨d, rfl, h4⟩ := h4
  have h4 : d = .bool true := h4
  subst h4
  exact (callL_some cx n C0).1 h3

/-- A law that tells true of all data of a bulk is true of whatever comes in of that bulk. -/
theorem lift_upto {cx : Cx} {C : Checked} (hP : cx.P = C.prog) (ty : TysOk cx) (hmix : C.prog.follows .mixedOrders = true) {C0 : FuncId → List D → Option (List D)} (h0 : CallsOk cx C0) (n : Nat)
    {os : Os} {f : FuncId} {fn : Func} {H : Type} {enc : TypeId × Value → H} {s : ChangeSpec} {conds : List PathCond} {F : Stop.Interp}
    (own : ownKnob C.prog.godebug = none) (hl : laidOutB C.prog = true) (started : os.Started) (noInit : C.prog.inits.idxOf? f = none) (hfn : C.prog.funcs[f]? = some fn)
    (hcan : canCall fn = true) (hdat : isData cx f fn = true) (hread : fn.params.toList.all (fun t => C.prog.readableRec t && Nat.blt t C.prog.types.size) = true) (hup : upTys (paramTys cx fn) = true)
    {tb : TypeId} (hres : fn.resultTypes = #[tb]) (htb : C.prog.underlying tb = some .bool) (hTb : cx.T tb = .bool) (hvars : s.vars = [])
    (hspec : ∀ ds : List (DataW H), ds.length = fn.params.toList.length → s.fn H ds = { results := [.lit (.bool true)], args := ds })
    (hlaw : ∀ Ds, WtL (paramTys cx fn) Ds → fitL 1048576 Ds → ∃ k d, callF cx k n C0 d f Ds = some [.bool true])
    (witness : ∃ (w : World) (tape : Tape) (i : Input), w.os = os ∧ (w.forCall tape i).Shaped C.prog ∧ i.vars = [] ∧ Input.okWide C.prog (w.forCall tape i) .any w.heap.size f i ∧
      (Rows.OpenSpec.upto s).pre6 enc C.prog fn conds false (w.forCall tape i).memory i.args ∧ ({} : Assume).holds C.prog (lone (Frame.enter C.prog f i.args .normal) [] (w.forCall tape i))) :
    ReturnsInHanded {} C os f .any ((Rows.OpenSpec.upto s).pre6 enc C.prog fn conds false) (((Rows.OpenSpec.upto s).at F).post enc C.prog fn false true false false) := by
  refine returnsInHanded_of_cond (C := C) (s := Rows.OpenSpec.upto s) (k := Rows.uptoSmall) rfl own started noInit hfn witness ?_
  intro W base args ds gs before hval hW _ hk _
  have hW : DataW.Whole enc C.prog fn.params.toList s.vars false W args.toList ds gs before := hW
  show Calls C.prog f args W fun e W' => ∃ v, e = .returned v ∧ s.post enc C.prog fn false true false false W args v W'
  have hW' := hW
  obtain ⟨p, q, hA, hV, e, hfz, hnd⟩ := hW
  rw [hvars] at hV
  have hgs : gs = [] ∧ q = [] := by
    cases gs with
    | nil => exact ⟨rfl, hV⟩
    | cons g gs => simp [DataW.TrodVars] at hV
  obtain ⟨hg, hq⟩ := hgs
  subst hg hq
  rw [List.append_nil] at e
  subst e
  have hbulk : Rows.uptoBulkAll ds ≤ 1048576 := by
    have := of_decide_eq_true hk
    rwa [List.append_nil] at this
  have hkn : Ty.knownL (fn.params.toList.map cx.T) = true := by
    unfold isData at hdat
    simp only [Bool.and_eq_true] at hdat
    exact hdat.1.2
  rw [← hP] at hA hval
  obtain ⟨Ds, g1, g2⟩ := args_data ty hkn (fun j t v hj hv => hval j t v (by simpa using hj) (by simpa using hv)) hA
  have g3 := args_fit ty hkn hup hA hbulk g1
  rw [hP] at hA hval
  obtain ⟨k, d, hlaw'⟩ := hlaw Ds g2 g3
  have hcalls := callF_ok ty (by rw [hP]; exact hmix) h0 k n d f fn Ds _ (by rw [hP]; exact hfn) hcan hdat hlaw' W args (fun _ => False) (fun _ h => h.elim) g1
  rw [hP] at hcalls
  refine hcalls.mono fun e W' ⟨v, he, hb, vs, hv, hr⟩ => ⟨v, he, ?_⟩
  have hrt : resTys cx fn = [.bool] := by
    unfold resTys
    rw [hres]
    simp [hTb]
  rw [hrt] at hv
  have hvt : v = .bool true := by
    cases vs with
    | nil => exact hv.elim
    | cons u us =>
      obtain ⟨hu, hus⟩ := hv
      cases us with
      | cons _ _ => exact hus.elim
      | nil =>
        have : u = .bool true := by
          simp only [DVal, Ty.isAgg, Bool.false_eq_true, if_false, DRep] at hu
          simpa using hu.2
        rw [hr, this]
        rfl
  subst hvt
  have hlen : (ds ++ ([] : List (DataW H))).length = fn.params.toList.length := by rw [List.append_nil]; exact TrodAll.dlen hA
  have hs := hspec _ hlen
  refine ⟨ds, [], before, [], before, [], hW', ?_, ?_, ?_, hb.frame _, nofun⟩
  · rw [hs, hres]
    exact Go.ChangeShapes.trodAll_mk1 (shut_bool htb true)
  · rw [hs]
    simp only [List.append_nil]
    exact args_stay hl hread hA hb (fun x hx => hW'.lt x hx)
  · rw [hvars, hs]
    exact rfl

end Go.Proofs.Ytihchahfnhoapaa
