/- Part 5 of a checked symbolic executor: what a function's code does is read off as a tree over plain data. No condition. -/
import Derived.Test.YtlgjbfdojbmmgaaSx4
import Derived.RangeFuncRecord
import Derived.WalkKit
import Derived.Tactics
import Derived.ChangeArms
import Derived.ProofKit
set_option linter.unusedSimpArgs false
set_option linter.unusedVariables false
namespace Go.SX
open Go.RowKit (Below)
section
variable {C:FuncId→List D→Option (List D)} {k:Nat}
def Res.isFin:Res→Prop
 | .fin ..=>True
 | .jmp ..=>False
def Rel (f:St→List D→Option Res) (r0 r:Res):Prop :=
 match r0 with
 | .fin .normal st E=>f st E=some r
 | r0=>r=r0
theorem Rel.jmp {f:St→List D→Option Res}{l:Nat}{b:Bool}{vs:List D}{r:Res}(h:Rel f (.jmp l b vs) r):r=.jmp l b vs:=h
def RelO (f:Ex→St→List D→Option Res) (r0 r:Res):Prop :=
 match r0 with
 | .fin x st E=>f x st E=some r
 | r0=>r=r0
theorem zp8 {f:Ex→St→List D→Option Res}{g g':List D→Option Res}(hf:∀ x st E r,f x st E=some r→r.isFin) (hg:∀ vs r,g' vs=some r→∃ r0,g vs=some r0∧RelO f r0 r):∀ (n:Nat) (vs:List D) (r:Res),iter g' n vs=some r→∃ r0,iter g n vs=some r0∧RelO f r0 r
 | 0,vs,r,h=>by simp [iter] at h
 | n + 1,vs,r,h=>by
  simp only [iter] at h
  split at h
  ·rename_i vs' hq
   obtain ⟨r0,h1,h2⟩:=hg vs _ hq
   cases r0 with
   | jmp l b ws =>
    injection h2 with e1 e2 e3
    subst e1 e2 e3
    obtain ⟨r1,h3,h4⟩:=zp8 hf hg n _ r h
    exact ⟨r1,by simp only [iter,h1];exact h3,h4⟩
   | fin x st E=>exact (hf x st E _ h2).elim
  ·rename_i hne
   obtain ⟨r0,h1,h2⟩:=hg vs r h
   refine ⟨r0,?_,h2⟩
   simp only [iter,h1]
   split
   ·rename_i vs' heq
    injection heq with heq
    subst heq
    have h2:r=_:=h2
    subst h2
    exact absurd h (hne vs')
   ·rfl
theorem zbJ {f:Ex→St→Tree}(hf:∀ x st E r,ev C k (f x st) E=some r→r.isFin):∀ {t:Tree}{E:List D}{r:Res},ev C k (t.onFin f) E=some r→∃ r0,ev C k t E=some r0∧RelO (fun x st E=>ev C k (f x st) E) r0 r
 | .prim p as t,E,r,h=>by
  simp only [Tree.onFin,ev] at h ⊢
  cases h1:gets E as with
  | none=>simp [h1] at h
  | some vs =>
   simp only [h1] at h ⊢
   cases h2:p.run vs with
   | none=>simp [h2] at h
   | some d=>simp only [h2] at h ⊢;exact zbJ hf h
 | .call g as m t,E,r,h=>by
  simp only [Tree.onFin,ev] at h ⊢
  cases h1:gets E as with
  | none=>simp [h1] at h
  | some vs =>
   simp only [h1] at h ⊢
   cases h2:C g vs with
   | none=>simp [h2] at h
   | some ds =>
    simp only [h2] at h ⊢
    split at h
    ·rename_i hl;rw [if_pos hl];exact zbJ hf h
    ·cases h
 | .sub t m u,E,r,h=>by
  simp only [Tree.onFin,ev] at h ⊢
  cases h1:ev C k (t.onFin f) E with
  | none=>simp [h1] at h
  | some r1 =>
   simp only [h1] at h
   obtain ⟨r0,q1,q2⟩:=zbJ hf h1
   rw [q1]
   cases r0 with
   | jmp l b vs =>
    have q2:r1=_:=q2
    subst q2
    cases l with
    | zero =>
     simp only at h ⊢
     split at h
     ·rename_i hl;rw [if_pos hl];exact zbJ hf h
     ·cases h
    | succ l =>
     simp only [Res.up,wB0] at h ⊢
     exact ⟨_,rfl,h.symm⟩
   | fin x st E' =>
    have hfin:=hf x st E' r1 q2
    cases r1 with
    | jmp _ _ _=>exact hfin.elim
    | fin y st1 E1 =>
     simp only [Res.up,wB0] at h ⊢
     subst h
     exact ⟨_,rfl,q2⟩
 | .loop i b,E,r,h=>by
  simp only [Tree.onFin,ev] at h ⊢
  cases h1:gets E i with
  | none=>simp [h1] at h
  | some vs =>
   simp only [h1] at h ⊢
   cases h2:iter (fun vs=>ev C k (b.onFin f) (E++vs)) k vs with
   | none=>simp [h2] at h
   | some r1 =>
    simp only [h2] at h
    obtain ⟨r0,q1,q2⟩:=zp8 (f:=fun x st E=>ev C k (f x st) E) (g:=fun vs=>ev C k b (E++vs)) hf (fun vs r hr=>zbJ hf hr) k vs r1 h2
    rw [q1]
    cases r0 with
    | jmp l b' ws =>
     have q2:r1=_:=q2
     subst q2
     cases l with
     | zero=>simp [Res.up] at h
     | succ l =>
      simp only [Res.up,wB0] at h ⊢
      exact ⟨_,rfl,h.symm⟩
    | fin x st E' =>
     have hfin:=hf x st E' r1 q2
     cases r1 with
     | jmp _ _ _=>exact hfin.elim
     | fin y st1 E1 =>
      simp only [Res.up,wB0] at h ⊢
      subst h
      exact ⟨_,rfl,q2⟩
 | .ite c a b,E,r,h=>by
  simp only [Tree.onFin,ev] at h ⊢
  split at h
  ·exact zbJ hf h
  ·exact zbJ hf h
  ·cases h
 | .jmp l b as,E,r,h=>by
  simp only [Tree.onFin,ev] at h ⊢
  split at h
  ·cases h
  ·rename_i vs hg
   injection h with h
   exact ⟨_,rfl,h.symm⟩
 | .fin x st,E,r,h=>⟨_,rfl,h⟩
 | .fail n,E,r,h=>by simp [Tree.onFin,ev] at h
theorem zfr {f:St→Tree}(hf:∀ st E r,ev C k (f st) E=some r→r.isFin) {t:Tree}{E:List D}{r:Res}(h:ev C k (t.andThen f) E=some r):∃ r0,ev C k t E=some r0∧Rel (fun st E=>ev C k (f st) E) r0 r:=by
 have other:∀ (x:Ex) (st:St) (E:List D) (r:Res),ev C k (.fin x st) E=some r→r=.fin x st E:=fun x st E r h=>by
  simp only [ev,wB0] at h
  exact h.symm
 obtain ⟨r0,h1,h2⟩:=zbJ (fun x st E r hr=>by
  cases x with
  | normal=>exact hf st E r hr
  | _=>rw [other _ _ _ _ hr];exact True.intro) h
 refine ⟨r0,h1,?_⟩
 cases r0 with
 | jmp l b vs=>exact h2
 | fin x st E' =>
  cases x with
  | normal=>exact h2
  | _=>exact other _ _ _ _ h2
def Shifts (C:FuncId→List D→Option (List D)) (k:Nat) (f:Nat→St→Tree):Prop :=
 ∀ st E,(∀ d,ev C k (f d st) E=none)∨∃ b vs,∀ d,ev C k (f d st) E=some (.jmp d b vs)
theorem Rel.conv {f:Nat→St→Tree}(hf:Shifts C k f) {d:Nat}{r0 r:Res}(h:Rel (fun st E=>ev C k (f (d + 1) st) E) r0 r) :
  (∃ st E b vs,r0=.fin .normal st E∧r=.jmp (d + 1) b vs∧ev C k (f d st) E=some (.jmp d b vs))∨(r=r0∧∀ st E,r0≠.fin .normal st E):=by
 cases r0 with
 | jmp l b vs=>exact .inr ⟨h,fun _ _ h=>by cases h⟩
 | fin x st E =>
  cases x with
  | normal =>
   left
   have h:ev C k (f (d + 1) st) E=some r:=h
   rcases hf st E with h1|⟨b,vs,h1⟩
   ·rw [h1] at h;cases h
   ·rw [h1] at h
    injection h with h
    exact ⟨st,E,b,vs,rfl,h.symm,h1 d⟩
  | exit id=>exact .inr ⟨h,fun _ _ h=>by cases h⟩
  | ret=>exact .inr ⟨h,fun _ _ h=>by cases h⟩
theorem Rel.of_ne {f:St→List D→Option Res}{r0:Res}(h:∀ st E,r0≠.fin .normal st E):Rel f r0 r0:=by
 cases r0 with
 | jmp l b vs=>rfl
 | fin x st E =>
  cases x with
  | normal=>exact absurd rfl (h st E)
  | exit id=>rfl
  | ret=>rfl
theorem znY {f:Nat→St→Tree}(hf:Shifts C k f) {d:Nat}{g g':List D→Option Res}(hg:∀ vs r,g' vs=some r→∃ r0,g vs=some r0∧Rel (fun st E=>ev C k (f (d + 1) st) E) r0 r):∀ (n:Nat) (vs:List D) (r:Res),iter g' n vs=some r→∃ r0,iter g n vs=some r0∧Rel (fun st E=>ev C k (f (d + 1) st) E) r0 r
 | 0,vs,r,h=>by simp [iter] at h
 | n + 1,vs,r,h=>by
  simp only [iter] at h
  split at h
  ·rename_i vs' hq
   obtain ⟨r0,h1,h2⟩:=hg vs _ hq
   rcases h2.conv hf with ⟨st,E,b,ws,q1,q2,_⟩|⟨q1,q2⟩
   ·cases q2
   ·subst q1
    obtain ⟨r1,h3,h4⟩:=znY hf hg n _ r h
    exact ⟨r1,by simp only [iter,h1];exact h3,h4⟩
  ·rename_i hne
   obtain ⟨r0,h1,h2⟩:=hg vs r h
   refine ⟨r0,?_,h2⟩
   simp only [iter,h1]
   split
   ·rename_i vs' heq
    injection heq with heq
    subst heq
    have:=h2.jmp
    subst this
    exact absurd h (hne vs')
   ·rfl
theorem zbN {f:Nat→St→Tree}(hf:Shifts C k f):∀ {t:Tree}{d:Nat}{E:List D}{r:Res},ev C k (t.conv f d) E=some r→∃ r0,ev C k t E=some r0∧Rel (fun st E=>ev C k (f d st) E) r0 r
 | .prim p as t,d,E,r,h=>by
  simp only [Tree.conv,ev] at h ⊢
  cases h1:gets E as with
  | none=>simp [h1] at h
  | some vs =>
   simp only [h1] at h ⊢
   cases h2:p.run vs with
   | none=>simp [h2] at h
   | some d=>simp only [h2] at h ⊢;exact zbN hf h
 | .call g as m t,d,E,r,h=>by
  simp only [Tree.conv,ev] at h ⊢
  cases h1:gets E as with
  | none=>simp [h1] at h
  | some vs =>
   simp only [h1] at h ⊢
   cases h2:C g vs with
   | none=>simp [h2] at h
   | some ds =>
    simp only [h2] at h ⊢
    split at h
    ·rename_i hl;rw [if_pos hl];exact zbN hf h
    ·cases h
 | .sub t m u,d,E,r,h=>by
  simp only [Tree.conv,ev] at h ⊢
  cases h1:ev C k (t.conv f (d + 1)) E with
  | none=>simp [h1] at h
  | some r1 =>
   simp only [h1] at h
   obtain ⟨r0,q1,q2⟩:=zbN hf h1
   rw [q1]
   rcases q2.conv hf with ⟨st,E',b,vs,p1,p2,p3⟩|⟨p1,p2⟩
   ·subst p1 p2
    simp only [Res.up,wB0] at h ⊢
    subst h
    exact ⟨_,rfl,p3⟩
   ·subst p1
    cases r1 with
    | jmp l b vs =>
     cases l with
     | zero =>
      simp only at h ⊢
      split at h
      ·rename_i hl;rw [if_pos hl];exact zbN hf h
      ·cases h
     | succ l =>
      simp only [Res.up,wB0] at h ⊢
      exact ⟨_,rfl,h.symm⟩
    | fin x st E' =>
     simp only [Res.up,wB0] at h ⊢
     subst h
     exact ⟨_,rfl,Rel.of_ne p2⟩
 | .loop i b,d,E,r,h=>by
  simp only [Tree.conv,ev] at h ⊢
  cases h1:gets E i with
  | none=>simp [h1] at h
  | some vs =>
   simp only [h1] at h ⊢
   cases h2:iter (fun vs=>ev C k (b.conv f (d + 1)) (E++vs)) k vs with
   | none=>simp [h2] at h
   | some r1 =>
    simp only [h2] at h
    obtain ⟨r0,q1,q2⟩:=znY hf (d:=d) (g:=fun vs=>ev C k b (E++vs)) (fun vs r hr=>zbN hf hr) k vs r1 h2
    rw [q1]
    rcases q2.conv hf with ⟨st,E',b',ws,p1,p2,p3⟩|⟨p1,p2⟩
    ·subst p1 p2
     simp only [Res.up,wB0] at h ⊢
     subst h
     exact ⟨_,rfl,p3⟩
    ·subst p1
     cases r1 with
     | jmp l b' ws =>
      cases l with
      | zero=>simp [Res.up] at h
      | succ l =>
       simp only [Res.up,wB0] at h ⊢
       exact ⟨_,rfl,h.symm⟩
     | fin x st E' =>
      simp only [Res.up,wB0] at h ⊢
      subst h
      exact ⟨_,rfl,Rel.of_ne p2⟩
 | .ite c a b,d,E,r,h=>by
  simp only [Tree.conv,ev] at h ⊢
  split at h
  ·exact zbN hf h
  ·exact zbN hf h
  ·cases h
 | .jmp l b as,d,E,r,h=>by
  simp only [Tree.conv,ev] at h ⊢
  split at h
  ·cases h
  ·rename_i vs hg
   injection h with h
   exact ⟨_,rfl,h.symm⟩
 | .fin .normal st,d,E,r,h=>by
  simp only [Tree.conv] at h
  exact ⟨_,rfl,h⟩
 | .fin (.exit id) st,d,E,r,h=>by
  simp only [Tree.conv,ev,wB0] at h
  exact ⟨_,rfl,h.symm⟩
 | .fin .ret st,d,E,r,h=>by
  simp only [Tree.conv,ev,wB0] at h
  exact ⟨_,rfl,h.symm⟩
 | .fail n,d,E,r,h=>by simp [Tree.conv,ev] at h
def Res.ends (f:Ex→Ex):Res→Res
 | .fin x st E=>.fin (f x) st E
 | r=>r
theorem zlW {f:Ex→Ex}{t:Tree}{E:List D}{r:Res}(h:ev C k (t.ends f) E=some r):∃ r0,ev C k t E=some r0∧r=r0.ends f:=by
 obtain ⟨r0,h1,h2⟩:=zbJ (fun x st E r hr=>by
  simp only [ev,wB0] at hr
  subst hr
  exact True.intro) h
 refine ⟨r0,h1,?_⟩
 cases r0 with
 | jmp l b vs=>exact h2
 | fin x st E' =>
  simp only [RelO,ev,wB0] at h2
  exact h2.symm
def Tree.shut:Nat→Tree→Bool
 | n,.prim _ _ k=>k.shut n
 | n,.call _ _ _ k=>k.shut n
 | n,.sub t _ k=>t.shut (n + 1)&&k.shut n
 | n,.loop _ b=>b.shut (n + 1)
 | n,.ite _ a b=>a.shut n&&b.shut n
 | n,.jmp l _ _=>Nat.blt l n
 | _,.fin _ _=>true
 | _,.fail _=>true
theorem zn0 {f:List D→Option Res}{n:Nat}(hf:∀ vs r,f vs=some r→r.isFin∨∃ l b ws,r=.jmp l b ws∧l<n + 1):∀ (j:Nat) (vs:List D) (r:Res),iter f j vs=some r→r.isFin∨∃ l b ws,r=.jmp l b ws∧l<n + 1
 | 0,vs,r,h=>by simp [iter] at h
 | j + 1,vs,r,h=>by
  simp only [iter] at h
  split at h
  ·exact zn0 hf j _ r h
  ·exact hf _ _ h
theorem zeX:∀ {t:Tree}{n:Nat}{E:List D}{r:Res},t.shut n=true→ev C k t E=some r→r.isFin∨∃ l b vs,r=.jmp l b vs∧l<n
 | .prim p as t,n,E,r,ho,h=>by
  simp only [Tree.shut] at ho
  simp only [ev] at h
  cases h1:gets E as with
  | none=>simp [h1] at h
  | some vs =>
   simp only [h1] at h
   cases h2:p.run vs with
   | none=>simp [h2] at h
   | some d=>simp only [h2] at h;exact zeX ho h
 | .call f as m t,n,E,r,ho,h=>by
  simp only [Tree.shut] at ho
  simp only [ev] at h
  cases h1:gets E as with
  | none=>simp [h1] at h
  | some vs =>
   simp only [h1] at h
   cases h2:C f vs with
   | none=>simp [h2] at h
   | some ds =>
    simp only [h2] at h
    split at h
    ·exact zeX ho h
    ·cases h
 | .sub t m u,n,E,r,ho,h=>by
  simp only [Tree.shut,wD0] at ho
  simp only [ev] at h
  cases h1:ev C k t E with
  | none=>simp [h1] at h
  | some r' =>
   simp only [h1] at h
   rcases zeX ho.1 h1 with hf|⟨l,b,vs,e,hl⟩
   ·cases r' with
    | jmp _ _ _=>exact hf.elim
    | fin x st E' =>
     simp only [Res.up,wB0] at h
     subst h
     exact .inl trivial
   ·subst e
    cases l with
    | zero =>
     simp only at h
     split at h
     ·exact zeX ho.2 h
     ·cases h
    | succ l =>
     simp only [Res.up,wB0] at h
     exact .inr ⟨l,b,vs,h.symm,by omega⟩
 | .loop init t,n,E,r,ho,h=>by
  simp only [Tree.shut] at ho
  simp only [ev] at h
  cases h1:gets E init with
  | none=>simp [h1] at h
  | some vs =>
   simp only [h1] at h
   cases h2:iter (fun vs=>ev C k t (E++vs)) k vs with
   | none=>simp [h2] at h
   | some r' =>
    simp only [h2] at h
    rcases zn0 (n:=n) (fun vs r hr=>zeX ho hr) k vs r' h2 with hf|⟨l,b,ws,e,hl⟩
    ·cases r' with
     | jmp _ _ _=>exact hf.elim
     | fin x st E' =>
      simp only [Res.up,wB0] at h
      subst h
      exact .inl trivial
    ·subst e
     cases l with
     | zero=>simp [Res.up] at h
     | succ l =>
      simp only [Res.up,wB0] at h
      exact .inr ⟨l,b,ws,h.symm,by omega⟩
 | .ite c a b,n,E,r,ho,h=>by
  simp only [Tree.shut,wD0] at ho
  simp only [ev] at h
  split at h
  ·exact zeX ho.1 h
  ·exact zeX ho.2 h
  ·cases h
 | .jmp l b as,n,E,r,ho,h=>by
  simp only [Tree.shut,Nat.blt_eq] at ho
  simp only [ev] at h
  split at h
  ·cases h
  ·rename_i vs _
   injection h with h
   exact .inr ⟨l,b,vs,h.symm,ho⟩
 | .fin x st,n,E,r,ho,h=>by
  simp only [ev,wB0] at h
  subst h
  exact .inl trivial
 | .fail _,n,E,r,ho,h=>by simp [ev] at h
theorem zma {t:Tree}{E:List D}{r:Res}(hs:t.shut 0=true) (h:ev C k t E=some r):r.isFin:=by
 rcases zeX hs h with h|⟨_,_,_,_,h⟩
 ·exact h
 ·omega
theorem zaP {f:Ex→St→Tree}(hf:∀ x st n,(f x st).shut n=true):∀ {t:Tree}{n:Nat},t.shut n=true→(t.onFin f).shut n=true
 | .prim p as t,n,h=>by simp only [Tree.onFin,Tree.shut] at h ⊢;exact zaP hf h
 | .call g as m t,n,h=>by simp only [Tree.onFin,Tree.shut] at h ⊢;exact zaP hf h
 | .sub t m u,n,h=>by
  simp only [Tree.onFin,Tree.shut,wD0] at h ⊢
  exact ⟨zaP hf h.1,zaP hf h.2⟩
 | .loop i b,n,h=>by simp only [Tree.onFin,Tree.shut] at h ⊢;exact zaP hf h
 | .ite c a b,n,h=>by
  simp only [Tree.onFin,Tree.shut,wD0] at h ⊢
  exact ⟨zaP hf h.1,zaP hf h.2⟩
 | .jmp l b as,n,h=>h
 | .fin x st,n,_=>hf x st n
 | .fail n,_,_=>rfl
theorem zia {f:St→Tree}(hf:∀ st n,(f st).shut n=true) {t:Tree}{n:Nat}(h:t.shut n=true):(t.andThen f).shut n=true:=zaP (fun x st n=>by
 cases x with
 | normal=>exact hf st n
 | _=>rfl) h
theorem zsg {f:Ex→Ex}{t:Tree}{n:Nat}(h:t.shut n=true):(t.ends f).shut n=true:=zaP (fun _ _ _=>rfl) h
theorem zb8 {f:Nat→St→Tree}(hf:∀ d st,(f d st).shut (d + 1)=true):∀ {t:Tree}{d:Nat},t.shut d=true→(t.conv f d).shut (d + 1)=true
 | .prim p as t,n,h=>by simp only [Tree.conv,Tree.shut] at h ⊢;exact zb8 hf h
 | .call g as m t,n,h=>by simp only [Tree.conv,Tree.shut] at h ⊢;exact zb8 hf h
 | .sub t m u,n,h=>by
  simp only [Tree.conv,Tree.shut,wD0] at h ⊢
  exact ⟨zb8 hf h.1,zb8 hf h.2⟩
 | .loop i b,n,h=>by simp only [Tree.conv,Tree.shut] at h ⊢;exact zb8 hf h
 | .ite c a b,n,h=>by
  simp only [Tree.conv,Tree.shut,wD0] at h ⊢
  exact ⟨zb8 hf h.1,zb8 hf h.2⟩
 | .jmp l b as,n,h=>by
  simp only [Tree.conv,Tree.shut,Nat.blt_eq] at h ⊢
  omega
 | .fin .normal st,n,_=>hf n st
 | .fin (.exit id) st,n,_=>rfl
 | .fin .ret st,n,_=>rfl
 | .fail n,_,_=>rfl
theorem zbC:∀ {t:Tree}{n m:Nat},n≤m→t.shut n=true→t.shut m=true
 | .prim p as t,n,m,hle,h=>by simp only [Tree.shut] at h ⊢;exact zbC hle h
 | .call g as q t,n,m,hle,h=>by simp only [Tree.shut] at h ⊢;exact zbC hle h
 | .sub t q u,n,m,hle,h=>by
  simp only [Tree.shut,wD0] at h ⊢
  exact ⟨zbC (by omega) h.1,zbC hle h.2⟩
 | .loop i b,n,m,hle,h=>by simp only [Tree.shut] at h ⊢;exact zbC (by omega) h
 | .ite c a b,n,m,hle,h=>by
  simp only [Tree.shut,wD0] at h ⊢
  exact ⟨zbC hle h.1,zbC hle h.2⟩
 | .jmp l b as,n,m,hle,h=>by
  simp only [Tree.shut,Nat.blt_eq] at h ⊢
  omega
 | .fin x st,_,_,_,_=>rfl
 | .fail n,_,_,_,_=>rfl
theorem zcE:∀ {t:Tree}{n:Nat},t.only n=true→t.shut n=true
 | .prim p as t,n,h=>by simp only [Tree.only,Tree.shut] at h ⊢;exact zcE h
 | .call g as q t,n,h=>by simp only [Tree.only,Tree.shut] at h ⊢;exact zcE h
 | .sub t q u,n,h=>by
  simp only [Tree.only,Tree.shut,wD0] at h ⊢
  exact ⟨zcE h.1,zcE h.2⟩
 | .loop i b,n,h=>by simp only [Tree.only,Tree.shut] at h ⊢;exact zcE h
 | .ite c a b,n,h=>by
  simp only [Tree.only,Tree.shut,wD0] at h ⊢
  exact ⟨zcE h.1,zcE h.2⟩
 | .jmp l b as,n,h=>h
 | .fin x st,_,_=>rfl
 | .fail n,_,_=>rfl
theorem ziF:∀ {bs:List Bd}{t:Tree}{n:Nat},zf9 bs=true→t.shut n=true→(zgE bs t).shut n=true
 | [],t,n,_,h=>h
 | b::l,t,n,hb,h=>by
  obtain ⟨hb1,hb2⟩:=zkQ hb
  simp only [zgE]
  refine ziF hb2 ?_
  cases b with
  | prim p as=>exact h
  | call f as m=>exact h
  | sub t' m =>
   simp only [zf9,Bool.and_true] at hb1
   simp only [Bd.on,Tree.shut,wD0]
   exact ⟨zbC (by omega) (zcE hb1),h⟩
theorem zl7:∀ {bs:List Bd},zaV bs=true→zf9 bs=true
 | [],_=>rfl
 | .prim p as::l,h=>by simp only [zaV] at h;simp only [zf9];exact zl7 h
 | .call .. :: _,h=>by simp [zaV] at h
 | .sub .. :: _,h=>by simp [zaV] at h
end
end Go.SX
namespace Go.SX
open Go.RowKit (Below)
def exOf:Ex→Exit
 | .normal=>.normal
 | .exit id=>.exit id
 | .ret=>.ret
structure Piece where
 go:(Exit→Act→World→Prop)→Act→World→Prop
 mono:∀ {Q Q':Exit→Act→World→Prop} {a:Act} {w:World},go Q a w→(∀ e a w,Q e a w→Q' e a w)→go Q' a w
structure zk0 (b l:Piece):Prop where
 round:∀ {Q:Exit→Act→World→Prop} {a:Act} {w:World},b.go (Exit.then (l.go Q) Q) a w→l.go Q a w
def cpc (ro:Option Nat) (P:Program) (c:Code):Piece:=⟨fun Q a w=>c.wpIn (FR ro) 0 P Q a w,fun h k=>wpIn_mono h k⟩
def zfO (ro:Option Nat) (P:Program) (c:Code) (Q:Exit→Act→World→Prop) (a:Act) (w:World):Prop :=
 ∀ (b:Frame) (k:List Item) (cs:List Frame),b.roundOf=ro→∃ e a' w',Q e a' w'∧ArrivesIn (Machine.fenced P (FR ro)) P (lone (b.atR a (.code c::.inLoop c::k)) cs w) b k cs e a' w'
def lpc (ro:Option Nat) (P:Program) (c:Code):Piece:=⟨zfO ro P c,fun h k b i cs hb=>let ⟨e,a',w',q,r⟩:=h b i cs hb;⟨e,a',w',k _ _ _ q,r⟩⟩
theorem zlx {ro:Option Nat}{P:Program}{c:Code}{Q:Exit→Act→World→Prop}{a:Act}{w:World}(h:c.wpIn (FR ro) 0 P (Exit.then (zfO ro P c Q) Q) a w):zfO ro P c Q a w:=by
 intro b k cs hb
 obtain ⟨e,a₁,w₁,hq,harr⟩:=h b (.inLoop c::k) cs hb trivial zru
 cases e with
 | normal =>
  obtain ⟨e₂,a₂,w₂,hq₂,harr₂⟩:=hq b k cs hb
  exact ⟨e₂,a₂,w₂,hq₂,.of_steps (StepsIn.trans harr (.one (fenced_calm (F:=FR ro) (n:=0) trivial zru rfl) stepR_inLoop)) harr₂⟩
 | exit id=>exact ⟨_,a₁,w₁,hq,.pass (x:=.inLoop c) rfl (fun _ _=>.inl (by simp)) harr⟩
 | goto l=>exact ⟨_,a₁,w₁,hq,.pass (x:=.inLoop c) rfl (fun _ _=>.inl (by simp)) harr⟩
 | ret=>exact ⟨_,a₁,w₁,hq,.pass (x:=.inLoop c) rfl (fun _ _=>.inl (by simp)) harr⟩
 | panic ch=>exact ⟨_,a₁,w₁,hq,.pass (x:=.inLoop c) rfl (fun _ _=>.inl (by simp)) harr⟩
 | outgrown=>exact ⟨_,a₁,w₁,hq,.pass (x:=.inLoop c) rfl (fun _ _=>.inl (by simp)) harr⟩
theorem zq1 (ro:Option Nat) (P:Program) (c:Code):zk0 (cpc ro P c) (lpc ro P c):=⟨fun h=>zlx h⟩
theorem zrO {ro:Option Nat}{P:Program}{c:Code}{Q:Exit→Act→World→Prop}{a:Act}{w:World}(h:zfO ro P c Q a w):(Code.loop c).wpIn (FR ro) 0 P Q a w:=fun b k cs hro _ _ =>
 let ⟨e,a',w',hq,harr⟩:=h b k cs hro
 ⟨e,a',w',hq,.of_steps (.one (fenced_calm (F:=FR ro) (n:=0) trivial zru rfl) stepR_loop) harr⟩
section
variable {C:FuncId→List D→Option (List D)} {k B0:Nat} {w0:World} {Xe:Ctx} {cx:Cx} {inl:FuncId→List SV→Nat→List Root→Option Inl}
def InvS (B0:Nat) (w0:World) (Xe:Ctx) (st:St) (E:List D) (a:Act) (w:World):Prop:=Inv B0 w0 Xe E st.slots st.root (fun r=>r<st.mem.length) a w
theorem InvS.pre {st:St}{E:List D}{a:Act}{w:World}(h:InvS B0 w0 Xe st E a w):∀ (i:Nat) (d:D),Xe.E[i]?=some d→E[i]?=some d:=by
 obtain ⟨X,x1,_,_,_,_,x6,_⟩:=h
 intro i d hi
 rw [← x1]
 exact x6.E i d hi
theorem InvS.more {st:St}{E F:List D}{a:Act}{w:World}(hB0:B0≤w0.heap.size) (h:InvS B0 w0 Xe st E a w):InvS B0 w0 Xe st (E++F) a w:=by
 obtain ⟨X,x1,x2,x3,x4,x5,x6,x7,x8,x9,x10⟩:=h
 obtain ⟨y,m⟩:=x5.moreE (by rw [x2];exact Nat.le_trans hB0 x7.size) (E':=E++F) (fun i d hi=>by rw [x1] at hi;exact get_app hi)
 exact ⟨{ X with E:=E++F },rfl,x2,x3,x4,m,x6.trans y,x7,x8,x9,fun t=>VRep.ext y (x10 t)⟩
theorem InvS.drew {st:St}{E:List D}{a:Act}{w:World}(hB0:B0≤w0.heap.size) (h:InvS B0 w0 Xe st E a w):InvS B0 w0 Xe st E a { w with drawn:=w.drawn + 1 }:=by
 obtain ⟨X,x1,x2,x3,x4,x5,x6,x7,x8,x9,x10⟩:=h
 subst x2
 obtain ⟨y,m⟩:=x5.world (Nat.le_trans hB0 x7.size) (w':=X.w.drew) (Below.refl _ _).drew
 exact ⟨{ X with w:=X.w.drew },x1,rfl,x3,x4,m,x6.trans y,x7.drew,x8,x9,fun t=>VRep.ext y (x10 t)⟩
theorem zrf {n0:Nat}{H L:St}{sg:List At}{bs:List Bd}(h:fit0 n0 H L=some (sg,bs)):zaV bs=true∧sg.length=H.nv - n0∧H.base=L.base:=by
 unfold fit0 at h
 generalize coL H.mem H.slots L.slots ⟨L.mem,L.nv,[]⟩=p1 at h
 obtain ⟨s1,c1⟩:=p1
 simp only at h
 generalize zbw H (zjT n0 H s1 c1.m).rh c1=c2 at h
 generalize zbw H ((zjT n0 H s1 c2.m).rh.drop (zjT n0 H s1 c1.m).rh.length) c2=c3 at h
 split at h
 ·rename_i hc
  injection h with h
  injection h with e1 e2
  subst e1 e2
  simp only [wD0] at hc
  obtain ⟨⟨⟨⟨⟨⟨k1,k2⟩,k3⟩,k4⟩,k5⟩,k6⟩,k7⟩:=hc
  exact ⟨k2,zgi _ _ _,zad k4⟩
 ·cases h
theorem zby {n0:Nat}{H L:St}{sg:List At}{bs:List Bd}(h:fit n0 H L=some (sg,bs)):zaV bs=true∧sg.length=H.nv - n0∧H.base=L.base:=by
 unfold fit at h
 split at h
 ·exact zrf (H:={ H with slots:=zkt H.slots }) (L:={ L with slots:=zmj H.slots L.slots }) h
 ·cases h
theorem zbQ (n0:Nat) (H:St) (back:Bool):Shifts C k (fitJ n0 H back):=by
 intro st E
 unfold fitJ
 cases hf:fit n0 H st with
 | none=>exact .inl fun d=>by simp [ev]
 | some p =>
  obtain ⟨sg,bs⟩:=p
  obtain ⟨h1,_,_⟩:=zby hf
  simp only
  cases he:za2 bs E with
  | none=>exact .inl fun d=>by rw [zcu h1,he]
  | some E1 =>
   cases hg:gets E1 sg with
   | none=>exact .inl fun d=>by rw [zcu h1,he];simp [ev,hg]
   | some vs=>exact .inr ⟨back,vs,fun d=>by rw [zcu h1,he];simp [ev,hg]⟩
theorem zm3 (n0:Nat) (H:St) (back:Bool) (d:Nat) (st:St):(fitJ n0 H back d st).shut (d + 1)=true:=by
 unfold fitJ
 cases hf:fit n0 H st with
 | none=>rfl
 | some p =>
  obtain ⟨sg,bs⟩:=p
  obtain ⟨h1,_,_⟩:=zby hf
  refine ziF (zl7 h1) ?_
  simp [Tree.shut]
theorem zgr {n0:Nat}{H:St}{back:Bool}{d:Nat}{st:St}{E:List D}{r:Res}(h:ev C k (fitJ n0 H back d st) E=some r):∃ sg bs E1 vs,fit n0 H st=some (sg,bs)∧za2 bs E=some E1∧gets E1 sg=some vs∧r=.jmp d back vs∧vs.length=H.nv - n0∧H.base=st.base:=by
 unfold fitJ at h
 cases hf:fit n0 H st with
 | none=>simp [hf,ev] at h
 | some p =>
  obtain ⟨sg,bs⟩:=p
  obtain ⟨h1,h2,h3⟩:=zby hf
  simp only [hf] at h
  rw [zcu h1] at h
  cases he:za2 bs E with
  | none=>simp [he] at h
  | some E1 =>
   simp only [he,ev] at h
   cases hg:gets E1 sg with
   | none=>simp [hg] at h
   | some vs =>
    simp only [hg,wB0] at h
    exact ⟨sg,bs,E1,vs,rfl,he,hg,h.symm,by rw [zcj hg,h2],h3⟩
theorem zqV {n0:Nat}{t:Tree}(h:t.shut 0=true):(zoz n0 t).shut 0=true:=by
 unfold zoz
 split
 ·exact h
 ·exact h
 ·split
  ·simp only
   split
   ·simp only [Tree.shut,Bool.and_true]
    exact zb8 (zm3 _ _ _) h
   ·exact h
  ·exact h
theorem zjU {body:St→Tree}(hb:∀ st,(body st).shut 0=true) (st H:St) (sg:List At):(zfT body st H sg).shut 0=true:=by
 unfold zfT
 simp only [Tree.shut]
 exact zb8 (zm3 _ _ _) (hb H)
theorem zqO {hd:List (Nat×Nat×St)}{m:Nat}{body:St→Tree}(hb:∀ st,(body st).shut 0=true) (st:St):(zpy hd m body st).shut 0=true:=by
 unfold zpy
 simp only
 split
 ·split
  ·exact zjU hb _ _ _
  ·rename_i sg bs hf
   obtain ⟨h1,_,_⟩:=zby hf
   split
   ·split
    ·simp only [Tree.shut,wD0]
     exact ⟨ziF (zl7 h1) (by simp [Tree.shut]),zjU hb _ _ _⟩
    ·rfl
   ·rfl
  ·rfl
 ·rfl
theorem zcz {draw:Bool}{ops:List Oper}{bf:List Nat}:∀ {rest:List Oper}{i:Nat}{st:St}{kn:List (At×Bool)}{log:List Eff},(zco cx inl draw ops bf rest i st kn log).shut 0=true
 | [],i,st,kn,log=>by
  simp only [zco]
  split<;>rfl
 | o::rest,i,st,kn,log=>by
  have go:∀ kn,(match zfZ cx inl kn st.slot st.root st.nv st.mem.length i o with
    | none=>Tree.fail (zpE cx inl kn st.slot st.root st.nv st.mem.length o)
    | some e=>zgE e.bs (zco cx inl draw ops bf rest (i + 1) (st.after e) kn (e::log))).shut 0=true:=fun kn=>by
   split
   ·rfl
   ·rename_i e he
    obtain ⟨s,_,_,_,_,_,_,_,_,_,_,_,hb⟩:=zeS he
    exact ziF hb zcz
  simp only [zco]
  split
  ·exact go kn
  ·exact zcz
  ·rename_i a want _
   simp only [Tree.shut,wD0]
   cases want with
   | true=>simp only [if_true];exact ⟨go _,zcz⟩
   | false=>simp only [wA0,if_false];exact ⟨zcz,go _⟩
  ·rfl
theorem zpV {m:Nat}{t:Tree}(h:t.shut 0=true):(t.fgt m).shut 0=true:=zia (fun _ _=>rfl) h
theorem zhR {m n0:Nat}{t:Tree}(h:t.shut 0=true):(joinL m n0 t).shut 0=true:=zqV (zpV h)
theorem zk2 {hd:List (Nat×Nat×St)}{m:Nat}{body:St→Tree}(hb:∀ st,(body st).shut 0=true) (st:St):(zqY hd m body st).shut 0=true:=zqO (fun s=>zpV (hb s)) _
theorem zoN {ex1 ex2:St→Tree}(h1:∀ st,(ex1 st).shut 0=true) (h2:∀ st,(ex2 st).shut 0=true) {g:Operand}{ps:List Tmp}(st:St):(zfe cx ex1 ex2 g ps st).shut 0=true:=by
 unfold zfe
 simp only
 split
 ·simp only [Tree.shut,Bool.true_and]
  refine zaP (fun x s n=>?_) (h1 _)
  cases x with
  | normal =>
   refine zaP (fun y s' n=>?_) (zbC (Nat.zero_le n) (h2 _))
   cases y<;>rfl
  | _=>rfl
 ·rfl
theorem zo8 {ex1 ex2:St→Tree}(h1:∀ st,(ex1 st).shut 0=true) (h2:∀ st,(ex2 st).shut 0=true) {m:Nat}{g:Operand}{ps:List Tmp}(st:St):(zjQ cx ex1 ex2 m g ps st).shut 0=true:=by
 unfold zjQ
 split
 ·simp only [Tree.shut]
  refine zaP (fun x s n=>?_) (zk2 (fun st=>zoN h1 h2 st) _)
  cases x<;>rfl
 ·rfl
theorem zaT:∀ (c:Code) (m:Nat) (st:St),(exec cx inl m c st).shut 0=true
 | .skip,_,st=>rfl
 | .label _,_,st=>rfl
 | .region _ ops draw,m,st=>by
  simp only [exec]
  split
  ·rfl
  ·exact zhR zcz
 | .seq a b,m,st=>by
  simp only [exec]
  exact zia (fun st n=>zbC (Nat.zero_le n) (zaT b _ st)) (zaT a _ st)
 | .cond c x y,m,st=>by
  simp only [exec]
  split
  ·exact zaT x _ st
  ·exact zaT y _ st
  ·refine zhR ?_
   simp only [Tree.shut,wD0]
   exact ⟨zaT x _ st,zaT y _ st⟩
  ·rfl
 | .block id b,m,st=>by
  simp only [exec]
  exact zhR (zsg (zaT b _ st))
 | .loop b,m,st=>by
  simp only [exec]
  exact zk2 (zaT b _) st
 | .exit _,_,st=>rfl
 | .ret,_,st=>rfl
 | .rangeFunc g ps x y,_,st=>by
  simp only [exec]
  split
  ·exact zo8 (fun st=>zaT x _ st) (fun st=>zaT y _ st) st
  ·rfl
 | .scope _,_,st=>rfl
 | .goto _,_,st=>rfl
 | .refuse _,_,st=>rfl
def Shape (E:List D) (base:Nat) (r:Res):Prop:=∃ x st' F,r=.fin x st' (E++F)∧(E++F).length=st'.nv∧st'.base=base
theorem zoJ {n0:Nat}{t:Tree}{E:List D}{base:Nat}(hE:E.length=n0) (ht:∀ r,ev C k t E=some r→Shape E base r) {r:Res}(h:ev C k (zoz n0 t) E=some r):Shape E base r:=by
 unfold zoz at h
 split at h
 ·exact ht r h
 ·exact ht r h
 ·split at h
  ·simp only at h
   split at h
   ·rename_i hc
    simp only [wD0,Nat.ble_eq] at hc
    simp only [ev] at h
    split at h
    ·cases h
    ·rename_i vs h1
     split at h
     ·rename_i hl
      injection h with h
      subst h
      obtain ⟨r0,q1,q2⟩:=zbN (zbQ _ _ _) h1
      obtain ⟨x,st',F,e,e2,e3⟩:=ht r0 q1
      subst e
      cases x with
      | normal =>
       have q2:ev C k (fitJ _ _ _ _ st') (E++F)=some _:=q2
       obtain ⟨sg,bs,E1,vs',f1,f2,f3,f4,f5,f6⟩:=zgr q2
       exact ⟨.normal,_,vs,rfl,by rw [wI0,hE,hl];omega,by rw [f6,e3]⟩
      | exit id=>cases q2
      | ret=>cases q2
     ·cases h
    ·rename_i r1 hne h1
     obtain ⟨r0,q1,q2⟩:=zbN (zbQ _ _ _) h1
     obtain ⟨x,st',F,e,e2,e3⟩:=ht r0 q1
     subst e
     cases x with
     | normal =>
      have q2:ev C k (fitJ _ _ _ _ st') (E++F)=some _:=q2
      obtain ⟨sg,bs,E1,vs',f1,f2,f3,f4,f5,f6⟩:=zgr q2
      exact absurd f4 (hne _ _)
     | exit id =>
      have q2:r1=_:=q2
      subst q2
      simp only [Res.up,wB0] at h
      exact ⟨_,st',F,h.symm,e2,e3⟩
     | ret =>
      have q2:r1=_:=q2
      subst q2
      simp only [Res.up,wB0] at h
      exact ⟨_,st',F,h.symm,e2,e3⟩
   ·exact ht r h
  ·exact ht r h
theorem zhW {body:St→Tree}(hb:∀ st E r,ev C k (body st) E=some r→E.length=st.nv→Shape E st.base r) {st H:St}{sg:List At}{E:List D}(hE:E.length=st.nv) (hn:st.nv≤H.nv) (hsg:sg.length=H.nv - st.nv) {r:Res}(h:ev C k (zfT body st H sg) E=some r):Shape E H.base r:=by
 unfold zfT at h
 simp only [ev] at h
 split at h
 ·cases h
 ·rename_i vs0 hg
  split at h
  ·cases h
  ·rename_i r' hi
   have main:∀ (n:Nat) (vs:List D) (r':Res),vs.length=H.nv - st.nv→iter (fun vs=>ev C k ((body H).conv (fitJ st.nv H true) 0) (E++vs)) n vs=some r'→r'.up=some r→Shape E H.base r:=by
    intro n
    induction n with
    | zero=>intro vs r' _ h;simp [iter] at h
    | succ n ih =>
     intro vs r' hvl hi hup
     simp only [iter] at hi
     have step:∀ q,ev C k ((body H).conv (fitJ st.nv H true) 0) (E++vs)=some q→(∃ vs',q=.jmp 0 true vs'∧vs'.length=H.nv - st.nv)∨∃ x st' F,q=.fin x st' (E++F)∧(E++F).length=st'.nv∧st'.base=H.base:=fun q hq=>by
      obtain ⟨r0,q1,q2⟩:=zbN (zbQ _ _ _) hq
      obtain ⟨x,st',F,e,e2,e3⟩:=hb H _ r0 q1 (by rw [wI0,hE,hvl];omega)
      subst e
      cases x with
      | normal =>
       have q2:ev C k (fitJ _ _ _ _ st') (E++vs++F)=some _:=q2
       obtain ⟨sg,bs,E1,vs',f1,f2,f3,f4,f5,f6⟩:=zgr q2
       exact .inl ⟨vs',f4,f5⟩
      | exit id=>exact .inr ⟨_,st',vs++F,by rw [← List.append_assoc];exact q2,by rw [← List.append_assoc];exact e2,e3⟩
      | ret=>exact .inr ⟨_,st',vs++F,by rw [← List.append_assoc];exact q2,by rw [← List.append_assoc];exact e2,e3⟩
     split at hi
     ·rename_i vs' hq
      rcases step _ hq with ⟨vs2,e,hl⟩|⟨x,st',F,e,_⟩
      ·injection e with _ _ e
       subst e
       exact ih _ _ hl hi hup
      ·cases e
     ·rename_i hne
      rcases step _ hi with ⟨vs2,e,hl⟩|⟨x,st',F,e,e2,e3⟩
      ·subst e
       exact absurd hi (hne vs2)
      ·subst e
       simp only [Res.up,wB0] at hup
       exact ⟨x,st',F,hup.symm,e2,e3⟩
   exact main k vs0 r' (by rw [zcj hg,hsg]) hi h
theorem zpD {hd:List (Nat×Nat×St)}{m:Nat}{body:St→Tree}(hb:∀ st E r,ev C k (body st) E=some r→E.length=st.nv→Shape E st.base r) {st:St}{E:List D}(hE:E.length=st.nv) {r:Res}(h:ev C k (zpy hd m body st) E=some r):Shape E st.base r:=by
 unfold zpy at h
 simp only at h
 split at h
 ·rename_i hc
  simp only [wD0,Nat.ble_eq] at hc
  split at h
  ·rename_i sg hf
   obtain ⟨h1,h2,h3⟩:=zby hf
   rw [← h3]
   exact zhW hb hE hc.2 h2 h
  ·rename_i sg bs _ hf
   obtain ⟨h1,h2,h3⟩:=zby hf
   split at h
   ·rename_i hc2
    simp only [wD0,Nat.ble_eq] at hc2
    split at h
    ·rename_i sg' hf2
     obtain ⟨g1,g2,g3⟩:=zby hf2
     simp only [ev] at h
     rw [zcu h1] at h
     cases he:za2 bs E with
     | none=>simp [he] at h
     | some E1 =>
      simp only [he] at h
      cases hg:gets E1 sg with
      | none=>simp [ev,hg] at h
      | some vs =>
       simp only [ev,hg] at h
       split at h
       ·rename_i hl
        obtain ⟨x,st',F,e,e2,e3⟩:=zhW hb (E:=E++vs) (by rw [wI0,hE,hl];omega) hc2.2 g2 h
        exact ⟨x,st',vs++F,by rw [← List.append_assoc];exact e,by rw [← List.append_assoc];exact e2,by rw [e3,g3,h3]⟩
       ·cases h
    ·simp [ev] at h
   ·simp [ev] at h
  ·simp [ev] at h
 ·simp [ev] at h
theorem zt9 {m:Nat}{t:Tree}{E:List D}{r:Res}(h:ev C k (t.fgt m) E=some r):∃ r0,ev C k t E=some r0∧((∃ st E',r0=.fin .normal st E'∧r=.fin .normal (st.forget m) E')∨((∀ st E',r0≠.fin .normal st E')∧r=r0)):=by
 obtain ⟨r0,h1,h2⟩:=zfr (fun st E r hr=>by
  simp only [ev,wB0] at hr
  subst hr
  exact True.intro) h
 refine ⟨r0,h1,?_⟩
 cases r0 with
 | jmp l b vs=>exact .inr ⟨(fun _ _ e=>by cases e),h2⟩
 | fin x st E' =>
  cases x with
  | normal =>
   have h2:ev C k (.fin .normal (st.forget m)) E'=some r:=h2
   simp only [ev,wB0] at h2
   exact .inl ⟨st,E',rfl,h2.symm⟩
  | exit id=>exact .inr ⟨(fun _ _ e=>by cases e),h2⟩
  | ret=>exact .inr ⟨(fun _ _ e=>by cases e),h2⟩
theorem zg9 {m:Nat}{t:Tree}{E:List D}{base:Nat}(ht:∀ r,ev C k t E=some r→Shape E base r) {r:Res}(h:ev C k (t.fgt m) E=some r):Shape E base r:=by
 obtain ⟨r0,h1,h2⟩:=zt9 h
 obtain ⟨x,st',F,e,e2,e3⟩:=ht r0 h1
 subst e
 rcases h2 with ⟨st,E',h3,h4⟩|⟨_,h4⟩
 ·injection h3 with q1 q2 q3
  subst q1 q2 q3
  exact ⟨.normal,_,F,h4,e2,e3⟩
 ·exact ⟨x,st',F,h4,e2,e3⟩
theorem zf6 {m n0:Nat}{t:Tree}{E:List D}{base:Nat}(hE:E.length=n0) (ht:∀ r,ev C k t E=some r→Shape E base r) {r:Res}(h:ev C k (joinL m n0 t) E=some r):Shape E base r:=zoJ hE (fun _ hr=>zg9 ht hr) h
theorem ziZ {hd:List (Nat×Nat×St)}{m:Nat}{body:St→Tree}(hb:∀ st E r,ev C k (body st) E=some r→E.length=st.nv→Shape E st.base r) {st:St}{E:List D}(hE:E.length=st.nv) {r:Res}(h:ev C k (zqY hd m body st) E=some r):Shape E st.base r :=
 zpD (st:=st.forget m) (fun s E r hr hs=>zg9 (fun r hr=>hb s E r hr hs) hr) hE h
def St.start (st:St) (i:At) (e:Ty) (p q:Tmp):St:=⟨st.nv + 2,st.mem.length,((st.slots.take (st.slots.length - 1)).set p (.d (.int .i64) i)).set q (.d e (.v (st.nv + 1))),st.mem⟩
def zdm (C:FuncId→List D→Option (List D)) (k:Nat) (f:St→Tree):Prop:=∀ st E r,ev C k (f st) E=some r→E.length=st.nv→Shape E st.base r
theorem Shape.of {E E' F:List D}{b:Nat}{r:Res}{x:Ex}{st:St}(e:r=.fin x st E') (hF:E'=E++F) (hl:E'.length=st.nv) (hb:st.base=b):Shape E b r:=by
 subst hF
 exact ⟨_,_,_,e,hl,hb⟩
theorem Shape.fin {E:List D}{b:Nat}{r:Res}(h:Shape E b r):r.isFin:=by
 obtain ⟨_,_,_,e,_⟩:=h
 subst e
 exact True.intro
theorem znv {ex1 ex2:St→Tree}(s2:∀ st,(ex2 st).shut 0=true) (h1:zdm C k ex1) (h2:zdm C k ex2) {g:Operand}{ps:List Tmp}{st:St}{E:List D}{r:Res}(h:ev C k (zfe cx ex1 ex2 g ps st) E=some r) (hE:E.length=st.nv) :
  ∃ i e a p q z,st.slot (st.slots.length - 1)=.d (.int .i64) i∧zk4 cx st g=some (e,a)∧ps=[p,q]∧i.get (E++[.bool (decide (z<0))])=some (.int .i64 z) ∧
   ((z<0∧r=.fin .ret { st with nv:=st.nv + 1 } (E++[.bool true])) ∨
    (0≤z∧∃ ds el s F1 y s' F2,a.get (E++[.bool false])=some ds∧Prim.run .get [ds,.int .i64 z]=some el ∧
     ev C k (ex1 (st.start i e p q)) (E++[.bool false,el])=some (.fin .normal s (E++[.bool false,el]++F1))∧(E++[.bool false,el]++F1).length=s.nv ∧
     ev C k (ex2 { s with base:=s.mem.length }) (E++[.bool false,el]++F1)=some (.fin y s' (E++[.bool false,el]++F1++F2))∧(E++[.bool false,el]++F1++F2).length=s'.nv ∧
     ((y=.normal∧r=.fin .normal ⟨s'.nv + 1,st.base,st.slots.take (st.slots.length - 1)++[.d (.int .i64) (.v s'.nv)],s'.mem⟩ (E++[.bool false,el]++F1++F2++[.int .i64 (IntKind.i64.wrap (z - 1))])) ∨
     ∃ id,y=.exit id∧r=.fin (.exit id) ⟨s'.nv,st.base,st.slots,s'.mem⟩ (E++[.bool false,el]++F1++F2)))):=by
 have two:∀ {E:List D} {a:At} {c x:D} {op:BinOp} {vs:List D},gets E [a,.c c]=some vs→(Prim.bin op).run vs=some x→∃ d,a.get E=some d∧binD op d c=some x:=fun {E a c x op vs} h1 h2=>by
  simp only [gets] at h1
  have hc:(At.c c).get E=some c:=rfl
  cases ha:a.get E with
  | none=>simp [ha] at h1
  | some d =>
   simp only [ha,hc,wB0] at h1
   subst h1
   exact ⟨d,rfl,h2⟩
 unfold zfe at h
 simp only at h
 split at h
 ·rename_i i e a p q hsl hb
  simp only [ev] at h
  cases hg:gets E [i,.c (.int .i64 0)] with
  | none=>simp [hg] at h
  | some vs =>
   simp only [hg] at h
   cases hp:(Prim.bin .lss).run vs with
   | none=>simp [hp] at h
   | some x =>
    simp only [hp] at h
    obtain ⟨d,hd,hx⟩:=two hg hp
    have hz:∃ z,d=.int .i64 z∧x=.bool (decide (z<0)):=by
     cases d<;>simp only [binD] at hx<;>try cases hx
     rename_i kk z
     split at hx
     ·rename_i hk
      subst hk
      simp only [binI,wB0] at hx
      exact ⟨z,rfl,hx.symm⟩
     ·cases hx
    obtain ⟨z,e1,e2⟩:=hz
    subst e1 e2
    have hx2:(At.v st.nv).get (E++[.bool (decide (z<0))])=some (.bool (decide (z<0))):=by simp [At.get,← hE]
    refine ⟨i,e,a,p,q,z,hsl,hb,rfl,At.get_app hd,?_⟩
    rw [hx2] at h
    by_cases hz:z<0
    ·simp only [hz,decide_true,wB0] at h
     exact .inl ⟨hz,h.symm⟩
    ·simp only [hz,decide_false] at h
     refine .inr ⟨by omega,?_⟩
     simp only [gets] at h
     cases ha:a.get (E++[.bool false]) with
     | none=>simp [ha] at h
     | some ds =>
      simp only [ha,At.get_app hd] at h
      cases hel:Prim.run .get [ds,.int .i64 z] with
      | none=>simp [hel] at h
      | some el =>
       simp only [hel] at h
       rw [List.append_assoc,show ([D.bool false]++[el])=[.bool false,el] from rfl] at h
       have l2:(E++[.bool false,el]).length=(st.start i e p q).nv:=by simp [St.start,hE]
       have fin2:∀ (s':St) (y:Ex) (E:List D) (r:Res),ev C k (match y with
         | .normal=>.prim (.bin .sub) [i,.c (.int .i64 1)] (.fin .normal ⟨s'.nv + 1,st.base,st.slots.take (st.slots.length - 1)++[.d (.int .i64) (.v s'.nv)],s'.mem⟩)
         | .exit id=>.fin (.exit id) ⟨s'.nv,st.base,st.slots,s'.mem⟩
         | .ret=>.fail 926) E=some r→r.isFin:=fun s' y E r hr=>by
        cases y with
        | normal =>
         simp only [ev] at hr
         split at hr
         ·cases hr
         ·split at hr
          ·cases hr
          ·injection hr with hr;subst hr;exact True.intro
        | exit id=>simp only [ev] at hr;injection hr with hr;subst hr;exact True.intro
        | ret=>simp [ev] at hr
       obtain ⟨r1,q1,q2⟩:=zbJ (fun x s E r hr=>by
        cases x with
        | normal=>exact zma (zaP (fun y s' n=>by cases y<;>rfl) (s2 _)) hr
        | _=>simp [ev] at hr) h
       obtain ⟨x1,s,F1,e1,e2,e3⟩:=h1 _ _ _ q1 l2
       subst e1
       cases x1 with
       | normal =>
        obtain ⟨r2,q3,q4⟩:=zbJ (fun y s' E r hr=>fin2 s' y E r hr) q2
        obtain ⟨y,s',F2,f1,f2,f3⟩:=h2 { s with base:=s.mem.length } _ _ q3 e2
        subst f1
        refine ⟨ds,el,s,F1,y,s',F2,rfl,hel,q1,e2,q3,f2,?_⟩
        cases y with
        | normal =>
         left
         have q4:ev C k (.prim (.bin .sub) [i,.c (.int .i64 1)] _) _=some r:=q4
         have hi:i.get (E++[.bool false,el]++F1++F2)=some (.int .i64 z):=At.get_app (At.get_app (At.get_app hd))
         have hg:gets (E++[.bool false,el]++F1++F2) [i,.c (.int .i64 1)]=some [.int .i64 z,.int .i64 1]:=by simp only [gets,hi];rfl
         simp only [ev,hg,Prim.run,binD,binI,if_true,wB0] at q4
         exact ⟨rfl,q4.symm⟩
        | exit id =>
         have q4:ev C k (.fin _ _) _=some r:=q4
         simp only [ev,wB0] at q4
         exact .inr ⟨id,rfl,q4.symm⟩
        | ret =>
         have q4:ev C k (.fail _) _=some r:=q4
         simp [ev] at q4
       | exit id =>
        have q2:ev C k (.fail _) _=some r:=q2
        simp [ev] at q2
       | ret =>
        have q2:ev C k (.fail _) _=some r:=q2
        simp [ev] at q2
 ·simp [ev] at h
theorem zh3 {ex1 ex2:St→Tree}(s2:∀ st,(ex2 st).shut 0=true) (h1:zdm C k ex1) (h2:zdm C k ex2) {g:Operand}{ps:List Tmp}:zdm C k (zfe cx ex1 ex2 g ps):=by
 intro st E r h hE
 obtain ⟨i,e,a,p,q,z,_,_,_,_,⟨_,e1⟩|⟨_,ds,el,s,F1,y,s',F2,_,_,_,_,_,l2,⟨_,e1⟩|⟨id,_,e1⟩⟩⟩:=znv s2 h1 h2 h hE
 ·exact Shape.of e1 rfl (by simp [hE]) rfl
 ·exact Shape.of e1 (F:=[.bool false,el]++F1++F2++[.int .i64 (IntKind.i64.wrap (z - 1))]) (by simp only [List.append_assoc]) (by rw [wI0,l2];rfl) rfl
 ·exact Shape.of e1 (F:=[.bool false,el]++F1++F2) (by simp only [List.append_assoc]) l2 rfl
theorem zmW {ex1 ex2:St→Tree}(s2:∀ st,(ex2 st).shut 0=true) (h1:zdm C k ex1) (h2:zdm C k ex2) {m:Nat}{g:Operand}{ps:List Tmp}{st:St}{E:List D}{r:Res}(h:ev C k (zjQ cx ex1 ex2 m g ps st) E=some r) (hE:E.length=st.nv) :
  ∃ e a ds n x s,∃ F:List D,zk4 cx st g=some (e,a)∧a.get E=some ds∧Prim.run .len [ds]=some (.int .i64 n) ∧
   ev C k (zqY cx.hd (Nat.lor (zpx st.slots.length) m) (zfe cx ex1 ex2 g ps) ⟨st.nv + 2,st.base,st.slots++[.d (.int .i64) (.v (st.nv + 1))],st.mem⟩) (E++[D.int .i64 n,.int .i64 (IntKind.i64.wrap (n - 1))])=some (.fin x s (E++[D.int .i64 n,.int .i64 (IntKind.i64.wrap (n - 1))]++F)) ∧
   (E++[D.int .i64 n,.int .i64 (IntKind.i64.wrap (n - 1))]++F).length=s.nv∧s.base=st.base ∧
   ((x=.ret∧r=.fin .normal (zpQ s) (E++[D.int .i64 n,.int .i64 (IntKind.i64.wrap (n - 1))]++F))∨∃ id,x=.exit id∧r=.fin (.exit id) (zpQ s) (E++[D.int .i64 n,.int .i64 (IntKind.i64.wrap (n - 1))]++F)):=by
 unfold zjQ at h
 split at h
 ·rename_i e a hb
  simp only [ev,gets] at h
  cases ha:a.get E with
  | none=>simp [ha] at h
  | some ds =>
   simp only [ha] at h
   cases hl:Prim.run .len [ds] with
   | none=>simp [hl] at h
   | some x =>
    have hn:∃ n,x=.int .i64 n:=by
     cases ds<;>simp only [Prim.run] at hl<;>first|(injection hl with hl;exact ⟨_,hl.symm⟩)|cases hl
    obtain ⟨n,e1⟩:=hn
    subst e1
    have hx2:(At.v st.nv).get (E++[.int .i64 n])=some (.int .i64 n):=by simp [At.get,← hE]
    have hc:(At.c (.int .i64 1)).get (E++[.int .i64 n])=some (.int .i64 1):=rfl
    have hsub:(Prim.bin .sub).run [.int .i64 n,.int .i64 1]=some (.int .i64 (IntKind.i64.wrap (n - 1))):=rfl
    simp only [hl,hx2,hc,hsub] at h
    rw [List.append_assoc,show ([D.int .i64 n]++[.int .i64 (IntKind.i64.wrap (n - 1))])=[.int .i64 n,.int .i64 (IntKind.i64.wrap (n - 1))] from rfl] at h
    obtain ⟨r0,q1,q2⟩:=zbJ (fun x s E r hr=>by
     cases x with
     | normal=>simp [ev] at hr
     | _=>simp only [ev] at hr;injection hr with hr;subst hr;exact True.intro) h
    obtain ⟨x,s,F,e1,e2,e3⟩:=ziZ (fun st E r hr hs=>zh3 s2 h1 h2 st E r hr hs) (by simp [hE]) q1
    subst e1
    refine ⟨e,a,ds,n,x,s,F,hb,ha,hl,q1,e2,e3,?_⟩
    cases x with
    | normal =>
     have q2:ev C k (.fail _) _=some r:=q2
     simp [ev] at q2
    | exit id =>
     have q2:ev C k (.fin _ _) _=some r:=q2
     simp only [ev,wB0] at q2
     exact .inr ⟨id,rfl,q2.symm⟩
    | ret =>
     have q2:ev C k (.fin _ _) _=some r:=q2
     simp only [ev,wB0] at q2
     exact .inl ⟨rfl,q2.symm⟩
 ·simp [ev] at h
theorem znk {ex1 ex2:St→Tree}(s2:∀ st,(ex2 st).shut 0=true) (h1:zdm C k ex1) (h2:zdm C k ex2) {m:Nat}{g:Operand}{ps:List Tmp}:zdm C k (zjQ cx ex1 ex2 m g ps):=by
 intro st E r h hE
 obtain ⟨e,a,ds,n,x,s,F,_,_,_,_,l,hb,⟨_,e1⟩|⟨id,_,e1⟩⟩:=zmW s2 h1 h2 h hE
 ·exact Shape.of e1 (F:=[.int .i64 n,.int .i64 (IntKind.i64.wrap (n - 1))]++F) (by simp only [List.append_assoc]) l hb
 ·exact Shape.of e1 (F:=[.int .i64 n,.int .i64 (IntKind.i64.wrap (n - 1))]++F) (by simp only [List.append_assoc]) l hb
theorem zai:∀ (c:Code) (m:Nat) (st:St) (E:List D) (r:Res),ev C k (exec cx inl m c st) E=some r→E.length=st.nv→Shape E st.base r
 | .skip,m,st,E,r,h,hE=>by simp only [exec,ev,wB0] at h;exact ⟨.normal,st,[],by rw [List.append_nil];exact h.symm,by rw [List.append_nil];exact hE,rfl⟩
 | .label _,m,st,E,r,h,hE=>by simp only [exec,ev,wB0] at h;exact ⟨.normal,st,[],by rw [List.append_nil];exact h.symm,by rw [List.append_nil];exact hE,rfl⟩
 | .exit id,m,st,E,r,h,hE=>by simp only [exec,ev,wB0] at h;exact ⟨.exit id,st,[],by rw [List.append_nil];exact h.symm,by rw [List.append_nil];exact hE,rfl⟩
 | .ret,m,st,E,r,h,hE=>by simp only [exec,ev,wB0] at h;exact ⟨.ret,st,[],by rw [List.append_nil];exact h.symm,by rw [List.append_nil];exact hE,rfl⟩
 | .region _ ops draw,m,st,E,r,h,hE=>by
  simp only [exec] at h
  split at h
  ·simp [ev] at h
  ·refine zf6 hE (fun r hr=>?_) h
   obtain ⟨stf,F,es,e1,e2,e3,_⟩:=zdi hr hE (fun a b hm=>by simp at hm)
   exact ⟨.normal,stf,F,e1,e2,e3.all.2.2.2.2.2⟩
 | .seq a b,m,st,E,r,h,hE=>by
  simp only [exec] at h
  obtain ⟨r0,q1,q2⟩:=zfr (fun st E r hr=>zma (zaT b _ st) hr) h
  obtain ⟨x,st',F,e,e2,e3⟩:=zai a _ st E r0 q1 hE
  subst e
  cases x with
  | normal =>
   obtain ⟨y,st2,F2,f1,f2,f3⟩:=zai b _ st' _ r q2 e2
   exact ⟨y,st2,F++F2,by rw [← List.append_assoc];exact f1,by rw [← List.append_assoc];exact f2,by rw [f3,e3]⟩
  | exit id=>exact ⟨_,st',F,q2,e2,e3⟩
  | ret=>exact ⟨_,st',F,q2,e2,e3⟩
 | .cond c x y,m,st,E,r,h,hE=>by
  simp only [exec] at h
  split at h
  ·exact zai x _ st E r h hE
  ·exact zai y _ st E r h hE
  ·refine zf6 hE (fun r hr=>?_) h
   simp only [ev] at hr
   split at hr
   ·exact zai x _ st E r hr hE
   ·exact zai y _ st E r hr hE
   ·cases hr
  ·simp [ev] at h
 | .block id b,m,st,E,r,h,hE=>by
  simp only [exec] at h
  refine zf6 hE (fun r hr=>?_) h
  obtain ⟨r0,q1,q2⟩:=zlW hr
  obtain ⟨x,st',F,e,e2,e3⟩:=zai b _ st E r0 q1 hE
  subst e
  exact ⟨_,st',F,q2,e2,e3⟩
 | .loop b,m,st,E,r,h,hE=>by
  simp only [exec] at h
  exact ziZ (fun st E r=>zai b _ st E r) hE h
 | .rangeFunc g ps x y,m,st,E,r,h,hE=>by
  simp only [exec] at h
  split at h
  ·exact znk (fun st=>zaT y _ st) (fun st E r=>zai x _ st E r) (fun st E r=>zai y _ st E r) st E r h hE
  ·simp [ev] at h
 | .scope _,m,st,E,r,h,hE=>by simp [exec,ev] at h
 | .goto _,m,st,E,r,h,hE=>by simp [exec,ev] at h
 | .refuse _,m,st,E,r,h,hE=>by simp [exec,ev] at h
end
end Go.SX
namespace Go.SX
open Go.RowKit (Below)
theorem zbY {w:World}{l:Nat}{o o':Obj}(h:w.heap[l]?=some o) (ho:¬ Held o) (ho':¬ Held o'):Turned w (w.putObj l o') l :=
 ⟨⟨o,h,ho⟩,⟨o',World.putObj_heap_same (lt_of_heap h),ho'⟩,fun _ hb=>World.putObj_heap_other hb,World.putObj_size⟩
theorem zcI {B0 l:Nat}{w0 w:World}{o:Obj}(h:Below B0 w0 w) (hl:B0≤l):Below B0 w0 (w.putObj l o) :=
 h.trans ⟨rfl,rfl,rfl,by rw [World.putObj_size];exact wG0 _,fun k hk=>World.putObj_heap_other (by omega)⟩
section
variable {P:Program}
theorem zan {a:Act}{d:Tmp}{v:Value}(h:d<a.tmps.size):(a.put (some d) v).eval (.tmp d)=v:=by
 simp [Act.put,Act.eval,Array.getD_eq_getD_getElem?,h]
theorem eval_put_ne {a:Act}{d t:Tmp}{v:Value}(h:d≠t):(a.put (some d) v).eval (.tmp t)=a.eval (.tmp t):=by
 simp [Act.put,Act.eval,Array.getD_eq_getD_getElem?,Array.getElem?_setIfInBounds_ne h]
theorem size_put {a:Act}{d:Option Tmp}{v:Value}:(a.put d v).tmps.size=a.tmps.size:=by
 cases d<;>simp [Act.put]
theorem zcd {a:Act}{d:Option Tmp}{v:Value}:(a.put d v).defers=a.defers:=by
 cases d<;>rfl
theorem zt1 {ops:Array Oper}{i:Nat}{d:Option Tmp}{op:Op}(h:(ops.toList.map ess)[i]?=some (d,op,none)):∃ o,ops[i]?=some o∧o.dst=d∧o.op=op∧o.guard=none:=by
 rw [List.getElem?_map] at h
 cases ho:ops.toList[i]? with
 | none=>simp [ho] at h
 | some o =>
  simp only [ho,Option.map_some,wB0,ess,Prod.mk.injEq] at h
  exact ⟨o,by rw [← Array.getElem?_toList];exact ho,h⟩
theorem zaX {ops:Array Oper}{Q:Exit→Act→World→Prop}{i:Nat}{rest:List Nat}{a:Act}{w w':World}{d:Option Tmp}{op:Op}{v:Value}(he:(ops.toList.map ess)[i]?=some (d,op,none))
  (h:∀ o:Oper,o.op=op→(execOp a.eval o).run P w=.ok (.value v) w') (hn:wpOpsIn (FR none) 0 P ops Q rest (a.put d v) w'):wpOpsIn (FR none) 0 P ops Q (i::rest) a w:=by
 obtain ⟨o,ho,h1,h2,h3⟩:=zt1 he
 have hw:Region.wanted o (yielded ops a.tmps)=true:=by unfold Region.wanted;rw [h3]
 simp only [wpOpsIn,ho,hw,if_true]
 refine ⟨fun _ _=>trivial,?_⟩
 show o.uponIn _ _ P a _ Q ((execOp a.eval o).run P w)
 rw [h o h2,Oper.uponIn_value,h1]
 exact hn
theorem zrW {ops:Array Oper}{Q:Exit→Act→World→Prop}{i:Nat}{rest:List Nat}{a:Act}{w:World}{d:Option Tmp}{op:Op}{l:Nat}{f:FuncId}{tmps:Array Value}{assign body:Code}(he:(ops.toList.map ess)[i]?=some (d,op,none))
  (h:∀ o:Oper,o.op=op→(execOp a.eval o).run P w=.ok (.round l f tmps assign body) w) (hn:RoundIn (FR none) 0 P l f tmps assign body w fun e w'=>∃ v,e=.returned v∧wpOpsIn (FR none) 0 P ops Q rest (a.put d v) w'):wpOpsIn (FR none) 0 P ops Q (i::rest) a w:=by
 obtain ⟨o,ho,h1,h2,h3⟩:=zt1 he
 have hw:Region.wanted o (yielded ops a.tmps)=true:=by unfold Region.wanted;rw [h3]
 simp only [wpOpsIn,ho,hw,if_true]
 refine ⟨fun _ _=>trivial,?_⟩
 show o.uponIn _ _ P a _ Q ((execOp a.eval o).run P w)
 rw [h o h2,Oper.uponIn_round,h1]
 refine ⟨(fun hd=>by cases hd),hn.mono ?_⟩
 rintro e w' ⟨v,rfl,hv⟩
 exact hv
theorem run_move {ρ:Operand→Value}{o:Oper}{x:Operand}{w:World}(h:o.op=.move x∨o.op=.assign x):(execOp ρ o).run P w=.ok (.value (ρ x)) w:=by
 rcases h with h|h<;>simp [execOp,h]
theorem zpi {ρ:Operand→Value}{o:Oper}{op:BinOp}{t t':TypeId}{x y:Operand}{w:World}{k:IntKind}{m n:Int}{v:Value}(h:o.op=.binOp op t x y t') (hx:ρ x=.int k m) (hy:ρ y=.int k n) (hop:op=.sub∨op=.geq) (hv:v=if op=.sub then .int k (k.wrap (m - n)) else .bool (m≥n)) :
  (execOp ρ o).run P w=.ok (.value v) w:=by
 subst hv
 rcases hop with hop|hop<;>subst hop<;>simp [execOp,h,hx,hy,go_sem]
theorem zuH {ρ:Operand→Value}{o:Oper}{t:TypeId}{x:Operand}{w:World}{b:Bool}(h:o.op=.unOp .not t x) (hx:ρ x=.bool b):(execOp ρ o).run P w=.ok (.value (.bool !b)) w:=by
 simp [execOp,h,hx,Op.unary]
theorem zhr {ρ:Operand→Value}{o:Oper}{t:TypeId}{x:Operand}{w:World}{p:Addr}{v:Value}(h:o.op=.load t x) (hx:ρ x=.pointer (some p)) (hv:(loadVar t p).run P w=.ok v w):(execOp ρ o).run P w=.ok (.value v) w:=by
 simp [execOp,h,hx,Instr.loadAt,Instr.sureAddr,hv]
theorem zsq {ρ:Operand→Value}{o:Oper}{t E:TypeId}{x:Operand}{w:World}{A:Option Addr}{n c:Nat}(h:o.op=.call ⟨.builtin .len,#[x],#[t]⟩) (hx:ρ x=.slice A n c) (hu:P.underlying t=some (.slice E)):(execOp ρ o).run P w=.ok (.value (.int .i64 n)) w:=by
 simp [execOp,h,hx,resolve,invoke,builtin,Builtin.len_,zab hu,goInt,go_sem]
theorem zoI {ρ:Operand→Value}{o:Oper}{t E:TypeId}{x y:Operand}{w:World}{i:TypeInfo}{A:Addr}{n c:Nat}{kk:IntKind}{z:Int}(h:o.op=.indexAddr t x y) (hx:ρ x=.slice (some A) n c) (hy:ρ y=.int kk z) (hu:P.underlying t=some (.slice E)) (hi:P.info? E=some i) (h0:0≤z) (h1:z<n) :
  (execOp ρ o).run P w=.ok (.value (.pointer (some (A.add (z.toNat * i.size))))) w:=by
 simp [execOp,h,hx,hy,Instr.indexAt,zab hu,zcg,h0,h1,sizeOf,typeInfo,hi]
theorem zpw {ρ:Operand→Value}{o:Oper}{g:Operand}{xs:Array Operand}{ts:Array TypeId}{w w':World}{l:Nat}{n:Next}(h:o.op=.call ⟨.value g,xs,ts⟩) (hg:ρ g=.func (.yield l) #[] #[]) (hy:(Instr.yield l (xs.map ρ)).run P w=.ok n w'):(execOp ρ o).run P w=.ok n w':=by
 simp [execOp,h,hg,resolve,Deferred.ofValue,invoke,hy]
structure RC where
 P:Program
 fn:FuncId
 t0:Array Value
 dfs:List Deferred
 ps:Array Tmp
 assign:Code
 body:Code
 D:Nat
 l:Nat
 pB:Addr
 tS:TypeId
 tE:TypeId
 sz:Nat
def RC.obj (c:RC) (s:LoopState) (p:Option Code):Obj:=.loop { state:=s,pending:=p,fn:=c.fn,tmps:=c.t0,params:=c.ps,assign:=c.assign,body:=c.body,defers:=c.D }
def RC.act (c:RC) (i:Int):Act:=⟨c.t0.push (.int .i64 i),c.dfs⟩
def RC.start (c:RC) (i:Int) (u:Value):Act:=⟨(c.ps.zip #[.int .i64 i,u]).foldl (fun tmps (t,a)=>tmps.setIfInBounds t a) c.t0,[]⟩
def RC.behind (c:RC) (i:Int) (Q:Exit→Act→World→Prop) (e:Exit) (w:World):Prop :=
 w.heap[c.l]?=some (c.obj .busy none)∧match e with
  | .normal=>Q .normal (c.act (IntKind.i64.wrap (i - 1))) (w.putObj c.l (c.obj .ready none))
  | .exit id=>Q (.exit id) (c.act i) (w.putObj c.l (c.obj .done (some (.exit id))))
  | _=>False
def RC.round (c:RC) (i:Int) (u:Value) (Q:Exit→Act→World→Prop) (w:World):Prop :=
 c.assign.wpIn (FR (some c.l)) 0 c.P (Exit.then (fun a1 w1=>w1.heap[c.l]?=some (c.obj .ready none)∧c.body.wpIn (FR (some c.l)) 0 c.P (fun e _ w2=>c.behind i Q e w2) a1 (w1.putObj c.l (c.obj .busy none))) (fun _ _ _=>False)) (c.start i u) w
def RC.bgo (c:RC) (Q:Exit→Act→World→Prop) (a:Act) (w:World):Prop:=∀ i,a=c.act i→w.heap[c.l]?=some (c.obj .ready none) →
 (i<0∧Q .ret a w)∨(0≤i∧∃ A n k u,(loadVar c.tS c.pB).run c.P w=.ok (.slice (some A) n k) w∧i<(n:Int)∧(loadVar c.tE (A.add (i.toNat * c.sz))).run c.P w=.ok u w∧c.round i u Q w)
theorem RC.behind_mono {c:RC}{i:Int}{Q Q':Exit→Act→World→Prop}{e:Exit}{w:World}(h:c.behind i Q e w) (k:∀ e a w,Q e a w→Q' e a w):c.behind i Q' e w:=by
 obtain ⟨h1,h2⟩:=h
 refine ⟨h1,?_⟩
 cases e<;>first|exact k _ _ _ h2|exact h2
def RC.b (c:RC):Piece:=⟨c.bgo,fun h k i e hr=>(h i e hr).imp (fun h=>⟨h.1,k _ _ _ h.2⟩) fun ⟨h0,A,n,kk,u,h1,h2,h3,h4⟩=>⟨h0,A,n,kk,u,h1,h2,h3,wpIn_mono h4 fun e a w q=>by
 cases e with
 | normal=>exact ⟨q.1,wpIn_mono q.2 fun e a w q=>RC.behind_mono q k⟩
 | _=>exact q⟩⟩
structure zvA (l:Nat) (pB:Addr) (i:Int) (it:Act):Prop where
 size:it.tmps.size=19
 s0:it.eval (.tmp 0)=.func (.yield l) #[] #[]
 s1:it.eval (.tmp 1)=.pointer (some pB)
 s3:it.eval (.tmp 3)=.int .i64 i
 df:it.defers=[]
def RC.post (c:RC) (b0:Nat) (Q:Exit→Act→World→Prop) (e:Exit) (it:Act) (w:World):Prop :=
 it.defers=[]∧((e=.exit b0∧w.heap[c.l]?=some (c.obj .ready none)∧∃ i,Q .ret (c.act i) w)∨(e=.ret∧∃ id i,w.heap[c.l]?=some (c.obj .done (some (.exit id)))∧Q (.exit id) (c.act i) w))
theorem RC.post_mono {c:RC}{b0:Nat}{Q Q':Exit→Act→World→Prop}{e:Exit}{it:Act}{w:World}(h:c.post b0 Q e it w) (k:∀ e a w,Q e a w→Q' e a w):c.post b0 Q' e it w:=by
 obtain ⟨h0,⟨h1,h2,i,h3⟩|⟨h1,id,i,h2,h3⟩⟩:=h
 ·exact ⟨h0,.inl ⟨h1,h2,i,k _ _ _ h3⟩⟩
 ·exact ⟨h0,.inr ⟨h1,id,i,h2,k _ _ _ h3⟩⟩
def RC.l_ (c:RC) (b0:Nat) (lc:Code):Piece:=⟨fun Q a w=>∀ i it,a=c.act i→w.heap[c.l]?=some (c.obj .ready none)→zvA c.l c.pB i it→zfO none c.P lc (c.post b0 Q) it w,
 fun h k i it e hr ha b kk cs hb=>let ⟨e,a',w',q,r⟩:=h i it e hr ha b kk cs hb;⟨e,a',w',RC.post_mono q k,r⟩⟩
theorem zpu {c:RC}{f:FuncId}{fn:Func}{r0 r1 r2 r3 b0 b1:Nat}{o0 o1 o2 o3:Array Oper}{ti tb:TypeId}{ts:Array TypeId}{E:TypeId}{inf:TypeInfo}(hf:zr4 c.P f c.tS c.tE fn r0 r1 r2 r3 b0 b1 o0 o1 o2 o3 ti tb ts)
  (hu:c.P.underlying c.tS=some (.slice E)) (hi:c.P.info? E=some inf) (hsz:inf.size=c.sz) (hps:c.ps.size=2):zk0 c.b (c.l_ b0 (zcT r1 r2 r3 b0 b1 o1 o2 o3)):=⟨by
 intro Q a w h i it ea hr ha
 refine zlx ?_
 obtain ⟨s1,s2,s3,s4,s5⟩:=ha
 have z1:o1.size=2:=by have:=congrArg List.length hf.e1;simpa using this
 have z2:o2.size=3:=by have:=congrArg List.length hf.e2;simpa using this
 have z3:o3.size=8:=by have:=congrArg List.length hf.e3;simpa using this
 refine wpIn_seq (wpIn_seq (wpIn_region ?_))
 rw [z1]
 refine zaX (by rw [hf.e1];rfl) (fun o ho=>run_move (.inl ho)) ?_
 rw [s4]
 refine zaX (by rw [hf.e1];rfl) (fun o ho=>zpi ho (zan (by simp only [size_put,s1];decide)) rfl (.inr rfl) rfl) ?_
 rw [if_neg (by simp)]
 show Exit.then _ _ .normal _ _
 have c8:((it.put (some 7) (.int .i64 i)).put (some 8) (.bool (i≥0))).eval (.tmp 8)=.bool (i≥0):=zan (by simp only [size_put,s1];decide)
 rcases h i ea hr with ⟨hi0,hq⟩|⟨hi0,A,n,kk,u,h1,h2,h3,h4⟩
 ·refine wpIn_cond_false (by rw [c8];simp;omega) (wpIn_exit ?_)
  refine ⟨by simp only [zcd];exact s5,.inl ⟨rfl,hr,i,?_⟩⟩
  rw [← ea]
  exact hq
 refine wpIn_cond_true (by rw [c8];simp;omega) (wpIn_skip ?_)
 show Code.wpIn _ _ _ _ _ _ _
 obtain ⟨it1,e1⟩:∃ it1,(it.put (some 7) (.int .i64 i)).put (some 8) (.bool (i≥0))=it1:=⟨_,rfl⟩
 have q1:it1.tmps.size=19:=by rw [← e1];simp only [size_put,s1]
 have q2:it1.eval (.tmp 0)=.func (.yield c.l) #[] #[]:=by rw [← e1,eval_put_ne (by decide),eval_put_ne (by decide),s2]
 have q3:it1.eval (.tmp 1)=.pointer (some c.pB):=by rw [← e1,eval_put_ne (by decide),eval_put_ne (by decide),s3]
 have q4:it1.eval (.tmp 3)=.int .i64 i:=by rw [← e1,eval_put_ne (by decide),eval_put_ne (by decide),s4]
 have q5:it1.defers=[]:=by rw [← e1];simp only [zcd];exact s5
 rw [e1]
 clear e1 c8
 refine wpIn_seq (wpIn_block (wpIn_seq (wpIn_region ?_)))
 rw [z3]
 refine zaX (by rw [hf.e3];rfl) (fun o ho=>run_move (.inl ho)) ?_
 rw [q2]
 refine zaX (by rw [hf.e3];rfl) (fun o ho=>run_move (.inl ho)) ?_
 rw [eval_put_ne (by decide),q4]
 refine zaX (by rw [hf.e3];rfl) (fun o ho=>zhr ho (by rw [eval_put_ne (by decide),eval_put_ne (by decide),q3]) h1) ?_
 refine zaX (by rw [hf.e3];rfl) (fun o ho=>run_move (.inl ho)) ?_
 rw [eval_put_ne (by decide),eval_put_ne (by decide),eval_put_ne (by decide),q4]
 refine zaX (by rw [hf.e3];rfl) (fun o ho=>zoI ho (by rw [eval_put_ne (by decide),zan (by simp only [size_put,q1];decide)]) (zan (by simp only [size_put,q1];decide)) hu hi hi0 h2) ?_
 rw [hsz]
 refine zaX (by rw [hf.e3];rfl) (fun o ho=>zhr ho (zan (by simp only [size_put,q1];decide)) h3) ?_
 obtain ⟨it2,e2⟩:∃ it2,(((((it1.put (some 11) (.func (.yield c.l) #[] #[])).put (some 12) (.int .i64 i)).put (some 13) (.slice (some A) n kk)).put (some 14) (.int .i64 i)).put (some 15) (.pointer (some (A.add (i.toNat * c.sz))))).put (some 16) u=it2:=⟨_,rfl⟩
 have k1:it2.tmps.size=19:=by rw [← e2];simp only [size_put,q1]
 have k2:it2.eval (.tmp 0)=.func (.yield c.l) #[] #[]:=by rw [← e2];simp [eval_put_ne,q2]
 have k3:it2.eval (.tmp 1)=.pointer (some c.pB):=by rw [← e2];simp [eval_put_ne,q3]
 have k4:it2.eval (.tmp 3)=.int .i64 i:=by rw [← e2];simp [eval_put_ne,q4]
 have k5:it2.defers=[]:=by rw [← e2];simp only [zcd];exact q5
 have k11:it2.eval (.tmp 11)=.func (.yield c.l) #[] #[]:=by
  rw [← e2,eval_put_ne (by decide),eval_put_ne (by decide),eval_put_ne (by decide),eval_put_ne (by decide),eval_put_ne (by decide),zan (by rw [q1];decide)]
 have k12:it2.eval (.tmp 12)=.int .i64 i:=by
  rw [← e2,eval_put_ne (by decide),eval_put_ne (by decide),eval_put_ne (by decide),eval_put_ne (by decide),zan (by rw [size_put,q1];decide)]
 have k16:it2.eval (.tmp 16)=u:=by rw [← e2,zan (by simp only [size_put,q1];decide)]
 rw [e2]
 clear e2
 refine zrW (l:=c.l) (f:=c.fn) (tmps:=(c.start i u).tmps) (assign:=c.assign) (body:=c.body) (by rw [hf.e3];rfl) (fun o ho=>zpw ho k11 ?_) ?_
 ·have:=run_yield (P:=c.P) (args:=#[.int .i64 i,u]) hr (by rw [hps];rfl)
  simp only [k12,k16,List.map_toArray,List.map_cons,List.map_nil]
  exact this
 have go:∀ (t:Bool) (w':World),(if t then c.l_ b0 (zcT r1 r2 r3 b0 b1 o1 o2 o3) |>.go Q (c.act (IntKind.i64.wrap (i - 1))) w' else ∃ id,w'.heap[c.l]?=some (c.obj .done (some (.exit id)))∧Q (.exit id) (c.act i) w') →
   (t=true→w'.heap[c.l]?=some (c.obj .ready none))→wpOpsIn (FR none) 0 c.P o3 (Exit.then (fun a w=>(Code.cond (.tmp 18) .ret .skip).wpIn (FR none) 0 c.P (Exit.inBlock b1 (Exit.then (fun a w=>(Code.region r2 o2 false).wpIn (FR none) 0 c.P (Exit.then (zfO none c.P (zcT r1 r2 r3 b0 b1 o1 o2 o3) (c.post b0 Q)) (c.post b0 Q)) a w) (Exit.then (zfO none c.P (zcT r1 r2 r3 b0 b1 o1 o2 o3) (c.post b0 Q)) (c.post b0 Q)))) a w)
    (Exit.inBlock b1 (Exit.then (fun a w=>(Code.region r2 o2 false).wpIn (FR none) 0 c.P (Exit.then (zfO none c.P (zcT r1 r2 r3 b0 b1 o1 o2 o3) (c.post b0 Q)) (c.post b0 Q)) a w) (Exit.then (zfO none c.P (zcT r1 r2 r3 b0 b1 o1 o2 o3) (c.post b0 Q)) (c.post b0 Q))))) [7] (it2.put (some 17) (.bool t)) w':=by
  intro t w' hq hrd
  refine zaX (by rw [hf.e3];rfl) (fun o ho=>zuH ho (zan (by rw [k1];decide))) ?_
  have c18:((it2.put (some 17) (.bool t)).put (some 18) (.bool !t)).eval (.tmp 18)=.bool !t:=zan (by rw [size_put,k1];decide)
  cases t with
  | false =>
   obtain ⟨id,g1,g2⟩:=hq
   refine wpIn_cond_true c18 (wpIn_ret ?_)
   exact ⟨by simp only [zcd];exact k5,.inr ⟨rfl,id,i,g1,g2⟩⟩
  | true =>
   refine wpIn_cond_false c18 (wpIn_skip ?_)
   show Code.wpIn _ _ _ _ _ _ _
   obtain ⟨it3,e3⟩:∃ it3,(it2.put (some 17) (.bool true)).put (some 18) (.bool !true)=it3:=⟨_,rfl⟩
   have m1:it3.tmps.size=19:=by rw [← e3];simp only [size_put,k1]
   have m2:it3.eval (.tmp 0)=.func (.yield c.l) #[] #[]:=by rw [← e3,eval_put_ne (by decide),eval_put_ne (by decide),k2]
   have m3:it3.eval (.tmp 1)=.pointer (some c.pB):=by rw [← e3,eval_put_ne (by decide),eval_put_ne (by decide),k3]
   have m4:it3.eval (.tmp 3)=.int .i64 i:=by rw [← e3,eval_put_ne (by decide),eval_put_ne (by decide),k4]
   have m5:it3.defers=[]:=by rw [← e3];simp only [zcd];exact k5
   rw [e3]
   refine wpIn_region ?_
   rw [z2]
   refine zaX (by rw [hf.e2];rfl) (fun o ho=>run_move (.inl ho)) ?_
   rw [m4]
   refine zaX (by rw [hf.e2];rfl) (fun o ho=>zpi ho (zan (by rw [m1];decide)) rfl (.inl rfl) rfl) ?_
   rw [if_pos rfl]
   refine zaX (by rw [hf.e2];rfl) (fun o ho=>run_move (.inr ho)) ?_
   rw [zan (by rw [size_put,m1];decide)]
   show zfO _ _ _ _ _ _
   refine hq _ _ rfl (hrd rfl) ⟨by simp only [size_put,m1],?_,?_,zan (by simp only [size_put,m1];decide),by simp only [zcd];exact m5⟩
   ·simp [eval_put_ne,m2]
   ·simp [eval_put_ne,m3]
 refine roundIn_of_wpIn (F:=FR none) trivial (wpIn_mono h4 fun e a1 w1 q=>?_)
 cases e with
 | normal =>
  obtain ⟨q1,q2⟩:=q
  refine ⟨_,run_beginRound q1 rfl,wpIn_mono q2 fun e a2 w2 q=>?_⟩
  obtain ⟨g1,g2⟩:=q
  cases e with
  | normal =>
   refine ⟨_,_,run_endRound none g1,_,rfl,go true _ g2 fun _=>World.putObj_heap_same (Array.getElem?_eq_some_iff.1 g1).1⟩
  | exit id =>
   refine ⟨_,_,run_endRound (some (.exit id)) g1,_,rfl,go false _ ⟨id,World.putObj_heap_same (Array.getElem?_eq_some_iff.1 g1).1,g2⟩ (by simp)⟩
  | _=>exact g2.elim
 | _=>exact q.elim⟩
theorem zuS {P:Program}{f:FuncId}{tS tE:TypeId}{fn:Func}{r0 r1 r2 r3 b0 b1:Nat}{o0 o1 o2 o3:Array Oper}{ti tb:TypeId}{ts:Array TypeId}{E:TypeId}(hf:zr4 P f tS tE fn r0 r1 r2 r3 b0 b1 o0 o1 o2 o3 ti tb ts) (hu:P.underlying tS=some (.slice E))
  {g:Operand} {ps:Array Tmp} {assign body:Code} {t0:Array Value} {ds:List Deferred} {w:World} {pB:Addr} {sz:Nat} (hg:(⟨t0,ds⟩:Act).eval g=.func (.func f) #[] #[.pointer (some pB)]) {Q:Exit→Act→World→Prop}
  (h:∀ i,∃ (A:Option Addr) (n k:Nat) (R:Exit→Act→World→Prop),let c:RC:=⟨P,i,t0,mkD w.heap.size::ds,ps,assign,body,w.heap.size,w.heap.size + 1,pB,tS,tE,sz⟩
   let w1:=(w.alloc (.deferred (some []))).alloc (c.obj .ready none)
   (loadVar tS pB).run P w1=.ok (.slice A n k) w1∧(c.l_ b0 (zcT r1 r2 r3 b0 b1 o1 o2 o3)).go R (c.act (IntKind.i64.wrap (n - 1))) w1 ∧
   (∀ j w',R .ret (c.act j) w'→w'.heap[c.l]?=some (c.obj .ready none)→Q .normal ⟨t0,c.dfs⟩ (w'.putObj c.l (c.obj .exhausted none))) ∧
   (∀ id j w',R (.exit id) (c.act j) w'→w'.heap[c.l]?=some (c.obj .done (some (.exit id)))→Q (.exit id) ⟨t0,c.dfs⟩ (w'.putObj c.l (c.obj .exhausted (some (.exit id)))))) :
  (Code.rangeFunc g ps assign body).wpIn (FR none) 0 P Q ⟨t0,ds⟩ w:=by
 refine wpIn_rangeFunc fun i _=>?_
 obtain ⟨A,n,k,R,hl,hgo,hR1,hR2⟩:=h i
 obtain ⟨c,ec⟩:∃ c:RC,c=⟨P,i,t0,mkD w.heap.size::ds,ps,assign,body,w.heap.size,w.heap.size + 1,pB,tS,tE,sz⟩:=⟨_,rfl⟩
 rw [← ec] at hl hgo hR1 hR2
 have hP:c.P=P:=by rw [ec]
 have hlc:c.l=w.heap.size + 1:=by rw [ec]
 have hpc:c.pB=pB:=by rw [ec]
 have hd:c.dfs=mkD w.heap.size::ds:=by rw [ec]
 obtain ⟨w1,ew⟩:∃ w1,(w.alloc (.deferred (some []))).alloc (c.obj .ready none)=w1:=⟨_,rfl⟩
 rw [ew] at hl hgo
 have hr1:w1.heap[c.l]?=some (c.obj .ready none):=by
  rw [← ew,hlc]
  have:=World.alloc_heap_new (w.alloc (.deferred (some []))) (c.obj .ready none)
  rwa [World.size_alloc] at this
 have hbi:∀ (as:Array Value) (W:World),(callFunc f as).run P W=.ok (.enter f as) W:=fun as W=>by
  have hcan:=hf.can
  unfold ze0 at hcan
  simp only [wD0,Bool.not_eq_true'] at hcan
  simp only [callFunc,Sem.run_bind,run_program,Result.andThen_ok,hf.get,hcan.2,hf.body,Option.isNone_some,wA0,if_false,Sem.run_pure]
 refine ⟨w.heap.size + 1,[mkD w.heap.size],w1,{ target:=.fn (.func f) #[.pointer (some pB)],args:=#[.func (.yield (w.heap.size + 1)) #[] #[]] },w1,f,#[.func (.yield (w.heap.size + 1)) #[] #[]]++#[.pointer (some pB)],w1,?_,?_,fun _ _=>trivial,?_,(fun hd=>by cases hd),?_⟩
 ·rw [← ew,ec]
  exact run_enterLoop_outer _ _ _ _ _
 ·simp only [resolve,hg]
  simp [go_sem]
 ·simp only [invoke]
  exact hbi _ _
 ·refine callsIn_of_wp hf.get hf.body trivial ?_
  have z0:o0.size=4:=by have:=congrArg List.length hf.e0;simpa using this
  obtain ⟨it,e1⟩:∃ it:Act,({ tmps:=#[Value.func (.yield (w.heap.size + 1)) #[] #[]]++#[Value.pointer (some pB)]++Array.replicate (fn.ntmps - (#[Value.func (.yield (w.heap.size + 1)) #[] #[]]++#[Value.pointer (some pB)]).size) undef,defers:=[] }:Act)=it:=⟨_,rfl⟩
  have q1:it.tmps.size=19:=by rw [← e1,hf.ntmps];simp
  have q2:it.eval (.tmp 0)=.func (.yield c.l) #[] #[]:=by rw [← e1,hlc];simp [Act.eval,Array.getD_eq_getD_getElem?,Array.getElem?_append]
  have q3:it.eval (.tmp 1)=.pointer (some c.pB):=by rw [← e1,hpc];simp [Act.eval,Array.getD_eq_getD_getElem?,Array.getElem?_append]
  have q5:it.defers=[]:=by rw [← e1]
  rw [e1]
  clear e1
  refine wpIn_seq (wpIn_region ?_)
  rw [z0]
  refine zaX (by rw [hf.e0];rfl) (fun o ho=>zhr ho (by rw [q3,hpc]) hl) ?_
  refine zaX (by rw [hf.e0];rfl) (fun o ho=>zsq ho (zan (by rw [q1];decide)) hu) ?_
  refine zaX (by rw [hf.e0];rfl) (fun o ho=>zpi ho (zan (by simp only [size_put,q1];decide)) rfl (.inl rfl) rfl) ?_
  rw [if_pos rfl]
  refine zaX (by rw [hf.e0];rfl) (fun o ho=>run_move (.inr ho)) ?_
  rw [zan (by simp only [size_put,q1];decide)]
  show Code.wpIn _ _ _ _ _ _ _
  refine wpIn_block (zrO ?_)
  have:=hgo _ ((((it.put (some 4) (.slice A n k)).put (some 5) (.int .i64 n)).put (some 6) (.int .i64 (IntKind.i64.wrap (n - 1)))).put (some 3) (.int .i64 (IntKind.i64.wrap (n - 1)))) rfl hr1
   ⟨by simp only [size_put,q1],by simp [eval_put_ne,q2],by simp [eval_put_ne,q3],zan (by simp only [size_put,q1];decide),by simp only [zcd];exact q5⟩
  rw [hP] at this
  refine (lpc none P _).mono this fun e a' w' hp=>?_
  obtain ⟨hdf,⟨he,hr,j,hj⟩|⟨he,id,j,hr,hj⟩⟩:=hp
  ·subst he
   simp only [Exit.inBlock,if_true]
   refine ⟨hdf,_,results_none hf.res _ _ _,none,w'.putObj c.l (c.obj .exhausted none),?_,?_⟩
   ·rw [← hlc];exact run_endLoop hr (by simp)
   ·have:=hR1 j w' hj hr
    rw [hd] at this
    exact this
  ·subst he
   refine ⟨hdf,_,results_none hf.res _ _ _,some (.exit id),w'.putObj c.l (c.obj .exhausted (some (.exit id))),?_,wpIn_exit ?_⟩
   ·rw [← hlc];exact run_endLoop hr (by simp)
   ·have:=hR2 id j w' hj hr
    rw [hd] at this
    exact this
end
end Go.SX
namespace Go.SX
open Go.RowKit (Below)
section
variable {C:FuncId→List D→Option (List D)} {k B0:Nat} {w0:World} {Xe:Ctx} {cx:Cx} {inl:FuncId→List SV→Nat→List Root→Option Inl}
def zbt (B0:Nat) (w0:World) (Xe:Ctx) (x:Ex) (st:St) (E:List D):Exit→Act→World→Prop:=fun e a w=>e=exOf x∧InvS B0 w0 Xe st E a w
theorem zhO (hB0:B0≤w0.heap.size) {n0:Nat}{H L:St}{sg:List At}{bs:List Bd}(h:fit n0 H L=some (sg,bs)) (hok:H.okAt=true) (hn:n0≤H.nv) {E0 F:List D}(hE0:E0.length=n0) (hEl:(E0++F).length=L.nv)
  (hXe:∀ (i:Nat) (d:D),Xe.E[i]?=some d→E0[i]?=some d) (hXA:∀ r,Xe.A r→r<L.base) {E1:List D} (hev:za2 bs (E0++F)=some E1) {vs:List D} (hg:gets E1 sg=some vs) {a:Act} {w:World}
  (hinv:InvS B0 w0 Xe L (E0++F) a w):InvS B0 w0 Xe H (E0++vs) a w :=
 (zrA hB0 h hok hn hE0 hEl hXe hXA hev hg hinv).2.2
theorem zoO (hB0:B0≤w0.heap.size) {c:Piece}{n0 base:Nat}{t:Tree}{E:List D}(hE:E.length=n0) (hXe:∀ (i:Nat) (d:D),Xe.E[i]?=some d→E[i]?=some d) (hXA:∀ r,Xe.A r→r<base) {a:Act}{w:World}
  (hs:∀ r,ev C k t E=some r→Shape E base r) (ht:∀ x st' F,ev C k t E=some (.fin x st' (E++F))→c.go (zbt B0 w0 Xe x st' (E++F)) a w)
  {x:Ex} {st':St} {F:List D} (h:ev C k (zoz n0 t) E=some (.fin x st' (E++F))):c.go (zbt B0 w0 Xe x st' (E++F)) a w:=by
 unfold zoz at h
 split at h
 ·exact ht _ _ _ h
 ·exact ht _ _ _ h
 ·split at h
  ·simp only at h
   split at h
   ·rename_i hc
    simp only [wD0,Nat.ble_eq] at hc
    simp only [ev] at h
    split at h
    ·cases h
    ·rename_i vs h1
     split at h
     ·rename_i hl
      injection h with h
      injection h with e1 e2 e3
      subst e1 e2
      have e3:=List.append_cancel_left e3
      subst e3
      obtain ⟨r0,q1,q2⟩:=zbN (zbQ _ _ _) h1
      obtain ⟨x,st1,F1,e,e2,e3⟩:=hs r0 q1
      subst e
      cases x with
      | normal =>
       have q2:ev C k (fitJ _ _ _ _ st1) (E++F1)=some _:=q2
       obtain ⟨sg,bs,E1,vs',f1,f2,f3,f4,f5,f6⟩:=zgr q2
       injection f4 with _ _ f4
       subst f4
       refine c.mono (ht _ _ _ q1) fun e a' w' ⟨he,hinv⟩=>⟨he,?_⟩
       exact zhO hB0 f1 hc.1.1 hc.1.2 hE e2 hXe (fun r hr=>by rw [e3];exact hXA r hr) f2 f3 hinv
      | exit id=>cases q2
      | ret=>cases q2
     ·cases h
    ·rename_i r1 hne h1
     obtain ⟨r0,q1,q2⟩:=zbN (zbQ _ _ _) h1
     obtain ⟨y,st1,F1,e,e2,e3⟩:=hs r0 q1
     subst e
     cases y with
     | normal =>
      have q2:ev C k (fitJ _ _ _ _ st1) (E++F1)=some _:=q2
      obtain ⟨sg,bs,E1,vs',f1,f2,f3,f4,f5,f6⟩:=zgr q2
      exact absurd f4 (hne _ _)
     | exit id =>
      have q2:r1=_:=q2
      subst q2
      simp only [Res.up,wB0] at h
      rw [h] at q1
      exact ht _ _ _ q1
     | ret =>
      have q2:r1=_:=q2
      subst q2
      simp only [Res.up,wB0] at h
      rw [h] at q1
      exact ht _ _ _ q1
   ·exact ht _ _ _ h
  ·exact ht _ _ _ h
theorem ziv (hB0:B0≤w0.heap.size) {b l:Piece}(hR:zk0 b l) {body:St→Tree}{base:Nat}(hXA:∀ r,Xe.A r→r<base) (hb:∀ st E r,ev C k (body st) E=some r→E.length=st.nv→Shape E st.base r)
  (hbs:∀ st E a w x st' E',ev C k (body st) E=some (.fin x st' E')→E.length=st.nv→st.base=base→InvS B0 w0 Xe st E a w→b.go (zbt B0 w0 Xe x st' E') a w)
  {st H:St} {sg:List At} {E:List D} (hE:E.length=st.nv) (hXe:∀ (i:Nat) (d:D),Xe.E[i]?=some d→E[i]?=some d) (hn:st.nv≤H.nv) (hok:H.okAt=true) (hbase:H.base=base) {vs0:List D} (hg:gets E sg=some vs0) (hl0:vs0.length=H.nv - st.nv)
  {x:Ex} {st':St} {E':List D} (h:ev C k (zfT body st H sg) E=some (.fin x st' E')) {a:Act} {w:World} (hinv:InvS B0 w0 Xe H (E++vs0) a w):l.go (zbt B0 w0 Xe x st' E') a w:=by
 unfold zfT at h
 simp only [ev,hg] at h
 split at h
 ·cases h
 ·rename_i r' hi
  have main:∀ (n:Nat) (vs:List D) (r':Res) (a:Act) (w:World),vs.length=H.nv - st.nv→iter (fun vs=>ev C k ((body H).conv (fitJ st.nv H true) 0) (E++vs)) n vs=some r'→r'.up=some (.fin x st' E')→InvS B0 w0 Xe H (E++vs) a w →
    l.go (zbt B0 w0 Xe x st' E') a w:=by
   intro n
   induction n with
   | zero=>intro vs r' a w _ h;simp [iter] at h
   | succ n ih =>
    intro vs r' a w hvl hi hup hinv
    simp only [iter] at hi
    have hlen:(E++vs).length=H.nv:=by rw [wI0,hE,hvl];omega
    have step:∀ q,ev C k ((body H).conv (fitJ st.nv H true) 0) (E++vs)=some q →
      (∃ vs',q=.jmp 0 true vs'∧vs'.length=H.nv - st.nv∧((∀ a' w',InvS B0 w0 Xe H (E++vs') a' w'→l.go (zbt B0 w0 Xe x st' E') a' w')→l.go (zbt B0 w0 Xe x st' E') a w)) ∨
      ∃ y st1 E1,y≠.normal∧q=.fin y st1 E1∧b.go (zbt B0 w0 Xe y st1 E1) a w:=fun q hq=>by
     obtain ⟨r0,q1,q2⟩:=zbN (zbQ _ _ _) hq
     obtain ⟨y,st1,F,e,e2,e3⟩:=hb H _ r0 q1 hlen
     subst e
     have hwp:=hbs H _ a w y st1 _ q1 hlen hbase hinv
     cases y with
     | normal =>
      have q2:ev C k (fitJ _ _ _ _ st1) (E++vs++F)=some _:=q2
      obtain ⟨sg',bs',E1,vs',f1,f2,f3,f4,f5,f6⟩:=zgr q2
      refine .inl ⟨vs',f4,f5,fun hnext=>hR.round (b.mono hwp fun e a' w' ⟨he,hinv'⟩=>?_)⟩
      subst he
      refine hnext a' w' ?_
      rw [List.append_assoc] at f2 hinv' e2
      exact zhO hB0 f1 hok hn hE e2 hXe (fun r hr=>by rw [e3,hbase];exact hXA r hr) f2 f3 hinv'
     | exit id=>exact .inr ⟨_,st1,_,by simp,q2,hwp⟩
     | ret=>exact .inr ⟨_,st1,_,by simp,q2,hwp⟩
    split at hi
    ·rename_i vs' hq
     rcases step _ hq with ⟨vs2,e,hl,hgo⟩|⟨y,st1,E1,_,e,_⟩
     ·injection e with _ _ e
      subst e
      exact hgo fun a' w' hinv'=>ih _ _ a' w' hl hi hup hinv'
     ·cases e
    ·rename_i hne
     rcases step _ hi with ⟨vs2,e,hl,hgo⟩|⟨y,st1,E1,hy,e,hwp⟩
     ·subst e
      exact absurd hi (hne vs2)
     ·subst e
      simp only [Res.up,wB0] at hup
      injection hup with e1 e2 e3
      subst e1 e2 e3
      refine hR.round (b.mono hwp fun e a' w' ⟨he,hinv'⟩=>?_)
      subst he
      cases y with
      | normal=>exact absurd rfl hy
      | exit id=>exact ⟨rfl,hinv'⟩
      | ret=>exact ⟨rfl,hinv'⟩
  exact main k vs0 r' a w hl0 hi h hinv
theorem zoQ {hd:List (Nat×Nat×St)}{m:Nat}(hB0:B0≤w0.heap.size) {b l:Piece}(hR:zk0 b l) {body:St→Tree}{base:Nat}(hXA:∀ r,Xe.A r→r<base) (hb:∀ st E r,ev C k (body st) E=some r→E.length=st.nv→Shape E st.base r)
  (hbs:∀ st E a w x st' E',ev C k (body st) E=some (.fin x st' E')→E.length=st.nv→st.base=base→InvS B0 w0 Xe st E a w→b.go (zbt B0 w0 Xe x st' E') a w)
  {st:St} {E:List D} (hE:E.length=st.nv) (hbase:st.base=base) {x:Ex} {st':St} {E':List D} (h:ev C k (zpy hd m body st) E=some (.fin x st' E')) {a:Act} {w:World} (hinv:InvS B0 w0 Xe st E a w):l.go (zbt B0 w0 Xe x st' E') a w:=by
 have hXe:=hinv.pre
 unfold zpy at h
 simp only at h
 split at h
 ·rename_i hc
  simp only [wD0,Nat.ble_eq] at hc
  split at h
  ·rename_i sg hf
   obtain ⟨h1,h2,h3⟩:=zby hf
   have hg:∃ vs,gets E sg=some vs:=by
    unfold zfT at h
    simp only [ev] at h
    cases hg:gets E sg with
    | none=>simp [hg] at h
    | some vs=>exact ⟨vs,rfl⟩
   obtain ⟨vs,hg⟩:=hg
   have hinvH:=zhO hB0 (F:=[]) hf hc.1 hc.2 hE (by rw [List.append_nil];exact hE) hXe (fun r hr=>by rw [hbase];exact hXA r hr) (E1:=E) (by rw [List.append_nil];rfl) hg (by rw [List.append_nil];exact hinv)
   exact ziv hB0 hR hXA hb hbs hE hXe hc.2 hc.1 (by rw [h3,hbase]) hg (by rw [zcj hg,h2]) h hinvH
  ·rename_i sg bs _ hf
   obtain ⟨h1,h2,h3⟩:=zby hf
   split at h
   ·rename_i hc2
    simp only [wD0,Nat.ble_eq] at hc2
    split at h
    ·rename_i sg' hf2
     obtain ⟨g1,g2,g3⟩:=zby hf2
     simp only [ev] at h
     rw [zcu h1] at h
     cases he:za2 bs E with
     | none=>simp [he] at h
     | some E1 =>
      simp only [he] at h
      cases hg:gets E1 sg with
      | none=>simp [ev,hg] at h
      | some vs =>
       simp only [ev,hg] at h
       split at h
       ·rename_i hl
        have hinvH:=zhO hB0 (F:=[]) hf hc.1 hc.2 hE (by rw [List.append_nil];exact hE) hXe (fun r hr=>by rw [hbase];exact hXA r hr) (E1:=E1) (by rw [List.append_nil];exact he) hg (by rw [List.append_nil];exact hinv)
        have hE':(E++vs).length=(zpX hd m body st).nv:=by rw [wI0,hE,hl];omega
        have hXe':=hinvH.pre
        have hb':(zpX hd m body st).base=base:=by rw [h3,hbase]
        have hg':∃ vs',gets (E++vs) sg'=some vs':=by
         unfold zfT at h
         simp only [ev] at h
         cases hg:gets (E++vs) sg' with
         | none=>simp [hg] at h
         | some vs=>exact ⟨vs,rfl⟩
        obtain ⟨vs',hg'⟩:=hg'
        have hinvH':=zhO hB0 (F:=[]) hf2 hc2.1 hc2.2 hE' (by rw [List.append_nil];exact hE') hXe' (fun r hr=>by rw [hb'];exact hXA r hr) (E1:=E++vs) (by rw [List.append_nil];rfl) hg' (by rw [List.append_nil];exact hinvH)
        exact ziv hB0 hR hXA hb hbs hE' hXe' hc2.2 hc2.1 (by rw [g3,hb']) hg' (by rw [zcj hg',g2]) h hinvH'
       ·cases h
    ·simp [ev] at h
   ·simp [ev] at h
  ·simp [ev] at h
 ·simp [ev] at h
theorem zlu (m:Nat):∀ (l:List SV) (i t:Nat),((forget m i l)[t]?).getD (.un 1)=(l[t]?).getD (.un 1)∨((forget m i l)[t]?).getD (.un 1)=.un 1
 | [],i,t=>.inl rfl
 | s::l,i,0=>by
  simp only [forget]
  split
  ·exact .inl rfl
  ·exact .inr rfl
 | s::l,i,t + 1=>by
  simp only [forget]
  simpa using zlu m l (i + 1) t
theorem zlj (m:Nat):∀ (l:List SV) (i:Nat),(forget m i l).length=l.length
 | [],_=>rfl
 | s::l,i=>by simp [forget,zlj m l]
theorem InvS.forget {st:St}{E:List D}{a:Act}{w:World}(h:InvS B0 w0 Xe st E a w) (m:Nat):InvS B0 w0 Xe (st.forget m) E a w:=by
 obtain ⟨X,x1,x2,x3,x4,x5,x6,x7,x8,x9,x10⟩:=h
 refine ⟨X,x1,x2,x3,x4,x5,x6,x7,by rw [x8];exact (zlj m _ _).symm,x9,fun t=>?_⟩
 have:=x10 t
 rcases zlu m st.slots 0 t with h|h
 ·show VRep X (((Go.SX.forget m 0 st.slots)[t]?).getD (.un 1)) _
  rw [h];exact this
 ·show VRep X (((Go.SX.forget m 0 st.slots)[t]?).getD (.un 1)) _
  rw [h];simp only [VRep]
theorem zt7 {c:Piece}{m:Nat}{t:Tree}{E:List D}{a:Act}{w:World}(ht:∀ x st' E',ev C k t E=some (.fin x st' E')→c.go (zbt B0 w0 Xe x st' E') a w)
  {x:Ex} {st':St} {E':List D} (h:ev C k (t.fgt m) E=some (.fin x st' E')):c.go (zbt B0 w0 Xe x st' E') a w:=by
 obtain ⟨r0,h1,h2⟩:=zt9 h
 rcases h2 with ⟨st,E2,h3,h4⟩|⟨_,h4⟩
 ·subst h3
  injection h4 with q1 q2 q3
  subst q1 q2 q3
  exact c.mono (ht _ _ _ h1) fun e a' w' ⟨he,hinv⟩=>⟨he,hinv.forget m⟩
 ·subst h4
  exact ht _ _ _ h1
theorem zgu (hB0:B0≤w0.heap.size) {c:Piece}{m n0 base:Nat}{t:Tree}{E:List D}(hE:E.length=n0) (hXe:∀ (i:Nat) (d:D),Xe.E[i]?=some d→E[i]?=some d) (hXA:∀ r,Xe.A r→r<base) {a:Act}{w:World}
  (hs:∀ r,ev C k t E=some r→Shape E base r) (ht:∀ x st' F,ev C k t E=some (.fin x st' (E++F))→c.go (zbt B0 w0 Xe x st' (E++F)) a w)
  {x:Ex} {st':St} {F:List D} (h:ev C k (joinL m n0 t) E=some (.fin x st' (E++F))):c.go (zbt B0 w0 Xe x st' (E++F)) a w :=
 zoO hB0 hE hXe hXA (fun _ hr=>zg9 hs hr) (fun x st' F hr=>zt7 (fun y st1 E1 hr=>by
  obtain ⟨y',st2,F2,e,_,_⟩:=hs _ hr
  injection e with q1 q2 q3
  subst q1 q2 q3
  exact ht _ _ _ hr) hr) h
theorem zkj {hd:List (Nat×Nat×St)}(hB0:B0≤w0.heap.size) {b l:Piece}(hR:zk0 b l) {m:Nat}{body:St→Tree}{base:Nat}(hXA:∀ r,Xe.A r→r<base) (hb:∀ st E r,ev C k (body st) E=some r→E.length=st.nv→Shape E st.base r)
  (hbs:∀ st E a w x st' E',ev C k (body st) E=some (.fin x st' E')→E.length=st.nv→st.base=base→InvS B0 w0 Xe st E a w→b.go (zbt B0 w0 Xe x st' E') a w)
  {st:St} {E:List D} (hE:E.length=st.nv) (hbase:st.base=base) {x:Ex} {st':St} {E':List D} (h:ev C k (zqY hd m body st) E=some (.fin x st' E')) {a:Act} {w:World} (hinv:InvS B0 w0 Xe st E a w):l.go (zbt B0 w0 Xe x st' E') a w :=
 zoQ hB0 hR (st:=st.forget m) hXA (fun s E r hr hs=>zg9 (fun r hr=>hb s E r hr hs) hr) (fun s E a w x st' E' hr hs hbs2 hi=>zt7 (fun y st1 E1 hr=>hbs s E a w y st1 E1 hr hs hbs2 hi) hr) hE hbase h (hinv.forget m)
end
end Go.SX
namespace Go.SX
open Go.RowKit (Below)
section
variable {C:FuncId→List D→Option (List D)} {k B0:Nat} {w0:World} {Xe:Ctx} {cx:Cx}
theorem zkT:∀ {l:List (FuncId×TypeId×TypeId)}{f:FuncId}{p:TypeId×TypeId},ziW l f=some p→(f,p)∈l
 | [],_,_,h=>by simp [ziW] at h
 | (g,q)::l,f,p,h=>by
  simp only [ziW] at h
  split at h
  ·rename_i hb
   injection h with h
   subst h
   rw [zad hb]
   exact List.mem_cons_self ..
  ·exact List.mem_cons_of_mem _ (zkT h)
theorem zhJ (ty:TysOk cx) {X:Ctx}{st:St}(m:Mem B0 X) (hμ:X.μ=st.root) {g:Operand}{v:Value}(hv:VRep X (opnd st.slot g) v) {e:Ty}{a:At}(h:zk4 cx st g=some (e,a)) :
  ∃ f tS tE pB,ziW cx.bk f=some (tS,tE)∧v=.func (.func f) #[] #[.pointer (some pB)]∧cx.T tS=.sl e∧∃ d u,a.get X.E=some d∧(loadVar tS pB).run cx.P X.w=.ok u X.w ∧
   ((d=.nil∧u=.slice none 0 0)∨∃ l A cap,d=.sl l∧u=.slice (some A) l.length cap∧∀ (j:Nat) (x:D),l[j]?=some x→∃ z,(loadVar tE (A.add (j * e.size))).run cx.P X.w=.ok z X.w∧VRep X (.d e (.c x)) z):=by
 unfold zk4 at h
 split at h
 ·rename_i f R T r hs
  split at h
  ·rename_i tS tE hb
   split at h
   ·rename_i T' e' a' hr
    split at h
    ·rename_i hc
     injection h with h
     injection h with e1 e2
     subst e1 e2
     simp only [wD0] at hc
     obtain ⟨⟨⟨⟨_,c2⟩,c3⟩,c4⟩,c5⟩:=hc
     have c2:=Ty.beq_eq c2
     have c4:=Ty.beq_eq c4
     rw [hs] at hv
     simp only [VRep,VRepL,Ref] at hv
     obtain ⟨us,vs,e1,e2,p,l,e3,⟨hA,b,off,q1,q2,q3,q4⟩,e4⟩:=hv
     have e2:us=#[]:=by simpa using e2
     have e3:vs=#[p]:=by
      subst e4
      exact Array.toList_inj.1 e3
     simp only [tOff,wB0] at q3
     subst e1 e2 e3 q1 q3
     have hrep:=m.rep r hA
     rw [hμ,hr] at hrep
     obtain ⟨b',c,te,h1,h2,_,h3⟩:=hrep
     rw [q2] at h1
     injection h1 with h1
     subst h1
     obtain ⟨u,hu,hru⟩:=zc7 ty c2 c3 (s:=.d (.sl e') a') rfl h3 (a:=⟨b,0,none⟩) (fun j v hj=>by
      rw [Addr.add_mid,Nat.zero_add]
      exact za3 h2 (List.take_length ..) hj)
     refine ⟨f,tS,tE,⟨b,0,none⟩,hb,rfl,c2,?_⟩
     obtain ⟨d,hd,hdv⟩:=VRep.data.1 hru
     refine ⟨d,u,hd,hu,?_⟩
     unfold DVal at hdv
     simp only [Ty.isAgg,wA0,if_false] at hdv
     have hdr:=hdv.2
     cases d<;>simp only [DRep] at hdr
     ·rename_i ds
      obtain ⟨A,cap,xs,g1,g2,g3,g4,g5⟩:=hdr
      injection g1 with g1
      refine .inr ⟨ds,A,cap,rfl,g1,fun j x hj=>?_⟩
      have hp:=DRepA.part g3 hj
      obtain ⟨k1,k2⟩:=zpv hp g4 g5
      exact zc7 ty c4 c5 (s:=.d e' (.c x)) rfl (by simp only [CRep];exact ⟨x,rfl,hp⟩) k1
     ·injection hdr with hdr
      exact .inl ⟨rfl,hdr⟩
    ·cases h
   ·cases h
  ·cases h
 ·cases h
theorem carry {X X':Ctx}{l:Nat}{o o':Obj}{E':List D}(hB:B0≤X'.w.heap.size) (x:ExtC X X') (m':Mem B0 X') (ho:X'.w.heap[l]?=some o) (h1:¬ Held o) (h2:¬ Held o') (hE:∀ (i:Nat) (d:D),X'.E[i]?=some d→E'[i]?=some d) :
  ExtC X { X' with w:=X'.w.putObj l o',E:=E' }∧Mem B0 { X' with w:=X'.w.putObj l o',E:=E' }:=by
 obtain ⟨t1,t2⟩:=m'.turn (zbY ho h1 h2)
 obtain ⟨y1,y2⟩:=t2.moreE (E':=E') (by simpa using hB) hE
 exact ⟨x.trans (t1.trans y1.c),y2⟩
theorem Ext.carry {Xe X':Ctx}{l:Nat}{o o':Obj}{E':List D}(x:Ext Xe X') (hB:B0≤X'.w.heap.size) (m':Mem B0 X') (ho:X'.w.heap[l]?=some o) (h1:¬ Held o) (h2:¬ Held o') (hl:Xe.w.heap.size≤l) (hE:∀ (i:Nat) (d:D),X'.E[i]?=some d→E'[i]?=some d) :
  Ext Xe { X' with w:=X'.w.putObj l o',E:=E' }:=by
 have tn:=zbY (o':=o') ho h1 h2
 obtain ⟨t1,t2⟩:=m'.turn tn
 obtain ⟨y1,y2⟩:=t2.moreE (E':=E') (by simpa using hB) hE
 exact (x.turned m' tn hl).trans y1
theorem Marks.turn {w:World}{l:Nat}{o o':Obj}{ds:List Deferred}(h:Marks B0 w0 w ds) (ho:w.heap[l]?=some o) (hn:o≠.deferred (some [])):Marks B0 w0 (w.putObj l o') ds:=by
 obtain ⟨rs,h1,h2,h3⟩:=h
 refine ⟨rs,h1,h2,fun r hr=>?_⟩
 obtain ⟨g1,g2,g3⟩:=h3 r hr
 refine ⟨g1,g2,(World.putObj_heap_other fun e=>?_).trans g3⟩
 subst e
 rw [g3] at ho
 injection ho with ho
 exact hn ho.symm
theorem zaR {c:RC}{s:LoopState}{p:Option Code}:¬ Held (c.obj s p):=by rintro (⟨_,_,_,h⟩|⟨_,_,h⟩)<;>cases h
theorem zob {c:RC}{s:LoopState}{p:Option Code}:c.obj s p≠.deferred (some []):=fun h=>by cases h
def Does (cx:Cx) (C:FuncId→List D→Option (List D)) (k:Nat) (c:Code) (ex:St→Tree):Prop :=
 ∀ {ro:Option Nat} {B0:Nat} {w0:World} {Xe:Ctx} {base:Nat},B0≤w0.heap.size→(∀ r,Xe.A r→r<base)→∀ (st:St) (E:List D) (a:Act) (w:World) (x:Ex) (st':St) (E':List D),ev C k (ex st) E=some (.fin x st' E')→E.length=st.nv→st.base=base→InvS B0 w0 Xe st E a w →
  c.wpIn (FR ro) 0 cx.P (zbt B0 w0 Xe x st' E') a w
theorem zvf {ps:Array Tmp}{p q:Tmp}(h:ps.toList=[p,q]):ps=#[p,q]:=Array.toList_inj.1 h
theorem zsn {t0:Array Value}{ds ds':List Deferred}{g:Operand}{v i:Value}(h:(⟨t0,ds⟩:Act).eval g=v) (hv:v≠undef):(⟨t0.push i,ds'⟩:Act).eval g=v:=by
 subst h
 cases g with
 | tmp t =>
  simp only [Act.eval,Array.getD_eq_getD_getElem?] at hv ⊢
  rcases Nat.lt_or_ge t t0.size with h|h
  ·rw [Array.getElem?_push_lt h,Array.getElem?_eq_getElem h]
  ·rw [Array.getElem?_eq_none h] at hv
   exact absurd rfl hv
 | _=>rfl
theorem zhk {sl:List SV}{n:Nat}{t0:Array Value}{X:Ctx}{i:Value}{ds:List Deferred}(hl:sl.length=t0.size + 1) (hn:n=t0.size) (h:∀ t,VRep X ((sl[t]?).getD (.un 1)) ((⟨t0.push i,ds⟩:Act).tmps.getD t undef)) :
  t0.size=(sl.take n).length∧∀ t,VRep X (((sl.take n)[t]?).getD (.un 1)) (t0.getD t undef):=by
 subst hn
 refine ⟨by simp [hl],fun t=>?_⟩
 rcases Nat.lt_or_ge t t0.size with ht|ht
 ·have:=h t
  rw [List.getElem?_take_of_lt ht]
  simp only [Array.getD_eq_getD_getElem?] at this ⊢
  rw [Array.getElem?_push_lt ht] at this
  rw [Array.getElem?_eq_getElem ht]
  exact this
 ·rw [List.getElem?_eq_none (by simp [hl];omega)]
  simp only [Option.getD_none,VRep]
theorem znr {sl:List SV}{s:SV}{t0:Array Value}{X:Ctx}{i:Value}(hl:t0.size=sl.length) (h:∀ t,VRep X ((sl[t]?).getD (.un 1)) (t0.getD t undef)) (hs:VRep X s i) :
  (t0.push i).size=(sl++[s]).length∧∀ t,VRep X (((sl++[s])[t]?).getD (.un 1)) ((t0.push i).getD t undef):=by
 refine ⟨by simp [hl],fun t=>?_⟩
 simp only [Array.getD_eq_getD_getElem?]
 rcases Nat.lt_trichotomy t sl.length with ht|ht|ht
 ·have:=h t
  rw [List.getElem?_append_left ht,Array.getElem?_push_lt (by omega)]
  simp only [Array.getD_eq_getD_getElem?] at this
  rwa [Array.getElem?_eq_getElem (by omega)] at this
 ·subst ht
  rw [List.getElem?_append_right (wG0 _),← hl]
  simpa using hs
 ·rw [List.getElem?_eq_none (by simp;omega)]
  simp only [Option.getD_none,VRep]
theorem zpc (ty:TysOk cx) (hB0:B0≤w0.heap.size) {x y:Code}{ex1 ex2:St→Tree}(s2:∀ st,(ex2 st).shut 0=true) (sh1:zdm C k ex1) (sh2:zdm C k ex2) (g1:Does cx C k x ex1) (g2:Does cx C k y ex2)
  {c:RC} (hP:c.P=cx.P) (hx:c.assign=x) (hy:c.body=y) {g:Operand} {f:FuncId} {e0:Ty} (hg:(⟨c.t0,c.dfs⟩:Act).eval g=.func (.func f) #[] #[.pointer (some c.pB)]) (hbk:ziW cx.bk f=some (c.tS,c.tE)) (he0:cx.T c.tS=.sl e0) (hsz:c.sz=e0.size) (hl:Xe.w.heap.size≤c.l) (hlB:B0≤c.l) (hl0:w0.heap.size≤c.l) :
  ∀ (st:St) (E:List D) (a:Act) (w:World) (z:Ex) (st':St) (E':List D),ev C k (zfe cx ex1 ex2 g c.ps.toList st) E=some (.fin z st' E')→E.length=st.nv→InvS B0 w0 Xe st E a w→c.b.go (zbt B0 w0 Xe z st' E') a w:=by
 intro st E a w z st' E' hev hE hinv
 intro i ea hr
 obtain ⟨ia,e,at_,p,q,zi,t1,t2,t3,t4,hcase⟩:=znv s2 sh1 sh2 hev hE
 obtain ⟨X,x1,x2,x3,x4,x5,x6,x7,x8,x9,x10⟩:=id hinv
 subst x2
 have hlen:st.slots.length=c.t0.size + 1:=by rw [← x8,ea];simp [RC.act]
 have hn:st.slots.length - 1=c.t0.size:=by omega
 have hidx:ia.get E=some (.int .i64 i):=by
  have hv:=x10 (st.slots.length - 1)
  have:((st.slots[st.slots.length - 1]?).getD (.un 1))=.d (.int .i64) ia:=t1
  rw [this,hn,ea] at hv
  have hv':a.tmps.getD c.t0.size undef=.int .i64 i:=by rw [ea];simp [RC.act,Array.getD_eq_getD_getElem?]
  obtain ⟨d,hd,hdv⟩:=VRep.data.1 hv
  obtain ⟨n,e1,e2⟩:=hdv.int
  subst e1
  rw [← ea,hv'] at e2
  injection e2 with _ e2
  rw [x1] at hd
  rw [hd,e2]
 have hz:zi=i:=by
  have:=At.get_app (F:=[.bool (decide (zi<0))]) hidx
  rw [this] at t4
  injection t4 with t4
  injection t4 with _ t4
  exact t4.symm
 subst hz
 have hB:B0≤X.w.heap.size:=Nat.le_trans hB0 x7.size
 rcases hcase with ⟨hneg,hr0⟩|⟨hpos,ds,el,s,F1,y',s',F2,u1,u2,u3,u4,u5,u6,hend⟩
 ·injection hr0 with e1 e2 e3
  subst e1 e2 e3
  exact .inl ⟨hneg,rfl,hinv.more hB0⟩
 right
 obtain ⟨f',tS',tE',pB',b1,b2,b3,d,u,b4,b5,b6⟩:=zhJ ty x5 x3 (zaa (ρ:=st.slot) x10 g) t2
 have hev0:a.eval g=.func (.func f) #[] #[.pointer (some c.pB)]:=by rw [ea];exact zsn hg (by simp [undef])
 rw [hev0] at b2
 injection b2 with b2 _ b7
 injection b2 with b2
 subst b2
 have b7:c.pB=pB':=by simpa using b7
 subst b7
 rw [hbk] at b1
 injection b1 with b1
 injection b1 with b1 b8
 subst b1 b8
 rw [he0] at b3
 injection b3 with b3
 subst b3
 have b4':=At.get_app (F:=[.bool false]) b4
 rw [x1,u1] at b4'
 injection b4' with b4'
 subst b4'
 rcases b6 with ⟨e1,_⟩|⟨l,A,cap,e1,e2,b6⟩
 ·subst e1
  simp [Prim.run] at u2
 subst e1 e2
 simp only [Prim.run,if_pos hpos] at u2
 obtain ⟨v,v1,v2⟩:=b6 _ _ u2
 refine ⟨hpos,A,l.length,cap,v,by rw [hP];exact b5,?_,by rw [hP,hsz];exact v1,?_⟩
 ·have:=(List.getElem?_eq_some_iff.1 u2).1
  omega
 obtain ⟨y1,y2⟩:=x5.moreE hB (E':=E++[.bool false,el]) (fun j d hj=>by rw [x1] at hj;exact get_app hj)
 obtain ⟨X2,eX2⟩:∃ X2:Ctx,{ X with E:=E++[D.bool false,el] }=X2:=⟨_,rfl⟩
 rw [eX2] at y1 y2
 have X2E:X2.E=E++[.bool false,el]:=by rw [← eX2]
 have X2w:X2.w=X.w:=by rw [← eX2]
 obtain ⟨p1,p2⟩:=zhk (n:=st.slots.length - 1) (X:=X2) (i:=.int .i64 zi) (ds:=c.dfs) hlen hn (fun t=>by have:=VRep.ext y1 (x10 t);rw [ea] at this;exact this)
 have hzE:(At.v (st.nv + 1)).get X2.E=some el:=by rw [X2E];simp [At.get,← hE]
 obtain ⟨p3,p4,p5⟩:=zmn (X:=X2) (a:=⟨c.t0,[]⟩) p1 p2 (some p) (s:=.d (.int .i64) ia) (v:=.int .i64 zi) (VRep.data.2 ⟨_,by rw [X2E];exact At.get_app hidx,DVal.of_int _ _⟩)
 obtain ⟨p6,p7,p8⟩:=zmn (X:=X2) p3 p5 (some q) (s:=.d e0 (.v (st.nv + 1))) (v:=v) (by
  have hv:=VRep.ext y1 v2
  obtain ⟨d,hd,hdv⟩:=VRep.data.1 hv
  injection hd with hd
  subst hd
  exact VRep.data.2 ⟨_,hzE,hdv⟩)
 have hst:c.start zi v=((⟨c.t0,[]⟩:Act).put (some p) (.int .i64 zi)).put (some q) v:=by
  unfold RC.start
  rw [zvf t3]
  simp [Act.put]
 have i1:InvS B0 X2.w X2 (st.start ia e0 p q) (E++[.bool false,el]) (c.start zi v) X2.w:=by
  refine ⟨X2,X2E,rfl,by rw [← eX2];exact x3,fun r=>by rw [← eX2];exact x4 r,y2,Ext.refl _,Below.refl _ _,?_,?_,?_⟩
  ·rw [hst];exact p6
  ·rw [hst,p7,p4];exact Marks.none
  ·rw [hst];exact p8
 have hA2:∀ r,X2.A r→r<st.mem.length:=fun r hr=>by rw [← eX2] at hr;exact (x4 r).1 hr
 have w1:=g1 (ro:=some c.l) (by rw [X2w];exact hB) hA2 (st.start ia e0 p q) _ _ _ _ _ _ u3 (by simp [St.start,hE]) rfl i1
 have hlt:c.l<X2.w.heap.size:=by rw [X2w];exact lt_of_heap hr
 have hr2:X2.w.heap[c.l]?=some (c.obj .ready none):=by rw [X2w];exact hr
 unfold RC.round
 rw [hP,hx,hy,← X2w]
 refine wpIn_mono w1 fun ex a1 w1 hq=>?_
 obtain ⟨hex,hi1⟩:=hq
 subst hex
 obtain ⟨X3,k1,k2,k3,k4,k5,k6,k7,k8,k9,k10⟩:=hi1
 subst k2
 have hr3:X3.w.heap[c.l]?=some (c.obj .ready none):=(k6.K.heap _ hlt (y2.not_own hlB hr2 zaR)).trans hr2
 refine ⟨hr3,?_⟩
 have hB3:B0≤X3.w.heap.size:=Nat.le_trans (by rw [X2w];exact hB) k7.size
 obtain ⟨m1,m2⟩:=k5.turn (zbY (o':=c.obj .busy none) hr3 zaR zaR)
 obtain ⟨X4,eX4⟩:∃ X4,{ X3 with w:=X3.w.putObj c.l (c.obj .busy none) }=X4:=⟨_,rfl⟩
 rw [eX4] at m1 m2
 have X4w:X4.w=X3.w.putObj c.l (c.obj .busy none):=by rw [← eX4]
 have hr4:X4.w.heap[c.l]?=some (c.obj .busy none):=by rw [X4w];exact World.putObj_heap_same (lt_of_heap hr3)
 have i2:InvS B0 X2.w X4 { s with base:=s.mem.length } (E++[.bool false,el]++F1) a1 X4.w:=by
  refine ⟨X4,by rw [← eX4];exact k1,rfl,by rw [← eX4];exact k3,fun r=>by rw [← eX4];exact k4 r,m2,Ext.refl _,?_,k8,?_,fun t=>VRep.extC m1 (k10 t)⟩
  ·rw [X4w];exact zcI k7 hlB
  ·rw [X4w];exact k9.turn hr3 zob
 have hA4:∀ r,X4.A r→r<s.mem.length:=fun r hr=>by rw [← eX4] at hr;exact (k4 r).1 hr
 have w2:=g2 (ro:=some c.l) (by rw [X2w];exact hB) hA4 { s with base:=s.mem.length } _ _ _ _ _ _ u5 u4 rfl i2
 rw [← X4w]
 refine wpIn_mono w2 fun ex2 a2 w2 hq=>?_
 obtain ⟨hex2,hi2⟩:=hq
 obtain ⟨X5,n1,n2,n3,n4,n5,n6,n7,n8,n9,n10⟩:=hi2
 subst n2
 have hlt4:c.l<X4.w.heap.size:=lt_of_heap hr4
 have hr5:X5.w.heap[c.l]?=some (c.obj .busy none):=(n6.K.heap _ hlt4 (m2.not_own hlB hr4 zaR)).trans hr4
 have hB5:B0≤X5.w.heap.size:=Nat.le_trans (by rw [X2w];exact hB) n7.size
 refine ⟨hr5,?_⟩
 have z3:Ext Xe X3:=(x6.trans y1).trans k6
 have z4:Ext Xe X4:=by rw [← eX4];exact z3.turned k5 (zbY hr3 zaR zaR) hl
 have z5:Ext Xe X5:=z4.trans n6
 have c5:ExtC X X5:=((y1.trans k6).c.trans m1).trans n6.c
 have q3:Marks B0 w0 X3.w c.dfs:=Marks.ext y2 k6 (by rw [X2w];have:=x9;rw [ea] at this;exact this)
 have q5:Marks B0 w0 X5.w c.dfs:=Marks.ext m2 n6 (by rw [X4w];exact q3.turn hr3 zob)
 have bl:Below B0 w0 X5.w:=x7.trans (by rw [← X2w];exact n7)
 have last:∀ (o':Obj) (E2:List D) (sl:List SV) (j:Int),¬ Held o'→(∀ (i:Nat) (d:D),X5.E[i]?=some d→E2[i]?=some d) →
   (∀ X6:Ctx,ExtC X X6→X6.E=E2→(c.t0.push (.int .i64 j)).size=sl.length∧∀ t,VRep X6 ((sl[t]?).getD (.un 1)) ((c.t0.push (.int .i64 j)).getD t undef))→∀ nv,InvS B0 w0 Xe ⟨nv,st.base,sl,s'.mem⟩ E2 (c.act j) (X5.w.putObj c.l o'):=by
  intro o' E2 sl j ho hE2 hsl nv
  obtain ⟨r1,r2⟩:=carry (E':=E2) hB5 c5 n5 hr5 zaR ho hE2
  obtain ⟨r3,r4⟩:=hsl _ r1 rfl
  exact ⟨{ X5 with w:=X5.w.putObj c.l o',E:=E2 },rfl,rfl,n3,n4,r2,z5.carry hB5 n5 hr5 zaR ho hl hE2,zcI bl hlB,r3,q5.turn hr5 zob,r4⟩
 rcases hend with ⟨e1,hr0⟩|⟨id,e1,hr0⟩
 ·subst e1
  subst hex2
  injection hr0 with e1 e2 e3
  subst e1 e2 e3
  refine ⟨rfl,last _ _ _ _ zaR (fun j d hj=>by rw [n1] at hj;exact get_app hj) (fun X6 hx6 hE6=>?_) _⟩
  obtain ⟨p1,p2⟩:=zhk (n:=st.slots.length - 1) (X:=X6) (i:=.int .i64 zi) (ds:=c.dfs) hlen hn (fun t=>by have:=VRep.extC hx6 (x10 t);rw [ea] at this;exact this)
  refine znr p1 p2 (VRep.data.2 ⟨.int .i64 (IntKind.i64.wrap (zi - 1)),?_,DVal.of_int _ _⟩)
  rw [hE6]
  simp only [At.get,← u6]
  rw [List.getElem?_append_right (wG0 _)]
  simp
 ·subst e1
  subst hex2
  injection hr0 with e1 e2 e3
  subst e1 e2 e3
  refine ⟨rfl,last _ _ _ _ zaR (fun j d hj=>by rw [n1] at hj;exact hj) (fun X6 hx6 _=>⟨?_,fun t=>?_⟩) _⟩
  ·simp [hlen]
  ·have:=VRep.extC hx6 (x10 t);rw [ea] at this;exact this
theorem zji:∀ {l l':List Nat},l.map mkD=l'.map mkD→l=l'
 | [],[],_=>rfl
 | a::l,b::l',h=>by
  simp only [List.map_cons,List.cons.injEq] at h
  have e:a=b:=by
   have:=h.1
   unfold mkD at this
   injection this with this
   injection this
  rw [e,zji h.2]
 | [],_::_,h=>by simp at h
 | _::_,[],h=>by simp at h
theorem zo9 (ty:TysOk cx) (hB0:B0≤w0.heap.size) (hsz:Xe.w.heap.size≤w0.heap.size) {base:Nat}(hXA:∀ r,Xe.A r→r<base) {x y:Code}{ex1 ex2:St→Tree}(s2:∀ st,(ex2 st).shut 0=true) (sh1:zdm C k ex1) (sh2:zdm C k ex2) (g1:Does cx C k x ex1) (g2:Does cx C k y ex2)
  {m:Nat} {g:Operand} {ps:Array Tmp} {st:St} {E:List D} {a:Act} {w:World} {z:Ex} {st':St} {E':List D} (hps:ps.size=2) (h:ev C k (zjQ cx ex1 ex2 m g ps.toList st) E=some (.fin z st' E')) (hE:E.length=st.nv) (hb:st.base=base) (hinv:InvS B0 w0 Xe st E a w) :
  (Code.rangeFunc g ps x y).wpIn (FR none) 0 cx.P (zbt B0 w0 Xe z st' E') a w:=by
 obtain ⟨e,at_,d0,n0,zx,s,F,t1,t2,t3,t4,t5,t6,hend⟩:=zmW s2 sh1 sh2 h hE
 obtain ⟨X,x1,x2,x3,x4,x5,x6,x7,x8,x9,x10⟩:=id hinv
 subst x2
 obtain ⟨t0,ds⟩:=a
 have hB:B0≤X.w.heap.size:=Nat.le_trans hB0 x7.size
 obtain ⟨f,tS,tE,pB,b1,b2,b3,_⟩:=zhJ ty x5 x3 (zaa (ρ:=st.slot) x10 g) t1
 obtain ⟨fn,r0,r1,r2,r3,c0,c1,o0,o1,o2,o3,ti,tb,ts,hf⟩:=ty.bk _ (zkT b1)
 simp only at hf
 obtain ⟨Et,inf,hu,tf⟩:=zak ty b3
 refine zuS (pB:=pB) (sz:=e.size) hf hu b2 fun i=>?_
 obtain ⟨c,ec⟩:∃ c:RC,c=⟨cx.P,i,t0,mkD X.w.heap.size::ds,ps,x,y,X.w.heap.size,X.w.heap.size + 1,pB,tS,tE,e.size⟩:=⟨_,rfl⟩
 rw [← ec]
 have hct:c.t0=t0:=by rw [ec]
 have hcd:c.dfs=mkD X.w.heap.size::ds:=by rw [ec]
 have hcl:c.l=X.w.heap.size + 1:=by rw [ec]
 have hcP:c.P=cx.P:=by rw [ec]
 have hcp:c.ps=ps:=by rw [ec]
 have hbe:Below X.w.heap.size X.w ((X.w.alloc (.deferred (some []))).alloc (c.obj .ready none)):=((Below.refl _ X.w).alloc (wG0 _) _).alloc (by simp) _
 obtain ⟨y1,y2⟩:=x5.world hB hbe
 obtain ⟨w1,ew1⟩:∃ w1,(X.w.alloc (.deferred (some []))).alloc (c.obj .ready none)=w1:=⟨_,rfl⟩
 simp only
 rw [ew1] at y1 y2 hbe ⊢
 have hD1:w1.heap[X.w.heap.size]?=some (.deferred (some [])):=by
  rw [← ew1];exact (Below.heap_alloc _ _ _ (by simp)).trans (World.alloc_heap_new X.w _)
 have hl0:w0.heap.size≤c.l:=by rw [hcl];exact Nat.le_succ_of_le x7.size
 have hlX:Xe.w.heap.size≤c.l:=Nat.le_trans hsz hl0
 have hlB:B0≤c.l:=Nat.le_trans hB0 hl0
 obtain ⟨f',tS',tE',pB',b1',b2',_,d,u,b4,b5,b6⟩:=zhJ ty y2 (st:=st) x3 (VRep.ext y1 (zaa (ρ:=st.slot) x10 g)) t1
 rw [b2] at b2'
 injection b2' with b2' _ b7
 injection b2' with b2'
 subst b2'
 have b7:pB=pB':=by simpa using b7
 subst b7
 rw [b1] at b1'
 injection b1' with b1'
 injection b1' with b1' b8
 subst b1' b8
 have b4:at_.get E=some d:=by rw [← x1];exact b4
 rw [t2] at b4
 injection b4 with b4
 subst b4
 have hlen:∃ (A:Option Addr) (n kk:Nat),u=.slice A n kk∧n0=n:=by
  rcases b6 with ⟨e1,e2⟩|⟨l,A,cap,e1,e2,_⟩
  ·subst e1
   simp only [Prim.run,wB0] at t3
   injection t3 with _ t3
   exact ⟨none,0,0,e2,t3.symm⟩
  ·subst e1
   simp only [Prim.run,wB0] at t3
   injection t3 with _ t3
   exact ⟨some A,l.length,cap,e2,t3.symm⟩
 obtain ⟨A,n,kk,eu,en⟩:=hlen
 subst eu en
 refine ⟨A,n,kk,zbt B0 w0 Xe zx s (E++[D.int .i64 n,.int .i64 (IntKind.i64.wrap (n - 1))]++F),b5,?_,?_,?_⟩
 ·
  obtain ⟨v1,v2⟩:=y2.moreE (E':=E++[D.int .i64 n,.int .i64 (IntKind.i64.wrap (n - 1))]) (Nat.le_trans hB hbe.size) (fun j d hj=>by rw [x1] at hj;exact get_app hj)
  have hE2:(E++[D.int .i64 n,.int .i64 (IntKind.i64.wrap (n - 1))]).length=st.nv + 2:=by simp [hE]
  have hR:zk0 c.b (c.l_ c0 (zcT r1 r2 r3 c0 c1 o1 o2 o3)):=zpu (by rw [hcP,ec];exact hf) (by rw [hcP,ec];exact hu) (by rw [hcP];exact tf.info) (by rw [ec];exact tf.size) (by rw [hcp];exact hps)
  have hgc:(⟨c.t0,c.dfs⟩:Act).eval g=.func (.func f) #[] #[.pointer (some c.pB)]:=by
   rw [hct,show c.pB=pB by rw [ec],← b2]
   cases g<;>rfl
  have hbs:∀ st E a w z st' E',ev C k (zfe cx ex1 ex2 g ps.toList st) E=some (.fin z st' E')→E.length=st.nv→st.base=base→InvS B0 w0 Xe st E a w→c.b.go (zbt B0 w0 Xe z st' E') a w:=fun st E a w z st' E' h1 h2 _ h4 =>
   zpc ty hB0 s2 sh1 sh2 g1 g2 hcP (by rw [ec]) (by rw [ec]) hgc (by rw [ec];exact b1) (by rw [ec];exact b3) (by rw [ec]) hlX hlB hl0 st E a w z st' E' (by rw [hcp];exact h1) h2 h4
  have hsh:zdm C k (zfe cx ex1 ex2 g ps.toList):=zh3 s2 sh1 sh2
  refine zkj (C:=C) (k:=k) (hd:=cx.hd) (m:=Nat.lor (zpx st.slots.length) m) (body:=zfe cx ex1 ex2 g ps.toList) (st:=⟨st.nv + 2,st.base,st.slots++[.d (.int .i64) (.v (st.nv + 1))],st.mem⟩) (E:=E++[D.int .i64 n,.int .i64 (IntKind.i64.wrap (n - 1))]) hB0 hR hXA hsh hbs hE2 hb (h:=?hh) (hinv:=?_)
  case hh=>exact t4
  ·have hi:(At.v (st.nv + 1)).get (E++[D.int .i64 n,.int .i64 (IntKind.i64.wrap (n - 1))])=some (.int .i64 (IntKind.i64.wrap (n - 1))):=by simp [At.get,← hE]
   obtain ⟨p1,p2⟩:=znr (X:={ X with w:=w1,E:=E++[D.int .i64 n,.int .i64 (IntKind.i64.wrap (n - 1))] }) (s:=.d (.int .i64) (.v (st.nv + 1))) (i:=.int .i64 (IntKind.i64.wrap (n - 1))) x8 (fun t=>VRep.ext (y1.trans v1) (x10 t))
    (VRep.data.2 ⟨_,hi,DVal.of_int _ _⟩)
   refine ⟨{ X with w:=w1,E:=E++[D.int .i64 n,.int .i64 (IntKind.i64.wrap (n - 1))] },rfl,rfl,x3,x4,v2,(x6.trans y1).trans v1,x7.trans (hbe.mono hB),by rw [← hct] at p1;exact p1,?_,by rw [← hct] at p2;exact p2⟩
   obtain ⟨rs,g1,g2,g3⟩:=Marks.ext (X':={ X with w:=w1 }) x5 y1 x9
   have:(c.act (IntKind.i64.wrap (n - 1))).defers=mkD X.w.heap.size::ds:=hcd
   rw [this]
   refine ⟨X.w.heap.size::rs,by rw [List.map_cons,← g1],List.nodup_cons.2 ⟨fun hm=>?_,g2⟩,fun r hr=>?_⟩
   ·obtain ⟨rs',h1,_,h3⟩:=x9
    have:=zji (h1.symm.trans g1)
    subst this
    have:=lt_of_heap (h3 _ hm).2.2
    omega
   ·rcases List.mem_cons.1 hr with hr|hr
    ·subst hr
     exact ⟨hB,x7.size,hD1⟩
    ·exact g3 r hr
 ·
  intro j w' hR hr
  obtain ⟨hx,hi⟩:=hR
  rcases hend with ⟨e1,hr0⟩|⟨id,e1,_⟩
  ·subst e1
   injection hr0 with e1 e2 e3
   subst e1 e2 e3
   refine ⟨rfl,?_⟩
   obtain ⟨Y,k1,k2,k3,k4,k5,k6,k7,k8,k9,k10⟩:=hi
   subst k2
   have hBY:B0≤Y.w.heap.size:=Nat.le_trans hB0 k7.size
   obtain ⟨q1,q2⟩:=carry (o':=c.obj .exhausted none) (E':=Y.E) hBY (Ext.refl Y).c k5 hr zaR zaR (fun _ _ h=>h)
   have hsl:s.slots.length=c.t0.size + 1:=by rw [← k8];simp [RC.act]
   obtain ⟨p1,p2⟩:=zhk (n:=s.slots.length - 1) (i:=.int .i64 j) (ds:=c.dfs) hsl (by omega) (fun t=>VRep.extC q1 (k10 t))
   exact ⟨{ Y with w:=Y.w.putObj c.l (c.obj .exhausted none),E:=Y.E },k1,rfl,k3,k4,q2,k6.carry hBY k5 hr zaR zaR hlX (fun _ _ h=>h),zcI k7 hlB,by rw [← hct];exact p1,k9.turn hr zob,by rw [← hct];exact p2⟩
  ·subst e1
   cases hx
 ·
  intro id j w' hR hr
  obtain ⟨hx,hi⟩:=hR
  rcases hend with ⟨e1,_⟩|⟨id',e1,hr0⟩
  ·subst e1
   cases hx
  ·subst e1
   injection hr0 with e1 e2 e3
   subst e1 e2 e3
   refine ⟨hx,?_⟩
   obtain ⟨Y,k1,k2,k3,k4,k5,k6,k7,k8,k9,k10⟩:=hi
   subst k2
   have hBY:B0≤Y.w.heap.size:=Nat.le_trans hB0 k7.size
   obtain ⟨q1,q2⟩:=carry (o':=c.obj .exhausted (some (.exit id))) (E':=Y.E) hBY (Ext.refl Y).c k5 hr zaR zaR (fun _ _ h=>h)
   have hsl:s.slots.length=c.t0.size + 1:=by rw [← k8];simp [RC.act]
   obtain ⟨p1,p2⟩:=zhk (n:=s.slots.length - 1) (i:=.int .i64 j) (ds:=c.dfs) hsl (by omega) (fun t=>VRep.extC q1 (k10 t))
   exact ⟨{ Y with w:=Y.w.putObj c.l (c.obj .exhausted (some (.exit id))),E:=Y.E },k1,rfl,k3,k4,q2,k6.carry hBY k5 hr zaR zaR hlX (fun _ _ h=>h),zcI k7 hlB,by rw [← hct];exact p1,k9.turn hr zob,by rw [← hct];exact p2⟩
end
end Go.SX
namespace Go.SX
open Go.RowKit (Below)
section
variable {C:FuncId→List D→Option (List D)} {k B0:Nat} {w0:World} {Xe:Ctx} {cx:Cx} {inl:FuncId→List SV→Nat→List Root→Option Inl}
def Framed (ro:Option Nat) (w0:World) (Xe:Ctx) (c:Code):Prop:=(ro=none∧Xe.w.heap.size≤w0.heap.size)∨zcb c=true
theorem Framed.l {ro:Option Nat}{w0:World}{Xe:Ctx}{a b:Code}(h:(ro=none∧Xe.w.heap.size≤w0.heap.size)∨(zcb a&&zcb b)=true):Framed ro w0 Xe a:=h.imp id fun h=>(Bool.and_eq_true_iff.1 h).1
theorem Framed.r {ro:Option Nat}{w0:World}{Xe:Ctx}{a b:Code}(h:(ro=none∧Xe.w.heap.size≤w0.heap.size)∨(zcb a&&zcb b)=true):Framed ro w0 Xe b:=h.imp id fun h=>(Bool.and_eq_true_iff.1 h).2
theorem za0 (ty:TysOk cx) (hC:CallsOk cx C) (hI:InlOk cx C k inl) (hmix:cx.P.follows .mixedOrders=true) :
  ∀ (c:Code) {ro:Option Nat} {B0:Nat} {w0:World} {Xe:Ctx} {base:Nat} (_:Framed ro w0 Xe c) (_:B0≤w0.heap.size) (_:∀ r,Xe.A r→r<base) (m:Nat) (st:St) (E:List D) (a:Act) (w:World) (x:Ex) (st':St) (E':List D),ev C k (exec cx inl m c st) E=some (.fin x st' E')→E.length=st.nv→st.base=base→InvS B0 w0 Xe st E a w→c.wpIn (FR ro) 0 cx.P (zbt B0 w0 Xe x st' E') a w
 | .skip,ro,B0,w0,Xe,base,hf,hB0,hXA,m,st,E,a,w,x,st',E',h,hE,hb,hinv=>by
  simp only [exec,ev,wB0] at h
  injection h with e1 e2 e3
  subst e1 e2 e3
  exact wpIn_skip ⟨rfl,hinv⟩
 | .label _,ro,B0,w0,Xe,base,hf,hB0,hXA,m,st,E,a,w,x,st',E',h,hE,hb,hinv=>by
  simp only [exec,ev,wB0] at h
  injection h with e1 e2 e3
  subst e1 e2 e3
  exact wpIn_label ⟨rfl,hinv⟩
 | .exit id,ro,B0,w0,Xe,base,hf,hB0,hXA,m,st,E,a,w,x,st',E',h,hE,hb,hinv=>by
  simp only [exec,ev,wB0] at h
  injection h with e1 e2 e3
  subst e1 e2 e3
  exact wpIn_exit ⟨rfl,hinv⟩
 | .ret,ro,B0,w0,Xe,base,hf,hB0,hXA,m,st,E,a,w,x,st',E',h,hE,hb,hinv=>by
  simp only [exec,ev,wB0] at h
  injection h with e1 e2 e3
  subst e1 e2 e3
  exact wpIn_ret ⟨rfl,hinv⟩
 | .region id ops draw,ro,B0,w0,Xe,base,hf,hB0,hXA,m,st,E,a,w,x,st',E',h,hE,hb,hinv=>by
  obtain ⟨x',st1,F,e,e2,e3⟩:=zai _ _ _ _ _ h hE
  injection e with q1 q2 q3
  subst q1 q2 q3
  simp only [exec] at h
  split at h
  ·simp [ev] at h
  ·rename_i hed
   have hs:∀ r,ev C k (zco cx inl draw ops.toList (if draw=true then beforeL ops.toList [] else []) ops.toList 0 st [] []) E=some r→Shape E st.base r:=fun r hr=>by
    obtain ⟨stf,F,es,e1,e2,e3,_⟩:=zdi hr hE (fun a b hm=>by simp at hm)
    exact ⟨.normal,stf,F,e1,e2,e3.all.2.2.2.2.2⟩
   refine zgu (c:=cpc ro cx.P _) hB0 (base:=st.base) hE hinv.pre (fun r hr=>by rw [hb];exact hXA r hr) hs (fun y st1 F1 hr=>?_) h
   obtain ⟨stf,F2,es,e1,e2,e3,e4⟩:=zdi hr hE (fun a b hm=>by simp at hm)
   injection e1 with p1 p2 p3
   subst p1 p2
   have p3:=List.append_cancel_left p3
   subst p3
   cases draw with
   | false=>exact wpIn_region (zoK ty hC hI hB0 e3 (fun a w h=>⟨rfl,h⟩) (hinv.more hB0))
   | true =>
    simp only [if_true,List.reverse_nil,List.nil_append,true_implies] at e4
    refine wpIn_region_any hmix (zqU ty hC hI hB0 e3 e4 ?_ (fun a w h=>⟨rfl,h⟩) ((hinv.more hB0).drew hB0))
    simpa using hed
 | .seq c1 c2,ro,B0,w0,Xe,base,hf,hB0,hXA,m,st,E,a,w,x,st',E',h,hE,hb,hinv=>by
  simp only [exec] at h
  obtain ⟨r0,q1,q2⟩:=zfr (fun st E r hr=>zma (zaT c2 _ st) hr) h
  obtain ⟨y,st1,F,e,e2,e3⟩:=zai c1 _ st E r0 q1 hE
  subst e
  have h1:=za0 ty hC hI hmix c1 (Framed.l hf) hB0 hXA _ st E a w _ _ _ q1 hE hb hinv
  refine wpIn_seq (wpIn_mono h1 fun e a' w' ⟨he,hinv'⟩=>?_)
  subst he
  cases y with
  | normal=>exact za0 ty hC hI hmix c2 (Framed.r hf) hB0 hXA _ st1 _ a' w' _ _ _ q2 e2 (by rw [e3,hb]) hinv'
  | exit id =>
   have q2:(Res.fin x st' E')=_:=q2
   injection q2 with p1 p2 p3
   subst p1 p2 p3
   exact ⟨rfl,hinv'⟩
  | ret =>
   have q2:(Res.fin x st' E')=_:=q2
   injection q2 with p1 p2 p3
   subst p1 p2 p3
   exact ⟨rfl,hinv'⟩
 | .cond c c1 c2,ro,B0,w0,Xe,base,hf,hB0,hXA,m,st,E,a,w,x,st',E',h,hE,hb,hinv=>by
  obtain ⟨x',st1,F,e,e2,e3⟩:=zai _ _ _ _ _ h hE
  injection e with q1 q2 q3
  subst q1 q2 q3
  obtain ⟨X,x1,x2,x3,x4,x5,x6,x7,x8,x9,x10⟩:=id hinv
  have hv:=zaI (zaa (ρ:=st.slot) x10 c)
  simp only [exec] at h
  split at h
  ·rename_i hc
   rw [hc] at hv
   obtain ⟨d,hd,hdv⟩:=VRep.data.1 hv
   simp only [At.get,wB0] at hd
   subst hd
   obtain ⟨b',h1,h2⟩:=hdv.bool
   injection h1 with h1
   subst h1
   exact wpIn_cond_true h2 (za0 ty hC hI hmix c1 (Framed.l hf) hB0 hXA _ st E a w _ _ _ h hE hb hinv)
  ·rename_i hc
   rw [hc] at hv
   obtain ⟨d,hd,hdv⟩:=VRep.data.1 hv
   simp only [At.get,wB0] at hd
   subst hd
   obtain ⟨b',h1,h2⟩:=hdv.bool
   injection h1 with h1
   subst h1
   exact wpIn_cond_false h2 (za0 ty hC hI hmix c2 (Framed.r hf) hB0 hXA _ st E a w _ _ _ h hE hb hinv)
  ·rename_i at_ _ _ hc
   rw [hc] at hv
   obtain ⟨d,hd,hdv⟩:=VRep.data.1 hv
   obtain ⟨b',h1,h2⟩:=hdv.bool
   subst h1
   rw [x1] at hd
   have hs:∀ r,ev C k (.ite at_ (exec cx inl m c1 st) (exec cx inl m c2 st)) E=some r→Shape E st.base r:=fun r hr=>by
    simp only [ev] at hr
    split at hr
    ·exact zai c1 _ st E r hr hE
    ·exact zai c2 _ st E r hr hE
    ·cases hr
   refine zgu (c:=cpc ro cx.P _) hB0 (base:=st.base) hE hinv.pre (fun r hr=>by rw [hb];exact hXA r hr) hs (fun y st1 F1 hr=>?_) h
   simp only [ev,hd] at hr
   cases b' with
   | true=>exact wpIn_cond_true h2 (za0 ty hC hI hmix c1 (Framed.l hf) hB0 hXA _ st E a w _ _ _ hr hE hb hinv)
   | false=>exact wpIn_cond_false h2 (za0 ty hC hI hmix c2 (Framed.r hf) hB0 hXA _ st E a w _ _ _ hr hE hb hinv)
  ·simp [ev] at h
 | .block id b,ro,B0,w0,Xe,base,hf,hB0,hXA,m,st,E,a,w,x,st',E',h,hE,hb,hinv=>by
  obtain ⟨x',st1,F,e,e2,e3⟩:=zai _ _ _ _ _ h hE
  injection e with q1 q2 q3
  subst q1 q2 q3
  simp only [exec] at h
  have hs:∀ r,ev C k ((exec cx inl m b st).ends fun|.exit id'=>if Nat.beq id id' then .normal else .exit id'|x=>x) E=some r→Shape E st.base r:=fun r hr=>by
   obtain ⟨r0,q1,q2⟩:=zlW hr
   obtain ⟨x,st',F,e,e2,e3⟩:=zai b _ st E r0 q1 hE
   subst e
   exact ⟨_,st',F,q2,e2,e3⟩
  refine zgu (c:=cpc ro cx.P _) hB0 (base:=st.base) hE hinv.pre (fun r hr=>by rw [hb];exact hXA r hr) hs (fun y st1 F1 hr=>?_) h
  obtain ⟨r0,q1,q2⟩:=zlW hr
  obtain ⟨z,st2,F2,e,e2,e3⟩:=zai b _ st E r0 q1 hE
  subst e
  simp only [Res.ends] at q2
  injection q2 with p1 p2 p3
  subst p1 p2
  have p3:=List.append_cancel_left p3
  subst p3
  have h1:=za0 ty hC hI hmix b hf hB0 hXA _ st E a w _ _ _ q1 hE hb hinv
  refine wpIn_block (wpIn_mono h1 fun e a' w' ⟨he,hinv'⟩=>?_)
  subst he
  cases z with
  | normal=>exact ⟨rfl,hinv'⟩
  | ret=>exact ⟨rfl,hinv'⟩
  | exit id' =>
   simp only [exOf,Exit.inBlock]
   by_cases hid:id'=id
   ·subst hid
    rw [if_pos rfl,if_pos (Nat.beq_refl _)]
    exact ⟨rfl,hinv'⟩
   ·rw [if_neg hid,if_neg (fun hq=>hid (zad hq).symm)]
    exact ⟨rfl,hinv'⟩
 | .loop b,ro,B0,w0,Xe,base,hf,hB0,hXA,m,st,E,a,w,x,st',E',h,hE,hb,hinv=>by
  simp only [exec] at h
  exact zrO (zkj hB0 (zq1 ro cx.P b) hXA (fun st E r=>zai b _ st E r) (fun st E a w x st' E' h1 h2 h3 h4=>za0 ty hC hI hmix b hf hB0 hXA _ st E a w x st' E' h1 h2 h3 h4) hE hb h hinv)
 | .rangeFunc g ps x y,ro,B0,w0,Xe,base,hf,hB0,hXA,m,st,E,a,w,z,st',E',h,hE,hb,hinv=>by
  simp only [exec] at h
  split at h
  ·rename_i hc
   simp only [wD0] at hc
   obtain ⟨⟨n1,n2⟩,n3⟩:=hc
   obtain ⟨rfl,hsz⟩:ro=none∧Xe.w.heap.size≤w0.heap.size:=hf.elim id fun h=>by cases h
   exact zo9 ty hB0 hsz hXA (fun st=>zaT y _ st) (fun st E r=>zai x _ st E r) (fun st E r=>zai y _ st E r)
    (fun hB hA st E a w z st' E' h1 h2 h3 h4=>za0 ty hC hI hmix x (.inr n1) hB hA _ st E a w z st' E' h1 h2 h3 h4) (fun hB hA st E a w z st' E' h1 h2 h3 h4=>za0 ty hC hI hmix y (.inr n2) hB hA _ st E a w z st' E' h1 h2 h3 h4) (zad n3) h hE hb hinv
  ·simp [ev] at h
 | .scope _,_,_,_,_,_,_,_,_,m,st,E,a,w,x,st',E',h,hE,hb,hinv=>by simp [exec,ev] at h
 | .goto _,_,_,_,_,_,_,_,_,m,st,E,a,w,x,st',E',h,hE,hb,hinv=>by simp [exec,ev] at h
 | .refuse _,_,_,_,_,_,_,_,_,m,st,E,a,w,x,st',E',h,hE,hb,hinv=>by simp [exec,ev] at h
end
end Go.SX
namespace Go.SX
open Go.RowKit (Below)
section
variable {C:FuncId→List D→Option (List D)} {k B0:Nat} {X:Ctx} {cx:Cx}
theorem zpU {X:Ctx}:∀ {l:List SV}{vs:List Value},vs.length=l.length→(∀ t,t<l.length→VRep X ((l[t]?).getD (.un 1)) ((vs[t]?).getD undef))→VRepL X l vs
 | [],vs,hl,_=>by
  simp only [VRepL]
  exact List.eq_nil_of_length_eq_zero hl
 | s::l,[],hl,_=>by simp at hl
 | s::l,v::r,hl,h=>by
  simp only [VRepL]
  refine ⟨v,r,rfl,by simpa using h 0 (by simp),zpU (by simpa using hl) fun t ht=>?_⟩
  have:=h (t + 1) (by simpa using ht)
  simpa using this
theorem zsl {X:Ctx}{fn:Func}{args:List SV}{vals:Array Value}(h:VRepL X args vals.toList) :
  (vals++Array.replicate (fn.ntmps - vals.size) undef).size=(args++List.replicate (fn.ntmps - args.length) (SV.un 1)).length ∧
   ∀ t,VRep X (((args++List.replicate (fn.ntmps - args.length) (SV.un 1))[t]?).getD (.un 1)) ((vals++Array.replicate (fn.ntmps - vals.size) undef).getD t undef):=by
 have hl:vals.size=args.length:=by simpa using VRepL.length h
 refine ⟨by simp [hl],fun t=>?_⟩
 rcases Nat.lt_or_ge t args.length with hlt|hge
 ·rw [List.getElem?_append_left hlt,wF0 hlt]
  obtain ⟨v,e,hv⟩:=h.get (wF0 hlt)
  have e':vals[t]?=some v:=by simpa using e
  simp only [Array.getD_eq_getD_getElem?]
  rw [Array.getElem?_append_left (by omega),e']
  exact hv
 ·rw [List.getElem?_append_right hge,List.getElem?_replicate]
  have:((if t - args.length<fn.ntmps - args.length then some (SV.un 1) else none).getD (.un 1))=.un 1:=by split<;>rfl
  rw [this]
  simp only [VRep]
def zmZ (tmps:Array Value):ResultVar→Sem Value
 | .tmp t=>pure (tmps.getD t undef)
 | .cell a t=>do loadVar t (← asAddr (tmps.getD a undef))
theorem zs6 (ty:TysOk cx) {X:Ctx}{st:St}{tmps:Array Value}(m:Mem B0 X) (hμ:X.μ=st.root) (hv:∀ t,VRep X (st.slot t) (tmps.getD t undef)) {r:ResultVar}{s:SV}(h:zqu cx st r=some s) :
  ∃ v,(zmZ tmps r).run cx.P X.w=.ok v X.w∧VRep X s v:=by
 cases r with
 | tmp t =>
  simp only [zqu,wB0] at h
  subst h
  exact ⟨_,by simp [zmZ],hv t⟩
 | cell t ty' =>
  simp only [zqu] at h
  split at h
  ·rename_i R T r hs
   split at h
   ·rename_i hc
    simp only [wD0] at hc
    have hT:=Ty.beq_eq hc.1
    subst hT
    split at h
    ·rename_i v nv up ab foot hrun
     injection h with h
     subst h
     have hp:=hv t
     rw [hs] at hp
     simp only [VRep,Ref] at hp
     obtain ⟨hA,b,off,p1,p2,p3,p4⟩:=hp
     obtain ⟨_,_,g3,cs,g4,g5⟩:=zjM (C:=fun _ _=>none) (k:=0) m rfl (by rw [hμ];exact ⟨foot,hrun⟩) (by simp only [Sat]) hA p2 p3 p4
     obtain ⟨u,hr,hu⟩:=zc7 ty rfl hc.2 g3 g4 g5
     exact ⟨u,by rw [zmZ,p1];simp [asAddr,hr],hu⟩
    ·cases h
   ·cases h
  ·cases h
theorem znA (ty:TysOk cx) {X:Ctx}{st:St}{tmps:Array Value}(m:Mem B0 X) (hμ:X.μ=st.root) (hv:∀ t,VRep X (st.slot t) (tmps.getD t undef)):∀ {rs:List ResultVar}{l:List SV},zmX cx st rs=some l →
  ∃ vs,(rs.mapM (zmZ tmps)).run cx.P X.w=.ok vs X.w∧VRepL X l vs
 | [],l,h=>by
  simp only [zmX,wB0] at h
  subst h
  exact ⟨[],by simp,by simp only [VRepL]⟩
 | r::rs,l,h=>by
  simp only [zmX] at h
  split at h
  ·cases h
  ·rename_i s hs
   split at h
   ·cases h
   ·rename_i l' hl'
    injection h with h
    subst h
    obtain ⟨v,h1,h2⟩:=zs6 ty m hμ hv hs
    obtain ⟨vs,h3,h4⟩:=znA ty m hμ hv hl'
    refine ⟨v::vs,by simp [List.mapM_cons,h1,h3],?_⟩
    simp only [VRepL]
    exact ⟨v,vs,rfl,h2,h4⟩
theorem InvS.res (ty:TysOk cx) {w0:World}{Xe:Ctx}{fn:Func}{st:St}{E:List D}{a:Act}{w:World}(h:InvS B0 w0 Xe st E a w) {l:List SV}(hl:zbB cx fn st=some l) :
  ∃ vs:List Value,(results fn a.tmps).run cx.P w=.ok (zh6 vs) w∧InvS B0 w0 Xe { st with slots:=l } E { tmps:=vs.toArray,defers:=[] } w:=by
 obtain ⟨X,x1,x2,x3,x4,x5,x6,x7,x8,x9,x10⟩:=h
 obtain ⟨vs,h1,h2⟩:=znA ty x5 x3 x10 hl
 refine ⟨vs,?_,X,x1,x2,x3,x4,x5,x6,x7,by simp [VRepL.length h2],Marks.none,fun t=>?_⟩
 ·have h':fn.results=fn.results.toList.toArray:=by simp
  rw [← x2]
  have e:results fn a.tmps=(do
    let vs←fn.results.mapM (zmZ a.tmps)
    pure (if h:vs.size=1 then vs[0] else .tuple vs)):=rfl
  rw [e,h']
  simp only [List.mapM_toArray]
  simp [h1]
  match vs with
  | []=>rfl
  | [u]=>rfl
  | u::v::r=>rw [dif_neg (by simp)];rfl
 ·simp only
  cases ht:l[t]? with
  | none =>
   simp only [Option.getD_none,VRep]
  | some s =>
   obtain ⟨v,e,hv⟩:=h2.get ht
   simp only [Option.getD_some,Array.getD_eq_getD_getElem?]
   have e':vs.toArray[t]?=some v:=by simpa using e
   rw [e']
   exact hv
theorem InvS.vals {w0:World}{Xe:Ctx}{st:St}{E:List D}{vs:List Value}{w:World}(h:InvS B0 w0 Xe st E { tmps:=vs.toArray,defers:=[] } w) :
  ∃ X:Ctx,X.E=E∧X.w=w∧X.μ=st.root∧(∀ r,X.A r↔r<st.mem.length)∧Mem B0 X∧Ext Xe X∧Below B0 w0 w∧VRepL X st.slots vs:=by
 obtain ⟨X,x1,x2,x3,x4,x5,x6,x7,x8,x9,x10⟩:=h
 refine ⟨X,x1,x2,x3,x4,x5,x6,x7,zpU (by simpa using x8) fun t ht=>?_⟩
 have:=x10 t
 simp only [Array.getD_eq_getD_getElem?] at this
 simpa using this
theorem zfX {fn:Func}{st:St}{E:List D}{r:Res}(h:ev C k (zje cx fn st) E=some r):∃ l,zbB cx fn st=some l∧r=.fin .normal { st with slots:=l } E:=by
 unfold zje at h
 cases hr:zbB cx fn st with
 | none=>simp [hr,ev] at h
 | some ts =>
  simp only [hr,ev,wB0] at h
  exact ⟨ts,rfl,h.symm⟩
theorem zn2 {mk:Nat}{inl:FuncId→List SV→Nat→List Root→Option Inl}{c:Code}{st:St}{E:List D}(hE:E.length=st.nv) {r0:Res}(h:ev C k ((exec cx inl mk c st).ends retN) E=some r0) :
  ∃ x st' F,ev C k (exec cx inl mk c st) E=some (.fin x st' (E++F))∧r0=.fin (retN x) st' (E++F)∧(E++F).length=st'.nv∧st'.base=st.base:=by
 obtain ⟨r2,q1,q2⟩:=zlW h
 obtain ⟨x,st',F,e,e2,e3⟩:=zai c _ st E r2 q1 hE
 subst e
 exact ⟨x,st',F,q1,q2,e2,e3⟩
theorem zjd (ty:TysOk cx) {w0:World}{Xe:Ctx}(hsz:Xe.w.heap.size≤w0.heap.size) {fn:Func}{st:St}{E:List D}{ts:List SV}(hts:zbB cx fn st=some ts) {t:Array Value}:∀ (rs:List Nat) {w:World},InvS B0 w0 Xe st E { tmps:=t,defers:=rs.map mkD } w →
  LeavesInM (FR none) 0 cx.P fn t (fun e w'=>∃ vs:List Value,e=.returned (zh6 vs)∧InvS B0 w0 Xe { st with slots:=ts } E { tmps:=vs.toArray,defers:=[] } w') (rs.map mkD) .returning w
 | [],w,h=>by
  obtain ⟨us,r1,r2⟩:=InvS.res ty h hts
  exact ⟨_,r1,us,rfl,r2⟩
 | r::rs,w,h=>by
  obtain ⟨X,x1,x2,x3,x4,x5,x6,x7,x8,x9,x10⟩:=h
  subst x2
  obtain ⟨rs',e,nd,hr⟩:=x9
  have e:=zji e
  subst e
  obtain ⟨g1,g2,g3⟩:=hr r (List.mem_cons_self ..)
  have tn:=zbY (o':=.deferred none) g3 zmF zmF
  refine ⟨by simp,.inl ⟨r,_,rfl,run_takeDeferred g3,zjd ty hsz hts rs ?_⟩⟩
  refine ⟨{ X with w:=X.w.putObj r (.deferred none) },x1,rfl,x3,x4,(x5.turn tn).2,x6.turned x5 tn (Nat.le_trans hsz g2),zcI x7 g1,x8,⟨rs,rfl,(List.nodup_cons.1 nd).2,fun q hq=>?_⟩,fun t=>VRep.extC (x5.turn tn).1 (x10 t)⟩
  obtain ⟨q1,q2,q3⟩:=hr q (List.mem_cons_of_mem _ hq)
  exact ⟨q1,q2,(World.putObj_heap_other fun e=>(List.nodup_cons.1 nd).1 (by rw [← e];exact hq)).trans q3⟩
theorem zk9 {mk:Nat}{inl:FuncId→List SV→Nat→List Root→Option Inl}(ty:TysOk cx) (hC:CallsOk cx C) (hI:InlOk cx C k inl) (hmix:cx.P.follows .mixedOrders=true) {f:FuncId}{fn:Func}{c:Code}(hf:cx.P.funcs[f]?=some fn) (hb:fn.body=some c)
  {args:List SV} {nv:Nat} {mem:List Root} (hE:X.E.length=nv) (hA:∀ r,X.A r↔r<mem.length) (hμ:X.μ=zac mem) (m:Mem B0 X) (hB:B0≤X.w.heap.size) {vals:Array Value} (hv:VRepL X args vals.toList)
  {x:Ex} (hx:retN x=.normal) {st':St} {E':List D} (h:ev C k (exec cx inl mk c (zf8 fn args nv mem)) X.E=some (.fin x st' E')) {ts:List SV} (hts:zbB cx fn st'=some ts) :
  Calls cx.P f vals X.w fun e w'=>∃ vs:List Value,e=.returned (zh6 vs)∧InvS B0 X.w X { st' with slots:=ts } E' { tmps:=vs.toArray,defers:=[] } w':=by
 refine (callsIn_wide (n:=0)).1 (callsIn_of_wp_marks (F:=FR none) hf hb trivial ?_)
 obtain ⟨e1,e2⟩:=zsl (fn:=fn) hv
 have hinv:InvS B0 X.w X (zf8 fn args nv mem) X.E { tmps:=vals++Array.replicate (fn.ntmps - vals.size) undef,defers:=[] } X.w :=
  ⟨X,rfl,rfl,hμ,hA,m,Ext.refl _,Below.refl _ _,e1,Marks.none,e2⟩
 refine wpIn_mono (F:=FR none) (za0 ty hC hI hmix c (ro:=none) (.inl ⟨rfl,wG0 _⟩) hB (base:=mem.length) (fun r hr=>(hA r).1 hr) _ _ X.E _ X.w x st' E' h hE rfl hinv) fun e a' w' ⟨he,hi⟩=>?_
 have key:LeavesInM (FR none) 0 cx.P fn a'.tmps (fun e w'=>∃ vs:List Value,e=.returned (zh6 vs)∧InvS B0 X.w X { st' with slots:=ts } E' { tmps:=vs.toArray,defers:=[] } w') a'.defers .returning w':=by
  obtain ⟨tm,df⟩:=a'
  obtain ⟨rs,e,_⟩:=(id hi).choose_spec.2.2.2.2.2.2.2.2.1
  simp only at e
  subst e
  exact zjd ty (wG0 _) hts rs hi
 subst he
 cases x with
 | normal=>exact key
 | ret=>exact key
 | exit id=>cases hx
theorem ztR {mk:Nat}{inl:FuncId→List SV→Nat→List Root→Option Inl}{fn:Func}{c:Code}{st:St}{E:List D}(hE:E.length=st.nv) {r:Res}(h:ev C k (((exec cx inl mk c st).ends retN).andThen (zje cx fn)) E=some r) :
  (∃ id st' E',r=.fin (.exit id) st' E')∨∃ x st' F ts,retN x=.normal∧ev C k (exec cx inl mk c st) E=some (.fin x st' (E++F))∧zbB cx fn st'=some ts ∧
   r=.fin .normal { st' with slots:=ts } (E++F)∧(E++F).length=st'.nv∧st'.base=st.base:=by
 obtain ⟨r0,q1,q2⟩:=zfr (fun st E r hr=>by
  obtain ⟨ts,_,e⟩:=zfX hr
  subst e
  exact True.intro) h
 obtain ⟨x,st',F,e1,e2,e3,e4⟩:=zn2 hE q1
 subst e2
 cases x with
 | exit id=>exact .inl ⟨id,st',E++F,q2⟩
 | normal =>
  obtain ⟨ts,h1,h2⟩:=zfX q2
  exact .inr ⟨.normal,st',F,ts,rfl,e1,h1,h2,e3,e4⟩
 | ret =>
  obtain ⟨ts,h1,h2⟩:=zfX q2
  exact .inr ⟨.ret,st',F,ts,rfl,e1,h1,h2,e3,e4⟩
theorem zrl {cx:Cx}{f:FuncId}{t:TypeId}:∀ {T:Ty},zlh cx t T→zlh (zhp cx f) t T
 | .int _,h=>h
 | .bool,h=>h
 | .str,h=>h
 | .sl _,h=>h
 | .arr _ _,h=>h
 | .st _,h=>h
 | .no,h=>h
theorem TysOk.for_ {cx:Cx}(ty:TysOk cx) (f:FuncId):TysOk (zhp cx f):=⟨fun t hn=>by
 obtain ⟨i,h⟩:=ty.ty t hn
 exact ⟨i,⟨h.info,h.size,h.zero,h.known,zrl h.desc⟩⟩,ty.bk⟩
theorem CallsOk.for_ {cx:Cx}(hC:CallsOk cx C) (f:FuncId):CallsOk (zhp cx f) C:=hC
theorem InlOk.for_ {cx:Cx}{inl:FuncId→List SV→Nat→List Root→Option Inl}(hI:InlOk cx C k inl) (f:FuncId):InlOk (zhp cx f) C k inl:=hI
def zj0 (cx:Cx) (C:FuncId→List D→Option (List D)) (k:Nat) (f:FuncId) (args:List SV) (nv:Nat) (mem:List Root) (t:Tree):Prop :=
 ∀ (B0:Nat) (X:Ctx) (vals:Array Value),X.E.length=nv→(∀ r,X.A r↔r<mem.length)→X.μ=zac mem→Mem B0 X→B0≤X.w.heap.size→VRepL X args vals.toList →
  ∀ r,ev C k t X.E=some r→(∃ id st' E',r=.fin (.exit id) st' E')∨∃ st' F,r=.fin .normal st' (X.E++F)∧(X.E++F).length=st'.nv∧st'.base=mem.length ∧
   Calls cx.P f vals X.w fun e w'=>∃ us:List Value,e=.returned (zh6 us)∧InvS B0 X.w X st' (X.E++F) { tmps:=us.toArray,defers:=[] } w'
theorem zqR {mk:Nat}{inl:FuncId→List SV→Nat→List Root→Option Inl}(ty:TysOk cx) (hC:CallsOk cx C) (hI:InlOk cx C k inl) (hmix:cx.P.follows .mixedOrders=true) {f:FuncId}{fn:Func}{c:Code}(hf:cx.P.funcs[f]?=some fn) (hb:fn.body=some c)
  (args:List SV) (nv:Nat) (mem:List Root):zj0 cx C k f args nv mem (((exec cx inl mk c (zf8 fn args nv mem)).ends retN).andThen (zje cx fn)):=by
 intro B0 X vals hE hA hμ m hB hv r hev
 rcases ztR (st:=zf8 fn args nv mem) hE hev with h|⟨x,st',F,ts,hx,h1,h2,e,h3,h4⟩
 ·exact .inl h
 ·exact .inr ⟨_,F,e,h3,h4,zk9 ty hC hI hmix hf hb hE hA hμ m hB hv hx h1 h2⟩
theorem ztE {f:FuncId}{args:List SV}{nv:Nat}{mem:List Root}{t:Tree}{ls:List (St×Bool)}(hbody:zj0 cx C k f args nv mem t) {i:Inl}(hi:zuM nv mem t ls=some i) :
  ∀ (B0:Nat) (X:Ctx) (vals:Array Value),X.E.length=nv→(∀ r,X.A r↔r<mem.length)→X.μ=zac mem→Mem B0 X→B0≤X.w.heap.size→VRepL X args vals.toList →
   ∀ bk vs,ev C k i.t X.E=some (.jmp 0 bk vs)→vs.length=i.m →
    Calls cx.P f vals X.w fun e w'=>∃ v,e=.returned v∧∃ X':Ctx,X'.E=X.E++vs∧X'.w=w'∧(∀ r,X'.A r↔r<i.mem.length)∧X'.μ=zac i.mem∧Ext X X'∧Mem B0 X'∧Below B0 X.w w'∧VRep X' i.res v:=by
 intro B0 X vals hE hA hμ m hB hv bk vs hev hvs
 unfold zuM at hi
 split at hi
 ·injection hi with hi
  subst hi
  rcases hbody B0 X vals hE hA hμ m hB hv _ hev with ⟨id,st',E',e⟩|⟨st',F,e,_⟩
  ·cases e
  ·cases e
 ·revert hi
  simp only
  generalize ziI nv mem.length _=H
  intro hi
  split at hi
  ·rename_i hc
   injection hi with hi
   subst hi
   simp only [wD0,Nat.ble_eq] at hc
   have hev:ev C k (t.conv (fitJ nv H false) 0) X.E=some (.jmp 0 bk vs):=hev
   obtain ⟨r0,q1,q2⟩:=zbN (zbQ _ _ _) hev
   rcases hbody B0 X vals hE hA hμ m hB hv _ q1 with ⟨id,st',E',e⟩|⟨st',F,e,h3,h4,hcalls⟩
   ·subst e
    cases q2
   ·subst e
    have q2:ev C k (fitJ nv H false 0 st') (X.E++F)=some (.jmp 0 bk vs):=q2
    obtain ⟨sg,bs,E1,vs',f1,f2,f3,f4,f5,f6⟩:=zgr q2
    injection f4 with _ _ f4
    subst f4
    refine hcalls.mono fun e w' ⟨us,he,hi⟩=>?_
    have hi2:=zhO hB f1 hc.1 hc.2 hE h3 (fun _ _ h=>h) (fun r hr=>by
     rw [h4]
     exact (hA r).1 hr) f2 f3 hi
    obtain ⟨X',x1,x2,x3,x4,x5,x6,x7,x8⟩:=hi2.vals
    exact ⟨_,he,X',x1,x2,x4,x3,x6,x5,x7,znC x8⟩
  ·cases hi
theorem zs2 (ty:TysOk cx) (hC:CallsOk cx C) (hmix:cx.P.follows .mixedOrders=true):∀ n,InlOk cx C k (inlF cx n)
 | 0=>fun f args nv mem i hi=>by simp [inlF] at hi
 | n + 1=>fun f args nv mem i hi hlen=>by
  simp only [inlF] at hi
  split at hi
  ·cases hi
  rename_i fn hf
  split at hi
  ·cases hi
  rename_i c hb
  have hIn:InlOk (zhp cx f) C k (inlF cx n):=(zs2 ty hC hmix n).for_ f
  have hbody:zj0 cx C k f args nv mem _:=zqR (mk:=zkc fn.results.toList) (cx:=zhp cx f) (ty.for_ f) (hC.for_ f) hIn hmix hf hb args nv mem
  exact ztE hbody hi
theorem zmq {fn:Func}{Ts:List Ty}{d:Nat}{st:St}{E:List D}{r:Res}(h:ev C k (zmp cx fn Ts d st) E=some r) :
  ∃ ts as s foot E1 rs,zbB cx fn st=some ts∧(SV.viewL true Ts ts).run st.root ⟨[],st.nv,[],st.mem.length⟩=some (as,s,foot)∧zaV s.bs=true∧za2 s.bs E=some E1∧gets E1 as=some rs∧r=.jmp d false rs:=by
 unfold zmp at h
 cases hr:zbB cx fn st with
 | none=>simp [hr,ev] at h
 | some ts =>
  simp only [hr] at h
  split at h
  ·simp [ev] at h
  ·rename_i as s foot hv
   split at h
   ·rename_i hp
    rw [zcu hp] at h
    cases he:za2 s.bs E with
    | none=>simp [he] at h
    | some E1 =>
     simp only [he,ev] at h
     cases hg:gets E1 as with
     | none=>simp [hg] at h
     | some rs =>
      simp only [hg,wB0] at h
      exact ⟨ts,as,s,foot,E1,rs,rfl,hv,hp,he,hg,h.symm⟩
   ·simp [ev] at h
theorem zot (cx:Cx) (fn:Func) (Ts:List Ty):Shifts C k (zmp cx fn Ts):=by
 intro st E
 cases h:ev C k (zmp cx fn Ts 0 st) E with
 | none =>
  refine .inl fun d=>?_
  cases h':ev C k (zmp cx fn Ts d st) E with
  | none=>rfl
  | some r =>
   obtain ⟨ts,as,s,foot,E1,rs,h1,h2,h3,h4,h5,h6⟩:=zmq h'
   exfalso
   unfold zmp at h
   simp only [h1,h2,h3,if_true] at h
   rw [zcu h3,h4] at h
   simp [ev,h5] at h
 | some r =>
  obtain ⟨ts,as,s,foot,E1,rs,h1,h2,h3,h4,h5,h6⟩:=zmq h
  refine .inr ⟨false,rs,fun d=>?_⟩
  unfold zmp
  simp only [h1,h2,h3,if_true]
  rw [zcu h3,h4]
  simp [ev,h5]
def zdM (cx:Cx) (k n:Nat) (C0:FuncId→List D→Option (List D)):Nat→FuncId→List D→Option (List D)
 | 0,f,ds=>C0 f ds
 | d + 1,f,ds=>match C0 f ds with
  | some rs=>some rs
  | none=>match zaE cx n f with
   | none=>none
   | some t=>match ev (zdM cx k n C0 d) k t ds with
    | some (.jmp _ _ rs)=>some rs
    | _=>none
theorem DVals.dlen {w:World}{M:Nat→Prop}:∀ {Ts:List Ty}{ds:List D}{vs:List Value},DVals w M Ts ds vs→ds.length=Ts.length
 | [],[],[],_=>rfl
 | T::Ts,d::ds,v::vs,h=>by simp [DVals.dlen h.2]
 | [],[],_::_,h|[],_::_,_,h|_::_,[],_,h|_::_,_::_,[],h=>h.elim
theorem zuW (ty:TysOk cx) (hC:CallsOk cx C) (hmix:cx.P.follows .mixedOrders=true) {n:Nat}{f:FuncId}{fn:Func}{t:Tree}(hf:cx.P.funcs[f]?=some fn) (ht:zaE cx n f=some t) {ds rs:List D}{l:Nat}{b:Bool}(hev:ev C k t ds=some (.jmp l b rs))
  {w:World} {args:Array Value} {M:Nat→Prop} (hM:∀ b,M b→b<w.heap.size) (hv:DVals w M (zaH cx fn) ds args.toList) :
  Calls cx.P f args w fun e w'=>∃ v,e=.returned v∧Below w.heap.size w w'∧zuB w' M (zdc cx fn) rs v:=by
 unfold zaE at ht
 simp only [hf] at ht
 split at ht
 ·cases ht
 rename_i c hb
 split at ht
 ·rename_i hd
  injection ht with ht
  subst ht
  obtain ⟨r0,q1,q2⟩:=zbN (zot _ _ _) hev
  have hIn:InlOk (zhp cx f) C k (inlF cx n):=(zs2 ty hC hmix n).for_ f
  have hE:ds.length=(zaH cx fn).length:=hv.dlen
  obtain ⟨x,st',F,e1,e2,e3,e4⟩:=zn2 (st:=zf8 fn (frozen (zaH cx fn) 0) (zaH cx fn).length []) hE q1
  subst e2
  let X:Ctx:=⟨ds,w,zac [],fun _=>⟨none,[]⟩,fun _=>False,M⟩
  have m:Mem w.heap.size X:=⟨fun _ h=>h.elim,fun _ _ _ h=>h.elim,fun _ h=>h.elim,fun _ _ h=>h.elim,hM⟩
  have hXM:Keeps w w M X.M:=⟨fun _ _ _=>rfl,fun b _ hm=>by
   rintro (h|⟨r,h,_⟩)
   ·exact hm h
   ·exact h⟩
  have hv':VRepL X (frozen (zaH cx fn) 0) args.toList:=zhv (hv.keep hXM) fun j d hj=>by rw [Nat.zero_add];exact hj
  have main:retN x=.normal→Calls cx.P f args w fun e w'=>∃ v,e=.returned v∧Below w.heap.size w w'∧zuB w' M (zdc cx fn) rs v:=fun hx=>by
   rw [hx] at q2
   have q2:ev C k (zmp (zhp cx f) fn (zdc cx fn) 0 st') (ds++F)=some _:=q2
   obtain ⟨ts,as,s,foot,E1,rs',h1,h2,h3,h4,h5,h6⟩:=zmq q2
   injection h6 with _ _ h6
   subst h6
   refine (zk9 (cx:=zhp cx f) (X:=X) (ty.for_ f) (hC.for_ f) hIn hmix hf hb hE (fun r=>by simp [X]) rfl m (wG0 _) hv' hx e1 h1).mono fun e w' ⟨us,he,hi⟩=>?_
   obtain ⟨Y,x1,x2,x3,x4,x5,x6,x7,x8⟩:=hi.vals
   have hBY:w.heap.size≤Y.w.heap.size:=by rw [x2];exact x7.size
   obtain ⟨G,g1,g2,g3⟩:=zgo (C:=C) (k:=k) h4
   obtain ⟨y1,y2⟩:=x5.moreE hBY (E':=E1) (fun i d hj=>by rw [x1] at hj;rw [g1];exact get_app hj)
   have hnv:E1.length=s.nv:=by
    have:=_root_.Go.SX.X.run_outs _ _ _ h2
    simp only [zjV,Nat.add_zero] at this
    rw [g1,wI0,e3,g2,this]
   rw [hnv] at g3
   have hmv:({ Y with E:=E1 }:Ctx).mv []={ Y with E:=E1 }:=rfl
   have hμY:({ Y with E:=E1 }:Ctx).μ=st'.root:=x3
   obtain ⟨z1,z2,_,_,rs2,z5,z6⟩:=zht (C:=C) (k:=k) (B0:=w.heap.size) (X:={ Y with E:=E1 }) hBY (σ:=⟨[],st'.nv,[],st'.mem.length⟩) (by rw [hμY];exact ⟨foot,h2⟩) g3 y2 (VRepL.ext y1 x8)
   have hrs:rs2=rs:=by
    have z5:gets E1 as=some rs2:=z5
    rw [h5] at z5
    injection z5 with z5
    exact z5.symm
   subst hrs
   refine ⟨_,he,x7,us,?_,rfl⟩
   have hF:∀ b,M b→(({ Y with E:=E1 }:Ctx).mv s.up).M b:=fun b hb=>.inl (by
    show Y.F b
    rw [x6.F]
    exact hb)
   have z6:DVals Y.w (({ Y with E:=E1 }:Ctx).mv s.up).M _ _ _:=z6
   rw [x2] at z6
   exact z6.keep ⟨fun _ _ _=>rfl,fun _ _ hm hM=>hm (hF _ hM)⟩
  cases x with
  | exit id=>cases q2
  | normal=>exact main rfl
  | ret=>exact main rfl
 ·cases ht
theorem zqI (ty:TysOk cx) (hmix:cx.P.follows .mixedOrders=true) {C0:FuncId→List D→Option (List D)}(h0:CallsOk cx C0) (k n:Nat):∀ d,CallsOk cx (zdM cx k n C0 d)
 | 0=>h0
 | d + 1=>fun f fn ds rs hf hcan hdat h w args M hM hv=>by
  simp only [zdM] at h
  split at h
  ·rename_i rs' h'
   injection h with h
   subst h
   exact h0 f fn ds _ hf hcan hdat h' w args M hM hv
  ·split at h
   ·cases h
   ·rename_i t ht
    split at h
    ·rename_i hev
     injection h with h
     subst h
     exact zuW ty (zqI ty hmix h0 k n d) hmix hf ht hev hM hv
    ·cases h
end
end Go.SX
namespace Go.SX
open Go.RowKit (Below)
mutual
def Wt:Ty→D→Prop
 | .int k,.int k' n=>k'=k∧(Lit.int k n).wf=true
 | .bool,.bool _=>True
 | .str,.str s=>s.size≤maxLen
 | .sl _,.nil=>True
 | .sl e,.sl ds=>ds.length≤maxLen∧WtA e ds
 | .arr n e,.agg ds=>ds.length=n∧WtA e ds
 | .st Ts,.agg ds=>WtL Ts ds
 | _,_=>False
def WtA (e:Ty):List D→Prop
 | []=>True
 | d::ds=>Wt e d∧WtA e ds
def WtL:List Ty→List D→Prop
 | [],[]=>True
 | T::Ts,d::ds=>Wt T d∧WtL Ts ds
 | _,_=>False
end
section
variable {H:Type} {enc:TypeId×Value→H} {cx:Cx} {w:World} {sp:Nat→Bool} {held:Bool}
theorem trod_array {P:Program}{t e:TypeId}{n fuel:Nat}{cs:List Value}{x:DataW H×List MemPlace}(ht:P.underlying t=some (.array n e)) (h:DataW.trod enc P w 0 sp held fuel t cs=some x) :
  ∃ m,fuel=m + 1∧cs.length=P.cellsOf t∧∀ i,i<n→∃ y,DataW.trod enc P w 0 sp held m e ((cs.drop (i * P.cellsOf e)).take (P.cellsOf e))=some y:=by
 cases fuel with
 | zero=>simp [DataW.trod] at h
 | succ m =>
  unfold DataW.trod at h
  rw [ht] at h
  split at h<;>simp_all
  rename_i heq
  obtain ⟨e1,e2⟩:=heq
  subst e1 e2
  obtain ⟨hl,xs,hp,hd⟩:=h
  intro i hi
  have:=mapM_some_get hp i i (by simp [hi])
  have hlen:xs.length=n:=by simpa using mapM_some_length hp
  have hx:xs[i]?=some xs[i]:=wF0 (by omega)
  rw [hx] at this
  exact ⟨_,_,this⟩
theorem TyFact.cells {cx:Cx}{t:TypeId}{T:Ty}{i:TypeInfo}(h:TyFact cx t T i):cx.P.cellsOf t=T.size:=by
 simp [Program.cellsOf,h.info,h.size]
theorem zpp {M:Nat→Prop}{e:Ty}:∀ (n:Nat) (cs:List Value),cs.length=n * e.size→(∀ i,i<n→∃ d,DRep w M e d ((cs.drop (i * e.size)).take e.size)∧Wt e d)→∃ ds:List D,ds.length=n∧DRepA w M e ds cs∧WtA e ds
 | 0,cs,hl,_=>⟨[],rfl,by simp only [DRepA];exact List.eq_nil_of_length_eq_zero (by omega),trivial⟩
 | n + 1,cs,hl,h=>by
  have hl':cs.length=n * e.size + e.size:=by rw [hl,Nat.succ_mul]
  obtain ⟨d,h1,h2⟩:=h 0 (by omega)
  obtain ⟨ds,g1,g2,g3⟩:=zpp (e:=e) n (cs.drop e.size) (by rw [List.length_drop];omega) fun i hi=>by
   obtain ⟨d,q1,q2⟩:=h (i + 1) (by omega)
   refine ⟨d,?_,q2⟩
   rw [List.drop_drop]
   rw [Nat.succ_mul,Nat.add_comm] at q1
   exact q1
  refine ⟨d::ds,by simp [g1],?_,h2,g3⟩
  simp only [DRepA]
  refine ⟨cs.take e.size,cs.drop e.size,(List.take_append_drop _ _).symm,?_,g2⟩
  simpa using h1
theorem zhM {a:Addr}:∀ {n:Nat}{cs:List Value},w.cells? 0 a n=some cs→cs.length=n∧∀ j,j<n→w.cell? (a.add j)=cs[j]?:=by
 intro n cs h
 simp only [World.cells?,Nat.zero_le,if_true] at h
 exact ⟨by simpa using mapM_some_length h,fun j hj=>mapM_some_get h j j (by simp [hj])⟩
theorem flat_get {n s:Nat}(f:Nat→List Value) (hf:∀ i,i<n→(f i).length=s):∀ (m:Nat),m≤n→((List.range m).flatMap f).length=m * s∧∀ i j,i<m→j<s→((List.range m).flatMap f)[i * s + j]?=(f i)[j]?
 | 0,_=>⟨by simp,fun i j hi=>by omega⟩
 | m + 1,hm=>by
  obtain ⟨h1,h2⟩:=flat_get f hf m (by omega)
  have e:(List.range (m + 1)).flatMap f=(List.range m).flatMap f++f m:=by simp [List.range_succ,List.flatMap_append]
  rw [e]
  refine ⟨by rw [wI0,h1,hf m (by omega),Nat.succ_mul],fun i j hi hj=>?_⟩
  rcases Nat.lt_or_ge i m with hlt|hge
  ·have:i * s + j<m * s:=by
    have:(i + 1) * s≤m * s:=Nat.mul_le_mul_right s hlt
    rw [Nat.succ_mul] at this
    omega
   rw [List.getElem?_append_left (by rw [h1];exact this)]
   exact h2 i j hlt hj
  ·have:i=m:=by omega
   subst this
   rw [List.getElem?_append_right (by rw [h1];omega),h1]
   congr 1
   omega
theorem zgH {T:Ty}(h:T.known=true):T≠.no:=by
 rintro rfl
 cases h
theorem zg6 (ty:TysOk cx):∀ (fuel:Nat) (t:TypeId) (T:Ty) (cs:List Value) (x:DataW H×List MemPlace),cx.T t=T→T.known=true→DataW.trod enc cx.P w 0 sp held fuel t cs=some x→∃ d,DRep w (fun _=>False) T d cs∧Wt T d
 | 0,t,T,cs,x,_,_,h=>by simp [DataW.trod] at h
 | fuel + 1,t,T,cs,x,hT,hn,h=>by
  obtain ⟨i,tf⟩:=ty.get hT (zgH hn)
  have hdesc:=tf.desc
  cases T with
  | no=>cases hn
  | int k =>
   obtain ⟨n,e1,_,e3⟩:=DataW.trod_int hdesc h
   exact ⟨.int k n,⟨rfl,e1⟩,rfl,e3⟩
  | bool =>
   obtain ⟨b,e1,_⟩:=DataW.trod_bool hdesc h
   exact ⟨.bool b,e1,trivial⟩
  | str =>
   obtain ⟨s,e1,_,e3⟩:=DataW.trod_string hdesc h
   exact ⟨.str s,e1,e3⟩
  | sl e =>
   obtain ⟨E,hu,hE⟩:=hdesc
   have hne:e.known=true:=by simpa [Ty.known] using hn
   obtain ⟨i',tf'⟩:=ty.get hE (zgH hne)
   rcases DataW.trod_slice hu h with ⟨e1,_⟩|⟨a,len,cap,elems,rest,m,e1,e2,e3,e4,e5,e6,e7,e8,_⟩
   ·exact ⟨.nil,e1,trivial⟩
   ·injection e1 with e1
    subst e1
    rw [tf'.cells] at e8
    have one:∀ i,i<len→∃ cs',w.cells? 0 (a.add (i * e.size)) e.size=some cs'∧∃ d,DRep w (fun _=>False) e d cs'∧Wt e d:=fun i hi=>by
     have:=e8 i hi
     rw [wF0 (by omega),Option.bind_eq_some_iff] at this
     obtain ⟨cs',h1,h2⟩:=this
     obtain ⟨d,h3,h4⟩:=zg6 ty fuel E e cs' _ hE hne h2
     exact ⟨cs',h1,d,h3,h4⟩
    let f:Nat→List Value:=fun i=>(w.cells? 0 (a.add (i * e.size)) e.size).getD []
    have hf:∀ i,i<len→(f i).length=e.size:=fun i hi=>by
     obtain ⟨cs',h1,_⟩:=one i hi
     simp only [f,h1,Option.getD_some]
     exact (zhM h1).1
    obtain ⟨g1,g2⟩:=flat_get f hf len (wG0 _)
    obtain ⟨ds,q1,q2,q3⟩:=zpp (w:=w) (M:=fun _=>False) (e:=e) len ((List.range len).flatMap f) g1 fun i hi=>by
     obtain ⟨cs',h1,d,h3,h4⟩:=one i hi
     refine ⟨d,?_,h4⟩
     have:(((List.range len).flatMap f).drop (i * e.size)).take e.size=cs':=by
      have hl:=(zhM h1).1
      apply List.ext_getElem?
      intro j
      rw [List.getElem?_take]
      split
      ·rename_i hj
       rw [List.getElem?_drop,g2 i j hi hj]
       simp only [f,h1,Option.getD_some]
      ·rename_i hj
       rw [List.getElem?_eq_none (by omega)]
     rw [this]
     exact h3
    refine ⟨.sl ds,⟨a,cap,(List.range len).flatMap f,by rw [q1];exact e2,by rw [q1];exact e5,q2,fun j v hj=>?_,fun _ h=>h⟩,by omega,q3⟩
    have hjl:j<len * e.size:=by rw [← g1];exact (List.getElem?_eq_some_iff.1 hj).1
    have hpos:0<e.size:=by
     rcases Nat.eq_zero_or_pos e.size with h0|h0
     ·rw [h0,Nat.mul_zero] at hjl;omega
     ·exact h0
    have hdiv:j / e.size<len:=by
     rw [Nat.div_lt_iff_lt_mul hpos]
     exact hjl
    have hmod:=Nat.mod_lt j hpos
    have hjj:j / e.size * e.size + j % e.size=j:=by rw [Nat.mul_comm];exact Nat.div_add_mod j e.size
    have:=g2 _ _ hdiv hmod
    rw [hjj,hj] at this
    obtain ⟨cs',h1,_⟩:=one _ hdiv
    simp only [f,h1,Option.getD_some] at this
    have:=((zhM h1).2 _ hmod).trans this.symm
    rw [add_add,hjj] at this
    exact this
  | arr n e =>
   obtain ⟨E,hu,hE⟩:=hdesc
   have hne:e.known=true:=by simpa [Ty.known] using hn
   obtain ⟨i',tf'⟩:=ty.get hE (zgH hne)
   obtain ⟨m,e1,e2,e3⟩:=trod_array hu h
   injection e1 with e1
   subst e1
   rw [tf.cells] at e2
   rw [tf'.cells] at e3
   obtain ⟨ds,q1,q2,q3⟩:=zpp (w:=w) (M:=fun _=>False) (e:=e) n cs (by simpa [Ty.size] using e2) fun i hi=>by
    obtain ⟨y,hy⟩:=e3 i hi
    exact zg6 ty fuel E e _ _ hE hne hy
   exact ⟨.agg ds,⟨q1,q2⟩,q1,q3⟩
  | st Ts =>
   obtain ⟨fs,hu,hTs,hoff⟩:=hdesc
   obtain ⟨xs,m,e1,_,e3,e4,e5⟩:=DataW.trod_struct hu h
   injection e1 with e1
   subst e1
   rw [tf.cells] at e3
   have hkn:Ty.knownL Ts=true:=by simpa [Ty.known] using hn
   have main:∀ (l:List Field) (n k:Nat),zeb cx.T l n=true→n≤cs.length→(cs.length=n + Ty.sizeL (l.map fun f=>cx.T f.type))→Ty.knownL (l.map fun f=>cx.T f.type)=true →
     (∀ i f,l[i]?=some f→fs[k + i]?=some f)→∃ ds,DRepL w (fun _=>False) (l.map fun f=>cx.T f.type) ds (cs.drop n)∧WtL (l.map fun f=>cx.T f.type) ds:=by
    intro l
    induction l with
    | nil =>
     intro n k _ _ hlen _ _
     refine ⟨[],?_,trivial⟩
     simp only [List.map_nil,DRepL]
     simp only [List.map_nil,Ty.sizeL,Nat.add_zero] at hlen
     exact List.drop_eq_nil_of_le (by omega)
    | cons f l ih =>
     intro n k ho hle hlen hk hfs
     simp only [zeb,wD0] at ho
     simp only [List.map_cons,Ty.sizeL] at hlen
     simp only [List.map_cons,Ty.knownL,wD0] at hk
     have hoffs:=zad ho.1
     obtain ⟨i'',tf''⟩:=ty.get (T:=cx.T f.type) rfl (zgH hk.1)
     have hf0:=hfs 0 f rfl
     rw [Nat.add_zero] at hf0
     have hx:=e5 k f hf0
     rw [tf''.cells,hoffs] at hx
     have hkl:k<xs.length:=by
      rw [e4]
      exact (Array.getElem?_eq_some_iff.1 hf0).1
     rw [wF0 hkl] at hx
     obtain ⟨d,h1,h2⟩:=zg6 ty fuel f.type (cx.T f.type) _ _ rfl hk.1 hx
     obtain ⟨ds,h3,h4⟩:=ih (n + (cx.T f.type).size) (k + 1) ho.2 (by omega) (by omega) hk.2 fun i g hg=>by
      have:=hfs (i + 1) g (by simpa using hg)
      rw [← this]
      congr 1
      omega
     refine ⟨d::ds,?_,h2,h4⟩
     simp only [List.map_cons,DRepL]
     refine ⟨_,_,(List.take_append_drop (cx.T f.type).size _).symm,h1,?_⟩
     rw [List.drop_drop]
     exact h3
   rw [hTs] at hkn e3
   simp only [Ty.size] at e3
   obtain ⟨ds,h1,h2⟩:=main fs.toList 0 0 hoff (Nat.zero_le _) (by rw [e3,Nat.zero_add]) hkn fun i f hf=>by
    rw [Nat.zero_add]
    simpa using hf
   rw [List.drop_zero,← hTs] at h1
   rw [← hTs] at h2
   exact ⟨.agg ds,h1,h2⟩
end
end Go.SX
namespace Go.SX
open Go.RowKit (Below okWide_bool_mk ok_one shut_bool)
section
variable {H:Type} {enc:TypeId×Value→H} {cx:Cx} {w:World} {sp:Nat→Bool} {held:Bool}
theorem zvg {t:TypeId}{T:Ty}{i:TypeInfo}{M:Nat→Prop}{r:Reach}{base:Nat}{v:Value}{d:D}(tf:TyFact cx t T i) (hval:Value.okWide cx.P w r base t v) (h:DRep w M T d v.cells.toList):DVal w M T d v:=by
 have hdesc:=tf.desc
 unfold DVal
 cases T with
 | no=>cases hdesc
 | int k =>
  have hu:cx.P.underlying t=some (.int k):=hdesc
  simp only [Value.okWide,hu,Cell.okWide] at hval
  cases v<;>simp only [Cell.ok,hu] at hval
  simp only [Ty.isAgg,wA0,if_false]
  exact ⟨⟨nofun,nofun⟩,h⟩
 | bool =>
  have hu:cx.P.underlying t=some .bool:=hdesc
  simp only [Value.okWide,hu,Cell.okWide] at hval
  cases v<;>simp only [Cell.ok,hu] at hval
  simp only [Ty.isAgg,wA0,if_false]
  exact ⟨⟨nofun,nofun⟩,h⟩
 | str =>
  have hu:cx.P.underlying t=some .string:=hdesc
  simp only [Value.okWide,hu,Cell.okWide] at hval
  cases v<;>simp only [Cell.ok,hu] at hval
  simp only [Ty.isAgg,wA0,if_false]
  exact ⟨⟨nofun,nofun⟩,h⟩
 | sl e =>
  obtain ⟨E,hu,_⟩:=hdesc
  simp only [Value.okWide,hu,Cell.okWide] at hval
  cases v<;>simp only [Cell.ok,hu] at hval
  simp only [Ty.isAgg,wA0,if_false]
  exact ⟨⟨nofun,nofun⟩,h⟩
 | arr n e =>
  obtain ⟨E,hu,_⟩:=hdesc
  simp only [Value.okWide,hu] at hval
  obtain ⟨cs,e1,_⟩:=hval
  subst e1
  simp only [Ty.isAgg,if_true]
  exact ⟨cs,rfl,h⟩
 | st Ts =>
  obtain ⟨fs,hu,_⟩:=hdesc
  simp only [Value.okWide,hu] at hval
  obtain ⟨cs,e1,_⟩:=hval
  subst e1
  simp only [Ty.isAgg,if_true]
  exact ⟨cs,rfl,h⟩
theorem zmS (ty:TysOk cx) {r:Reach}{base:Nat}:∀ {ts:List TypeId}{vs:List Value}{ds:List (DataW H)}{ps:List MemPlace},Ty.knownL (ts.map cx.T)=true→(∀ (j:Nat) t v,ts[j]?=some t→vs[j]?=some v→Value.okWide cx.P w r base t v) →
  DataW.TrodAll enc cx.P w 0 sp held ts vs ds ps→∃ Ds,DVals w (fun _=>False) (ts.map cx.T) Ds vs∧WtL (ts.map cx.T) Ds
 | [],[],[],ps,_,_,h=>⟨[],trivial,trivial⟩
 | t::ts,v::vs,d::ds,ps,hk,hval,h=>by
  simp only [List.map_cons,Ty.knownL,wD0] at hk
  obtain ⟨p,q,⟨fuel,h1⟩,h2,_⟩:=h
  obtain ⟨i,tf⟩:=ty.get (T:=cx.T t) rfl (zgH hk.1)
  obtain ⟨D1,g1,g2⟩:=zg6 ty fuel t (cx.T t) _ _ rfl hk.1 h1
  obtain ⟨Ds,g3,g4⟩:=zmS ty hk.2 (fun j t' v' hj hv=>hval (j + 1) t' v' (by simpa using hj) (by simpa using hv)) h2
  exact ⟨D1::Ds,⟨zvg tf (hval 0 t v rfl rfl) g1,g3⟩,g2,g4⟩
 | [],_::_,_,_,_,_,h|[],[],_::_,_,_,_,h|_::_,[],_,_,_,_,h|_::_,_::_,[],_,_,_,h=>by simp [DataW.TrodAll] at h
theorem znL {P:Program}(hl:laidOutB P=true) {w':World}:∀ {ts:List TypeId}{vs:List Value}{ds:List (DataW H)}{ps:List MemPlace},ts.all (fun t=>P.readableRec t&&Nat.blt t P.types.size)=true →
  DataW.TrodAll enc P w 0 (fun _=>true) true ts vs ds ps→Below w.heap.size w w'→(∀ x∈ps,x.block<w.heap.size)→DataW.TrodAll enc P w' 0 (fun b=>decide (b<w.heap.size)) true ts vs ds ps
 | [],[],[],ps,_,h,_,_=>h
 | t::ts,v::vs,d::ds,ps,hk,h,hb,hlt=>by
  simp only [List.all_cons,wD0,Nat.blt_eq] at hk
  obtain ⟨p,q,h1,h2,e⟩:=h
  subst e
  exact ⟨p,q,Go.RowKit.Below.trod hl hk.1.1 hk.1.2 h1 hb (fun x hx=>hlt x (List.mem_append.2 (.inl hx))),znL hl (by simpa using hk.2) h2 hb (fun x hx=>hlt x (List.mem_append.2 (.inr hx))),rfl⟩
 | [],_::_,_,_,_,h,_,_|[],[],_::_,_,_,h,_,_|_::_,[],_,_,_,h,_,_|_::_,_::_,[],_,_,h,_,_=>by simp [DataW.TrodAll] at h
theorem TrodAll.dlen {P:Program}{base:Nat}:∀ {ts:List TypeId}{vs:List Value}{ds:List (DataW H)}{ps:List MemPlace},DataW.TrodAll enc P w base sp held ts vs ds ps→ds.length=ts.length
 | [],[],[],ps,_=>rfl
 | t::ts,v::vs,d::ds,ps,h=>by
  obtain ⟨p,q,_,h2,_⟩:=h
  simp [TrodAll.dlen h2]
 | [],_::_,_,_,h|[],[],_::_,_,h|_::_,[],_,_,h|_::_,_::_,[],_,h=>by simp [DataW.TrodAll] at h
end
theorem zsC {cx:Cx}{C:Checked}(hP:cx.P=C.prog) (ty:TysOk cx) (hmix:C.prog.follows .mixedOrders=true) {C0:FuncId→List D→Option (List D)}(h0:CallsOk cx C0) (n:Nat)
  {os:Os} {f:FuncId} {fn:Func} {H:Type} {enc:TypeId×Value→H} {s:ChangeSpec} {conds:List PathCond}
  (own:ownKnob C.prog.godebug=none) (hl:laidOutB C.prog=true) (started:os.Started) (noInit:C.prog.inits.idxOf? f=none) (hfn:C.prog.funcs[f]?=some fn)
  (hcan:ze0 fn=true) (hdat:zlg cx f fn=true) (hread:fn.params.toList.all (fun t=>C.prog.readableRec t&&Nat.blt t C.prog.types.size)=true)
  {tb:TypeId} (hres:fn.resultTypes=#[tb]) (htb:C.prog.underlying tb=some .bool) (hTb:cx.T tb=.bool) (hvars:s.vars=[])
  (hspec:∀ ds:List (DataW H),ds.length=fn.params.toList.length→s.fn H ds={ results:=[.lit (.bool true)],args:=ds })
  (hlaw:∀ Ds,WtL (zaH cx fn) Ds→∃ k d,zdM cx k n C0 d f Ds=some [.bool true])
  (witness:∃ (w:World) (tape:Tape) (i:Input),w.os=os∧(w.forCall tape i).Shaped C.prog∧i.vars=[]∧Input.okWide C.prog (w.forCall tape i) .any w.heap.size f i ∧
   s.pre6 enc C.prog fn conds false (w.forCall tape i).memory i.args∧({}:Assume).holds C.prog (lone (Frame.enter C.prog f i.args .normal) [] (w.forCall tape i))) :
  ReturnsInHanded {} C os f .any (s.pre6 enc C.prog fn conds false) (s.post enc C.prog fn false true false false):=by
 refine returnsInHanded_of_change own started noInit hfn witness ?_
 intro W base args ds gs before hval hW _ _
 have hW':=hW
 obtain ⟨p,q,hA,hV,e,hfz,hnd⟩:=hW
 rw [hvars] at hV
 have hgs:gs=[]∧q=[]:=by
  cases gs with
  | nil=>exact ⟨rfl,hV⟩
  | cons g gs=>simp [DataW.TrodVars] at hV
 obtain ⟨hg,hq⟩:=hgs
 subst hg hq
 rw [List.append_nil] at e
 subst e
 have hkn:Ty.knownL (fn.params.toList.map cx.T)=true:=by
  unfold zlg at hdat
  simp only [wD0] at hdat
  exact hdat.1.2
 rw [← hP] at hA hval
 obtain ⟨Ds,g1,g2⟩:=zmS ty hkn (fun j t v hj hv=>hval j t v (by simpa using hj) (by simpa using hv)) hA
 rw [hP] at hA hval
 obtain ⟨k,d,hlaw'⟩:=hlaw Ds g2
 have hcalls:=zqI ty (by rw [hP];exact hmix) h0 k n d f fn Ds _ (by rw [hP];exact hfn) hcan hdat hlaw' W args (fun _=>False) (fun _ h=>h.elim) g1
 rw [hP] at hcalls
 refine hcalls.mono fun e W' ⟨v,he,hb,vs,hv,hr⟩=>⟨v,he,?_⟩
 have hrt:zdc cx fn=[.bool]:=by
  unfold zdc
  rw [hres]
  simp [hTb]
 rw [hrt] at hv
 have hvt:v=.bool true:=by
  cases vs with
  | nil=>exact hv.elim
  | cons u us =>
   obtain ⟨hu,hus⟩:=hv
   cases us with
   | cons _ _=>exact hus.elim
   | nil =>
    have:u=.bool true:=by
     simp only [DVal,Ty.isAgg,wA0,if_false,DRep] at hu
     simpa using hu.2
    rw [hr,this]
    rfl
 subst hvt
 have hlen:(ds++([]:List (DataW H))).length=fn.params.toList.length:=by rw [List.append_nil];exact TrodAll.dlen hA
 have hs:=hspec _ hlen
 refine ⟨ds,[],before,[],before,[],hW',?_,?_,?_,hb.frame _,nofun⟩
 ·rw [hs,hres]
  exact Go.ChangeShapes.trodAll_mk1 (shut_bool htb true)
 ·rw [hs]
  simp only [List.append_nil]
  exact znL hl hread hA hb (fun x hx=>hW'.lt x hx)
 ·rw [hvars,hs]
  exact rfl
end Go.SX
namespace Go.SX
theorem zeR {f g:List D→Option Res}(h:∀ vs r,f vs=some r→g vs=some r):∀ {k k':Nat}{vs:List D}{r:Res},k≤k'→iter f k vs=some r→iter g k' vs=some r
 | 0,_,_,_,_,hi=>by simp [iter] at hi
 | k + 1,0,_,_,hk,_=>by omega
 | k + 1,k' + 1,vs,r,hk,hi=>by
  simp only [iter] at hi ⊢
  split at hi
  ·rename_i vs' hq
   rw [h _ _ hq]
   exact zeR h (by omega) hi
  ·rename_i hne
   have:=h _ _ hi
   rw [this]
   split
   ·rename_i vs' hq
    injection hq with hq
    subst hq
    exact absurd hi (hne vs')
   ·rfl
theorem zbk {C C':FuncId→List D→Option (List D)}(hC:∀ f ds rs,C f ds=some rs→C' f ds=some rs) {k k':Nat}(hk:k≤k'):∀ {t:Tree}{E:List D}{r:Res},ev C k t E=some r→ev C' k' t E=some r
 | .prim p as t,E,r,h=>by
  simp only [ev] at h ⊢
  split at h
  ·cases h
  ·split at h
   ·cases h
   ·exact zbk hC hk h
 | .call f as m t,E,r,h=>by
  simp only [ev] at h ⊢
  split at h
  ·cases h
  ·split at h
   ·cases h
   ·rename_i vs _ ds hq
    rw [hC _ _ _ hq]
    split at h
    ·rename_i hl
     simp only [hl,if_true]
     exact zbk hC hk h
    ·cases h
 | .sub t m u,E,r,h=>by
  simp only [ev] at h ⊢
  split at h
  ·cases h
  ·rename_i b vs hq
   rw [zbk hC hk hq]
   simp only
   split at h
   ·rename_i hl
    simp only [hl,if_true]
    exact zbk hC hk h
   ·cases h
  ·rename_i r0 hne hq
   rw [zbk hC hk hq]
   cases r0 with
   | jmp l b vs =>
    cases l with
    | zero=>exact absurd rfl (hne b vs)
    | succ l=>exact h
   | fin x st E'=>exact h
 | .loop init b,E,r,h=>by
  simp only [ev] at h ⊢
  split at h
  ·cases h
  ·split at h
   ·cases h
   ·rename_i vs _ r0 hq
    rw [zeR (fun vs r hv=>zbk hC hk hv) hk hq]
    exact h
 | .ite c a b,E,r,h=>by
  simp only [ev] at h ⊢
  split at h
  ·exact zbk hC hk h
  ·exact zbk hC hk h
  ·cases h
 | .jmp l b as,E,r,h=>h
 | .fin x st,E,r,h=>h
 | .fail _,E,r,h=>h
section
variable (cx:Cx) (n:Nat) (C0:FuncId→List D→Option (List D))
theorem zaZ {k k':Nat}(hk:k≤k'):∀ {d d':Nat}{f:FuncId}{ds rs:List D},d≤d'→zdM cx k n C0 d f ds=some rs→zdM cx k' n C0 d' f ds=some rs
 | 0,d',f,ds,rs,_,h=>by
  have h:C0 f ds=some rs:=h
  cases d' with
  | zero=>exact h
  | succ d'=>simp only [zdM,h]
 | d + 1,0,_,_,_,hd,_=>by omega
 | d + 1,d' + 1,f,ds,rs,hd,h=>by
  simp only [zdM] at h ⊢
  cases h0:C0 f ds with
  | some rs' =>
   simp only [h0] at h ⊢
   exact h
  | none =>
   simp only [h0] at h ⊢
   cases ht:zaE cx n f with
   | none=>simp [ht] at h
   | some t =>
    simp only [ht] at h ⊢
    split at h
    ·rename_i hq
     rw [zbk (fun f ds rs hr=>zaZ hk (Nat.le_of_succ_le_succ hd) hr) hk hq]
     exact h
    ·cases h
open Classical in
noncomputable def lim {α:Type}(f:Nat→Nat→Option α):Option α:=if h:∃ r,∃ k d,f k d=some r then some h.choose else none
def zvB {α:Type}(f:Nat→Nat→Option α):Prop:=∀ k k' d d' r,k≤k'→d≤d'→f k d=some r→f k' d'=some r
theorem zlC {α:Type}{f:Nat→Nat→Option α}(hf:zvB f) {r:α}:lim f=some r↔∃ k d,f k d=some r:=by
 unfold lim
 split
 ·rename_i h
  obtain ⟨k,d,hr⟩:=h.choose_spec
  constructor
  ·intro e
   injection e with e
   exact ⟨k,d,by rw [← e];exact hr⟩
  ·rintro ⟨k',d',hr'⟩
   have h1:=hf _ (max k k') _ (max d d') _ (by omega) (by omega) hr
   have h2:=hf _ (max k k') _ (max d d') _ (by omega) (by omega) hr'
   rw [h1] at h2
   exact h2
 ·rename_i h
  constructor
  ·intro e;cases e
  ·rintro ⟨k,d,hr⟩
   exact absurd ⟨r,k,d,hr⟩ h
noncomputable def zrq (f:FuncId) (ds:List D):Option (List D):=lim fun k d=>zdM cx k n C0 d f ds
noncomputable def evL (t:Tree) (E:List D):Option Res:=lim fun k d=>ev (zdM cx k n C0 d) k t E
noncomputable def ztc (b:Tree) (E vs:List D):Option Res:=lim fun k d=>iter (fun vs=>ev (zdM cx k n C0 d) k b (E++vs)) k vs
theorem zdX {f:FuncId}{ds rs:List D}:zrq cx n C0 f ds=some rs↔∃ k d,zdM cx k n C0 d f ds=some rs:=zlC fun _ _ _ _ _ hk hd h=>zaZ cx n C0 hk hd h
theorem zaw {t:Tree}{E:List D}{r:Res}:evL cx n C0 t E=some r↔∃ k d,ev (zdM cx k n C0 d) k t E=some r :=
 zlC (f:=fun k d=>ev (zdM cx k n C0 d) k t E) fun _ _ _ _ _ hk hd h=>zbk (fun _ _ _ h=>zaZ cx n C0 hk hd h) hk h
theorem zd4 {b:Tree}{E vs:List D}{r:Res}:ztc cx n C0 b E vs=some r↔∃ k d,iter (fun vs=>ev (zdM cx k n C0 d) k b (E++vs)) k vs=some r :=
 zlC (f:=fun k d=>iter (fun vs=>ev (zdM cx k n C0 d) k b (E++vs)) k vs) fun _ _ _ _ _ hk hd h=>zeR (fun _ _ h=>zbk (fun _ _ _ h=>zaZ cx n C0 hk hd h) hk h) hk h
theorem ztG {p:Prim}{as:List At}{t:Tree}{E:List D}:evL cx n C0 (.prim p as t) E=match gets E as with
  | some vs=>match p.run vs with
   | some d=>evL cx n C0 t (E++[d])
   | none=>none
  | none=>none:=by
 apply Option.ext
 intro r
 rw [zaw]
 simp only [ev]
 cases gets E as with
 | none=>simp
 | some vs =>
  simp only
  cases p.run vs with
  | none=>simp
  | some d=>simp only;rw [zaw]
theorem ztA {f:FuncId}{as:List At}{m:Nat}{t:Tree}{E:List D}:evL cx n C0 (.call f as m t) E=match gets E as with
  | some vs=>match zrq cx n C0 f vs with
   | some ds=>if ds.length=m then evL cx n C0 t (E++ds) else none
   | none=>none
  | none=>none:=by
 apply Option.ext
 intro r
 rw [zaw]
 simp only [ev]
 cases gets E as with
 | none=>simp
 | some vs =>
  simp only
  constructor
  ·rintro ⟨k,d,h⟩
   split at h
   ·cases h
   ·rename_i ds hq
    rw [(zdX cx n C0).2 ⟨k,d,hq⟩]
    simp only
    split at h
    ·rename_i hl
     simp only [hl,if_true]
     exact (zaw cx n C0).2 ⟨k,d,h⟩
    ·cases h
  ·intro h
   split at h
   ·rename_i ds hq
    obtain ⟨k,d,hq⟩:=(zdX cx n C0).1 hq
    split at h
    ·rename_i hl
     obtain ⟨k',d',h⟩:=(zaw cx n C0).1 h
     refine ⟨max k k',max d d',?_⟩
     rw [zaZ cx n C0 (by omega) (by omega) hq]
     simp only [hl,if_true]
     exact zbk (fun _ _ _=>zaZ cx n C0 (by omega) (by omega)) (by omega) h
    ·cases h
   ·cases h
theorem zrQ {t:Tree}{m:Nat}{u:Tree}{E:List D}:evL cx n C0 (.sub t m u) E=match evL cx n C0 t E with
  | some (.jmp 0 _ vs)=>if vs.length=m then evL cx n C0 u (E++vs) else none
  | some r=>r.up
  | none=>none:=by
 apply Option.ext
 intro r
 rw [zaw]
 simp only [ev]
 constructor
 ·rintro ⟨k,d,h⟩
  split at h
  ·cases h
  ·rename_i b vs hq
   rw [(zaw cx n C0).2 ⟨k,d,hq⟩]
   simp only
   split at h
   ·rename_i hl
    simp only [hl,if_true]
    exact (zaw cx n C0).2 ⟨k,d,h⟩
   ·cases h
  ·rename_i r0 hne hq
   rw [(zaw cx n C0).2 ⟨k,d,hq⟩]
   cases r0 with
   | jmp l b vs =>
    cases l with
    | zero=>exact absurd rfl (hne b vs)
    | succ l=>exact h
   | fin x st E'=>exact h
 ·intro h
  split at h
  ·rename_i b vs hq
   obtain ⟨k,d,hq⟩:=(zaw cx n C0).1 hq
   split at h
   ·rename_i hl
    obtain ⟨k',d',h⟩:=(zaw cx n C0).1 h
    refine ⟨max k k',max d d',?_⟩
    rw [zbk (fun _ _ _=>zaZ cx n C0 (by omega:k≤max k k') (by omega:d≤max d d')) (by omega) hq]
    simp only [hl,if_true]
    exact zbk (fun _ _ _=>zaZ cx n C0 (by omega) (by omega)) (by omega) h
   ·cases h
  ·rename_i r0 hne hq
   obtain ⟨k,d,hq⟩:=(zaw cx n C0).1 hq
   refine ⟨k,d,?_⟩
   rw [hq]
   cases r0 with
   | jmp l b vs =>
    cases l with
    | zero=>exact absurd rfl (hne b vs)
    | succ l=>exact h
   | fin x st E'=>exact h
  ·cases h
theorem ztz {init:List At}{b:Tree}{E:List D}:evL cx n C0 (.loop init b) E=match gets E init with
  | some vs=>match ztc cx n C0 b E vs with
   | some r=>r.up
   | none=>none
  | none=>none:=by
 apply Option.ext
 intro r
 rw [zaw]
 simp only [ev]
 cases gets E init with
 | none=>simp
 | some vs =>
  simp only
  constructor
  ·rintro ⟨k,d,h⟩
   split at h
   ·cases h
   ·rename_i r0 hq
    rw [(zd4 cx n C0).2 ⟨k,d,hq⟩]
    exact h
  ·intro h
   split at h
   ·rename_i r0 hq
    obtain ⟨k,d,hq⟩:=(zd4 cx n C0).1 hq
    exact ⟨k,d,by rw [hq];exact h⟩
   ·cases h
theorem zqo {b:Tree}{E vs:List D}:ztc cx n C0 b E vs=match evL cx n C0 b (E++vs) with
  | some (.jmp 0 true vs')=>ztc cx n C0 b E vs'
  | r=>r:=by
 apply Option.ext
 intro r
 rw [zd4]
 constructor
 ·rintro ⟨k,d,h⟩
  cases k with
  | zero=>simp [iter] at h
  | succ k =>
   simp only [iter] at h
   split at h
   ·rename_i vs' hq
    rw [(zaw cx n C0).2 ⟨_,_,hq⟩]
    exact (zd4 cx n C0).2 ⟨k + 1,d,zeR (fun _ _ h=>h) (by omega) h⟩
   ·rename_i hne
    rw [(zaw cx n C0).2 ⟨_,_,h⟩]
    split
    ·rename_i vs' hq
     injection hq with hq
     subst hq
     exact absurd h (hne vs')
    ·rfl
 ·intro h
  split at h
  ·rename_i vs' hq
   obtain ⟨k,d,hq⟩:=(zaw cx n C0).1 hq
   obtain ⟨k',d',h⟩:=(zd4 cx n C0).1 h
   have hq':=zbk (fun _ _ _=>zaZ cx n C0 (by omega:k≤max k k' + 1) (by omega:d≤max d d')) (by omega:k≤max k k' + 1) hq
   refine ⟨max k k' + 1,max d d',?_⟩
   simp only [iter]
   rw [hq']
   simp only
   exact zeR (fun _ _ h=>zbk (fun _ _ _=>zaZ cx n C0 (by omega) (by omega)) (by omega) h) (by omega) h
  ·rename_i hne
   obtain ⟨k,d,h⟩:=(zaw cx n C0).1 h
   refine ⟨k + 1,d,?_⟩
   simp only [iter]
   rw [zbk (fun _ _ _=>zaZ cx n C0 (by omega:k≤k + 1) (wG0 d)) (by omega:k≤k + 1) h]
   split
   ·rename_i vs' hq
    injection hq with hq
    subst hq
    exact absurd ((zaw cx n C0).2 ⟨k,d,h⟩) (hne vs')
   ·rfl
theorem zmC {c:At}{t u:Tree}{E:List D}:evL cx n C0 (.ite c t u) E=match c.get E with
  | some (.bool true)=>evL cx n C0 t E
  | some (.bool false)=>evL cx n C0 u E
  | _=>none:=by
 apply Option.ext
 intro r
 rw [zaw]
 simp only [ev]
 cases c.get E with
 | none=>simp
 | some x =>
  cases x with
  | bool b=>cases b<;>(simp only;rw [zaw])
  | _=>simp
theorem zl1 {l:Nat}{b:Bool}{as:List At}{E:List D}:evL cx n C0 (.jmp l b as) E=match gets E as with
  | some vs=>some (.jmp l b vs)
  | none=>none:=by
 apply Option.ext
 intro r
 rw [zaw]
 simp only [ev]
 cases gets E as<;>simp
theorem zpP {f:FuncId}{t:Tree}(ht:zaE cx n f=some t) {ds:List D}(h0:C0 f ds=none):zrq cx n C0 f ds=match evL cx n C0 t ds with
  | some (.jmp _ _ rs)=>some rs
  | _=>none:=by
 apply Option.ext
 intro r
 rw [zdX]
 constructor
 ·rintro ⟨k,d,h⟩
  cases d with
  | zero =>
   have h:C0 f ds=some r:=h
   rw [h0] at h
   cases h
  | succ d =>
   simp only [zdM,h0,ht] at h
   split at h
   ·rename_i hq
    rw [(zaw cx n C0).2 ⟨k,d,hq⟩]
    exact h
   ·cases h
 ·intro h
  split at h
  ·rename_i hq
   obtain ⟨k,d,hq⟩:=(zaw cx n C0).1 hq
   refine ⟨k,d + 1,?_⟩
   simp only [zdM,h0,ht,hq]
   exact h
  ·cases h
end
end Go.SX
namespace Go.SX
theorem Wt.toInt {k:IntKind}{d:D}(h:Wt (.int k) d):∃ n:Int,d=.int k n∧k.min≤n∧n≤k.max:=by
 cases d with
 | int k' n =>
  obtain ⟨h1,h2⟩:=h
  subst h1
  simp only [Lit.wf,wD0,decide_eq_true_eq] at h2
  exact ⟨n,rfl,h2.1,h2.2⟩
 | _=>exact h.elim
theorem Wt.toBool {d:D}(h:Wt .bool d):∃ b:Bool,d=.bool b:=by
 cases d with
 | bool b=>exact ⟨b,rfl⟩
 | _=>exact h.elim
theorem Wt.toStr {d:D}(h:Wt .str d):∃ s:ByteArray,d=.str s∧s.size≤maxLen:=by
 cases d with
 | str s=>exact ⟨s,rfl,h⟩
 | _=>exact h.elim
theorem Wt.toSl {e:Ty}{d:D}(h:Wt (.sl e) d):d=.nil∨∃ ds,d=.sl ds∧ds.length≤maxLen∧WtA e ds:=by
 cases d with
 | nil=>exact .inl rfl
 | sl ds=>exact .inr ⟨ds,rfl,h.1,h.2⟩
 | _=>exact h.elim
theorem Wt.toArr {n:Nat}{e:Ty}{d:D}(h:Wt (.arr n e) d):∃ ds,d=.agg ds∧ds.length=n∧WtA e ds:=by
 cases d with
 | agg ds=>exact ⟨ds,rfl,h.1,h.2⟩
 | _=>exact h.elim
theorem Wt.toSt {Ts:List Ty}{d:D}(h:Wt (.st Ts) d):∃ ds,d=.agg ds∧WtL Ts ds:=by
 cases d with
 | agg ds=>exact ⟨ds,rfl,h⟩
 | _=>exact h.elim
theorem WtL.toCons {T:Ty}{Ts:List Ty}{Ds:List D}(h:WtL (T::Ts) Ds):∃ d ds,Ds=d::ds∧Wt T d∧WtL Ts ds:=by
 cases Ds with
 | nil=>exact h.elim
 | cons d ds=>exact ⟨d,ds,rfl,h.1,h.2⟩
theorem WtL.toNil {Ds:List D}(h:WtL [] Ds):Ds=[]:=by
 cases Ds with
 | nil=>rfl
 | cons d ds=>exact h.elim
theorem WtA.all {e:Ty}:∀ {ds:List D},WtA e ds→∀ d∈ds,Wt e d
 | [],_,d,hd=>by cases hd
 | x::l,h,d,hd=>by
  rcases List.mem_cons.1 hd with hd|hd
  ·subst hd;exact h.1
  ·exact WtA.all h.2 d hd
theorem WtA.take {e:Ty}:∀ {ds:List D}(n:Nat),WtA e ds→WtA e (ds.take n)
 | [],_,_=>by simp [WtA]
 | _::_,0,_=>trivial
 | _::_,n + 1,h=>⟨h.1,WtA.take n h.2⟩
end Go.SX
namespace Go.SX
mutual
def Ty.T:Ty→Type
 | .int _=>Int
 | .bool=>Bool
 | .str=>List Int
 | .sl e=>List e.T
 | .arr _ e=>List e.T
 | .st l=>Ty.Tup l
 | .no=>Unit
def Ty.Tup:List Ty→Type
 | []=>Unit
 | a::l=>match l with
  | []=>a.T
  | _::_=>a.T×Ty.Tup l
end
def za4 (s:ByteArray):List Int:=s.data.toList.map fun b=>(b.toNat:Int)
mutual
def Ty.rd:(τ:Ty)→D→τ.T
 | .int _,d=>match d with|.int _ n=>n|_=>(0:Int)
 | .bool,d=>match d with|.bool b=>b|_=>false
 | .str,d=>match d with|.str s=>za4 s|_=>([]:List Int)
 | .sl e,d=>match d with|.sl l=>(l.map (Ty.rd e):List e.T)|_=>([]:List e.T)
 | .arr _ e,d=>match d with|.agg l=>(l.map (Ty.rd e):List e.T)|_=>([]:List e.T)
 | .st ts,d=>match d with|.agg l=>Ty.rdL ts l|_=>Ty.rdL ts []
 | .no,_=>()
def Ty.rdL:(ts:List Ty)→List D→Ty.Tup ts
 | [],_=>()
 | a::ts,l=>match ts with
  | []=>Ty.rd a (l.headD .nil)
  | b::us=>(Ty.rd a (l.headD .nil),Ty.rdL (b::us) l.tail)
end
def All2 {α β:Type}(R:α→β→Prop):List α→List β→Prop
 | [],[]=>True
 | a::l,b::m=>R a b∧All2 R l m
 | _,_=>False
mutual
def Rl:(τ:Ty)→D→τ.T→Prop
 | .int k,d,x=>d=.int k x
 | .bool,d,x=>d=.bool x
 | .str,d,x=>∃ s,d=.str s∧x=za4 s
 | .sl e,d,x=>∃ l,d.els=some l∧All2 (Rl e) l x
 | .arr _ e,d,x=>∃ l,d=.agg l∧All2 (Rl e) l x
 | .st ts,d,x=>∃ l,d=.agg l∧RlL ts l x
 | .no,_,_=>True
def RlL:(ts:List Ty)→List D→Ty.Tup ts→Prop
 | [],l,_=>l=[]
 | a::ts,l,x=>match ts,x with
  | [],x=>∃ d,l=[d]∧Rl a d x
  | b::us,x=>∃ d m,l=d::m∧Rl a d x.1∧RlL (b::us) m x.2
end
mutual
def zf1:Ty→D→Bool
 | .int k,d=>match d with|.int k' _=>decide (k=k')|_=>false
 | .bool,d=>match d with|.bool _=>true|_=>false
 | .str,d=>match d with|.str _=>true|_=>false
 | .sl e,d=>match d with|.sl l=>l.all (zf1 e)|.nil=>true|_=>false
 | .arr _ e,d=>match d with|.agg l=>l.all (zf1 e)|_=>false
 | .st ts,d=>match d with|.agg l=>zmu ts l|_=>false
 | .no,_=>false
def zmu:List Ty→List D→Bool
 | [],l=>l.isEmpty
 | a::ts,l=>match l with
  | []=>false
  | d::m=>zf1 a d&&zmu ts m
end
mutual
def Ty.dec:(τ:Ty)→DecidableEq τ.T
 | .int _=>fun a b=>Int.instDecidableEq a b
 | .bool=>fun a b=>instDecidableEqBool a b
 | .str=>fun a b=>@instDecidableEqList Int Int.instDecidableEq a b
 | .sl e=>fun a b=>@instDecidableEqList e.T (Ty.dec e) a b
 | .arr _ e=>fun a b=>@instDecidableEqList e.T (Ty.dec e) a b
 | .st ts=>Ty.decL ts
 | .no=>fun a b=>instDecidableEqPUnit a b
def Ty.decL:(ts:List Ty)→DecidableEq (Ty.Tup ts)
 | []=>fun a b=>instDecidableEqPUnit a b
 | a::ts=>match ts with
  | []=>Ty.dec a
  | b::us=>fun x y=>@instDecidableEqProd a.T (Ty.Tup (b::us)) (Ty.dec a) (Ty.decL (b::us)) x y
end
structure TV where
 τ:Ty
 x:τ.T
def zvD {a b:Ty}(h:a.beq b=true) (x:a.T):b.T:=Ty.beq_eq h▸x
def TV.as (v:TV) (τ:Ty):Option τ.T:=if h:v.τ.beq τ=true then some (zvD h v.x) else none
inductive TR where
 | tot (v:TV)
 | par (τ:Ty) (o:Option τ.T)
def bAnd (k:IntKind) (a b:Int):Int:=k.wrap (BitVec.ofInt k.bits a &&& BitVec.ofInt k.bits b).toNat
def bOr (k:IntKind) (a b:Int):Int:=k.wrap (BitVec.ofInt k.bits a ||| BitVec.ofInt k.bits b).toNat
def bXor (k:IntKind) (a b:Int):Int:=k.wrap (BitVec.ofInt k.bits a^^^BitVec.ofInt k.bits b).toNat
def zsI (k:IntKind) (a b:Int):Int:=k.wrap (BitVec.ofInt k.bits a &&& ~~~(BitVec.ofInt k.bits b)).toNat
def bNot (k:IntKind) (n:Int):Int:=k.wrap (BitVec.ofInt k.bits (if k.signed then -1 else k.max)^^^BitVec.ofInt k.bits n).toNat
def bNeg (k:IntKind) (n:Int):Int:=k.wrap (0 - n)
def quoO (k:IntKind) (a b:Int):Option Int:=if b=0 then none else some (k.wrap (a.tdiv b))
def remO (a b:Int):Option Int:=if b=0 then none else some (a.tmod b)
def shlO (k:IntKind) (a b:Int):Option Int:=if b<0 then none else some (k.wrap (a * 2 ^ (min b.toNat k.bits)))
def shrO (k:IntKind) (a b:Int):Option Int:=if b<0 then none else some (a.fdiv (2 ^ (min b.toNat k.bits)))
def zja:List Int→List Int→Bool
 | _,[]=>false
 | [],_::_=>true
 | a::x,b::y=>decide (a<b)||(decide (a=b)&&zja x y)
def catO (a b:List Int):Option (List Int):=if a.length + b.length≤17592186044416 then some (a++b) else none
def getO {α:Type}(l:List α) (i:Int):Option α:=if 0≤i then l[i.toNat]? else none
def setO {α:Type}(l:List α) (i:Int) (v:α):Option (List α):=if 0≤i∧i<l.length then some (l.set i.toNat v) else none
def subO {α:Type}(l:List α) (lo hi:Int):Option (List α):=if 0≤lo∧lo≤hi∧hi≤l.length then some ((l.take hi.toNat).drop lo.toNat) else none
def appO {α:Type}(by_:Nat) (s x:List α):Option (List α):=if zaO (s.length + x.length) by_=true then some (s++x) else none
def zvr {α:Type}(z:α) (by_:Nat) (s:List α) (n:Int):Option (List α):=if 0≤n then appO by_ s (List.replicate n.toNat z) else none
def repO {α:Type}(z:α) (by_:Nat) (n c:Int):Option (List α):=if 0≤n∧n≤c∧zaO c.toNat by_=true then some (List.replicate n.toNat z) else none
def zaD {α:Type}(by_:Nat) (s:List α):Option (List α):=if zaO s.length by_=true then some s else none
def idxO (n i:Int):Option Int:=if 0≤i∧i<n then some i else none
def zm6 (lo hi i:Int):Option Int:=if 0≤i∧i<hi - lo then some (lo + i) else none
def rngO (n lo hi:Int):Option Int:=if 0≤lo∧lo≤hi∧hi≤n then some hi else none
def zvd (n lo hi mx:Int):Option Int:=if 0≤lo∧lo≤hi∧hi≤mx∧mx=n then some hi else none
def zmO (n lo l h:Int):Option Int:=if 0≤lo∧0≤l∧l≤h∧lo + h≤n then some (lo + h) else none
def eqiO (x y:Int):Option Int:=if x=y then some y else none
def cpyT {α:Type}(l m:List α):List α:=m.take l.length++l.drop m.length
def zoE {α:Type}(l:List α) (lo hi:Int) (m:List α):Option (List α):=if 0≤lo∧lo≤hi∧hi≤l.length then some (l.take lo.toNat++(m.take (hi - lo).toNat++l.drop (lo.toNat + (m.take (hi - lo).toNat).length))) else none
def zvl {α:Type}(by_:Nat) (l:List α) (hi:Int) (m:List α):Option (List α):=if 0≤hi∧hi≤l.length∧zaO (hi.toNat + m.length) by_=true then some (l.take hi.toNat++(m++l.drop (hi.toNat + m.length))) else none
def zt6 {α:Type}(l:List α):Option Bool:=match l with|[]=>none|_::_=>some false
def nnO {α:Type}(l:List α):Option (List α):=match l with|[]=>none|a::m=>some (a::m)
def b2sO (l:List Int):Option (List Int):=if l.all (fun n=>decide (0≤n)&&decide (n<256))=true then some l else none
def zeE {α β:Type}(dec:DecidableEq α) (k:α):List (α×β)→Option β
 | []=>none
 | p::l=>bif @decide (k=p.1) (dec k p.1) then some p.2 else zeE dec k l
def zhm {α β:Type}(dec:DecidableEq α) (k:α) (v:β):List (α×β)→List (α×β)
 | []=>[(k,v)]
 | p::l=>bif @decide (k=p.1) (dec k p.1) then (k,v)::l else p::zhm dec k v l
def zu9 {α β:Type}(dec:DecidableEq α) (l:List (α×β)) (k:α):Bool:=(zeE dec k l).isSome
def zkF {α β:Type}(dec:DecidableEq α) (z:β) (l:List (α×β)) (k:α):β:=(zeE dec k l).getD z
def minT (x y:Int):Int:=if y<x then y else x
def maxT (x y:Int):Int:=if y>x then y else x
def zuV (op:BinOp) (k:IntKind) (a b:Int):Option TR :=
 match op with
 | .add=>some (.tot ⟨.int k,k.wrap (a + b)⟩)
 | .sub=>some (.tot ⟨.int k,k.wrap (a - b)⟩)
 | .mul=>some (.tot ⟨.int k,k.wrap (a * b)⟩)
 | .quo=>some (.par (.int k) (quoO k a b))
 | .rem=>some (.par (.int k) (remO a b))
 | .and=>some (.tot ⟨.int k,bAnd k a b⟩)
 | .or=>some (.tot ⟨.int k,bOr k a b⟩)
 | .xor=>some (.tot ⟨.int k,bXor k a b⟩)
 | .andNot=>some (.tot ⟨.int k,zsI k a b⟩)
 | .eql=>some (.tot ⟨.bool,decide (a=b)⟩)
 | .neq=>some (.tot ⟨.bool,!decide (a=b)⟩)
 | .lss=>some (.tot ⟨.bool,decide (a<b)⟩)
 | .leq=>some (.tot ⟨.bool,decide (a≤b)⟩)
 | .gtr=>some (.tot ⟨.bool,decide (b<a)⟩)
 | .geq=>some (.tot ⟨.bool,decide (b≤a)⟩)
 | _=>none
def zuR (op:BinOp) (a b:List Int):Option TR :=
 match op with
 | .add=>some (.par .str (catO a b))
 | .eql=>some (.tot ⟨.bool,decide (a=b)⟩)
 | .neq=>some (.tot ⟨.bool,!decide (a=b)⟩)
 | .lss=>some (.tot ⟨.bool,zja a b⟩)
 | .leq=>some (.tot ⟨.bool,zja a b||decide (a=b)⟩)
 | .gtr=>some (.tot ⟨.bool,!(zja a b||decide (a=b))⟩)
 | .geq=>some (.tot ⟨.bool,!zja a b⟩)
 | _=>none
def tBin (op:BinOp):List TV→Option TR
 | [⟨.int k,a⟩,⟨.int k',b⟩]=>match op with
  | .shl=>some (.par (.int k) (shlO k a b))
  | .shr=>some (.par (.int k) (shrO k a b))
  | _=>if k=k' then zuV op k a b else none
 | [⟨.bool,a⟩,⟨.bool,b⟩]=>match op with
  | .eql=>some (.tot ⟨.bool,@decide (@Eq Bool a b) (instDecidableEqBool a b)⟩)
  | .neq=>some (.tot ⟨.bool,!@decide (@Eq Bool a b) (instDecidableEqBool a b)⟩)
  | _=>none
 | [⟨.str,a⟩,⟨.str,b⟩]=>zuR op a b
 | _=>none
def tUn (op:UnOp):List TV→Option TR
 | [⟨.int k,n⟩]=>match op with
  | .neg=>some (.tot ⟨.int k,bNeg k n⟩)
  | .xor=>some (.tot ⟨.int k,bNot k n⟩)
  | _=>none
 | [⟨.bool,b⟩]=>match op with
  | .not=>some (.tot ⟨.bool,!b⟩)
  | _=>none
 | _=>none
def znx:(ts:List Ty)→Ty.Tup ts→Nat→Option TV
 | [],_,_=>none
 | a::ts,x,j=>match ts,x with
  | [],x=>match j with|0=>some ⟨a,x⟩|_ + 1=>none
  | b::us,x=>match j with|0=>some ⟨a,x.1⟩|j + 1=>znx (b::us) x.2 j
def setT:(ts:List Ty)→Ty.Tup ts→Nat→TV→Option (Ty.Tup ts)
 | [],_,_,_=>none
 | a::ts,x,j,v=>match ts,x with
  | [],_=>match j with|0=>v.as a|_ + 1=>none
  | b::us,x=>match j with
   | 0=>match v.as a with|some y=>some (y,x.2)|none=>none
   | j + 1=>match setT (b::us) x.2 j v with|some y=>some (x.1,y)|none=>none
def zuC:(vs:List TV)→Ty.Tup (vs.map TV.τ)
 | []=>()
 | v::vs=>match vs with
  | []=>v.x
  | w::us=>(v.x,zuC (w::us))
def zkW (e:Ty):List TV→Option (List e.T)
 | []=>some []
 | v::vs=>match v.as e with
  | none=>none
  | some x=>match zkW e vs with
   | none=>none
   | some l=>some (x::l)
def tP (p:Prim) (h:Ty) (vs:List TV):Option TR :=
 match p with
 | .bin op=>tBin op vs
 | .un op=>tUn op vs
 | .conv k=>match vs with|[⟨.int _,n⟩]=>some (.tot ⟨.int k,k.wrap n⟩)|_=>none
 | .len=>match vs with|[⟨.sl _,l⟩]=>some (.tot ⟨.int .i64,(List.length l:Int)⟩)|_=>none
 | .get=>match vs with
  | [⟨.sl e,l⟩,⟨.int _,i⟩]=>some (.par e (getO l i))
  | [⟨.arr _ e,l⟩,⟨.int _,i⟩]=>some (.par e (getO l i))
  | _=>none
 | .set=>match vs with
  | [⟨.sl e,l⟩,⟨.int _,i⟩,v]=>match v.as e with|some x=>some (.par (.sl e) (setO l i x))|none=>none
  | [⟨.arr n e,l⟩,⟨.int _,i⟩,v]=>match v.as e with|some x=>some (.par (.arr n e) (setO l i x))|none=>none
  | _=>none
 | .fld j=>match vs with|[⟨.st ts,x⟩]=>(match znx ts x j with|some v=>some (.tot v)|none=>none)|_=>none
 | .setf j=>match vs with|[⟨.st ts,x⟩,v]=>(match setT ts x j v with|some y=>some (.tot ⟨.st ts,y⟩)|none=>none)|_=>none
 | .mk=>match h with
  | .arr n e=>match zkW e vs with|some l=>some (.tot ⟨.arr n e,l⟩)|none=>none
  | _=>some (.tot ⟨.st (vs.map TV.τ),zuC vs⟩)
 | .mks=>match h with
  | .sl e=>match zkW e vs with|some l=>some (.tot ⟨.sl e,l⟩)|none=>none
  | _=>none
 | .sub=>match vs with|[⟨.sl e,l⟩,⟨.int _,lo⟩,⟨.int _,hi⟩]=>some (.par (.sl e) (subO l lo hi))|_=>none
 | .app b=>match vs with|[⟨.sl e,s⟩,v]=>(match v.as (.sl e) with|some x=>some (.par (.sl e) (appO b s x))|none=>none)|_=>none
 | .zext z b=>match vs with|[⟨.sl e,s⟩,⟨.int _,n⟩]=>if zf1 e z=true then some (.par (.sl e) (zvr (Ty.rd e z) b s n)) else none|_=>none
 | .rep z b=>match h,vs with|.sl e,[⟨.int _,n⟩,⟨.int _,c⟩]=>if zf1 e z=true then some (.par (.sl e) (repO (Ty.rd e z) b n c)) else none|_,_=>none
 | .clone b=>match vs with|[⟨.sl e,s⟩]=>some (.par (.sl e) (zaD b s))|_=>none
 | .idx=>match vs with|[⟨.sl _,l⟩,⟨.int k,i⟩]=>some (.par (.int k) (idxO (List.length l) i))|_=>none
 | .idxn n=>match vs with|[⟨.int k,i⟩]=>some (.par (.int k) (idxO n i))|_=>none
 | .idxv=>match vs with|[⟨.int _,lo⟩,⟨.int _,hi⟩,⟨.int _,i⟩]=>some (.par (.int .i64) (zm6 lo hi i))|_=>none
 | .rng=>match vs with|[⟨.sl _,l⟩,⟨.int _,lo⟩,⟨.int _,hi⟩]=>some (.par (.int .i64) (rngO (List.length l) lo hi))|_=>none
 | .pick=>match vs with|[⟨.bool,c⟩,⟨τ,a⟩,v]=>(match v.as τ with|some b=>some (.tot ⟨τ,cond c a b⟩)|none=>none)|_=>none
 | .isnil=>match vs with|[⟨.sl _,l⟩]=>some (.par .bool (zt6 l))|_=>none
 | .eqv=>match vs with|[⟨τ,a⟩,v]=>if (τ.flat&&τ.known)=true then (match v.as τ with|some b=>some (.tot ⟨.bool,@decide (a=b) (Ty.dec τ a b)⟩)|none=>none) else none|_=>none
 | .slen=>match vs with|[⟨.str,l⟩]=>some (.tot ⟨.int .i64,(List.length (α:=Int) l:Int)⟩)|_=>none
 | .sget=>match vs with|[⟨.str,l⟩,⟨.int _,i⟩]=>some (.par (.int .u8) (getO (α:=Int) l i))|_=>none
 | .ssub=>match vs with|[⟨.str,l⟩,⟨.int _,lo⟩,⟨.int _,hi⟩]=>some (.par .str (subO (α:=Int) l lo hi))|_=>none
 | .tosl=>match vs with|[⟨.arr _ e,l⟩]=>some (.tot ⟨.sl e,l⟩)|_=>none
 | .clr z=>match vs with|[⟨.sl e,l⟩]=>if zf1 e z=true then some (.tot ⟨.sl e,(List.replicate (List.length l) (Ty.rd e z):List e.T)⟩) else none|_=>none
 | .cpy=>match vs with
  | [⟨.arr n e,l⟩,v]=>(match v.as (.sl e) with|some m=>some (.tot ⟨.arr n e,(cpyT l m:List e.T)⟩)|none=>none)
  | _=>none
 | .cpyv=>match vs with|[⟨.sl e,l⟩,⟨.int _,lo⟩,⟨.int _,hi⟩,v]=>(match v.as (.sl e) with|some m=>some (.par (.sl e) (zoE l lo hi m))|none=>none)|_=>none
 | .appv b=>match vs with|[⟨.sl e,l⟩,⟨.int _,hi⟩,v]=>(match v.as (.sl e) with|some m=>some (.par (.sl e) (zvl b l hi m))|none=>none)|_=>none
 | .eqi=>match vs with|[⟨.int _,x⟩,⟨.int k,y⟩]=>some (.par (.int k) (eqiO x y))|_=>none
 | .vlen=>match vs with|[⟨.int _,lo⟩,⟨.int _,hi⟩]=>some (.tot ⟨.int .i64,(Int.sub hi lo:Int)⟩)|_=>none
 | .vadd=>match vs with|[⟨.int _,x⟩,⟨.int _,y⟩]=>some (.tot ⟨.int .i64,(Int.add x y:Int)⟩)|_=>none
 | .rng3=>match vs with|[⟨.sl _,l⟩,⟨.int _,lo⟩,⟨.int _,hi⟩,⟨.int _,mx⟩]=>some (.par (.int .i64) (zvd (List.length l) lo hi mx))|_=>none
 | .rngv=>match vs with|[⟨.sl _,l⟩,⟨.int _,lo⟩,⟨.int _,a⟩,⟨.int _,b⟩]=>some (.par (.int .i64) (zmO (List.length l) lo a b))|_=>none
 | .nn=>match vs with|[⟨.sl e,l⟩]=>some (.par (.sl e) (nnO l))|_=>none
 | .mhas=>match vs with|[⟨.sl (.st [K,V]),l⟩,v]=>if (K.flat&&K.known)=true then (match v.as K with|some k=>some (.tot ⟨.bool,@zu9 K.T V.T (Ty.dec K) l k⟩)|none=>none) else none|_=>none
 | .mget z=>match vs with|[⟨.sl (.st [K,V]),l⟩,v]=>if (K.flat&&K.known&&zf1 V z)=true then (match v.as K with|some k=>some (.tot ⟨V,@zkF K.T V.T (Ty.dec K) (Ty.rd V z) l k⟩)|none=>none) else none|_=>none
 | .mput=>match vs with|[⟨.sl (.st [K,V]),l⟩,v,u]=>if (K.flat&&K.known)=true then (match v.as K with|some k=>(match u.as V with|some x=>some (.tot ⟨.sl (.st [K,V]),(@zhm K.T V.T (Ty.dec K) k x l:List (K.T×V.T))⟩)|none=>none)|none=>none) else none|_=>none
 | .b2s=>match vs with|[⟨.sl (.int .u8),l⟩]=>some (.par .str (b2sO l))|_=>none
 | .s2b=>match vs with|[⟨.str,l⟩]=>some (.tot ⟨.sl (.int .u8),l⟩)|_=>none
 | .min2=>match vs with|[⟨.int k,x⟩,⟨.int k',y⟩]=>if k=k' then some (.tot ⟨.int k,minT x y⟩) else none|_=>none
 | .max2=>match vs with|[⟨.int k,x⟩,⟨.int k',y⟩]=>if k=k' then some (.tot ⟨.int k,maxT x y⟩) else none|_=>none
structure FnT where
 ps:List Ty
 rs:List Ty
 sem:Ty.Tup ps→Option (Ty.Tup rs)
structure PnT where
 ps:List Ty
 rs:List Ty
 sem:Ty.Tup ps→Ty.Tup rs
def PnT.fn (p:PnT):FnT:=⟨p.ps,p.rs,fun x=>some (p.sem x)⟩
inductive TA where
 | prim (p:Prim) (as:List At) (k:TA)
 | primH (p:Prim) (h:Ty) (as:List At) (k:TA)
 | mkS (ts:List Ty) (as:List At) (k:TA)
 | mkA (n:Nat) (e:Ty) (as:List At) (k:TA)
 | mkL (e:Ty) (as:List At) (k:TA)
 | call (f:FuncId) (fn:FnT) (as:List At) (m:Nat) (k:TA)
 | callp (f:FuncId) (fn:PnT) (as:List At) (m:Nat) (k:TA)
 | subp (τs:List Ty) (t:TA) (m:Nat) (k:TA)
 | sub0 (τs:List Ty) (t:TA) (m:Nat) (k:TA)
 | sub1 (τs:List Ty) (t:TA) (m:Nat) (k:TA)
 | loop (τs:List Ty) (init:List At) (b:TA)
 | ite (c:At) (t e:TA)
 | jmp (lvl:Nat) (back:Bool) (as:List At)
 | clone (n b:Nat) (e:Ty) (s:At) (k:TA)
 | fail (why:Nat)
def TA.erase:TA→Tree
 | .prim p as k=>.prim p as k.erase
 | .primH p _ as k=>.prim p as k.erase
 | .mkS _ as k=>.prim .mk as k.erase
 | .mkA _ _ as k=>.prim .mk as k.erase
 | .mkL _ as k=>.prim .mks as k.erase
 | .call f _ as m k=>.call f as m k.erase
 | .callp f _ as m k=>.call f as m k.erase
 | .subp _ t m k=>.sub t.erase m k.erase
 | .sub0 _ t m k=>.sub t.erase m k.erase
 | .sub1 _ t m k=>.sub t.erase m k.erase
 | .loop _ init b=>.loop init b.erase
 | .ite c t e=>.ite c t.erase e.erase
 | .jmp l b as=>.jmp l b as
 | .clone n b _ s k=>.sub (.prim .isnil [s] (.ite (.v n) (.jmp 0 false [.c .nil]) (.prim (.app b) [.c (.sl []),s] (.jmp 0 false [.v (n + 1)])))) 1 k.erase
 | .fail w=>.fail w
def live:List Ty→List Ty
 | []=>[]
 | t::l=>match t with|.no=>live l|t=>t::live l
def zkx {α:Type}:List Ty→List α→List α
 | [],_=>[]
 | t::l,as=>match as with
  | []=>[]
  | a::as=>match t with|.no=>zkx l as|_=>a::zkx l as
def vis (k:Nat) (τs:List Ty):List Ty:=match k with|0=>τs|_ + 1=>live τs
def visA {α:Type}(k:Nat) (τs:List Ty) (as:List α):List α:=match k with|0=>as|_ + 1=>zkx τs as
def zjP (k:Nat):Bool:=match k with|2=>true|_=>false
def J:List (Nat×List Ty)→Type
 | []=>Empty
 | (k,τs)::l=>match l with
  | []=>Ty.Tup (vis k τs)
  | _::_=>Sum (Ty.Tup (vis k τs)) (J l)
def nth {α:Type}:List α→Nat→Option α
 | [],_=>none
 | a::_,0=>some a
 | _::l,n + 1=>nth l n
def atV (E:List TV) (n:Nat) (h:Ty):At→Option TV
 | .v i=>if Nat.blt i n then nth E (n - 1 - i) else none
 | .c d=>match d with
  | .int k x=>some ⟨.int k,x⟩
  | .bool b=>some ⟨.bool,b⟩
  | .str s=>some ⟨.str,za4 s⟩
  | d=>if zf1 h d=true then some ⟨h,Ty.rd h d⟩ else none
def atT (E:List TV) (n:Nat) (τ:Ty):At→Option τ.T
 | .v i=>if Nat.blt i n then match nth E (n - 1 - i) with|some v=>v.as τ|none=>none else none
 | .c d=>if zf1 τ d=true then some (Ty.rd τ d) else none
def atsV (E:List TV) (n:Nat) (h:Ty):List At→Option (List TV)
 | []=>some []
 | a::l=>match atV E n h a with
  | none=>none
  | some v=>match atsV E n h l with
   | none=>none
   | some vs=>some (v::vs)
def atsT (E:List TV) (n:Nat):(τs:List Ty)→List At→Option (Ty.Tup τs)
 | [],as=>match as with|[]=>some ()|_::_=>none
 | τ::τs,as=>match as with
  | []=>none
  | a::l=>match τs with
   | []=>match l with|[]=>atT E n τ a|_::_=>none
   | b::us=>match atT E n τ a with
    | none=>none
    | some x=>match atsT E n (b::us) l with
     | none=>none
     | some xs=>some (x,xs)
def atsE (E:List TV) (n:Nat) (τ:Ty):List At→Option (List τ.T)
 | []=>some []
 | a::l=>match atT E n τ a with
  | none=>none
  | some x=>match atsE E n τ l with
   | none=>none
   | some xs=>some (x::xs)
def pushT:(τs:List Ty)→Ty.Tup τs→List TV→List TV
 | [],_,E=>E
 | τ::τs,x,E=>match τs,x with
  | [],x=>⟨τ,x⟩::E
  | b::us,x=>pushT (b::us) x.2 (⟨τ,x.1⟩::E)
def tvs:(τs:List Ty)→Ty.Tup τs→List TV
 | [],_=>[]
 | τ::τs,x=>match τs,x with
  | [],x=>[⟨τ,x⟩]
  | b::us,x=>⟨τ,x.1⟩::tvs (b::us) x.2
def zjj:List Ty→List TV→List TV→List TV
 | [],_,E=>E
 | t::ts,vs,E=>match t with
  | .no=>zjj ts vs (⟨.no,()⟩::E)
  | _=>match vs with
   | []=>zjj ts [] (⟨.no,()⟩::E)
   | v::vs=>zjj ts vs (v::E)
def pushL (τs:List Ty) (x:Ty.Tup (live τs)) (E:List TV):List TV:=zjj τs (tvs (live τs) x) E
def ztx:(τs:List Ty)→Bool→Ty.Tup τs→Ty.Tup τs→Ty.Tup τs
 | [],_,_,_=>()
 | τ::τs,c,x,y=>match τs,x,y with
  | [],x,y=>@cond τ.T c x y
  | b::us,x,y=>(@cond τ.T c x.1 y.1,ztx (b::us) c x.2 y.2)
def asBool (v:Option TV):Option Bool:=match v with|some ⟨.bool,b⟩=>some b|_=>none
def zg1 (n:Nat):At→Bool|.v i=>Nat.blt i n|.c _=>true
def jmpJ (E:List TV) (n:Nat) (as:List At) (b:Bool):(lv:List (Nat×List Ty))→Nat→Option (J lv)
 | [],_=>none
 | (k,τs)::l,lvl=>match l with
  | []=>match lvl with
   | 0=>if zjP k=b∧as.length=τs.length∧as.all (zg1 n)=true then atsT E n (vis k τs) (visA k τs as) else none
   | _ + 1=>none
  | q::us=>match lvl with
   | 0=>if zjP k=b∧as.length=τs.length∧as.all (zg1 n)=true then (match atsT E n (vis k τs) (visA k τs as) with|some x=>some (Sum.inl x)|none=>none) else none
   | lvl + 1=>match jmpJ E n as b (q::us) lvl with|some j=>some (Sum.inr j)|none=>none
def zj6 {S R:Type}(f:S→Option (Sum S R)):Nat→S→Option R
 | 0,_=>none
 | n + 1,s=>match f s with
  | none=>none
  | some (.inl s')=>zj6 f n s'
  | some (.inr r)=>some r
open Classical in
noncomputable def zaA {S R:Type}(f:S→Option (Sum S R)) (s:S):Option R :=
 if h:∃ r n,zj6 f n s=some r then some (Classical.choose h) else none
def zb6 {α β:Type}(o:Option (Sum α β)) (k:α→Option β):Option β:=o.bind fun r=>match r with
 | .inl x=>k x
 | .inr j=>some j
@[simp] theorem zd0 {α β:Type} {x:α} {k:α→Option β}:zb6 (some (.inl x)) k=k x:=rfl
@[simp] theorem zdP {α β:Type} {j:β} {k:α→Option β}:zb6 (some (.inr j)) k=some j:=rfl
@[simp] theorem orExit_none {α β:Type} {k:α→Option β}:zb6 none k=none:=rfl
def w64 (n:Int):Int:=IntKind.wrap .i64 n
def TA.pden:TA→List TV→Nat→(τs:List Ty)→Option (Ty.Tup τs)
 | .prim p as k,E,n,τs=>match atsV E n .no as with
  | none=>none
  | some vs=>match tP p .no vs with
   | some (.tot v)=>k.pden (v::E) (n + 1) τs
   | _=>none
 | .primH p h as k,E,n,τs=>match atsV E n h as with
  | none=>none
  | some vs=>match tP p h vs with
   | some (.tot v)=>k.pden (v::E) (n + 1) τs
   | _=>none
 | .mkS ts as k,E,n,τs=>match atsT E n ts as with
  | none=>none
  | some x=>k.pden (⟨.st ts,x⟩::E) (n + 1) τs
 | .mkA c e as k,E,n,τs=>match atsE E n e as with
  | none=>none
  | some x=>k.pden (⟨.arr c e,x⟩::E) (n + 1) τs
 | .mkL e as k,E,n,τs=>match atsE E n e as with
  | none=>none
  | some x=>k.pden (⟨.sl e,x⟩::E) (n + 1) τs
 | .callp _ fn as m k,E,n,τs=>match atsT E n fn.ps as with
  | none=>none
  | some x=>if fn.rs.length=m then k.pden (pushT fn.rs (fn.sem x) E) (n + m) τs else none
 | .subp σs t m k,E,n,τs=>match t.pden E n σs with
  | none=>none
  | some x=>if σs.length=m then k.pden (pushT σs x E) (n + m) τs else none
 | .ite c t e,E,n,τs=>match asBool (atV E n .no c) with
  | none=>none
  | some b=>match t.pden E n τs with
   | none=>none
   | some x=>match e.pden E n τs with
    | none=>none
    | some y=>some (ztx τs b x y)
 | .jmp l b as,E,n,τs=>match l,b with
  | 0,false=>atsT E n τs as
  | _,_=>none
 | _,_,_,_=>none
noncomputable def TA.den:TA→List TV→Nat→(lv:List (Nat×List Ty))→Option (J lv)
 | .prim p as k,E,n,lv=>match atsV E n .no as with
  | none=>none
  | some vs=>match tP p .no vs with
   | some (.tot v)=>k.den (v::E) (n + 1) lv
   | some (.par τ o)=>o.bind fun x=>k.den (⟨τ,x⟩::E) (n + 1) lv
   | none=>none
 | .primH p h as k,E,n,lv=>match atsV E n h as with
  | none=>none
  | some vs=>match tP p h vs with
   | some (.tot v)=>k.den (v::E) (n + 1) lv
   | some (.par τ o)=>o.bind fun x=>k.den (⟨τ,x⟩::E) (n + 1) lv
   | none=>none
 | .mkS ts as k,E,n,lv=>match atsT E n ts as with
  | none=>none
  | some x=>k.den (⟨.st ts,x⟩::E) (n + 1) lv
 | .mkA c e as k,E,n,lv=>match atsE E n e as with
  | none=>none
  | some x=>k.den (⟨.arr c e,x⟩::E) (n + 1) lv
 | .mkL e as k,E,n,lv=>match atsE E n e as with
  | none=>none
  | some x=>k.den (⟨.sl e,x⟩::E) (n + 1) lv
 | .call _ fn as m k,E,n,lv=>match atsT E n fn.ps as with
  | none=>none
  | some x=>if fn.rs.length=m then (fn.sem x).bind fun y=>k.den (pushT fn.rs y E) (n + m) lv else none
 | .callp _ fn as m k,E,n,lv=>match atsT E n fn.ps as with
  | none=>none
  | some x=>if fn.rs.length=m then k.den (pushT fn.rs (fn.sem x) E) (n + m) lv else none
 | .subp σs t m k,E,n,lv=>match t.pden E n σs with
  | none=>none
  | some x=>if σs.length=m then k.den (pushT σs x E) (n + m) lv else none
 | .sub0 σs t m k,E,n,lv=>if σs.length=m then (TA.den t E n [(1,σs)]).bind fun x:Ty.Tup (live σs)=>k.den (pushL σs x E) (n + m) lv else none
 | .sub1 σs t m k,E,n,lv=>match lv with
  | []=>none
  | q::us=>if σs.length=m then (TA.den t E n ((1,σs)::q::us)).bind fun (r:Sum (Ty.Tup (live σs)) (J (q::us)))=>match r with
   | .inl x=>k.den (pushL σs x E) (n + m) (q::us)
   | .inr j=>some j
   else none
 | .loop σs init b,E,n,lv=>match lv with
  | []=>none
  | q::us=>if init.length=σs.length∧init.all (zg1 n)=true then match atsT E n (live σs) (zkx σs init) with
   | none=>none
   | some x=>zaA (fun s:Ty.Tup (live σs)=>(TA.den b (pushL σs s E) (n + σs.length) ((2,σs)::q::us):Option (Sum (Ty.Tup (live σs)) (J (q::us))))) x
   else none
 | .ite c t e,E,n,lv=>match asBool (atV E n .no c) with
  | none=>none
  | some b=>if b=true then t.den E n lv else e.den E n lv
 | .jmp l b as,E,n,lv=>jmpJ E n as b lv l
 | .clone c b e s k,E,n,lv=>match atT E n (.sl e) s with
  | none=>none
  | some x=>if Nat.beq c n=true then (zaD b x).bind fun y:List e.T=>k.den (⟨.sl e,y⟩::E) (n + 1) lv else none
 | .fail _,_,_,_=>none
end Go.SX
set_option linter.unusedSimpArgs false
set_option linter.unusedVariables false
namespace Go.SX
section
variable {α β:Type} {R:α→β→Prop}
theorem All2.length_eq:∀ {l:List α}{m:List β},All2 R l m→l.length=m.length
 | [],[],_=>rfl
 | _::_,_::_,h=>by simp [All2.length_eq h.2]
 | [],_::_,h=>h.elim
 | _::_,[],h=>h.elim
theorem All2.append:∀ {l l':List α}{m m':List β},All2 R l m→All2 R l' m'→All2 R (l++l') (m++m')
 | [],_,[],_,_,h=>h
 | _::_,_,_::_,_,h,h'=>⟨h.1,All2.append h.2 h'⟩
 | [],_,_::_,_,h,_=>h.elim
 | _::_,_,[],_,h,_=>h.elim
theorem All2.take:∀ {l:List α}{m:List β}(n:Nat),All2 R l m→All2 R (l.take n) (m.take n)
 | [],[],_,_=>by simp [All2]
 | _::_,_::_,0,_=>trivial
 | _::_,_::_,n + 1,h=>⟨h.1,All2.take n h.2⟩
 | [],_::_,_,h=>h.elim
 | _::_,[],_,h=>h.elim
theorem All2.drop:∀ {l:List α}{m:List β}(n:Nat),All2 R l m→All2 R (l.drop n) (m.drop n)
 | [],[],_,_=>by simp [All2]
 | _::_,_::_,0,h=>h
 | _::_,_::_,n + 1,h=>All2.drop n h.2
 | [],_::_,_,h=>h.elim
 | _::_,[],_,h=>h.elim
theorem All2.get:∀ {l:List α}{m:List β}{n:Nat}{b:β},All2 R l m→m[n]?=some b→∃ a,l[n]?=some a∧R a b
 | [],[],_,_,_,h=>by simp at h
 | a::_,_::_,0,_,h,e=>⟨a,rfl,by simp at e;rw [← e];exact h.1⟩
 | _::_,_::_,n + 1,_,h,e=>by simpa using All2.get (n:=n) h.2 (by simpa using e)
 | [],_::_,_,_,h,_=>h.elim
 | _::_,[],_,_,h,_=>h.elim
theorem All2.set:∀ {l:List α}{m:List β}(n:Nat) {a:α}{b:β},All2 R l m→R a b→All2 R (l.set n a) (m.set n b)
 | [],[],_,_,_,_,_=>by simp [All2]
 | _::_,_::_,0,_,_,h,e=>⟨e,h.2⟩
 | _::_,_::_,n + 1,_,_,h,e=>⟨h.1,All2.set n h.2 e⟩
 | [],_::_,_,_,_,h,_=>h.elim
 | _::_,[],_,_,_,h,_=>h.elim
theorem All2.rep {a:α}{b:β}(h:R a b):∀ n,All2 R (List.replicate n a) (List.replicate n b)
 | 0=>trivial
 | n + 1=>⟨h,All2.rep h n⟩
end
theorem zfI {v:TV}{τ:Ty}{x:τ.T}{d:D}(h:v.as τ=some x) (hd:Rl v.τ d v.x):Rl τ d x:=by
 unfold TV.as at h
 split at h
 ·rename_i hb
  injection h with h
  obtain ⟨σ,y⟩:=v
  have e:=Ty.beq_eq hb
  simp only at e
  subst e
  rw [← h]
  exact hd
 ·cases h
mutual
theorem zl8:∀ {τ:Ty}{d:D},zf1 τ d=true→Rl τ d (Ty.rd τ d)
 | .int k,.int k' n,h=>by
  have e:k=k':=of_decide_eq_true h
  subst e
  exact rfl
 | .int k,.bool _,h|.int k,.str _,h|.int k,.agg _,h|.int k,.sl _,h|.int k,.nil,h=>by exact absurd h Bool.false_ne_true
 | .bool,.bool b,h=>rfl
 | .bool,.int _ _,h|.bool,.str _,h|.bool,.agg _,h|.bool,.sl _,h|.bool,.nil,h=>by exact absurd h Bool.false_ne_true
 | .str,.str s,h=>⟨s,rfl,rfl⟩
 | .str,.int _ _,h|.str,.bool _,h|.str,.agg _,h|.str,.sl _,h|.str,.nil,h=>by exact absurd h Bool.false_ne_true
 | .sl e,d,h=>by
  cases d<;>simp only [zf1,wA0] at h
  ·exact ⟨_,rfl,zsR h⟩
  ·exact ⟨[],rfl,trivial⟩
 | .arr n e,d,h=>by
  cases d<;>simp only [zf1,wA0] at h
  exact ⟨_,rfl,zsR h⟩
 | .st ts,d,h=>by
  cases d<;>simp only [zf1,wA0] at h
  exact ⟨_,rfl,zup h⟩
 | .no,d,h=>by simp [zf1] at h
theorem zsR:∀ {e:Ty}{l:List D},l.all (zf1 e)=true→All2 (Rl e) l (l.map (Ty.rd e))
 | e,[],_=>trivial
 | e,d::l,h=>by
  simp only [List.all_cons,wD0] at h
  exact ⟨zl8 h.1,zsR h.2⟩
theorem zup:∀ {ts:List Ty}{l:List D},zmu ts l=true→RlL ts l (Ty.rdL ts l)
 | [],l,h=>by cases l<;>simp_all [zmu,RlL]
 | [a],l,h=>by
  cases l with
  | nil=>simp [zmu] at h
  | cons d m =>
   simp only [zmu,wD0] at h
   cases m with
   | nil=>exact ⟨d,rfl,zl8 h.1⟩
   | cons _ _=>simp [zmu] at h
 | a::b::ts,l,h=>by
  cases l with
  | nil=>simp [zmu] at h
  | cons d m =>
   rw [zmu,wD0] at h
   exact ⟨d,m,rfl,zl8 h.1,zup h.2⟩
end
theorem zqN {s t:ByteArray}(h:za4 s=za4 t):s.data.toList=t.data.toList:=by
 unfold za4 at h
 have:∀ l m:List UInt8,l.map (fun b=>(b.toNat:Int))=m.map (fun b=>(b.toNat:Int))→l=m:=by
  intro l
  induction l with
  | nil=>intro m h;cases m<;>simp_all
  | cons a l ih =>
   intro m h
   cases m with
   | nil=>simp at h
   | cons b m =>
    simp only [List.map_cons,List.cons.injEq] at h
    rw [ih m h.2]
    have h1:a.toNat=b.toNat:=by omega
    rw [UInt8.toNat_inj.1 h1]
 exact this _ _ h
theorem znd {s t:ByteArray}:(s.data.toList=t.data.toList)↔za4 s=za4 t:=⟨fun h=>by unfold za4;rw [h],zqN⟩
theorem zfo {s:ByteArray}:(za4 s).length=s.size:=by unfold za4;simp
mutual
theorem zlX:∀ {τ:Ty}{d d':D}{x y:τ.T},(τ.flat&&τ.known)=true→Rl τ d x→Rl τ d' y→(d.beq d'=true↔x=y)
 | .int k,d,d',x,y,_,h,h'=>by
  simp only [Rl] at h h'
  subst h h'
  simp only [D.beq,decide_true,Bool.true_and]
  exact @decide_eq_true_iff (@Eq Int x y) (Int.instDecidableEq x y)
 | .bool,d,d',x,y,_,h,h'=>by
  simp only [Rl] at h h'
  subst h h'
  simp only [D.beq]
  exact beq_iff_eq (α:=Bool)
 | .str,d,d',x,y,_,h,h'=>by
  obtain ⟨s,rfl,rfl⟩:=h
  obtain ⟨t,rfl,rfl⟩:=h'
  simp only [D.beq]
  exact decide_eq_true_iff.trans znd
 | .sl e,d,d',x,y,hf,h,h'=>by simp [Ty.flat] at hf
 | .arr n e,d,d',x,y,hf,h,h'=>by
  obtain ⟨l,rfl,h⟩:=h
  obtain ⟨l',rfl,h'⟩:=h'
  simp only [D.beq]
  exact zpS (by simpa [Ty.flat,Ty.known] using hf) h h'
 | .st ts,d,d',x,y,hf,h,h'=>by
  obtain ⟨l,rfl,h⟩:=h
  obtain ⟨l',rfl,h'⟩:=h'
  simp only [D.beq]
  exact zqe (by simpa [Ty.flat,Ty.known] using hf) h h'
 | .no,d,d',x,y,hf,h,h'=>by simp [Ty.known] at hf
theorem zpS:∀ {e:Ty}{l l':List D}{x y:List e.T},(e.flat&&e.known)=true→All2 (Rl e) l x→All2 (Rl e) l' y→(D.beqL l l'=true↔x=y)
 | e,[],[],[],[],_,_,_=>by simp [D.beqL]
 | e,[],_::_,[],_::_,_,_,_=>by simp [D.beqL]
 | e,_::_,[],_::_,[],_,_,_=>by simp [D.beqL]
 | e,a::l,b::l',x::xs,y::ys,hf,h,h'=>by
  simp only [D.beqL,wD0,List.cons.injEq]
  rw [zlX hf h.1 h'.1,zpS hf h.2 h'.2]
 | e,[],_,_::_,_,_,h,_=>h.elim
 | e,_::_,_,[],_,_,h,_=>h.elim
 | e,_,[],_,_::_,_,_,h=>h.elim
 | e,_,_::_,_,[],_,_,h=>h.elim
theorem zqe:∀ {ts:List Ty}{l l':List D}{x y:Ty.Tup ts},(Ty.flatL ts&&Ty.knownL ts)=true→RlL ts l x→RlL ts l' y→(D.beqL l l'=true↔x=y)
 | [],l,l',x,y,_,h,h'=>by
  simp only [RlL] at h h'
  subst h h'
  simp only [D.beqL,true_iff]
  exact (rfl:(x:Unit)=y)
 | [a],l,l',x,y,hf,h,h'=>by
  obtain ⟨d,rfl,h⟩:=h
  obtain ⟨d',rfl,h'⟩:=h'
  simp only [Ty.flatL,Ty.knownL,Bool.and_true] at hf
  simp only [D.beqL,Bool.and_true]
  exact zlX hf h h'
 | a::b::ts,l,l',x,y,hf,h,h'=>by
  obtain ⟨d,m,rfl,h1,h2⟩:=h
  obtain ⟨d',m',rfl,h1',h2'⟩:=h'
  rw [Ty.flatL,Ty.knownL] at hf
  simp only [wD0] at hf
  rw [D.beqL,wD0,zlX (by simp only [wD0];exact ⟨hf.1.1,hf.2.1⟩) h1 h1',zqe (by simp only [wD0];exact ⟨hf.1.2,hf.2.2⟩) h2 h2']
  exact (Prod.ext_iff (α:=a.T) (β:=Ty.Tup (b::ts)) (x:=x) (y:=y)).symm
end
theorem zrI {τ:Ty}{d d':D}{x y:τ.T}(hf:(τ.flat&&τ.known)=true) (h:Rl τ d x) (h':Rl τ d' y):d.beq d'=@decide (x=y) (Ty.dec τ x y):=by
 rw [Bool.eq_iff_iff,zlX hf h h']
 simp
def RV (ds:List D) (vs:List TV):Prop:=All2 (fun d (v:TV)=>Rl v.τ d v.x) ds vs
def TROk (o:Option D):TR→Prop
 | .tot v=>∃ d,o=some d∧Rl v.τ d v.x
 | .par τ ox=>∀ x,ox=some x→∃ d,o=some d∧Rl τ d x
theorem RV.one {ds:List D}{v:TV}(h:RV ds [v]):∃ d,ds=[d]∧Rl v.τ d v.x:=by
 match ds,h with
 | [d],h=>exact ⟨d,rfl,h.1⟩
theorem RV.two {ds:List D}{v w:TV}(h:RV ds [v,w]):∃ d e,ds=[d,e]∧Rl v.τ d v.x∧Rl w.τ e w.x:=by
 match ds,h with
 | [d,e],h=>exact ⟨d,e,rfl,h.1,h.2.1⟩
theorem RV.three {ds:List D}{v w u:TV}(h:RV ds [v,w,u]):∃ d e f,ds=[d,e,f]∧Rl v.τ d v.x∧Rl w.τ e w.x∧Rl u.τ f u.x:=by
 match ds,h with
 | [d,e,f],h=>exact ⟨d,e,f,rfl,h.1,h.2.1,h.2.2.1⟩
theorem RV.four {ds:List D}{v w u t:TV}(h:RV ds [v,w,u,t]):∃ d e f g,ds=[d,e,f,g]∧Rl v.τ d v.x∧Rl w.τ e w.x∧Rl u.τ f u.x∧Rl t.τ g t.x:=by
 match ds,h with
 | [d,e,f,g],h=>exact ⟨d,e,f,g,rfl,h.1,h.2.1,h.2.2.1,h.2.2.2.1⟩
theorem ztH {op:BinOp}{k:IntKind}{a b:Int}{r:TR}(h:zuV op k a b=some r):TROk (binI op k a b) r:=by
 cases op<;>simp only [zuV] at h<;>first
  | (injection h with h;subst h;simp [TROk,binI,Rl,bAnd,bOr,bXor,zsI];done)
  | skip
 case quo =>
  injection h with h;subst h
  intro x hx
  simp only [quoO] at hx
  simp only [binI]
  split at hx
  ·cases hx
  ·rename_i hb
   injection hx with hx
   rw [if_neg hb]
   exact ⟨_,rfl,by simp only [Rl];rw [hx]⟩
 case rem =>
  injection h with h;subst h
  intro x hx
  simp only [remO] at hx
  simp only [binI]
  split at hx
  ·cases hx
  ·rename_i hb
   injection hx with hx
   rw [if_neg hb]
   exact ⟨_,rfl,by simp only [Rl];rw [hx]⟩
 case eql=>injection h with h;subst h;simp [TROk,binI,Rl];rfl
 case neq=>injection h with h;subst h;simp [TROk,binI,Rl];rfl
 all_goals cases h
theorem zk7:∀ (x y:List UInt8),zcL x y=zja (x.map fun b=>(b.toNat:Int)) (y.map fun b=>(b.toNat:Int))
 | [],[]=>by simp [zcL,zja]
 | _::_,[]=>by simp [zcL,zja]
 | [],_::_=>by simp [zcL,zja]
 | a::x,b::y=>by
  simp only [zcL,zja,List.map_cons,zk7 x y]
  have h1:decide ((a.toNat:Int)<(b.toNat:Int))=decide (a<b):=decide_eq_decide.2 (by rw [UInt8.lt_iff_toNat_lt];omega)
  have h2:decide ((a.toNat:Int)=(b.toNat:Int))=(a==b):=by
   rw [Bool.eq_iff_iff]
   simp only [decide_eq_true_eq,beq_iff_eq]
   constructor
   ·intro h;exact UInt8.toNat_inj.1 (by omega)
   ·intro h;rw [h]
  rw [h1,h2]
theorem ztS {op:BinOp}{s t:ByteArray}{r:TR}(h:zuR op (za4 s) (za4 t)=some r):TROk (binS op s t) r:=by
 have he:(s.data.toList==t.data.toList)=decide (za4 s=za4 t):=by
  rw [Bool.eq_iff_iff]
  simp only [beq_iff_eq,decide_eq_true_eq]
  exact znd
 have hl:zcL s.data.toList t.data.toList=zja (za4 s) (za4 t):=zk7 _ _
 cases op<;>simp only [zuR] at h<;>first
  | (injection h with h;subst h;simp only [TROk,binS,Rl,he,hl];exact ⟨_,rfl,rfl⟩)
  | skip
 case add =>
  injection h with h;subst h
  intro x hx
  simp only [catO,zfo] at hx
  simp only [binS]
  split at hx
  ·rename_i hc
   injection hx with hx
   rw [if_pos hc]
   refine ⟨_,rfl,_,rfl,?_⟩
   rw [← hx]
   unfold za4
   show List.map _ _++List.map _ _=List.map _ _
   rw [← List.map_append]
   simp
  ·cases hx
 all_goals cases h
theorem zu0 {op:BinOp}{vs:List TV}{ds:List D}{r:TR}(hv:RV ds vs) (h:tBin op vs=some r):TROk (Prim.run (.bin op) ds) r:=by
 unfold tBin at h
 split at h
 ·rename_i k a k' b
  obtain ⟨d,e,rfl,h1,h2⟩:=hv.two
  simp only [Rl] at h1 h2
  subst h1 h2
  split at h
  ·injection h with h;subst h
   intro x hx
   simp only [shlO] at hx
   simp only [Prim.run,binD,shI]
   split at hx
   ·cases hx
   ·rename_i hb
    injection hx with hx
    rw [if_neg hb]
    exact ⟨_,rfl,by simp only [Rl];rw [hx]⟩
  ·injection h with h;subst h
   intro x hx
   simp only [shrO] at hx
   simp only [Prim.run,binD,shI]
   split at hx
   ·cases hx
   ·rename_i hb
    injection hx with hx
    rw [if_neg hb]
    exact ⟨_,rfl,by simp only [Rl];rw [hx]⟩
  ·rename_i hn1 hn2
   split at h
   ·rename_i hk
    subst hk
    have:=ztH h
    simp only [Prim.run,binD,if_true]
    cases op<;>first|exact this|exact absurd rfl hn1|exact absurd rfl hn2
   ·cases h
 ·rename_i a b
  obtain ⟨d,e,rfl,h1,h2⟩:=hv.two
  simp only [Rl] at h1 h2
  subst h1 h2
  split at h
  ·injection h with h;subst h
   simp only [TROk,Prim.run,binD,binB,Rl]
   refine ⟨_,rfl,?_⟩
   congr 1
  ·injection h with h;subst h
   simp only [TROk,Prim.run,binD,binB,Rl]
   refine ⟨_,rfl,?_⟩
   congr 1
  ·cases h
 ·rename_i a b
  obtain ⟨d,e,rfl,⟨s,h1,e1⟩,⟨t,h2,e2⟩⟩:=hv.two
  simp only at e1 e2 h1 h2
  subst h1 h2 e1 e2
  simp only [Prim.run,binD]
  exact ztS h
 ·cases h
theorem zvb {op:UnOp}{vs:List TV}{ds:List D}{r:TR}(hv:RV ds vs) (h:tUn op vs=some r):TROk (Prim.run (.un op) ds) r:=by
 unfold tUn at h
 split at h
 ·obtain ⟨d,rfl,h1⟩:=hv.one
  simp only [Rl] at h1
  subst h1
  split at h
  ·injection h with h;subst h
   simp only [TROk,Prim.run,unD,Rl,bNeg]
   exact ⟨_,rfl,rfl⟩
  ·injection h with h;subst h
   simp only [TROk,Prim.run,unD,Rl,bNot]
   exact ⟨_,rfl,rfl⟩
  ·cases h
 ·obtain ⟨d,rfl,h1⟩:=hv.one
  simp only [Rl] at h1
  subst h1
  split at h
  ·injection h with h;subst h
   simp only [TROk,Prim.run,unD,Rl]
   exact ⟨_,rfl,rfl⟩
  ·cases h
 ·cases h
theorem zpN:∀ {ts:List Ty}{x:Ty.Tup ts}{j:Nat}{v:TV}{l:List D},znx ts x j=some v→RlL ts l x→∃ d,l[j]?=some d∧Rl v.τ d v.x
 | [],x,j,v,l,h,_=>by simp [znx] at h
 | [a],x,j,v,l,h,hl=>by
  obtain ⟨d,rfl,hd⟩:=hl
  cases j with
  | zero =>
   simp only [znx] at h
   injection h with h
   subst h
   exact ⟨d,rfl,hd⟩
  | succ j=>simp [znx] at h
 | a::b::ts,x,j,v,l,h,hl=>by
  obtain ⟨d,m,rfl,h1,h2⟩:=hl
  cases j with
  | zero =>
   simp only [znx] at h
   injection h with h
   subst h
   exact ⟨d,rfl,h1⟩
  | succ j =>
   rw [znx] at h
   simpa using zpN h h2
theorem zrs:∀ {ts:List Ty}{x y:Ty.Tup ts}{j:Nat}{v:TV}{l:List D}{d:D},setT ts x j v=some y→RlL ts l x→Rl v.τ d v.x→j<l.length∧RlL ts (l.set j d) y
 | [],x,y,j,v,l,d,h,_,_=>by simp [setT] at h
 | [a],x,y,j,v,l,d,h,hl,hd=>by
  obtain ⟨d',rfl,hd'⟩:=hl
  cases j with
  | zero =>
   simp only [setT] at h
   exact ⟨by simp,d,rfl,zfI h hd⟩
  | succ j=>simp [setT] at h
 | a::b::ts,x,y,j,v,l,d,h,hl,hd=>by
  obtain ⟨d',m,rfl,h1,h2⟩:=hl
  cases j with
  | zero =>
   simp only [setT] at h
   split at h
   ·rename_i z hz
    injection h with h
    subst h
    exact ⟨by simp,d,m,rfl,zfI hz hd,h2⟩
   ·cases h
  | succ j =>
   rw [setT] at h
   split at h
   ·rename_i z hz
    injection h with h
    subst h
    obtain ⟨g1,g2⟩:=zrs hz h2 hd
    exact ⟨by simpa using g1,d',m.set j d,rfl,h1,g2⟩
   ·cases h
theorem zqx:∀ {vs:List TV}{ds:List D},RV ds vs→RlL (vs.map TV.τ) ds (zuC vs)
 | [],[],_=>rfl
 | [v],[d],h=>⟨d,rfl,h.1⟩
 | v::w::vs,d::ds,h=>⟨d,ds,rfl,h.1,zqx h.2⟩
 | [],_::_,h=>h.elim
 | _::_,[],h=>h.elim
 | [_],_::_::_,h=>h.2.elim
theorem zkm {e:Ty}:∀ {vs:List TV}{ds:List D}{l:List e.T},RV ds vs→zkW e vs=some l→All2 (Rl e) ds l
 | [],[],l,_,h=>by
  simp only [zkW] at h
  injection h with h
  subst h
  trivial
 | v::vs,d::ds,l,hv,h=>by
  simp only [zkW] at h
  split at h
  ·cases h
  ·rename_i x hx
   split at h
   ·cases h
   ·rename_i m hm
    injection h with h
    subst h
    exact ⟨zfI hx hv.1,zkm hv.2 hm⟩
 | [],_::_,_,h,_=>h.elim
 | _::_,[],_,h,_=>h.elim
end Go.SX
set_option linter.unusedSimpArgs false
set_option linter.unusedVariables false
namespace Go.SX
theorem zoA {e:Ty}{l:List D}{x:List e.T}{i:Int}(hl:All2 (Rl e) l x):∀ y,getO x i=some y→∃ d,(if 0≤i then l[i.toNat]? else none)=some d∧Rl e d y:=by
 intro y hy
 simp only [getO] at hy
 split at hy
 ·rename_i hi
  rw [if_pos hi]
  exact hl.get hy
 ·cases hy
theorem zre {s:ByteArray}{n:Nat}{x:Int}(h:(za4 s)[n]?=some x):∃ b:UInt8,s[n]?=some b∧x=b.toNat:=by
 unfold za4 at h
 rw [List.getElem?_map] at h
 cases hb:s.data.toList[n]? with
 | none=>rw [hb] at h;cases h
 | some b =>
  rw [hb] at h
  injection h with h
  refine ⟨b,?_,h.symm⟩
  rw [← hb,Array.getElem?_toList]
  simp only [getElem?_def]
  rfl
theorem zkH {s:ByteArray}{a b:Nat}:za4 (s.extract a b)=((za4 s).take b).drop a:=by
 unfold za4
 rw [← List.map_take,← List.map_drop,ByteArray.data_extract,Array.toList_extract,List.extract_eq_drop_take',List.drop_take]
theorem zua:∀ {l:List D}{x:List Int},All2 (Rl (.int .u8)) l x→(x.all fun n=>decide (0≤n)&&decide (n<256))=true→∃ b,zcO l=some b∧x=b.map fun b=>(b.toNat:Int)
 | [],[],_,_=>⟨[],rfl,rfl⟩
 | d::l,n::x,h,hx=>by
  simp only [List.all_cons,wD0,decide_eq_true_eq] at hx
  obtain ⟨b,h1,h2⟩:=zua h.2 (by simpa using hx.2)
  have hd:=h.1
  simp only [Rl] at hd
  subst hd
  refine ⟨UInt8.ofNat n.toNat::b,by simp [zcO,h1],?_⟩
  rw [List.map_cons,← h2]
  congr 1
  rw [UInt8.toNat_ofNat']
  omega
 | [],_::_,h,_=>h.elim
 | _::_,[],h,_=>h.elim
theorem Rl.els {e:Ty}{d:D}{x:List e.T}(h:Rl (.sl e) d x):∃ l,d.els=some l∧All2 (Rl e) l x:=h
theorem Rl.mkSl {e:Ty}{l:List D}{x:List e.T}(h:All2 (Rl e) l x):Rl (.sl e) (.sl l) x:=⟨l,rfl,h⟩
theorem zba {d:D}{l:List D}(h:d.els=some l):d=.sl l∨(d=.nil∧l=[]):=by
 cases d<;>simp [D.els] at h
 ·exact .inl (by rw [h])
 ·exact .inr ⟨rfl,h⟩
theorem zui {K V:Ty}{d:D}{p:K.T×V.T}(h:Rl (.st [K,V]) d p):∃ k v,d=.agg [k,v]∧Rl K k p.1∧Rl V v p.2:=by
 obtain ⟨l,rfl,d1,m,rfl,h1,d2,rfl,h2⟩:=h
 exact ⟨d1,d2,rfl,h1,h2⟩
theorem zum {K V:Ty}{k v:D}{x:K.T}{y:V.T}(h1:Rl K k x) (h2:Rl V v y):Rl (.st [K,V]) (.agg [k,v]) (x,y):=⟨_,rfl,k,[v],rfl,h1,v,rfl,h2⟩
theorem zlK {K V:Ty}(hf:(K.flat&&K.known)=true) {d:D}{k:K.T}(hk:Rl K d k):∀ {ds:List D}{l:List (K.T×V.T)},All2 (Rl (.st [K,V])) ds l →
  ∃ o,zoq d ds=some o∧(o=none∧@zeE K.T V.T (Ty.dec K) k l=none∨∃ v y,o=some v∧@zeE K.T V.T (Ty.dec K) k l=some y∧Rl V v y)
 | [],[],_=>⟨none,rfl,.inl ⟨rfl,rfl⟩⟩
 | x::ds,p::l,h=>by
  obtain ⟨k',v',rfl,h1,h2⟩:=zui h.1
  have hd:=zrI hf hk h1
  simp only [zoq,zeE,← hd]
  cases d.beq k' with
  | true=>exact ⟨_,rfl,.inr ⟨_,_,rfl,rfl,h2⟩⟩
  | false=>exact zlK hf hk h.2
 | [],_::_,h=>h.elim
 | _::_,[],h=>h.elim
theorem zsr {K V:Ty}(hf:(K.flat&&K.known)=true) {d e:D}{k:K.T}{v:V.T}(hk:Rl K d k) (hv:Rl V e v):∀ {ds:List D}{l:List (K.T×V.T)},All2 (Rl (.st [K,V])) ds l →
  ∃ m,zkD d e ds=some m∧All2 (Rl (.st [K,V])) m (@zhm K.T V.T (Ty.dec K) k v l)
 | [],[],_=>⟨_,rfl,zum hk hv,trivial⟩
 | x::ds,p::l,h=>by
  obtain ⟨k',v',rfl,h1,h2⟩:=zui h.1
  have hd:=zrI hf hk h1
  simp only [zkD,zhm,← hd]
  cases d.beq k' with
  | true=>exact ⟨_,rfl,zum hk hv,h.2⟩
  | false =>
   obtain ⟨m,q1,q2⟩:=zsr hf hk hv h.2
   simp only [wA0,if_false,q1]
   exact ⟨_,rfl,h.1,q2⟩
 | [],_::_,h=>h.elim
 | _::_,[],h=>h.elim
theorem All2.nilSub {α β:Type}{R:α→β→Prop}{x:List β}(h:All2 R [] x) (a b:Nat):All2 R [] ((x.take a).drop b):=by
 cases x with
 | nil=>simp [All2]
 | cons _ _=>exact h.elim
theorem All2.nilCpy {α β:Type}{R:α→β→Prop}{x m:List β}(h:All2 R [] x) {lo hi:Int}(hh:0≤lo∧lo≤hi∧hi≤x.length) (c:Nat):All2 R [] (x.take lo.toNat++(m.take (hi - lo).toNat++x.drop c)):=by
 cases x with
 | nil =>
  have e:(hi - lo).toNat=0:=by simp only [List.length_nil] at hh;omega
  rw [e]
  simp [All2]
 | cons _ _=>exact h.elim
theorem zu1 {τ:Ty}{a b:τ.T}{e f:D}(h1:Rl τ e a) (h2:Rl τ f b) (c:Bool):∃ d,some (if c then e else f)=some d∧Rl τ d (cond c a b):=by
 cases c
 ·exact ⟨_,rfl,h2⟩
 ·exact ⟨_,rfl,h1⟩
theorem All2.nilApp {α β:Type}{R:α→β→Prop}{x m:List β}(h:All2 R [] x) (h':All2 R [] m) (a c:Nat):All2 R [] (x.take a++(m++x.drop c)):=by
 cases x with
 | nil =>
  cases m with
  | nil=>simp [All2]
  | cons _ _=>exact h'.elim
 | cons _ _=>exact h.elim
theorem zvt {i:Int}{n:Nat}(h:0≤i∧i<n) (e:0=n):False:=by omega
theorem all0 {lo hi:Int}{n:Nat}(h:0≤lo∧lo≤hi∧hi≤n) (e:0=n):lo=0∧hi=0:=by omega
theorem zr1 {e:Ty}{b:Nat}{s t:D}{x y:List e.T}(hs:Rl (.sl e) s x) (ht:Rl (.sl e) t y):∀ z:List e.T,appO b x y=some z→∃ d,appD b s t=some d∧Rl (.sl e) d z:=by
 intro z hz
 obtain ⟨l,h1,h2⟩:=hs.els
 obtain ⟨m,h3,h4⟩:=ht.els
 simp only [appO,← h2.length_eq,← h4.length_eq] at hz
 split at hz
 ·rename_i hr
  injection hz with hz
  simp only [appD,h1,h3,hr,if_true]
  refine ⟨_,rfl,l++m,?_,by rw [← hz];exact h2.append h4⟩
  rcases zba h1 with h1|⟨h1,h1'⟩
  ·subst h1
   rfl
  ·subst h1 h1'
   cases m with
   | nil=>rfl
   | cons a m=>rfl
 ·cases hz
section
variable {p:Prim} {h:Ty} {vs:List TV} {ds:List D} {r:TR}
theorem zrd (hv:RV ds vs) (hr:tP p h vs=some r):TROk (p.run ds) r:=by
 cases p with
 | bin op=>exact zu0 hv hr
 | un op=>exact zvb hv hr
 | conv k =>
  simp only [tP] at hr
  split at hr
  ·injection hr with hr;subst hr
   obtain ⟨d,rfl,h1⟩:=hv.one
   simp only [Rl] at h1;subst h1
   exact ⟨_,rfl,rfl⟩
  ·cases hr
 | len =>
  simp only [tP] at hr
  split at hr
  ·injection hr with hr;subst hr
   obtain ⟨d,rfl,h1⟩:=hv.one
   obtain ⟨l,h1,h2⟩:=h1
   rcases zba h1 with h1|⟨h1,h1'⟩
   ·subst h1
    exact ⟨_,rfl,by simp only [Rl];rw [← h2.length_eq]⟩
   ·subst h1 h1'
    exact ⟨_,rfl,by simp only [Rl];rw [← h2.length_eq];rfl⟩
  ·cases hr
 | get =>
  simp only [tP] at hr
  split at hr
  ·injection hr with hr;subst hr
   obtain ⟨d,e,rfl,h1,h2⟩:=hv.two
   simp only [Rl] at h2;subst h2
   obtain ⟨l,h1,h2⟩:=h1
   intro y hy
   rcases zba h1 with h1|⟨h1,h1'⟩
   ·subst h1
    exact zoA h2 y hy
   ·subst h1'
    obtain ⟨d,hd,_⟩:=zoA h2 y hy
    simp at hd
  ·injection hr with hr;subst hr
   obtain ⟨d,e,rfl,h1,h2⟩:=hv.two
   simp only [Rl] at h2;subst h2
   obtain ⟨l,rfl,h2⟩:=h1
   intro y hy
   exact zoA h2 y hy
  ·cases hr
 | set =>
  simp only [tP] at hr
  split at hr
  ·split at hr
   ·rename_i x hx
    injection hr with hr;subst hr
    obtain ⟨d,e,f,rfl,h1,h2,h3⟩:=hv.three
    simp only [Rl] at h2;subst h2
    obtain ⟨l,h1,h2⟩:=h1
    intro y hy
    simp only [setO,← h2.length_eq] at hy
    split at hy
    ·rename_i hi
     injection hy with hy;subst hy
     rcases zba h1 with h1|⟨h1,h1'⟩
     ·subst h1
      exact ⟨.sl _,if_pos (by rw [h2.length_eq];exact hi),_,rfl,h2.set _ (zfI hx h3)⟩
     ·subst h1'
      exact (zvt hi h2.length_eq).elim
    ·cases hy
   ·cases hr
  ·split at hr
   ·rename_i x hx
    injection hr with hr;subst hr
    obtain ⟨d,e,f,rfl,h1,h2,h3⟩:=hv.three
    simp only [Rl] at h2;subst h2
    obtain ⟨l,rfl,h2⟩:=h1
    intro y hy
    simp only [setO,← h2.length_eq] at hy
    split at hy
    ·rename_i hi
     injection hy with hy;subst hy
     exact ⟨.agg _,if_pos (by rw [h2.length_eq];exact hi),_,rfl,h2.set _ (zfI hx h3)⟩
    ·cases hy
   ·cases hr
  ·cases hr
 | fld j =>
  simp only [tP] at hr
  split at hr
  ·split at hr
   ·rename_i v hp
    injection hr with hr;subst hr
    obtain ⟨d,rfl,h1⟩:=hv.one
    obtain ⟨l,rfl,h2⟩:=h1
    obtain ⟨d,h3,h4⟩:=zpN hp h2
    exact ⟨d,h3,h4⟩
   ·cases hr
  ·cases hr
 | setf j =>
  simp only [tP] at hr
  split at hr
  ·split at hr
   ·rename_i y hp
    injection hr with hr;subst hr
    obtain ⟨d,e,rfl,h1,h2⟩:=hv.two
    obtain ⟨l,rfl,h3⟩:=h1
    obtain ⟨h4,h5⟩:=zrs hp h3 h2
    exact ⟨_,if_pos h4,_,rfl,h5⟩
   ·cases hr
  ·cases hr
 | mk =>
  simp only [tP] at hr
  split at hr
  ·split at hr
   ·rename_i l hl
    injection hr with hr;subst hr
    exact ⟨_,rfl,_,rfl,zkm hv hl⟩
   ·cases hr
  ·injection hr with hr;subst hr
   exact ⟨_,rfl,_,rfl,zqx hv⟩
 | mks =>
  simp only [tP] at hr
  split at hr
  ·split at hr
   ·rename_i l hl
    injection hr with hr;subst hr
    exact ⟨_,rfl,_,rfl,zkm hv hl⟩
   ·cases hr
  ·cases hr
 | sub =>
  simp only [tP] at hr
  split at hr
  ·injection hr with hr;subst hr
   obtain ⟨d,e,f,rfl,h1,h2,h3⟩:=hv.three
   simp only [Rl] at h2 h3;subst h2 h3
   obtain ⟨l,h1,h2⟩:=h1
   intro y hy
   simp only [subO,← h2.length_eq] at hy
   split at hy
   ·rename_i hi
    injection hy with hy;subst hy
    rcases zba h1 with h1|⟨h1,h1'⟩
    ·subst h1
     exact ⟨.sl _,if_pos (by rw [h2.length_eq];exact hi),_,rfl,(h2.take _).drop _⟩
    ·subst h1 h1'
     refine ⟨.nil,if_pos (all0 hi h2.length_eq),[],rfl,?_⟩
     exact h2.nilSub _ _
   ·cases hy
  ·cases hr
 | app b =>
  simp only [tP] at hr
  split at hr
  ·split at hr
   ·rename_i x hx
    injection hr with hr;subst hr
    obtain ⟨d,e,rfl,h1,h2⟩:=hv.two
    exact zr1 h1 (zfI hx h2)
   ·cases hr
  ·cases hr
 | zext z b =>
  simp only [tP] at hr
  split at hr
  ·split at hr
   ·rename_i hf
    injection hr with hr;subst hr
    obtain ⟨d,e,rfl,h1,h2⟩:=hv.two
    simp only [Rl] at h2;subst h2
    intro y hy
    simp only [zvr] at hy
    split at hy
    ·rename_i hn
     obtain ⟨d,g1,g2⟩:=zr1 h1 (Rl.mkSl (All2.rep (zl8 hf) _)) y hy
     exact ⟨d,by simp only [Prim.run,if_pos hn];exact g1,g2⟩
    ·cases hy
   ·cases hr
  ·cases hr
 | rep z b =>
  simp only [tP] at hr
  split at hr
  ·split at hr
   ·rename_i hf
    injection hr with hr;subst hr
    obtain ⟨d,e,rfl,h1,h2⟩:=hv.two
    simp only [Rl] at h1 h2;subst h1 h2
    intro y hy
    simp only [repO] at hy
    split at hy
    ·rename_i hn
     injection hy with hy;subst hy
     exact ⟨_,if_pos hn,Rl.mkSl (All2.rep (zl8 hf) _)⟩
    ·cases hy
   ·cases hr
  ·cases hr
 | clone b =>
  simp only [tP] at hr
  split at hr
  ·injection hr with hr;subst hr
   obtain ⟨d,rfl,h1⟩:=hv.one
   intro y hy
   obtain ⟨l,h2,h3⟩:=h1.els
   simp only [zaD,← h3.length_eq] at hy
   split at hy
   ·rename_i hn
    injection hy with hy;subst hy
    refine ⟨d,?_,l,h2,h3⟩
    simp only [Prim.run,h2,hn,if_true]
   ·cases hy
  ·cases hr
 | idx =>
  simp only [tP] at hr
  split at hr
  ·injection hr with hr;subst hr
   obtain ⟨d,e,rfl,h1,h2⟩:=hv.two
   simp only [Rl] at h2;subst h2
   obtain ⟨l,h1,h2⟩:=h1.els
   intro y hy
   simp only [idxO,← h2.length_eq] at hy
   split at hy
   ·rename_i hi
    injection hy with hy;subst hy
    rcases zba h1 with h1|⟨h1,h1'⟩
    ·subst h1
     exact ⟨_,if_pos (by rw [h2.length_eq];exact hi),rfl⟩
    ·subst h1'
     exact (zvt hi h2.length_eq).elim
   ·cases hy
  ·cases hr
 | idxn n =>
  simp only [tP] at hr
  split at hr
  ·injection hr with hr;subst hr
   obtain ⟨d,rfl,h1⟩:=hv.one
   simp only [Rl] at h1;subst h1
   intro y hy
   simp only [idxO] at hy
   split at hy
   ·rename_i hi
    injection hy with hy;subst hy
    exact ⟨_,if_pos hi,rfl⟩
   ·cases hy
  ·cases hr
 | idxv =>
  simp only [tP] at hr
  split at hr
  ·injection hr with hr;subst hr
   obtain ⟨d,e,f,rfl,h1,h2,h3⟩:=hv.three
   simp only [Rl] at h1 h2 h3;subst h1 h2 h3
   intro y hy
   simp only [zm6] at hy
   split at hy
   ·rename_i hi
    injection hy with hy;subst hy
    exact ⟨_,if_pos hi,rfl⟩
   ·cases hy
  ·cases hr
 | rng =>
  simp only [tP] at hr
  split at hr
  ·injection hr with hr;subst hr
   obtain ⟨d,e,f,rfl,h1,h2,h3⟩:=hv.three
   simp only [Rl] at h2 h3;subst h2 h3
   obtain ⟨l,h1,h2⟩:=h1.els
   intro y hy
   simp only [rngO,← h2.length_eq] at hy
   split at hy
   ·rename_i hi
    injection hy with hy;subst hy
    refine ⟨_,?_,rfl⟩
    simp only [Prim.run,h1]
    exact if_pos (by rw [h2.length_eq];exact hi)
   ·cases hy
  ·cases hr
 | pick =>
  simp only [tP] at hr
  split at hr
  ·split at hr
   ·rename_i b hb
    injection hr with hr;subst hr
    obtain ⟨d,e,f,rfl,h1,h2,h3⟩:=hv.three
    simp only [Rl] at h1;subst h1
    have h3:=zfI hb h3
    exact zu1 h2 h3 _
   ·cases hr
  ·cases hr
 | isnil =>
  simp only [tP] at hr
  split at hr
  ·injection hr with hr;subst hr
   obtain ⟨d,rfl,h1⟩:=hv.one
   obtain ⟨l,h1,h2⟩:=h1.els
   intro y hy
   simp only [zt6] at hy
   split at hy
   ·cases hy
   ·injection hy with hy;subst hy
    have h1:d.els=some l:=by assumption
    rcases zba h1 with h1|⟨h1,h1'⟩
    ·subst h1
     exact ⟨_,rfl,rfl⟩
    ·subst h1'
     exact h2.elim
  ·cases hr
 | eqv =>
  simp only [tP] at hr
  split at hr
  ·split at hr
   ·rename_i hf
    split at hr
    ·rename_i b hb
     injection hr with hr;subst hr
     obtain ⟨d,e,rfl,h1,h2⟩:=hv.two
     exact ⟨_,rfl,by simp only [Rl];rw [zrI hf h1 (zfI hb h2)]⟩
    ·cases hr
   ·cases hr
  ·cases hr
 | slen =>
  simp only [tP] at hr
  split at hr
  ·injection hr with hr;subst hr
   obtain ⟨d,rfl,h1⟩:=hv.one
   obtain ⟨s,rfl,h2⟩:=h1
   simp only at h2;subst h2
   exact ⟨_,rfl,by simp only [Rl];rw [zfo]⟩
  ·cases hr
 | sget =>
  simp only [tP] at hr
  split at hr
  ·injection hr with hr;subst hr
   obtain ⟨d,e,rfl,h1,h2⟩:=hv.two
   simp only [Rl] at h2;subst h2
   obtain ⟨s,rfl,h2⟩:=h1
   simp only at h2;subst h2
   intro y hy
   simp only [getO] at hy
   split at hy
   ·rename_i hi
    obtain ⟨b,h3,h4⟩:=zre hy
    refine ⟨.int .u8 b.toNat,?_,by simp only [Rl];rw [h4]⟩
    simp only [Prim.run,if_pos hi,h3]
    rfl
   ·cases hy
  ·cases hr
 | ssub =>
  simp only [tP] at hr
  split at hr
  ·injection hr with hr;subst hr
   obtain ⟨d,e,f,rfl,h1,h2,h3⟩:=hv.three
   simp only [Rl] at h2 h3;subst h2 h3
   obtain ⟨s,rfl,h2⟩:=h1
   simp only at h2;subst h2
   intro y hy
   simp only [subO] at hy
   split at hy
   ·rename_i hi
    injection hy with hy
    refine ⟨.str _,if_pos (by rw [← zfo];exact hi),_,rfl,?_⟩
    rw [zkH]
    exact hy.symm
   ·cases hy
  ·cases hr
 | tosl =>
  simp only [tP] at hr
  split at hr
  ·injection hr with hr;subst hr
   obtain ⟨d,rfl,h1⟩:=hv.one
   obtain ⟨l,rfl,h1⟩:=h1
   exact ⟨_,rfl,Rl.mkSl h1⟩
  ·cases hr
 | clr z =>
  simp only [tP] at hr
  split at hr
  ·split at hr
   ·rename_i hf
    injection hr with hr;subst hr
    obtain ⟨d,rfl,h1⟩:=hv.one
    obtain ⟨l,h1,h2⟩:=h1.els
    rcases zba h1 with h1|⟨h1,h1'⟩
    ·subst h1
     exact ⟨_,rfl,Rl.mkSl (by rw [h2.length_eq];exact All2.rep (zl8 hf) _)⟩
    ·subst h1 h1'
     refine ⟨_,rfl,[],rfl,?_⟩
     have hl:=h2.length_eq
     simp only [List.length_nil] at hl
     show All2 _ [] (List.replicate _ _)
     rw [← hl]
     trivial
   ·cases hr
  ·cases hr
 | cpy =>
  simp only [tP] at hr
  split at hr
  ·split at hr
   ·rename_i m hm
    injection hr with hr;subst hr
    obtain ⟨d,e,rfl,h1,h2⟩:=hv.two
    obtain ⟨l,rfl,h1⟩:=h1
    obtain ⟨l',h2,h3⟩:=(zfI hm h2).els
    refine ⟨.agg (l'.take l.length++l.drop l'.length),by simp only [Prim.run,h2],_,rfl,?_⟩
    show All2 _ _ (cpyT _ m)
    unfold cpyT
    rw [h1.length_eq,h3.length_eq]
    exact (h3.take _).append (h1.drop _)
   ·cases hr
  ·cases hr
 | cpyv =>
  simp only [tP] at hr
  split at hr
  ·split at hr
   ·rename_i m hm
    injection hr with hr;subst hr
    obtain ⟨d,e,f,g,rfl,h1,h2,h3,h4⟩:=hv.four
    simp only [Rl] at h2 h3;subst h2 h3
    obtain ⟨l,h1,h2⟩:=h1.els
    obtain ⟨l',h5,h6⟩:=(zfI hm h4).els
    intro y hy
    simp only [zoE,← h2.length_eq] at hy
    split at hy
    ·rename_i hi
     injection hy with hy
     simp only [Prim.run,h1,h5]
     rw [if_pos (by rw [h2.length_eq];exact hi)]
     refine ⟨_,rfl,?_⟩
     rcases zba h1 with h1|⟨h1,h1'⟩
     ·subst h1
      refine ⟨_,rfl,?_⟩
      rw [← hy,← (h6.take _).length_eq]
      exact (h2.take _).append ((h6.take _).append (h2.drop _))
     ·subst h1 h1'
      refine ⟨[],rfl,?_⟩
      rw [← hy]
      exact h2.nilCpy hi _
    ·cases hy
   ·cases hr
  ·cases hr
 | appv b =>
  simp only [tP] at hr
  split at hr
  ·split at hr
   ·rename_i m hm
    injection hr with hr;subst hr
    obtain ⟨d,e,f,rfl,h1,h2,h3⟩:=hv.three
    simp only [Rl] at h2;subst h2
    obtain ⟨l,h1,h2⟩:=h1.els
    obtain ⟨l',h5,h6⟩:=(zfI hm h3).els
    intro y hy
    simp only [zvl] at hy
    split at hy
    ·rename_i hi
     injection hy with hy
     simp only [Prim.run,h1,h5]
     rw [if_pos (by rw [h2.length_eq,h6.length_eq];exact hi)]
     rw [← h6.length_eq] at hy
     refine ⟨_,rfl,?_⟩
     rcases zba h1 with h1|⟨h1,h1'⟩
     ·subst h1
      refine ⟨_,rfl,?_⟩
      rw [← hy]
      exact (h2.take _).append (h6.append (h2.drop _))
     ·subst h1 h1'
      cases l' with
      | nil =>
       refine ⟨[],rfl,?_⟩
       rw [← hy]
       exact h2.nilApp h6 _ _
      | cons a l' =>
       refine ⟨_,rfl,?_⟩
       rw [← hy]
       exact (h2.take _).append (h6.append (h2.drop _))
    ·cases hy
   ·cases hr
  ·cases hr
 | eqi =>
  simp only [tP] at hr
  split at hr
  ·injection hr with hr;subst hr
   obtain ⟨d,e,rfl,h1,h2⟩:=hv.two
   simp only [Rl] at h1 h2;subst h1 h2
   intro y hy
   simp only [eqiO] at hy
   split at hy
   ·rename_i hi
    injection hy with hy;subst hy
    exact ⟨_,if_pos hi,rfl⟩
   ·cases hy
  ·cases hr
 | vlen =>
  simp only [tP] at hr
  split at hr
  ·injection hr with hr;subst hr
   obtain ⟨d,e,rfl,h1,h2⟩:=hv.two
   simp only [Rl] at h1 h2;subst h1 h2
   exact ⟨_,rfl,rfl⟩
  ·cases hr
 | vadd =>
  simp only [tP] at hr
  split at hr
  ·injection hr with hr;subst hr
   obtain ⟨d,e,rfl,h1,h2⟩:=hv.two
   simp only [Rl] at h1 h2;subst h1 h2
   exact ⟨_,rfl,rfl⟩
  ·cases hr
 | rng3 =>
  simp only [tP] at hr
  split at hr
  ·injection hr with hr;subst hr
   obtain ⟨d,e,f,g,rfl,h1,h2,h3,h4⟩:=hv.four
   simp only [Rl] at h2 h3 h4;subst h2 h3 h4
   obtain ⟨l,h1,h2⟩:=h1.els
   intro y hy
   simp only [zvd,← h2.length_eq] at hy
   split at hy
   ·rename_i hi
    injection hy with hy;subst hy
    refine ⟨_,?_,rfl⟩
    simp only [Prim.run,h1]
    exact if_pos (by rw [h2.length_eq];exact hi)
   ·cases hy
  ·cases hr
 | rngv =>
  simp only [tP] at hr
  split at hr
  ·injection hr with hr;subst hr
   obtain ⟨d,e,f,g,rfl,h1,h2,h3,h4⟩:=hv.four
   simp only [Rl] at h2 h3 h4;subst h2 h3 h4
   obtain ⟨l,h1,h2⟩:=h1.els
   intro y hy
   simp only [zmO,← h2.length_eq] at hy
   split at hy
   ·rename_i hi
    injection hy with hy;subst hy
    refine ⟨_,?_,rfl⟩
    simp only [Prim.run,h1]
    exact if_pos (by rw [h2.length_eq];exact hi)
   ·cases hy
  ·cases hr
 | nn =>
  simp only [tP] at hr
  split at hr
  ·injection hr with hr;subst hr
   obtain ⟨d,rfl,h1⟩:=hv.one
   obtain ⟨l,h1,h2⟩:=h1.els
   intro y hy
   simp only [nnO] at hy
   split at hy
   ·cases hy
   ·injection hy with hy;subst hy
    have h1:d.els=some l:=by assumption
    rcases zba h1 with h1|⟨h1,h1'⟩
    ·subst h1
     exact ⟨_,rfl,Rl.mkSl h2⟩
    ·subst h1'
     exact h2.elim
  ·cases hr
 | mhas =>
  simp only [tP] at hr
  split at hr
  ·split at hr
   ·rename_i hf
    split at hr
    ·rename_i q hq
     injection hr with hr;subst hr
     obtain ⟨d,e,rfl,h1,h2⟩:=hv.two
     obtain ⟨l,h1,h3⟩:=h1.els
     obtain ⟨o,g1,g2⟩:=zlK hf (zfI hq h2) h3
     refine ⟨_,by simp only [Prim.run,h1,g1];rfl,?_⟩
     simp only [Rl,zu9]
     rcases g2 with ⟨rfl,g3⟩|⟨v,y,rfl,g3,_⟩<;>rw [g3]<;>rfl
    ·cases hr
   ·cases hr
  ·cases hr
 | mget z =>
  simp only [tP] at hr
  split at hr
  ·split at hr
   ·rename_i hf
    simp only [wD0] at hf
    split at hr
    ·rename_i q hq
     injection hr with hr;subst hr
     obtain ⟨d,e,rfl,h1,h2⟩:=hv.two
     obtain ⟨l,h1,h3⟩:=h1.els
     obtain ⟨o,g1,g2⟩:=zlK (by simp only [wD0];exact hf.1) (zfI hq h2) h3
     refine ⟨_,by simp only [Prim.run,h1,g1];rfl,?_⟩
     simp only [zkF]
     rcases g2 with ⟨rfl,g3⟩|⟨v,y,rfl,g3,g4⟩
     ·rw [g3];exact zl8 hf.2
     ·rw [g3];exact g4
    ·cases hr
   ·cases hr
  ·cases hr
 | mput =>
  simp only [tP] at hr
  split at hr
  ·split at hr
   ·rename_i hf
    split at hr
    ·rename_i q hq
     split at hr
     ·rename_i u hu
      injection hr with hr;subst hr
      obtain ⟨d,e,f,rfl,h1,h2,h3⟩:=hv.three
      obtain ⟨l,h1,h4⟩:=h1.els
      obtain ⟨m,g1,g2⟩:=zsr hf (zfI hq h2) (zfI hu h3) h4
      exact ⟨_,by simp only [Prim.run,h1,g1],Rl.mkSl g2⟩
     ·cases hr
    ·cases hr
   ·cases hr
  ·cases hr
 | b2s =>
  simp only [tP] at hr
  split at hr
  ·injection hr with hr;subst hr
   obtain ⟨d,rfl,h1⟩:=hv.one
   obtain ⟨l,h1,h2⟩:=h1.els
   intro y hy
   simp only [b2sO] at hy
   split at hy
   ·rename_i hi
    injection hy with hy;subst hy
    obtain ⟨b,g1,g2⟩:=zua h2 hi
    refine ⟨.str ⟨b.toArray⟩,by simp only [Prim.run,h1,g1,Option.map],_,rfl,?_⟩
    refine Eq.trans g2 ?_
    unfold za4
    rfl
   ·cases hy
  ·cases hr
 | s2b =>
  simp only [tP] at hr
  split at hr
  ·injection hr with hr;subst hr
   obtain ⟨d,rfl,h1⟩:=hv.one
   obtain ⟨s,rfl,h2⟩:=h1
   simp only at h2;subst h2
   refine ⟨_,rfl,Rl.mkSl ?_⟩
   unfold za4
   generalize s.data.toList=l
   induction l with
   | nil=>trivial
   | cons a l ih=>exact ⟨rfl,ih⟩
  ·cases hr
 | min2 =>
  simp only [tP] at hr
  split at hr
  ·split at hr
   ·rename_i hk
    subst hk
    injection hr with hr;subst hr
    obtain ⟨d,e,rfl,h1,h2⟩:=hv.two
    simp only [Rl] at h1 h2;subst h1 h2
    exact ⟨_,if_pos rfl,rfl⟩
   ·cases hr
  ·cases hr
 | max2 =>
  simp only [tP] at hr
  split at hr
  ·split at hr
   ·rename_i hk
    subst hk
    injection hr with hr;subst hr
    obtain ⟨d,e,rfl,h1,h2⟩:=hv.two
    simp only [Rl] at h1 h2;subst h1 h2
    exact ⟨_,if_pos rfl,rfl⟩
   ·cases hr
  ·cases hr
end
end Go.SX
