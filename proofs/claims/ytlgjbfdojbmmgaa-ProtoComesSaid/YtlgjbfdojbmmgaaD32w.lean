/- The document's own trial, run over the zx4 that are known. Printed by tab.py. -/
import Derived.Test.YtlgjbfdojbmmgaaD322
set_option linter.unusedVariables false
set_option maxRecDepth 100000
namespace Go.SX
def zvw (T:List (FuncId×Tree)) (k:Nat) (C0:FuncId→List D→Option (List D)):Nat→FuncId→List D→Option (List D)
 | 0,f,ds=>C0 f ds
 | d + 1,f,ds=>match C0 f ds with
  | some rs=>some rs
  | none=>match T.find? (fun p=>p.1==f) with
   | none=>none
   | some p=>match ev (zvw T k C0 d) k p.2 ds with
    | some (.jmp _ _ rs)=>some rs
    | _=>none
inductive TabOk (cx:Cx) (n:Nat):List (FuncId×Tree)→Prop
 | nil:TabOk cx n []
 | cons {f:FuncId} {t:Tree} {T:List (FuncId×Tree)} (h:zao cx n f=some t) (r:TabOk cx n T):TabOk cx n ((f,t)::T)
theorem TabOk.get {cx:Cx}{n:Nat}:∀ {T:List (FuncId×Tree)},TabOk cx n T→∀ {f:FuncId}{p:FuncId×Tree},T.find? (fun p=>p.1==f)=some p→zao cx n f=some p.2
 | _,.nil,f,p,h=>by cases h
 | _,.cons (f:=g) (t:=u) e r,f,p,h=>by
  rw [List.find?_cons] at h
  by_cases q:(g==f)=true
  ·simp only [q] at h
   injection h with h
   subst h
   rw [← eq_of_beq q]
   exact e
  ·simp only [Bool.eq_false_iff.2 q] at h
   exact r.get h
theorem zkp {cx:Cx}{n k:Nat}{C0:FuncId→List D→Option (List D)}{T:List (FuncId×Tree)}(hT:TabOk cx n T):∀ (d:Nat) (f:FuncId) (ds rs:List D),zvw T k C0 d f ds=some rs→zc9 cx k n C0 d f ds=some rs
 | 0,f,ds,rs,h=>h
 | d + 1,f,ds,rs,h=>by
  simp only [zvw] at h
  simp only [zc9]
  split at h
  ·rename_i rs' h'
   rw [h']
   exact h
  ·rename_i h'
   rw [h']
   split at h
   ·cases h
   ·rename_i p hp
    rw [hT.get hp]
    split at h
    ·rename_i hev
     simp only [zbo (fun f ds rs=>zkp hT d f ds rs) (wG0 k) hev]
     exact h
    ·cases h
theorem zvN {cx:Cx}{n k d:Nat}{C0:FuncId→List D→Option (List D)}{T:List (FuncId×Tree)}(hT:TabOk cx n T) {f:FuncId}{ds rs:List D}(h0:C0 f ds=none) (h:(match zao cx n f with
  | none=>none
  | some t=>match ev (zvw T k C0 d) k t ds with
   | some (.jmp _ _ rs)=>some rs
   | _=>none)=some rs):zc9 cx k n C0 (d + 1) f ds=some rs:=by
 simp only [zc9,h0]
 split at h
 ·cases h
 ·rename_i t ht
  rw [ht]
  split at h
  ·rename_i hev
   simp only [zbo (fun f ds rs=>zkp hT d f ds rs) (wG0 k) hev]
   exact h
  ·cases h
end Go.SX
namespace Go.Proofs.Ytlgjbfdojbmmgaa
open Go.SX
noncomputable def zx4:List (FuncId×Tree):=[(89,zhF.erase),(91,zhf.erase),(100,zfT.erase),(123,zek.erase),(125,zhp.erase),(141,zfY.erase),(149,zc7.erase),(150,zb0.erase),(152,zen.erase),(158,zlW.erase),(159,zhb.erase),(161,zfs.erase),(177,zem.erase),(179,zfQ.erase),(184,zbd.erase),(40,zhl.erase),(121,zeg.erase),(122,zgo.erase),(124,zdW.erase),(162,zhK.erase),(167,zhI.erase),(176,ze4.erase),(181,zaW.erase),(88,zfk.erase),(93,zhh.erase),(143,zf6.erase),(155,zje.erase),(160,zhi.erase),(163,ze5.erase),(164,zfV.erase),(165,zfd.erase),(90,ze8.erase),(137,zhr.erase),(138,zgk.erase),(173,zhU.erase),(42,zhP.erase),(43,zlR.erase),(48,zh2.erase),(99,zhJ.erase),(154,zhj.erase),(45,zfK.erase),(46,zff.erase),(49,zd0.erase),(41,znC.erase),(44,zjn.erase)]
theorem zvD:TabOk cx 12 zx4:=.cons zk7 (.cons zlA (.cons zjD (.cons zgZ (.cons zlS (.cons zjQ (.cons zfC (.cons zdA (.cons zg0 (.cons zoQ (.cons zkW (.cons zix (.cons zg1 (.cons zjA (.cons zcd (.cons zly (.cons zgW (.cons zj2 (.cons zgn (.cons zkU (.cons zlm (.cons ziO (.cons zbE (.cons zio (.cons zkr (.cons zjU (.cons zmy (.cons zlc (.cons zh6 (.cons zjV (.cons ziD (.cons ziF (.cons zlP (.cons zjX (.cons zlL (.cons zla (.cons zp8 (.cons zlT (.cons zlV (.cons zlM (.cons zjT (.cons ziz (.cons zgr (.cons zrg (.cons zmW (.nil)))))))))))))))))))))))))))))))))))))))))))))
def zk8:Bool:=true
def zhv:PnT:=⟨[],[.bool],fun _=>zk8⟩
theorem zqf:FnOk cx 12 noC 39 zhv.fn:=fun ds x r hx hr=>by
 have hx:ds=[]:=hx
 subst hx
 exact ⟨[.bool true],zvR 100 12 (zvN (d:=11) zvD rfl (by kernel_rfl)),.bool true,rfl,congrArg D.bool (Option.some.inj hr)⟩
end Go.Proofs.Ytlgjbfdojbmmgaa
