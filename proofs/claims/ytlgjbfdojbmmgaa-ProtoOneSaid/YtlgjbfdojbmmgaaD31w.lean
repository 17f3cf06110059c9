/- The document's own trial, run over the zxe that are known. Printed by tab.py. -/
import Derived.Test.YtlgjbfdojbmmgaaD312
set_option linter.unusedVariables false
set_option maxRecDepth 100000
namespace Go.SX
def zuO (T:List (FuncId×Tree)) (k:Nat) (C0:FuncId→List D→Option (List D)):Nat→FuncId→List D→Option (List D)
 | 0,f,ds=>C0 f ds
 | d + 1,f,ds=>match C0 f ds with
  | some rs=>some rs
  | none=>match T.find? (fun p=>p.1==f) with
   | none=>none
   | some p=>match ev (zuO T k C0 d) k p.2 ds with
    | some (.jmp _ _ rs)=>some rs
    | _=>none
inductive TabOk (cx:Cx) (n:Nat):List (FuncId×Tree)→Prop
 | nil:TabOk cx n []
 | cons {f:FuncId} {t:Tree} {T:List (FuncId×Tree)} (h:zao cx n f=some t) (r:TabOk cx n T):TabOk cx n ((f,t)::T)
theorem TabOk.get {cx:Cx}{n:Nat}:∀ {T:List (FuncId×Tree)},TabOk cx n T→∀ {f:FuncId}{p:FuncId×Tree},T.find? (fun p=>p.1==f)=some p→zao cx n f=some p.2
 | _,.nil,f,p,h=>by cases h
 | _,.cons (f:=g) (t:=u) e r,f,p,h=>by
  rw [List.find?_cons] at h
  by_cases q:(g==f)=true
  ·simp only [q] at h
   injection h with h
   subst h
   rw [← eq_of_beq q]
   exact e
  ·simp only [Bool.eq_false_iff.2 q] at h
   exact r.get h
theorem zkI {cx:Cx}{n k:Nat}{C0:FuncId→List D→Option (List D)}{T:List (FuncId×Tree)}(hT:TabOk cx n T):∀ (d:Nat) (f:FuncId) (ds rs:List D),zuO T k C0 d f ds=some rs→zdb cx k n C0 d f ds=some rs
 | 0,f,ds,rs,h=>h
 | d + 1,f,ds,rs,h=>by
  simp only [zuO] at h
  simp only [zdb]
  split at h
  ·rename_i rs' h'
   rw [h']
   exact h
  ·rename_i h'
   rw [h']
   split at h
   ·cases h
   ·rename_i p hp
    rw [hT.get hp]
    split at h
    ·rename_i hev
     simp only [zbl (fun f ds rs=>zkI hT d f ds rs) (wG0 k) hev]
     exact h
    ·cases h
theorem zvn {cx:Cx}{n k d:Nat}{C0:FuncId→List D→Option (List D)}{T:List (FuncId×Tree)}(hT:TabOk cx n T) {f:FuncId}{ds rs:List D}(h0:C0 f ds=none) (h:(match zao cx n f with
  | none=>none
  | some t=>match ev (zuO T k C0 d) k t ds with
   | some (.jmp _ _ rs)=>some rs
   | _=>none)=some rs):zdb cx k n C0 (d + 1) f ds=some rs:=by
 simp only [zdb,h0]
 split at h
 ·cases h
 ·rename_i t ht
  rw [ht]
  split at h
  ·rename_i hev
   simp only [zbl (fun f ds rs=>zkI hT d f ds rs) (wG0 k) hev]
   exact h
  ·cases h
end Go.SX
namespace Go.Proofs.Ytlgjbfdojbmmgaa
open Go.SX
noncomputable def zxe:List (FuncId×Tree):=[(89,zhi.erase),(91,zhx.erase),(100,zgd.erase),(123,zem.erase),(125,zhS.erase),(141,zgc.erase),(149,zdg.erase),(150,zb5.erase),(152,zek.erase),(158,zkg.erase),(159,zhT.erase),(161,zfu.erase),(177,zel.erase),(179,zfY.erase),(184,zbc.erase),(40,zhz.erase),(121,zej.erase),(122,zfL.erase),(124,zdR.erase),(162,zhF.erase),(167,zhr.erase),(176,zft.erase),(181,za0.erase),(88,ze5.erase),(93,zhZ.erase),(143,zf6.erase),(155,ziQ.erase),(160,zhc.erase),(163,ze4.erase),(164,zfR.erase),(165,zfr.erase),(90,zfe.erase),(137,zht.erase),(138,zfU.erase),(173,zh1.erase),(42,zhI.erase),(43,zha.erase),(48,zhu.erase),(99,zhW.erase),(154,zhp.erase),(45,zfH.erase),(46,zfy.erase),(49,zdW.erase),(41,znK.erase)]
theorem zvg:TabOk cx 12 zxe:=.cons zlW (.cons zkw (.cons zjt (.cons zg2 (.cons zku (.cons zjv (.cons zfA (.cons zdK (.cons zgS (.cons zoV (.cons zkR (.cons ziG (.cons zgU (.cons zjK (.cons zcb (.cons zkC (.cons zgQ (.cons zjC (.cons zfP (.cons zk1 (.cons zkq (.cons zh8 (.cons zbB (.cons zim (.cons zkS (.cons zjI (.cons zmS (.cons zlu (.cons ziu (.cons zjz (.cons ziL (.cons zh4 (.cons zkZ (.cons zjD (.cons zkE (.cons zlf (.cons zla (.cons zlh (.cons zkG (.cons zkz (.cons zjy (.cons ziN (.cons zgi (.cons zrU (.nil))))))))))))))))))))))))))))))))))))))))))))
def zkH:Bool:=true
def zhy:PnT:=⟨[],[.bool],fun _=>zkH⟩
theorem zqO:FnOk cx 12 noC 39 zhy.fn:=fun ds x r hx hr=>by
 have hx:ds=[]:=hx
 subst hx
 exact ⟨[.bool true],zu8 100 12 (zvn (d:=11) zvg rfl (by kernel_rfl)),.bool true,rfl,congrArg D.bool (Option.some.inj hr)⟩
end Go.Proofs.Ytlgjbfdojbmmgaa
