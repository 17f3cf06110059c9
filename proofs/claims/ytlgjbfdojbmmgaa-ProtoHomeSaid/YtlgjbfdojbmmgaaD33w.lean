/- The document's own trial, run over the zx3 that are known. Printed by tab.py. -/
import Derived.Test.YtlgjbfdojbmmgaaD332
set_option linter.unusedVariables false
set_option maxRecDepth 100000
namespace Go.SX
def zvy (T:List (FuncId×Tree)) (k:Nat) (C0:FuncId→List D→Option (List D)):Nat→FuncId→List D→Option (List D)
 | 0,f,ds=>C0 f ds
 | d + 1,f,ds=>match C0 f ds with
  | some rs=>some rs
  | none=>match T.find? (fun p=>p.1==f) with
   | none=>none
   | some p=>match ev (zvy T k C0 d) k p.2 ds with
    | some (.jmp _ _ rs)=>some rs
    | _=>none
inductive TabOk (cx:Cx) (n:Nat):List (FuncId×Tree)→Prop
 | nil:TabOk cx n []
 | cons {f:FuncId} {t:Tree} {T:List (FuncId×Tree)} (h:zao cx n f=some t) (r:TabOk cx n T):TabOk cx n ((f,t)::T)
theorem TabOk.get {cx:Cx}{n:Nat}:∀ {T:List (FuncId×Tree)},TabOk cx n T→∀ {f:FuncId}{p:FuncId×Tree},T.find? (fun p=>p.1==f)=some p→zao cx n f=some p.2
 | _,.nil,f,p,h=>by cases h
 | _,.cons (f:=g) (t:=u) e r,f,p,h=>by
  rw [List.find?_cons] at h
  by_cases q:(g==f)=true
  ·simp only [q] at h
   injection h with h
   subst h
   rw [← eq_of_beq q]
   exact e
  ·simp only [Bool.eq_false_iff.2 q] at h
   exact r.get h
theorem zkZ {cx:Cx}{n k:Nat}{C0:FuncId→List D→Option (List D)}{T:List (FuncId×Tree)}(hT:TabOk cx n T):∀ (d:Nat) (f:FuncId) (ds rs:List D),zvy T k C0 d f ds=some rs→zdl cx k n C0 d f ds=some rs
 | 0,f,ds,rs,h=>h
 | d + 1,f,ds,rs,h=>by
  simp only [zvy] at h
  simp only [zdl]
  split at h
  ·rename_i rs' h'
   rw [h']
   exact h
  ·rename_i h'
   rw [h']
   split at h
   ·cases h
   ·rename_i p hp
    rw [hT.get hp]
    split at h
    ·rename_i hev
     simp only [zbp (fun f ds rs=>zkZ hT d f ds rs) (wG0 k) hev]
     exact h
    ·cases h
theorem zvv {cx:Cx}{n k d:Nat}{C0:FuncId→List D→Option (List D)}{T:List (FuncId×Tree)}(hT:TabOk cx n T) {f:FuncId}{ds rs:List D}(h0:C0 f ds=none) (h:(match zao cx n f with
  | none=>none
  | some t=>match ev (zvy T k C0 d) k t ds with
   | some (.jmp _ _ rs)=>some rs
   | _=>none)=some rs):zdl cx k n C0 (d + 1) f ds=some rs:=by
 simp only [zdl,h0]
 split at h
 ·cases h
 ·rename_i t ht
  rw [ht]
  split at h
  ·rename_i hev
   simp only [zbp (fun f ds rs=>zkZ hT d f ds rs) (wG0 k) hev]
   exact h
  ·cases h
end Go.SX
namespace Go.Proofs.Ytlgjbfdojbmmgaa
open Go.SX
noncomputable def zx3:List (FuncId×Tree):=[(89,zhi.erase),(91,zhL.erase),(100,zfI.erase),(123,zel.erase),(125,zhZ.erase),(141,zfM.erase),(149,zdi.erase),(150,zb9.erase),(152,zek.erase),(158,zkK.erase),(159,zhT.erase),(161,zfc.erase),(177,zen.erase),(179,zfP.erase),(184,zbj.erase),(40,zhm.erase),(121,zeu.erase),(122,zgv.erase),(124,zdC.erase),(162,zhe.erase),(167,zh3.erase),(176,zfn.erase),(181,zaZ.erase),(88,ze9.erase),(93,zhp.erase),(143,zf2.erase),(155,zjz.erase),(160,zhU.erase),(163,ze2.erase),(164,zfW.erase),(165,zfl.erase),(90,zfm.erase),(137,zhb.erase),(138,zgj.erase),(173,zhc.erase),(42,zlW.erase),(43,zhw.erase),(48,zh1.erase),(99,zhC.erase),(154,zhx.erase),(45,zfK.erase),(46,zfd.erase),(49,zdN.erase),(41,zn8.erase),(44,zje.erase)]
theorem zvQ:TabOk cx 12 zx3:=.cons zkG (.cons zkv (.cons zjZ (.cons zg1 (.cons zln (.cons zjS (.cons zfE (.cons zdT (.cons zg8 (.cons zoX (.cons zl4 (.cons ziN (.cons zg4 (.cons zjX (.cons zcb (.cons zl5 (.cons zgX (.cons zjJ (.cons zgi (.cons zlA (.cons zkA (.cons ziP (.cons zbI (.cons zif (.cons zl0 (.cons zj1 (.cons zm5 (.cons zlh (.cons zh6 (.cons zjB (.cons zh8 (.cons zib (.cons zlG (.cons zjR (.cons zlJ (.cons zqG (.cons zks (.cons zla (.cons zlM (.cons zlP (.cons zjT (.cons ziO (.cons zf8 (.cons zrC (.cons zm2 (.nil)))))))))))))))))))))))))))))))))))))))))))))
def zlk:Bool:=true
def zh2:PnT:=⟨[],[.bool],fun _=>zlk⟩
theorem zp0:FnOk cx 12 noC 39 zh2.fn:=fun ds x r hx hr=>by
 have hx:ds=[]:=hx
 subst hx
 exact ⟨[.bool true],zvp 100 12 (zvv (d:=11) zvQ rfl (by kernel_rfl)),.bool true,rfl,congrArg D.bool (Option.some.inj hr)⟩
end Go.Proofs.Ytlgjbfdojbmmgaa
