/- The document's own trial, run over the zyw that are known. Printed by tab.py. -/
import Derived.Test.YtlgjbfdojbmmgaaD342
set_option linter.unusedVariables false
set_option maxRecDepth 100000
namespace Go.SX
def zwh (T:List (FuncId×Tree)) (k:Nat) (C0:FuncId→List D→Option (List D)):Nat→FuncId→List D→Option (List D)
 | 0,f,ds=>C0 f ds
 | d + 1,f,ds=>match C0 f ds with
  | some rs=>some rs
  | none=>match T.find? (fun p=>p.1==f) with
   | none=>none
   | some p=>match ev (zwh T k C0 d) k p.2 ds with
    | some (.jmp _ _ rs)=>some rs
    | _=>none
inductive TabOk (cx:Cx) (n:Nat):List (FuncId×Tree)→Prop
 | nil:TabOk cx n []
 | cons {f:FuncId} {t:Tree} {T:List (FuncId×Tree)} (h:zaj cx n f=some t) (r:TabOk cx n T):TabOk cx n ((f,t)::T)
theorem TabOk.get {cx:Cx}{n:Nat}:∀ {T:List (FuncId×Tree)},TabOk cx n T→∀ {f:FuncId}{p:FuncId×Tree},T.find? (fun p=>p.1==f)=some p→zaj cx n f=some p.2
 | _,.nil,f,p,h=>by cases h
 | _,.cons (f:=g) (t:=u) e r,f,p,h=>by
  rw [List.find?_cons] at h
  by_cases q:(g==f)=true
  ·simp only [q] at h
   injection h with h
   subst h
   rw [← eq_of_beq q]
   exact e
  ·simp only [Bool.eq_false_iff.2 q] at h
   exact r.get h
theorem zlt {cx:Cx}{n k:Nat}{C0:FuncId→List D→Option (List D)}{T:List (FuncId×Tree)}(hT:TabOk cx n T):∀ (d:Nat) (f:FuncId) (ds rs:List D),zwh T k C0 d f ds=some rs→zdq cx k n C0 d f ds=some rs
 | 0,f,ds,rs,h=>h
 | d + 1,f,ds,rs,h=>by
  simp only [zwh] at h
  simp only [zdq]
  split at h
  ·rename_i rs' h'
   rw [h']
   exact h
  ·rename_i h'
   rw [h']
   split at h
   ·cases h
   ·rename_i p hp
    rw [hT.get hp]
    split at h
    ·rename_i hev
     simp only [zbs (fun f ds rs=>zlt hT d f ds rs) (wG0 k) hev]
     exact h
    ·cases h
theorem zv6 {cx:Cx}{n k d:Nat}{C0:FuncId→List D→Option (List D)}{T:List (FuncId×Tree)}(hT:TabOk cx n T) {f:FuncId}{ds rs:List D}(h0:C0 f ds=none) (h:(match zaj cx n f with
  | none=>none
  | some t=>match ev (zwh T k C0 d) k t ds with
   | some (.jmp _ _ rs)=>some rs
   | _=>none)=some rs):zdq cx k n C0 (d + 1) f ds=some rs:=by
 simp only [zdq,h0]
 split at h
 ·cases h
 ·rename_i t ht
  rw [ht]
  split at h
  ·rename_i hev
   simp only [zbs (fun f ds rs=>zlt hT d f ds rs) (wG0 k) hev]
   exact h
  ·cases h
end Go.SX
namespace Go.Proofs.Ytlgjbfdojbmmgaa
open Go.SX
noncomputable def zyw:List (FuncId×Tree):=[(89,zio.erase),(91,zh6.erase),(100,zgd.erase),(104,zeA.erase),(106,zeG.erase),(123,zeF.erase),(125,zia.erase),(136,zgU.erase),(141,zf8.erase),(149,zdp.erase),(150,zce.erase),(152,zew.erase),(158,zlH.erase),(159,zhY.erase),(161,zfZ.erase),(177,zez.erase),(179,zgQ.erase),(184,zbl.erase),(40,zim.erase),(121,zes.erase),(122,zgN.erase),(124,zdJ.erase),(162,zhM.erase),(167,ziF.erase),(176,zfi.erase),(181,za2.erase),(88,zfD.erase),(93,ziD.erase),(143,zg0.erase),(155,zjL.erase),(160,zh0.erase),(163,zfH.erase),(164,zgp.erase),(165,zfT.erase),(51,zgv.erase),(90,zfo.erase),(133,zfR.erase),(137,zhU.erase),(138,zgn.erase),(173,ziu.erase),(42,zh8.erase),(48,zif.erase),(97,zfE.erase),(99,zhJ.erase),(154,ziw.erase),(45,zgh.erase),(46,zfO.erase),(49,zdY.erase),(98,zhP.erase),(95,zfs.erase),(96,zfj.erase),(50,zil.erase)]
theorem zwi:TabOk cx 12 zyw:=.cons zlP (.cons zme (.cons zkl (.cons zhG (.cons zht (.cons zhE (.cons zk8 (.cons zkC (.cons zkg (.cons zf3 (.cons zd6 (.cons zhs (.cons zqH (.cons zmC (.cons zjj (.cons zhF (.cons zkq (.cons zcj (.cons zl7 (.cons zhx (.cons zkB (.cons zgx (.cons zl2 (.cons zlw (.cons ziM (.cons zbI (.cons zja (.cons zk9 (.cons zkt (.cons znL (.cons zml (.cons zjs (.cons zkn (.cons zi5 (.cons zkv (.cons zjt (.cons ziO (.cons zmb (.cons zkA (.cons zln (.cons zmf (.cons zl5 (.cons ziP (.cons zlG (.cons zlc (.cons zkE (.cons ziH (.cons zgY (.cons zlF (.cons zi1 (.cons zjv (.cons zlu (.nil))))))))))))))))))))))))))))))))))))))))))))))))))))
def zlE:Bool:=true
def zhQ:PnT:=⟨[],[.bool],fun _=>zlE⟩
theorem zrf:zzK cx 12 noC 47 zhQ.fn:=fun ds x r hx hr=>by
 have hx:ds=[]:=hx
 subst hx
 exact ⟨[.bool true],zv2 100 12 (zv6 (d:=11) zwi rfl (by kernel_rfl)),.bool true,rfl,congrArg D.bool (Option.some.inj hr)⟩
end Go.Proofs.Ytlgjbfdojbmmgaa
