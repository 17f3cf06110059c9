/- The document's own trial, run over the zJt that are known. Printed by tab.py. -/
import Derived.Test.YtplfgkjjgflhkaaGreatD514
set_option linter.unusedVariables false
set_option maxRecDepth 100000
namespace Go.SX
def zHR (T:List (FuncId×Tree)) (k:Nat) (C0:FuncId→List D→Option (List D)):Nat→FuncId→List D→Option (List D)
 | 0,f,ds=>C0 f ds
 | d + 1,f,ds=>match C0 f ds with
  | some rs=>some rs
  | none=>match T.find? (fun p=>p.1==f) with
   | none=>none
   | some p=>match ev (zHR T k C0 d) k p.2 ds with
    | some (.jmp _ _ rs)=>some rs
    | _=>none
inductive TabOk (cx:Cx) (n:Nat):List (FuncId×Tree)→Prop
 | nil:TabOk cx n []
 | cons {f:FuncId} {t:Tree} {T:List (FuncId×Tree)} (h:zaM cx n f=some t) (r:TabOk cx n T):TabOk cx n ((f,t)::T)
theorem TabOk.get {cx:Cx}{n:Nat}:∀ {T:List (FuncId×Tree)},TabOk cx n T→∀ {f:FuncId}{p:FuncId×Tree},T.find? (fun p=>p.1==f)=some p→zaM cx n f=some p.2
 | _,.nil,f,p,h=>by cases h
 | _,.cons (f:=g) (t:=u) e r,f,p,h=>by
  rw [List.find?_cons] at h
  by_cases q:(g==f)=true
  ·simp only [q] at h
   injection h with h
   subst h
   rw [← eq_of_beq q]
   exact e
  ·simp only [Bool.eq_false_iff.2 q] at h
   exact r.get h
theorem zsY {cx:Cx}{n k:Nat}{C0:FuncId→List D→Option (List D)}{T:List (FuncId×Tree)}(hT:TabOk cx n T):∀ (d:Nat) (f:FuncId) (ds rs:List D),zHR T k C0 d f ds=some rs→zgd cx k n C0 d f ds=some rs
 | 0,f,ds,rs,h=>h
 | d + 1,f,ds,rs,h=>by
  simp only [zHR] at h
  simp only [zgd]
  split at h
  ·rename_i rs' h'
   rw [h']
   exact h
  ·rename_i h'
   rw [h']
   split at h
   ·cases h
   ·rename_i p hp
    rw [hT.get hp]
    split at h
    ·rename_i hev
     simp only [zdf (fun f ds rs=>zsY hT d f ds rs) (wG0 k) hev]
     exact h
    ·cases h
theorem zHF {cx:Cx}{n k d:Nat}{C0:FuncId→List D→Option (List D)}{T:List (FuncId×Tree)}(hT:TabOk cx n T) {f:FuncId}{ds rs:List D}(h0:C0 f ds=none) (h:(match zaM cx n f with
  | none=>none
  | some t=>match ev (zHR T k C0 d) k t ds with
   | some (.jmp _ _ rs)=>some rs
   | _=>none)=some rs):zgd cx k n C0 (d + 1) f ds=some rs:=by
 simp only [zgd,h0]
 split at h
 ·cases h
 ·rename_i t ht
  rw [ht]
  split at h
  ·rename_i hev
   simp only [zdf (fun f ds rs=>zsY hT d f ds rs) (wG0 k) hev]
   exact h
  ·cases h
end Go.SX
namespace Go.Proofs.YtplfgkjjgflhkaaGreat
open Go.SX
noncomputable def zJt:List (FuncId×Tree):=[(13,zu0.erase),(14,zuH.erase),(15,zwY.erase),(16,zro.erase),(17,zwQ.erase),(18,ztS.erase),(31,zjQ.erase),(34,zkD.erase),(45,zmj.erase),(53,zth.erase),(55,zrN.erase),(74,zmd.erase),(76,zty.erase),(98,zrk.erase),(128,zj5.erase),(129,zhb.erase),(131,zmV.erase),(132,zrJ.erase),(135,zm1.erase),(137,zpq.erase),(139,zjP.erase),(142,zmz.erase),(145,zuX.erase),(152,zrA.erase),(163,zrt.erase),(164,zmM.erase),(166,zjF.erase),(167,zjN.erase),(182,zrx.erase),(183,zky.erase),(185,zjM.erase),(186,zdr.erase),(188,zws.erase),(199,zrG.erase),(204,zn6.erase),(216,zyU.erase),(217,ztx.erase),(219,zpt.erase),(230,zmH.erase),(232,zqA.erase),(238,zey.erase),(12,zmv.erase),(25,zt8.erase),(26,zsG.erase),(47,ziJ.erase),(57,zo2.erase),(72,zmx.erase),(73,zrS.erase),(75,zkt.erase),(117,zmG.erase),(133,zyK.erase),(134,zmY.erase),(136,zj1.erase),(141,zwK.erase),(220,zu7.erase),(226,zt9.erase),(229,zpb.erase),(236,zdy.erase),(27,zsV.erase),(33,zoD.erase),(91,zpc.erase),(92,zmu.erase),(102,zzb.erase),(122,zwc.erase),(151,ztq.erase),(162,zsR.erase),(175,zrV.erase),(176,zjY.erase),(201,zrW.erase),(218,zuK.erase),(222,zpo.erase),(223,zrl.erase),(224,zoV.erase),(19,zjR.erase),(43,zk7.erase),(60,zuE.erase),(67,ztY.erase),(68,zrQ.erase),(104,znW.erase),(114,zr3.erase),(115,zoB.erase),(118,zrL.erase),(120,zq8.erase),(121,zrq.erase),(126,zoJ.erase),(127,zln.erase),(144,zo5.erase),(155,zrZ.erase),(157,zpp.erase),(158,zo0.erase),(169,zmZ.erase),(195,zru.erase),(205,zpa.erase),(206,zoT.erase),(228,zm4.erase),(233,ztm.erase),(59,zs3.erase),(69,zrH.erase),(87,zrE.erase),(105,ztN.erase),(119,zrU.erase),(146,zs9.erase),(147,zuB.erase),(150,ztd.erase),(156,zq3.erase),(159,zrP.erase),(221,zuA.erase),(28,zAs.erase),(44,zld.erase),(88,zrd.erase),(89,zt7.erase),(108,zkq.erase),(112,zoO.erase),(148,zq6.erase),(160,zom.erase),(10,zoN.erase),(23,zkX.erase),(11,zmg.erase)]
theorem zGP:TabOk cx 12 zJt:=.cons zt3 (.cons zuF (.cons zw0 (.cons zqx (.cons zwV (.cons zs2 (.cons zsf (.cons zka (.cons zms (.cons zve (.cons zrM (.cons zmR (.cons zsM (.cons zrw (.cons zjO (.cons zhx (.cons zmJ (.cons zqR (.cons zmr (.cons zoW (.cons zjZ (.cons zmy (.cons zvr (.cons zr1 (.cons zqC (.cons zmO (.cons zjS (.cons zjL (.cons zrD (.cons zkO (.cons zjV (.cons zdp (.cons zwj (.cons zrb (.cons zoA (.cons zyJ (.cons zu9 (.cons zoG (.cons zmI (.cons zqH (.cons zeq (.cons zvQ (.cons zsS (.cons zuO (.cons ziA (.cons znP (.cons zmi (.cons zrm (.cons zko (.cons zmk (.cons zyY (.cons zml (.cons zjG (.cons zwf (.cons zt4 (.cons zum (.cons zo1 (.cons zdH (.cons zvd (.cons zpf (.cons znV (.cons zm0 (.cons zzG (.cons zwU (.cons zui (.cons zu5 (.cons zrY (.cons zj6 (.cons zrO (.cons zuj (.cons zoa (.cons zr5 (.cons zo6 (.cons zjW (.cons zk0 (.cons ztz (.cons zua (.cons zqP (.cons zpC (.cons zq9 (.cons zoP (.cons zqV (.cons zq7 (.cons zrf (.cons zpA (.cons zkL (.cons znU (.cons zr2 (.cons zoj (.cons zpn (.cons zmA (.cons zr6 (.cons zps (.cons zpm (.cons zmt (.cons ztr (.cons ztT (.cons zqU (.cons zqG (.cons zsX (.cons zqw (.cons zuY (.cons ztA (.cons ztt (.cons zrc (.cons zqT (.cons ztH (.cons zAq (.cons zle (.cons zqu (.cons ztO (.cons zkT (.cons zo8 (.cons zq1 (.cons zon (.cons zoS (.cons zkC (.cons zmp (.nil))))))))))))))))))))))))))))))))))))))))))))))))))))))))))))))))))))))))))))))))))))))))))))))))))))))))))))))))))))))
def zvc:Bool:=true
def zuG:PnT:=⟨[],[.bool],fun _=>zvc⟩
theorem zBO:FnOk cx 12 noC 6 zuG.fn:=fun ds x r hx hr=>by
 have hx:ds=[]:=hx
 subst hx
 exact ⟨[.bool true],zGH 100 12 (zHF (d:=11) zGP rfl (by kernel_rfl)),.bool true,rfl,congrArg D.bool (Option.some.inj hr)⟩
end Go.Proofs.YtplfgkjjgflhkaaGreat
