/- The document's own trial, run over the zJD that are known. Printed by tab.py. -/
import Derived.Test.YtplfgkjjgflhkaaGreatD514
set_option linter.unusedVariables false
set_option maxRecDepth 100000
namespace Go.SX
def zGW (T:List (FuncId×Tree)) (k:Nat) (C0:FuncId→List D→Option (List D)):Nat→FuncId→List D→Option (List D)
 | 0,f,ds=>C0 f ds
 | d + 1,f,ds=>match C0 f ds with
  | some rs=>some rs
  | none=>match T.find? (fun p=>p.1==f) with
   | none=>none
   | some p=>match ev (zGW T k C0 d) k p.2 ds with
    | some (.jmp _ _ rs)=>some rs
    | _=>none
inductive TabOk (cx:Cx) (n:Nat):List (FuncId×Tree)→Prop
 | nil:TabOk cx n []
 | cons {f:FuncId} {t:Tree} {T:List (FuncId×Tree)} (h:zaM cx n f=some t) (r:TabOk cx n T):TabOk cx n ((f,t)::T)
theorem TabOk.get {cx:Cx}{n:Nat}:∀ {T:List (FuncId×Tree)},TabOk cx n T→∀ {f:FuncId}{p:FuncId×Tree},T.find? (fun p=>p.1==f)=some p→zaM cx n f=some p.2
 | _,.nil,f,p,h=>by cases h
 | _,.cons (f:=g) (t:=u) e r,f,p,h=>by
  rw [List.find?_cons] at h
  by_cases q:(g==f)=true
  ·simp only [q] at h
   injection h with h
   subst h
   rw [← eq_of_beq q]
   exact e
  ·simp only [Bool.eq_false_iff.2 q] at h
   exact r.get h
theorem zsS {cx:Cx}{n k:Nat}{C0:FuncId→List D→Option (List D)}{T:List (FuncId×Tree)}(hT:TabOk cx n T):∀ (d:Nat) (f:FuncId) (ds rs:List D),zGW T k C0 d f ds=some rs→zgg cx k n C0 d f ds=some rs
 | 0,f,ds,rs,h=>h
 | d + 1,f,ds,rs,h=>by
  simp only [zGW] at h
  simp only [zgg]
  split at h
  ·rename_i rs' h'
   rw [h']
   exact h
  ·rename_i h'
   rw [h']
   split at h
   ·cases h
   ·rename_i p hp
    rw [hT.get hp]
    split at h
    ·rename_i hev
     simp only [zc9 (fun f ds rs=>zsS hT d f ds rs) (wG0 k) hev]
     exact h
    ·cases h
theorem zHL {cx:Cx}{n k d:Nat}{C0:FuncId→List D→Option (List D)}{T:List (FuncId×Tree)}(hT:TabOk cx n T) {f:FuncId}{ds rs:List D}(h0:C0 f ds=none) (h:(match zaM cx n f with
  | none=>none
  | some t=>match ev (zGW T k C0 d) k t ds with
   | some (.jmp _ _ rs)=>some rs
   | _=>none)=some rs):zgg cx k n C0 (d + 1) f ds=some rs:=by
 simp only [zgg,h0]
 split at h
 ·cases h
 ·rename_i t ht
  rw [ht]
  split at h
  ·rename_i hev
   simp only [zc9 (fun f ds rs=>zsS hT d f ds rs) (wG0 k) hev]
   exact h
  ·cases h
end Go.SX
namespace Go.Proofs.YtplfgkjjgflhkaaGreat
open Go.SX
noncomputable def zJD:List (FuncId×Tree):=[(13,zvp.erase),(14,ztY.erase),(15,zv9.erase),(16,zrK.erase),(17,zws.erase),(18,zt2.erase),(31,zjR.erase),(34,zkm.erase),(45,zmd.erase),(53,ztG.erase),(55,zrn.erase),(74,zmD.erase),(76,zvc.erase),(98,zrr.erase),(128,zj0.erase),(129,zgZ.erase),(131,zm3.erase),(132,zrc.erase),(135,zmf.erase),(137,zoq.erase),(139,zjG.erase),(142,zmo.erase),(145,zuz.erase),(152,zq7.erase),(163,zqL.erase),(164,zmC.erase),(166,zjI.erase),(167,zj5.erase),(182,zq5.erase),(183,zlu.erase),(185,zjL.erase),(186,zdq.erase),(188,zwx.erase),(199,zrE.erase),(204,zoZ.erase),(216,zyW.erase),(217,ztM.erase),(219,znQ.erase),(230,zmW.erase),(232,zr0.erase),(238,zet.erase),(12,zmh.erase),(25,zuh.erase),(26,zus.erase),(47,ziH.erase),(57,zps.erase),(72,zmp.erase),(73,zqY.erase),(75,zk5.erase),(117,zmQ.erase),(133,zy8.erase),(134,zmk.erase),(136,zjO.erase),(141,zwT.erase),(220,zvh.erase),(226,zur.erase),(229,zn7.erase),(236,zdJ.erase),(27,ztT.erase),(33,zpb.erase),(91,zoT.erase),(92,zmi.erase),(102,zzz.erase),(122,zwd.erase),(151,zvi.erase),(162,zsF.erase),(175,zrW.erase),(176,zjT.erase),(201,zrI.erase),(218,zvj.erase),(222,zpw.erase),(223,zq8.erase),(224,zpy.erase),(19,zjJ.erase),(43,zko.erase),(60,ztJ.erase),(67,zuN.erase),(68,zrY.erase),(104,zoI.erase),(114,zrX.erase),(115,zoK.erase),(118,zqJ.erase),(120,zq4.erase),(121,zrU.erase),(126,zop.erase),(127,zlp.erase),(144,znT.erase),(155,zrl.erase),(157,znV.erase),(158,zpC.erase),(169,zmN.erase),(195,zrz.erase),(205,zoJ.erase),(206,zn5.erase),(228,zm4.erase),(233,zuX.erase),(59,zuQ.erase),(69,zrA.erase),(87,zrZ.erase),(105,zsG.erase),(119,zqE.erase),(146,zuW.erase),(147,ztg.erase),(150,zuR.erase),(156,zr2.erase),(159,zqX.erase),(221,ztV.erase),(28,zyI.erase),(44,zkd.erase),(88,zq6.erase),(89,zuJ.erase),(108,zlo.erase),(112,zn1.erase),(148,zq2.erase),(160,zpc.erase),(10,zpe.erase),(23,zki.erase),(11,zm0.erase)]
theorem zGY:TabOk cx 12 zJD:=.cons zt0 (.cons ztb (.cons zwh (.cons zqS (.cons zwf (.cons zup (.cons zr7 (.cons zkU (.cons zmG (.cons zuG (.cons zrp (.cons zmF (.cons zsW (.cons zrg (.cons zjN (.cons zhp (.cons zmy (.cons zrG (.cons zmv (.cons zoP (.cons zjU (.cons zmA (.cons zs4 (.cons zrq (.cons zq9 (.cons zmI (.cons zj7 (.cons zjP (.cons zrt (.cons zkb (.cons zjV (.cons zds (.cons zwt (.cons zrT (.cons zpt (.cons zAu (.cons zvo (.cons zot (.cons zme (.cons zqx (.cons zex (.cons zvF (.cons ztZ (.cons ztS (.cons ziK (.cons zoz (.cons zmm (.cons zrP (.cons zkw (.cons zmJ (.cons zyF (.cons zmu (.cons zjH (.cons zwi (.cons zt3 (.cons zuD (.cons zpr (.cons zdG (.cons ztt (.cons zn8 (.cons znY (.cons zmz (.cons zzl (.cons zwV (.cons zuC (.cons ztp (.cons zrk (.cons zj4 (.cons zqU (.cons zs6 (.cons zoG (.cons zqy (.cons zpa (.cons zj1 (.cons zln (.cons zu1 (.cons zsR (.cons zrj (.cons zn3 (.cons zqu (.cons zoe (.cons zqH (.cons zqM (.cons zqt (.cons zod (.cons zkK (.cons zob (.cons zr5 (.cons zo3 (.cons zo5 (.cons zmU (.cons zra (.cons zpz (.cons zpg (.cons zmH (.cons zve (.cons zuV (.cons zqw (.cons zrx (.cons zsH (.cons zrC (.cons zsU (.cons ztP (.cons zuw (.cons zrS (.cons zr6 (.cons zut (.cons zAx (.cons zkC (.cons zru (.cons zsY (.cons zlj (.cons zoY (.cons zrh (.cons zpn (.cons znP (.cons zla (.cons zmx (.nil))))))))))))))))))))))))))))))))))))))))))))))))))))))))))))))))))))))))))))))))))))))))))))))))))))))))))))))))))))))
def zs8:Bool:=true
def zsL:PnT:=⟨[],[.bool],fun _=>zs8⟩
theorem zAT:FnOk cx 12 noC 6 zsL.fn:=fun ds x r hx hr=>by
 have hx:ds=[]:=hx
 subst hx
 exact ⟨[.bool true],zHN 100 12 (zHL (d:=11) zGY rfl (by kernel_rfl)),.bool true,rfl,congrArg D.bool (Option.some.inj hr)⟩
end Go.Proofs.YtplfgkjjgflhkaaGreat
