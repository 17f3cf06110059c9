/- The document's own trial, run over the zzY that are known. Printed by tab.py. -/
import Derived.Test.YtdfohlonacbelaaGreatD103
set_option linter.unusedVariables false
set_option maxRecDepth 100000
namespace Go.SX
def zyw (T:List (FuncId×Tree)) (k:Nat) (C0:FuncId→List D→Option (List D)):Nat→FuncId→List D→Option (List D)
 | 0,f,ds=>C0 f ds
 | d + 1,f,ds=>match C0 f ds with
  | some rs=>some rs
  | none=>match T.find? (fun p=>p.1==f) with
   | none=>none
   | some p=>match ev (zyw T k C0 d) k p.2 ds with
    | some (.jmp _ _ rs)=>some rs
    | _=>none
inductive TabOk (cx:Cx) (n:Nat):List (FuncId×Tree)→Prop
 | nil:TabOk cx n []
 | cons {f:FuncId} {t:Tree} {T:List (FuncId×Tree)} (h:zad cx n f=some t) (r:TabOk cx n T):TabOk cx n ((f,t)::T)
theorem TabOk.get {cx:Cx}{n:Nat}:∀ {T:List (FuncId×Tree)},TabOk cx n T→∀ {f:FuncId}{p:FuncId×Tree},T.find? (fun p=>p.1==f)=some p→zad cx n f=some p.2
 | _,.nil,f,p,h=>by cases h
 | _,.cons (f:=g) (t:=u) e r,f,p,h=>by
  rw [List.find?_cons] at h
  by_cases q:(g==f)=true
  ·simp only [q] at h
   injection h with h
   subst h
   rw [← eq_of_beq q]
   exact e
  ·simp only [Bool.eq_false_iff.2 q] at h
   exact r.get h
theorem zmE {cx:Cx}{n k:Nat}{C0:FuncId→List D→Option (List D)}{T:List (FuncId×Tree)}(hT:TabOk cx n T):∀ (d:Nat) (f:FuncId) (ds rs:List D),zyw T k C0 d f ds=some rs→zdF cx k n C0 d f ds=some rs
 | 0,f,ds,rs,h=>h
 | d + 1,f,ds,rs,h=>by
  simp only [zyw] at h
  simp only [zdF]
  split at h
  ·rename_i rs' h'
   rw [h']
   exact h
  ·rename_i h'
   rw [h']
   split at h
   ·cases h
   ·rename_i p hp
    rw [hT.get hp]
    split at h
    ·rename_i hev
     simp only [zbx (fun f ds rs=>zmE hT d f ds rs) (wG0 k) hev]
     exact h
    ·cases h
theorem zyF {cx:Cx}{n k d:Nat}{C0:FuncId→List D→Option (List D)}{T:List (FuncId×Tree)}(hT:TabOk cx n T) {f:FuncId}{ds rs:List D}(h0:C0 f ds=none) (h:(match zad cx n f with
  | none=>none
  | some t=>match ev (zyw T k C0 d) k t ds with
   | some (.jmp _ _ rs)=>some rs
   | _=>none)=some rs):zdF cx k n C0 (d + 1) f ds=some rs:=by
 simp only [zdF,h0]
 split at h
 ·cases h
 ·rename_i t ht
  rw [ht]
  split at h
  ·rename_i hev
   simp only [zbx (fun f ds rs=>zmE hT d f ds rs) (wG0 k) hev]
   exact h
  ·cases h
end Go.SX
namespace Go.Proofs.YtdfohlonacbelaaGreat
open Go.SX
noncomputable def zzY:List (FuncId×Tree):=[(25,zjv.erase),(29,zg4.erase),(35,zlp.erase),(36,zld.erase),(37,zjk.erase),(38,zkJ.erase),(40,zi5.erase),(44,zk7.erase),(45,zis.erase),(46,znq.erase),(49,ze3.erase),(52,ziE.erase),(53,zjd.erase),(54,zm9.erase),(55,zmW.erase),(69,zhb.erase),(78,zlD.erase),(79,zmF.erase),(80,zli.erase),(82,zdz.erase),(83,zcy.erase),(85,ze8.erase),(91,zn8.erase),(92,zi3.erase),(94,zgc.erase),(102,zjl.erase),(103,zoq.erase),(104,zqn.erase),(107,zhB.erase),(117,ze7.erase),(119,zhF.erase),(124,zn6.erase),(126,znb.erase),(130,zbt.erase),(131,zor.erase),(6,ziP.erase),(9,zkz.erase),(20,ziQ.erase),(21,zmG.erase),(47,ze2.erase),(48,zhc.erase),(51,zd9.erase),(72,zi4.erase),(74,zlt.erase),(95,ziM.erase),(101,ziw.erase),(109,zne.erase),(116,zgy.erase),(123,za9.erase),(125,zoB.erase),(19,zf3.erase),(28,ziA.erase),(42,zjj.erase),(71,zhl.erase),(73,zlA.erase),(77,zlE.erase),(88,zkT.erase),(93,zjh.erase),(97,zfO.erase),(98,zhr.erase),(99,zgs.erase),(105,zkH.erase),(106,ziI.erase),(108,zlc.erase),(17,znG.erase),(32,zk0.erase),(39,zgB.erase),(64,zi8.erase),(65,zg1.erase),(76,zkF.erase),(120,zja.erase),(14,ziy.erase),(15,znY.erase),(16,ziF.erase),(18,zjq.erase),(27,zjt.erase),(43,zjg.erase),(75,zgt.erase),(81,zkB.erase),(96,ziq.erase),(7,zem.erase),(10,zho.erase),(11,zll.erase),(12,zgm.erase),(13,zio.erase),(33,zhE.erase)]
theorem zx7:TabOk cx 12 zzY:=.cons zoy (.cons zlL (.cons zpQ (.cons zpe (.cons zm2 (.cons zpj (.cons zot (.cons zpB (.cons zoA (.cons zrR (.cons zh8 (.cons znL (.cons zmX (.cons zsl (.cons ztU (.cons zlK (.cons zpw (.cons zsS (.cons zpY (.cons zgD (.cons zet (.cons zih (.cons zrW (.cons znk (.cons zkt (.cons znS (.cons zsC (.cons zuI (.cons zl0 (.cons zie (.cons zlM (.cons zry (.cons zsm (.cons zcB (.cons zr9 (.cons zn0 (.cons zp8 (.cons znX (.cons ztu (.cons zil (.cons zl2 (.cons zhd (.cons zn3 (.cons zph (.cons zny (.cons znj (.cons zsw (.cons zko (.cons zbQ (.cons zsM (.cons zj9 (.cons znV (.cons znU (.cons zlX (.cons zpn (.cons zp9 (.cons zp7 (.cons zov (.cons zjR (.cons zlH (.cons zkc (.cons zpu (.cons zod (.cons zpS (.cons zsV (.cons zpy (.cons zjM (.cons zm5 (.cons zlU (.cons zp6 (.cons znN (.cons zns (.cons zrr (.cons zmT (.cons znO (.cons zoe (.cons zom (.cons zjL (.cons zpL (.cons zox (.cons zgV (.cons zlP (.cons zqa (.cons zj4 (.cons znw (.cons zlS (.nil))))))))))))))))))))))))))))))))))))))))))))))))))))))))))))))))))))))))))))))))))))))
def zmR:Bool:=true
def ziX:PnT:=⟨[],[.bool],fun _=>zmR⟩
theorem ztF:FnOk cx 12 noC 5 ziX.fn:=fun ds x r hx hr=>by
 have hx:ds=[]:=hx
 subst hx
 exact ⟨[.bool true],zyC 100 12 (zyF (d:=11) zx7 rfl (by kernel_rfl)),.bool true,rfl,congrArg D.bool (Option.some.inj hr)⟩
end Go.Proofs.YtdfohlonacbelaaGreat
