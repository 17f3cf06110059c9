import Derived.Test.YtdfohlonacbelaaGreatD113
set_option linter.unusedVariables false
set_option maxRecDepth 100000
namespace Go.SX
def zys (T:List (FuncId×Tree)) (k:Nat) (C0:FuncId→List D→Option (List D)):Nat→FuncId→List D→Option (List D)
 | 0,f,ds=>C0 f ds
 | d + 1,f,ds=>match C0 f ds with
  | some rs=>some rs
  | none=>match T.find? (fun p=>p.1==f) with
   | none=>none
   | some p=>match ev (zys T k C0 d) k p.2 ds with
    | some (.jmp _ _ rs)=>some rs
    | _=>none
inductive TabOk (cx:Cx) (n:Nat):List (FuncId×Tree)→Prop
 | nil:TabOk cx n []
 | cons {f:FuncId} {t:Tree} {T:List (FuncId×Tree)} (h:zad cx n f=some t) (r:TabOk cx n T):TabOk cx n ((f,t)::T)
theorem TabOk.get {cx:Cx}{n:Nat}:∀ {T:List (FuncId×Tree)},TabOk cx n T→∀ {f:FuncId}{p:FuncId×Tree},T.find? (fun p=>p.1==f)=some p→zad cx n f=some p.2
 | _,.nil,f,p,h=>by cases h
 | _,.cons (f:=g) (t:=u) e r,f,p,h=>by
  rw [List.find?_cons] at h
  by_cases q:(g==f)=true
  ·simp only [q] at h
   injection h with h
   subst h
   rw [← eq_of_beq q]
   exact e
  ·simp only [Bool.eq_false_iff.2 q] at h
   exact r.get h
theorem znw {cx:Cx}{n k:Nat}{C0:FuncId→List D→Option (List D)}{T:List (FuncId×Tree)}(hT:TabOk cx n T):∀ (d:Nat) (f:FuncId) (ds rs:List D),zys T k C0 d f ds=some rs→zdG cx k n C0 d f ds=some rs
 | 0,f,ds,rs,h=>h
 | d + 1,f,ds,rs,h=>by
  simp only [zys] at h
  simp only [zdG]
  split at h
  ·rename_i rs' h'
   rw [h']
   exact h
  ·rename_i h'
   rw [h']
   split at h
   ·cases h
   ·rename_i p hp
    rw [hT.get hp]
    split at h
    ·rename_i hev
     simp only [zbE (fun f ds rs=>znw hT d f ds rs) (wG0 k) hev]
     exact h
    ·cases h
theorem zyt {cx:Cx}{n k d:Nat}{C0:FuncId→List D→Option (List D)}{T:List (FuncId×Tree)}(hT:TabOk cx n T) {f:FuncId}{ds rs:List D}(h0:C0 f ds=none) (h:(match zad cx n f with
  | none=>none
  | some t=>match ev (zys T k C0 d) k t ds with
   | some (.jmp _ _ rs)=>some rs
   | _=>none)=some rs):zdG cx k n C0 (d + 1) f ds=some rs:=by
 simp only [zdG,h0]
 split at h
 ·cases h
 ·rename_i t ht
  rw [ht]
  split at h
  ·rename_i hev
   simp only [zbE (fun f ds rs=>znw hT d f ds rs) (wG0 k) hev]
   exact h
  ·cases h
end Go.SX
namespace Go.Proofs.YtdfohlonacbelaaGreat
open Go.SX
noncomputable def zAx:List (FuncId×Tree):=[(29,zhx.erase),(35,zkV.erase),(36,zls.erase),(37,zjc.erase),(38,zk2.erase),(40,zi9.erase),(44,zlD.erase),(45,ziy.erase),(46,zmZ.erase),(49,zeR.erase),(52,ziC.erase),(53,zjr.erase),(54,zmU.erase),(55,zit.erase),(56,zoh.erase),(69,zhi.erase),(78,zkF.erase),(79,zmN.erase),(80,zkQ.erase),(82,zdH.erase),(83,zcx.erase),(85,zeS.erase),(91,znx.erase),(92,ziH.erase),(94,zfT.erase),(102,ziT.erase),(103,zoc.erase),(104,zqG.erase),(107,zhC.erase),(117,zeV.erase),(119,zgT.erase),(124,zol.erase),(126,zmY.erase),(130,zbr.erase),(131,zmV.erase),(9,zkO.erase),(20,zi3.erase),(21,ziW.erase),(22,zoH.erase),(47,ze2.erase),(48,zhv.erase),(51,zer.erase),(72,ziu.erase),(74,zlu.erase),(95,zjg.erase),(101,ziR.erase),(109,zni.erase),(116,zfK.erase),(123,zbd.erase),(125,znS.erase),(19,zfP.erase),(28,ziL.erase),(42,zjf.erase),(71,zha.erase),(73,zld.erase),(77,zkK.erase),(88,zlG.erase),(93,ziP.erase),(97,zgn.erase),(98,zg0.erase),(99,zgr.erase),(105,zlz.erase),(106,zi1.erase),(108,zkX.erase),(17,znI.erase),(32,zkH.erase),(39,zge.erase),(64,zi2.erase),(65,zhl.erase),(76,zkM.erase),(120,zi0.erase),(14,ziY.erase),(15,zow.erase),(16,znW.erase),(18,zmO.erase),(27,ziG.erase),(43,ziv.erase),(75,zfJ.erase),(81,zkG.erase),(96,ziF.erase),(7,zeg.erase),(10,zgR.erase),(11,zla.erase),(12,zgk.erase),(13,ziw.erase),(33,zhf.erase),(34,zht.erase),(8,zfO.erase),(23,zq1.erase),(24,zk8.erase)]
theorem zyr:TabOk cx 12 zAx:=.cons zlJ (.cons zqi (.cons zpJ (.cons zna (.cons zpR (.cons znn (.cons zpW (.cons zog (.cons zsl (.cons zim (.cons zor (.cons zoN (.cons zr7 (.cons znj (.cons zrM (.cons zlQ (.cons zqk (.cons zsG (.cons zpr (.cons zgE (.cons zd3 (.cons zic (.cons zsc (.cons zop (.cons zkk (.cons znJ (.cons zrP (.cons zvm (.cons zlY (.cons zh7 (.cons zlS (.cons zsC (.cons zsA (.cons zcC (.cons zsZ (.cons zpp (.cons zof (.cons znh (.cons zrF (.cons zil (.cons zl8 (.cons zhp (.cons znY (.cons zpy (.cons zno (.cons zn2 (.cons ztm (.cons zjU (.cons zbU (.cons zsn (.cons zj6 (.cons znd (.cons zn6 (.cons zlK (.cons zpK (.cons zql (.cons zpM (.cons znz (.cons zjL (.cons zl3 (.cons zjz (.cons zpj (.cons zot (.cons zp2 (.cons ztj (.cons zp6 (.cons zjX (.cons zmR (.cons zlR (.cons zpL (.cons znk (.cons zmI (.cons zrI (.cons zuw (.cons ztA (.cons zn1 (.cons zoo (.cons zjH (.cons zpn (.cons znK (.cons zhD (.cons zlT (.cons zqc (.cons zjJ (.cons zoD (.cons zlM (.cons zlX (.cons zkj (.cons zvs (.cons zqb (.nil))))))))))))))))))))))))))))))))))))))))))))))))))))))))))))))))))))))))))))))))))))))))))
def zn4:Bool:=true
def ziB:PnT:=⟨[],[.bool],fun _=>zn4⟩
theorem zt5:zAH cx 12 noC 5 ziB.fn:=fun ds x r hx hr=>by
 have hx:ds=[]:=hx
 subst hx
 exact ⟨[.bool true],zyG 100 12 (zyt (d:=11) zyr rfl (by kernel_rfl)),.bool true,rfl,congrArg D.bool (Option.some.inj hr)⟩
end Go.Proofs.YtdfohlonacbelaaGreat
