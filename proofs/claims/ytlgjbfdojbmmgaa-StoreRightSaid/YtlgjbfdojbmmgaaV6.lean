/- Layer 14: the law StoreRight on typed data. No condition. -/
import Derived.Test.YtlgjbfdojbmmgaaV5
set_option linter.unusedSimpArgs false
set_option linter.unusedVariables false
namespace Go.Proofs.Ytlgjbfdojbmmgaa
open Go.SX
theorem zme {s:Vault}(hsh:zpo s=true→VOk s) (a w to k n b:Int) (hw:wd w):zed s a w to k n b=some true:=by
 unfold zed
 rw [zpV]
 cases hS:zpo s
 ·rfl
 have hs:=hsh hS
 have r1:=zbG (zvB hs a hw)
 have r2:=zbG (zwl hs to)
 have r3:=zbG (zwx hs to)
 have r4:=zbG (zxy n b)
 have rw_:zf2 (if zam s=true then zbT s else []) (if zam s=true then zbT s else [])=some true:=by
  refine zl3 _ ?_
  split
  ·rename_i h
   have:=(zdT h).2.2
   rw [(zdT h).1]
   omega
  ·simp
 simp only [zkA,wH0,wA0,if_false,wC0,zl7 hs,zqG hs a w hw,r1,decide_true,zn4 hs,zr2 hs,r2,znU hs,zrq hs,r3,
  zo0,ztz,r4,zhS hs,zqX hs,zb7 hs,za4 hs,zmr hs,zjo hs,rw_,zoz hs,zox hs,zjX hs,zrQ hs.b,zl5 hs.b]
 have r5:=zbG (zwj hs)
 have hsr:=zbG hs
 cases hr:zam s
 ·have e1:zmy s=(s,1):=by unfold zmy;rw [hr];rfl
  have e2:ztn s k=(s,1):=by unfold ztn;rw [hr];rfl
  have e3:zgd s=(s,1):=by unfold zgd;rw [hr];rfl
  simp only [e1,e2,e3,Bool.false_and,cond_false,hsr,wC0,wH0,wA0,if_false,decide_true,show ¬ (1:Int)=0 by omega,decide_false,Bool.not_false,if_true]
 ·have hsp:=zve hr
  have e2:ztn s k=(Vault.mk (zmx (Vault.Banks s) k).1 (Vault.Words s) (Vault.Span s) (Vault.Lst s),(zmx (Vault.Banks s) k).2):=by unfold ztn;rw [hr];rfl
  have e3:zgd s=(Vault.mk (zcL (Vault.Banks s)).1 (Vault.Words s) (Vault.Span s) (Vault.Lst s),(zcL (Vault.Banks s)).2):=by unfold zgd;rw [hr];rfl
  have q1:=zqL (zwh hs.b k)
  have q2:=zqL (zrL hs.b)
  by_cases h:Vault.Span s<1099511627776
  ·have e1:zmy s=(Vault.mk (Vault.Banks s) (Vault.Words s) (Vault.Span s + 1) (Vault.Lst s),0):=by unfold zmy;rw [if_pos ⟨hr,h⟩]
   have e4:Vault.setSpan s (w64 (Vault.Span s + 1))=Vault.mk (Vault.Banks s) (Vault.Words s) (Vault.Span s + 1) (Vault.Lst s):=by rw [zdO (by omega) (by omega)];rfl
   rw [e1] at r5
   simp only [e1,e2,e3,e4,r5,h,decide_true,Bool.true_and,cond_true,wC0,wH0,wA0,if_false,if_true,Vault.Banks_mk,q1,q2]
  ·have e1:zmy s=(s,1):=by unfold zmy;rw [if_neg (fun q=>h q.2)]
   simp only [e1,e2,e3,hsr,h,decide_false,Bool.and_false,cond_false,wC0,wH0,wA0,if_false,if_true,show ¬ (1:Int)=0 by omega,decide_true,Vault.Banks_mk,q1,q2]
theorem zsJ {x:Int}(h:okI .u32 x):wd x:=⟨h.1,Int.lt_of_le_of_lt h.2 (by decide)⟩
theorem zol (x:Ty.Tup zbX.ps) (h:OkL zbX.ps x):zbX.sem x=some true :=
 zme (s:=x.1) (fun hS=>by
  unfold zpo at hS
  rw [wD0,decide_eq_true_eq] at hS
  refine ⟨zvZ hS.1 (fun r hr y hy=>zsJ ((h.1.1.1.2 r hr).2 y hy)) (fun y hy=>zsJ (h.1.1.2.1.2 y hy)),hS.2,fun u hu=>zsJ (h.1.2.2.2.2 u hu).2.2⟩) _ _ _ _ _ _ (zsJ h.2.2.1)
end Go.Proofs.Ytlgjbfdojbmmgaa
