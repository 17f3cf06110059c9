import Derived.Test.YtdfohlonacbelaaGreatQF
set_option linter.unusedSimpArgs false
set_option linter.unusedVariables false
set_option maxRecDepth 100000
namespace Go.Proofs.YtdfohlonacbelaaGreat
open Go.SX
noncomputable def zzG (p:Proto) (a:l10_Act):Proto:=((zqh p a).getD (p,0)).1
noncomputable def zBi (l:List l10_Act) (p:Proto) (i:Nat):Proto:=(l.take i).foldl zzG p
theorem zzR:zAM False none0 where
 st:=⟨by show ([]:List (List Int)).length≤1000;simp,fun r hr=>absurd hr List.not_mem_nil⟩
 va:=⟨by show ([]:List (List Int)).length≤1000;simp,fun r hr=>absurd hr List.not_mem_nil⟩
 vw:=fun r hr=>absurd hr List.not_mem_nil
 wa:=by show ([]:List Wait).length≤1000;simp
 ww:=fun r hr=>absurd hr List.not_mem_nil
 ho:=by show ([]:List Int).length≤1000;simp
 hw:=fun r hr=>absurd hr List.not_mem_nil
 di:=⟨by show ([]:List Entry).length≤1000;simp,fun r hr=>absurd hr List.not_mem_nil⟩
 bu:=by show ([]:List Int).length≤1000;simp
 po:=⟨by show ([]:List (List Int)).length≤1000;simp,fun r hr=>absurd hr List.not_mem_nil⟩
 rt:=fun f=>f.elim
theorem zoQ (c h:Int) (l:List l10_Act) (hl:∀ a∈l,zAg a):zeX c h l=some true:=by
 unfold zeX zn4
 rcases zyN c h with ⟨n1,n2⟩|⟨c',h',b1,b2,b3,b4,n1,n2⟩
 ·have lp:=zaF (f:=zaN l 1) (n:=0) (e:=(Sum.inl ():Unit⊕Bool)) (fun i=>((i:Int),none0,none0)) (fun i hi=>by omega) (by
   unfold zaN
   simp only [show decide ((1:Int)=0)=false from rfl,Bool.and_false,wA0,if_false])
  simp only [n1,n2,wC0,wH0,wA0,if_false,vE0,zmW zzR]
  rw [show zaf (zaN l 1) ((0:Int),none0,none0)=_ from lp]
  rfl
 ·have h0:=zAp b1 b2 b3 b4
  simp only [n1,n2,wC0,wH0,wA0,if_false,vE0,zmW h0]
  have step:∀ i (hi:i<l.length),zAM True (zBi l (zA8 c' h') i)→∃ e,zqh (zBi l (zA8 c' h') i) l[i]=some (zBi l (zA8 c' h') (i + 1),e)∧zjD (zBi l (zA8 c' h') i) l[i]=some (zBi l (zA8 c' h') (i + 1),e)∧zAM True (zBi l (zA8 c' h') (i + 1)):=fun i hi hg=>by
   obtain ⟨q,e,q1,q2,q3⟩:=zyq hg (hl _ (List.getElem_mem hi))
   have hq:zBi l (zA8 c' h') (i + 1)=q:=by
    unfold zBi
    rw [zaY hi,List.foldl_append]
    show zzG (zBi l (zA8 c' h') i) l[i]=q
    unfold zzG
    rw [q1];rfl
   rw [hq]
   exact ⟨e,q1,q2,q3⟩
  have good:∀ i,i≤l.length→zAM True (zBi l (zA8 c' h') i):=fun i=>by
   induction i with
   | zero=>intro _;exact h0
   | succ i ih=>intro hi;obtain ⟨_,_,_,g⟩:=step i (by omega) (ih (by omega));exact g
  have lp:=zaF (f:=zaN l 0) (n:=min l.length 100) (e:=(Sum.inl ():Unit⊕Bool)) (fun i=>((i:Int),zBi l (zA8 c' h') i,zBi l (zA8 c' h') i)) (fun i hi=>by
   have hil:i<l.length:=by omega
   obtain ⟨e,s1,s2,s3⟩:=step i hil (good i (by omega))
   have R:=s3.rt trivial
   unfold zaN
   simp only [show (i:Int)<(List.length l:Int) by omega,show (i:Int)<100 by omega,vE0,Bool.and_self,if_true,zac hil,s1,s2,wC0,wH0,wA0,if_false,zmW s3,ze3 (zm2 R),zy7 R,zas (show i<4611686018427387904 by omega)]) (by
   unfold zaN
   simp only [wD0,vG0]
   rw [if_neg (by omega)])
  rw [show zaf (zaN l 0) ((0:Int),zA8 c' h',zA8 c' h')=_ from lp]
  rfl
theorem zqW (x:Ty.Tup zch.ps) (h:OkL zch.ps x):zch.sem x=some true :=
 zoQ x.1 x.2.1 x.2.2 (fun a ha=>by
  have q:=h.2.2.2 a ha
  exact ⟨⟨q.1.1,Int.lt_of_le_of_lt q.1.2 (by decide)⟩,⟨q.2.1.1,Int.lt_of_le_of_lt q.2.1.2 (by decide)⟩,⟨q.2.2.1.1,Int.lt_of_le_of_lt q.2.2.1.2 (by decide)⟩,⟨q.2.2.2.1.1,Int.lt_of_le_of_lt q.2.2.2.1.2 (by decide)⟩,⟨q.2.2.2.2.2.1,Int.lt_of_le_of_lt q.2.2.2.2.2.2 (by decide)⟩⟩)
end Go.Proofs.YtdfohlonacbelaaGreat
