/- The reference's Right of a log. -/
import Derived.Test.YtlgjbfdojbmmgaaU1
set_option linter.unusedSimpArgs false
set_option linter.unusedVariables false
namespace Go.Proofs.Ytlgjbfdojbmmgaa
open Go.SX
theorem zdU (l:Log) (hl:(Log.Lst l).length≤1000):zdR l=some (zaU l):=by
 unfold zdR zaU
 by_cases hz:zd8 l
 ·have hc:((decide ((List.length (Log.Mem l):Int)=(0:Int)))||((decide ((64:Int)<(List.length (Log.Mem l):Int)))||((decide ((Log.Span l)<(0:Int)))||((decide ((1099511627776:Int)<(Log.Span l)))||(decide ((256:Int)<(List.length (Log.Lst l):Int)))))))=false:=by
   obtain ⟨h1,h2,h3,h4,h5⟩:=hz
   simp
   refine ⟨fun e=>?_,by omega,by omega,by omega,by omega⟩
   rw [e] at h1
   simp at h1
  rw [hc]
  simp only [wA0,if_false,decide_eq_true hz,Bool.true_and]
  have h:=zdz (f:=zd4 l) (n:=(Log.Lst l).length) (fun i=>(i:Int)) (uok l) (g:=fun _=>some true) (fun i hi hpre=>by
   have hlt:(i:Int)<(List.length (Log.Lst l):Int):=by omega
   have hp:=zsn (show i≤(Log.Lst l).length by omega) hpre
   unfold zd4
   simp only [hlt,decide_true,if_true,zab hi,wC0,zah (show i<4611686018427387904 by omega)]
   have inner:zar (zcP l (i:Int) (Log.Lst l)[i]) 0=some (if dupU (Log.Lst l) i (keyU (Log.Lst l)[i])=false then .inl () else .inr (.inr (.inr false))):=by
    have h:=znd (f:=zcP l (i:Int) (Log.Lst l)[i]) (n:=i) (fun j=>(j:Int)) (fun j=>match (Log.Lst l)[j]? with|some v=>!decide (keyU (Log.Lst l)[i]=keyU v)|none=>true) (e:=.inl ()) (r:=.inr (.inr (.inr false))) (fun j hj _=>by
     have hjl:j<(Log.Lst l).length:=by omega
     have hlt:(j:Int)<(i:Int):=by omega
     unfold zcP
     simp only [hlt,decide_true,if_true,zab hjl,wC0,zah (show j<4611686018427387904 by omega),wF0 hjl]
     by_cases h1:Undo.Span (Log.Lst l)[j]=Undo.Span (Log.Lst l)[i]<;>by_cases h2:Undo.At (Log.Lst l)[j]=Undo.At (Log.Lst l)[i]<;>simp [keyU,store_key.mk,h1,h2,eq_comm (a:=Undo.Span (Log.Lst l)[i]),eq_comm (a:=Undo.At (Log.Lst l)[i])]) (fun _=>by
     unfold zcP
     simp)
    rw [show ((0:Nat):Int)=0 from rfl] at h
    rw [h]
    congr 1
    have:((List.range i).all fun j=>match (Log.Lst l)[j]? with|some v=>!decide (keyU (Log.Lst l)[i]=keyU v)|none=>true)=!dupU (Log.Lst l) i (keyU (Log.Lst l)[i]):=by
     unfold dupU
     rw [List.not_any_eq_all_not]
     congr 1
     funext j
     cases (Log.Lst l)[j]?<;>rfl
    rw [this]
    cases dupU (Log.Lst l) i (keyU (Log.Lst l)[i])<;>rfl
   rw [inner]
   have hprev:(if decide ((0:Int)<(i:Int))=true then
        (getO (Log.Lst l) (w64 ((i:Int) - (1:Int)))).bind fun v23 =>
        some ((decide ((Undo.Span (Log.Lst l)[i])<(Undo.Span v23))))
       else
        some (false):Option Bool)=some (if 0<i then decide (Undo.Span (Log.Lst l)[i]<zf4 (Log.Lst l) i) else false):=by
    cases i with
    | zero=>simp
    | succ k =>
     have hkl:k<(Log.Lst l).length:=by omega
     have e:w64 (((k + 1:Nat):Int) - 1)=(k:Int):=by rw [zdO (by omega) (by omega)];omega
     have h0:(0:Int)<((k + 1:Nat):Int):=by omega
     simp only [h0,decide_true,if_true,e,zab hkl,wC0,zf4,wF0 hkl,Nat.zero_lt_succ]
   rw [hprev]
   by_cases g1:zf4 (Log.Lst l) i≤Undo.Span (Log.Lst l)[i]
   ·have n1:¬ Undo.Span (Log.Lst l)[i]<0:=by omega
    have n2:(if 0<i then decide (Undo.Span (Log.Lst l)[i]<zf4 (Log.Lst l) i) else false)=false:=by
     split
     ·simp;omega
     ·rfl
    by_cases g2:Undo.Span (Log.Lst l)[i]≤Log.Span l
    ·have n3:¬ Log.Span l<Undo.Span (Log.Lst l)[i]:=by omega
     by_cases g3:0≤Undo.At (Log.Lst l)[i]
     ·have n4:¬ Undo.At (Log.Lst l)[i]<0:=by omega
      by_cases g4:Undo.At (Log.Lst l)[i]<((Log.Mem l).length:Int)
      ·have n5:¬ ((Log.Mem l).length:Int)≤Undo.At (Log.Lst l)[i]:=by omega
       cases hd:dupU (Log.Lst l) i (keyU (Log.Lst l)[i]) with
       | true =>
        have hu:uok l i=false:=by
         rw [Bool.eq_false_iff]
         intro hu
         have:=((zdD hi).1 hu).2
         rw [hd] at this
         cases this
        simp [n1,n2,n3,n4,n5,hu]
       | false =>
        have hu:uok l i=true:=(zdD hi).2 ⟨⟨g1,g2,g3,g4⟩,hd⟩
        simp [n1,n2,n3,n4,n5,hu]
      ·have hu:uok l i=false:=by
        rw [Bool.eq_false_iff]
        intro hu
        exact g4 ((zdD hi).1 hu).1.2.2.2
       have n5:((Log.Mem l).length:Int)≤Undo.At (Log.Lst l)[i]:=by omega
       simp [n1,n3,n4,n5,hu]
     ·have hu:uok l i=false:=by
       rw [Bool.eq_false_iff]
       intro hu
       exact g3 ((zdD hi).1 hu).1.2.2.1
      have n4:Undo.At (Log.Lst l)[i]<0:=by omega
      simp [n1,n3,n4,hu]
    ·have hu:uok l i=false:=by
      rw [Bool.eq_false_iff]
      intro hu
      exact g2 ((zdD hi).1 hu).1.2.1
     have n3:Log.Span l<Undo.Span (Log.Lst l)[i]:=by omega
     simp [n1,n3,hu]
   ·have hu:uok l i=false:=by
     rw [Bool.eq_false_iff]
     intro hu
     exact g1 ((zdD hi).1 hu).1.1
    have n2:Undo.Span (Log.Lst l)[i]<0∨(if 0<i then decide (Undo.Span (Log.Lst l)[i]<zf4 (Log.Lst l) i) else false)=true:=by
     cases i with
     | zero=>left;simp [zf4] at g1;omega
     | succ k=>right;simp;omega
    rw [hu]
    rcases n2 with n2|n2
    ·simp [n2]
    ·rw [n2]
     by_cases a1:Undo.Span (Log.Lst l)[i]<0<;>by_cases a2:Log.Span l<Undo.Span (Log.Lst l)[i]<;>by_cases a3:Undo.At (Log.Lst l)[i]<0<;>by_cases a4:((Log.Mem l).length:Int)≤Undo.At (Log.Lst l)[i]<;>simp [a1,a2,a3,a4]) (fun _=>by
   unfold zd4
   simp)
  refine Eq.trans h ?_
  split
  ·rename_i h;rw [h]
  ·rename_i h;rw [Bool.not_eq_true] at h;rw [h]
 ·have hc:((decide ((List.length (Log.Mem l):Int)=(0:Int)))||((decide ((64:Int)<(List.length (Log.Mem l):Int)))||((decide ((Log.Span l)<(0:Int)))||((decide ((1099511627776:Int)<(Log.Span l)))||(decide ((256:Int)<(List.length (Log.Lst l):Int)))))))=true:=by
   unfold zd8 at hz
   simp only [Bool.or_eq_true,decide_eq_true_eq]
   omega
  rw [hc]
  simp [hz]
end Go.Proofs.Ytlgjbfdojbmmgaa
