/- Layer 11: the law UndoBack on typed data. No condition. -/
import Derived.Test.YtlgjbfdojbmmgaaU4
set_option linter.unusedSimpArgs false
set_option linter.unusedVariables false
namespace Go.Proofs.Ytlgjbfdojbmmgaa
open Go.SX
structure zgR (k n:Nat) (first:Nat) (m:Log) (was:List (List Int)):Prop where
 right:zby m
 len:(Log.Mem m).length=n
 low:(first:Int)≤Log.Span m
 span:Log.Span m≤(k:Int)
 lst:(Log.Lst m).length≤k
 wasl:Log.Span m + 1≤(was.length:Int)
 wask:was.length≤k + 1
 key:∀ t:Nat,first≤t→(t:Int)≤Log.Span m→was[t]?=some (restore m (t:Int))
theorem zjI (l:Log) (t:Int):(restore l t).length=(Log.Mem l).length:=zcQ _ _
theorem ztc {n:Nat}(h1:1≤n) (h2:n≤64):zgR 0 n 0 (Log.mk (List.replicate n 0) 0 []) [List.replicate n 0] where
 right:=zoD h1 h2
 len:=by simp
 low:=by simp
 span:=by simp
 lst:=by simp
 wasl:=by simp
 wask:=by simp
 key:=fun t h3 h4=>by
  simp only [Log.Span_mk] at h4
  have:t=0:=by omega
  subst this
  rfl
theorem zpA {k n first:Nat}{m:Log}{was:List (List Int)}(I:zgR k n first m was) (hk:k<200) (a w:Int) (h0:0≤a) (ha:a<(n:Int)):∃ m',zin m a w=(m',0)∧zgR (k + 1) n first m' was∧(Log.Mem m')[a.toNat]?=some w∧(Log.Mem m').length=n:=by
 have hl:=I.len
 have hlst:=I.lst
 obtain ⟨L,e1,e2,e3⟩:=ztD I.right (a:=a) (w:=w) h0 (by omega) (by omega)
 have hat:a.toNat<(Log.Mem m).length:=by omega
 refine ⟨_,e1,⟨e2,by simpa using hl,I.low,?_,?_,I.wasl,by have:=I.wask;omega,fun t h1 h2=>?_⟩,by simp only [Log.Mem_mk];exact List.getElem?_set_self hat,by simpa using hl⟩
 ·have:=I.span
  simp only [Log.Span_mk]
  omega
 ·simp only [Log.Lst_mk]
  rcases e3 with ⟨_,e⟩|⟨_,e⟩<;>rw [e]
  ·omega
  ·rw [wI0]
   simp
   omega
 ·rw [I.key t h1 h2]
  congr 1
  simp only [Log.Span_mk] at h2
  rcases e3 with ⟨hu,e⟩|⟨hu,e⟩
  ·subst e
   unfold restore
   simp only [Log.Lst_mk,Log.Mem_mk]
   refine List.ext_getElem? fun i=>?_
   rcases Nat.lt_or_ge i (Log.Mem m).length with hi|hi
   ·have hpos:∀ u∈(Log.Lst m).filter (goes (t:Int)),0≤Undo.At u:=fun u hu=>(I.right.each u (List.mem_filter.1 hu).1).2.2.1
    rw [zju _ i hi _ hpos,zju _ i (by simpa using hi) _ hpos]
    cases hf:((Log.Lst m).filter (goes (t:Int))).find? (fun u=>decide (Undo.At u=(i:Int))) with
    | some u=>rfl
    | none =>
     have hne:¬ a.toNat=i:=fun e=>by
      obtain ⟨u,hum,hus,hua⟩:=zsB.1 hu
      have hin:u∈(Log.Lst m).filter (goes (t:Int)):=List.mem_filter.2 ⟨hum,by unfold goes;simp;omega⟩
      have:=List.find?_eq_none.1 hf u hin
      simp only [decide_eq_true_eq] at this
      omega
     simp only [List.getElem?_set_ne hne]
   ·rw [List.getElem?_eq_none (by rw [zcQ];exact hi),List.getElem?_eq_none (by rw [zcQ];simpa using hi)]
  ·subst e
   unfold restore
   simp only [Log.Lst_mk,Log.Mem_mk,List.filter_append]
   have hg:goes (t:Int) (Undo.mk (Log.Span m) a (ziX m a))=true:=decide_eq_true h2
   rw [List.filter_cons,if_pos hg,List.filter_nil,List.foldr_append]
   congr 1
   simp only [List.foldr_cons,List.foldr_nil,putB,Undo.At_mk,Undo.Val_mk,List.set_set]
   unfold ziX
   rw [wF0 hat]
   simp
theorem zrO {k n first:Nat}{m:Log}{was:List (List Int)}(I:zgR k n first m was) (hk:k<200):zrD m=(Log.mk (Log.Mem m) (Log.Span m + 1) (Log.Lst m),0)∧zgR (k + 1) n first (Log.mk (Log.Mem m) (Log.Span m + 1) (Log.Lst m)) (was.take (Log.Span m + 1).toNat++[Log.Mem m]):=by
 have hsp:=I.span
 have hsz:=I.right.size
 unfold zb2 at hsz
 have hwl:=I.wasl
 have hwk:=I.wask
 have hfi:=I.low
 have htl:(was.take (Log.Span m + 1).toNat).length=(Log.Span m + 1).toNat:=by rw [wE0];omega
 constructor
 ·unfold zrD
  rw [if_pos ⟨zdD.2 I.right,by omega⟩]
 ·refine ⟨zlH I.right (by omega),I.len,by simp only [Log.Span_mk];omega,by simp only [Log.Span_mk];omega,by have:=I.lst;simp only [Log.Lst_mk];omega,?_,?_,fun t h1 h2=>?_⟩
  ·simp only [Log.Span_mk]
   rw [wI0,htl]
   simp
   omega
  ·rw [wI0,htl]
   simp
   omega
  ·simp only [Log.Span_mk] at h2
   rcases Nat.lt_or_ge t (Log.Span m + 1).toNat with h3|h3
   ·rw [List.getElem?_append_left (by rw [htl];exact h3),List.getElem?_take_of_lt h3,I.key t h1 (by omega)]
    rfl
   ·have ht:(t:Int)=Log.Span m + 1:=by omega
    rw [List.getElem?_append_right (by rw [htl];exact h3),htl,show t - (Log.Span m + 1).toNat=0 by omega]
    have:(Log.Lst m).filter (goes (t:Int))=[]:=by
     rw [List.filter_eq_nil_iff]
     intro u hu
     have:=(I.right.each u hu).2.1
     unfold goes
     simp
     omega
    unfold restore
    simp only [Log.Lst_mk,Log.Mem_mk,this]
    rfl
theorem zhY {l:Log}(h:za9 l=true) {t s:Int}(hts:t≤s):(Log.Lst l).filter (goes t)=((Log.Lst l).filter (stays s)).filter (goes t)++(Log.Lst l).filter (goes s):=by
 have h1:=znb h s
 have h2:((Log.Lst l).filter (goes s)).filter (goes t)=(Log.Lst l).filter (goes s):=by
  rw [List.filter_eq_self]
  intro u hu
  have:=(List.mem_filter.1 hu).2
  unfold goes at this ⊢
  simp only [decide_eq_true_eq] at this ⊢
  omega
 have h3:(Log.Lst l).filter (goes t)=((Log.Lst l).filter (stays s)++(Log.Lst l).filter (goes s)).filter (goes t):=congrArg (List.filter (goes t)) h1
 rw [h3,List.filter_append,h2]
theorem zre {k n first:Nat}{m:Log}{was:List (List Int)}(I:zgR k n first m was) (hk:k<200) (to:Nat) (h1:first≤to) (h2:(to:Int)≤Log.Span m) :
  zrk m (to:Int)=(Log.mk (restore m (to:Int)) (to:Int) ((Log.Lst m).filter (stays (to:Int))),0)∧zgR (k + 1) n first (Log.mk (restore m (to:Int)) (to:Int) ((Log.Lst m).filter (stays (to:Int)))) was:=by
 have hsp:=I.span
 have hwl:=I.wasl
 have hr:=zdD.2 I.right
 constructor
 ·unfold zrk
  rw [if_pos ⟨hr,by omega,h2⟩]
 ·have h3:=List.length_filter_le (stays (to:Int)) (Log.Lst m)
  have h4:=I.lst
  refine ⟨zdK I.right _ (zjI m _) (by omega) h2 (fun u _ hp=>?_),?_,?_,?_,?_,?_,by have:=I.wask;omega,fun t g1 g2=>?_⟩
  ·unfold stays at hp
   simp only [decide_eq_true_eq] at hp
   omega
  ·simp only [Log.Mem_mk,zjI]
   exact I.len
  ·simp only [Log.Span_mk];omega
  ·simp only [Log.Span_mk];omega
  ·simp only [Log.Lst_mk];omega
  ·simp only [Log.Span_mk];omega
  ·simp only [Log.Span_mk] at g2
   rw [I.key t g1 (by omega)]
   congr 1
   unfold restore
   simp only [Log.Lst_mk,Log.Mem_mk]
   rw [zhY hr g2,List.foldr_append]
theorem zq5 {k n first:Nat}{m:Log}{was:List (List Int)}(I:zgR k n first m was) (hk:k<200) (fr:Nat) (h1:first≤fr) (h2:(fr:Int)≤Log.Span m) :
  trimS m (fr:Int)=(Log.mk (Log.Mem m) (Log.Span m) ((Log.Lst m).filter (goes (fr:Int))),0)∧zgR (k + 1) n fr (Log.mk (Log.Mem m) (Log.Span m) ((Log.Lst m).filter (goes (fr:Int)))) was:=by
 have hsp:=I.span
 have hsz:=I.right.size
 unfold zb2 at hsz
 have hr:=zdD.2 I.right
 constructor
 ·unfold trimS
  rw [if_pos ⟨hr,by omega,h2⟩]
 ·have h3:=List.length_filter_le (goes (fr:Int)) (Log.Lst m)
  have h4:=I.lst
  refine ⟨zdK I.right _ rfl (by omega) (Int.le_refl _) (fun u hu _=>(I.right.each u hu).2.1),I.len,h2,by simp only [Log.Span_mk];omega,by simp only [Log.Lst_mk];omega,I.wasl,by have:=I.wask;omega,fun t g1 g2=>?_⟩
  rw [I.key t (by omega) g2]
  congr 1
  unfold restore
  simp only [Log.Lst_mk,Log.Mem_mk,List.filter_filter]
  congr 1
  refine List.filter_congr fun u hu=>?_
  unfold goes
  rw [Bool.eq_iff_iff]
  simp only [wD0,decide_eq_true_eq]
  omega
end Go.Proofs.Ytlgjbfdojbmmgaa
