/- Layer 11: right logs stay right. No condition. -/
import Derived.Test.YtlgjbfdojbmmgaaU3
set_option linter.unusedSimpArgs false
set_option linter.unusedVariables false
namespace Go.Proofs.Ytlgjbfdojbmmgaa
open Go.SX
structure zbS (l:Log):Prop where
 size:zbL l
 each:∀ u∈Log.Lst l,0≤Undo.Span u∧Undo.Span u≤Log.Span l∧0≤Undo.At u∧Undo.At u<((Log.Mem l).length:Int)
 le:(Log.Lst l).Pairwise fun a b=>Undo.Span a≤Undo.Span b
 ne:(Log.Lst l).Pairwise fun a b=>¬ keyU a=keyU b
theorem zlm {l:List Undo}{i:Nat}{k:store_key}(hi:i≤l.length):dupU l i k=false↔∀ (j:Nat) (h:j<l.length),j<i→¬ k=keyU l[j]:=by
 unfold dupU
 rw [List.any_eq_false]
 constructor
 ·intro h j hj hji
  have:=h j (List.mem_range.2 hji)
  rw [wF0 hj] at this
  simpa using this
 ·intro h j hj
  have hji:=List.mem_range.1 hj
  have hjl:j<l.length:=by omega
  rw [wF0 hjl]
  simpa using h j hjl hji
theorem zjS {l:Log}:zaq l=true↔zbS l:=by
 constructor
 ·intro h
  obtain ⟨hz,hu⟩:=zbp h
  have hle:(Log.Lst l).Pairwise fun a b=>Undo.Span a≤Undo.Span b:=by
   rw [List.pairwise_iff_getElem]
   intro i j hi hj hij
   exact zlN hu j hj i hij
  refine ⟨hz,fun u hm=>?_,hle,?_⟩
  ·obtain ⟨i,hi,rfl⟩:=List.getElem_of_mem hm
   have h1:=((zff hi).1 (hu i hi)).1
   have h2:=zqa (show i≤(Log.Lst l).length by omega) fun j hj=>hu j (by omega)
   exact ⟨by omega,h1.2.1,h1.2.2.1,h1.2.2.2⟩
  ·rw [List.pairwise_iff_getElem]
   intro i j hi hj hij e
   have h1:=((zff hj).1 (hu j hj)).2
   exact (zlm (by omega)).1 h1 i hi hij e.symm
 ·intro h
  refine zrJ h.size fun i hi=>(zff hi).2 ⟨⟨?_,?_⟩,?_⟩
  ·cases i with
   | zero=>exact (h.each _ (List.getElem_mem hi)).1
   | succ k =>
    simp only [zix,wF0 (show k<(Log.Lst l).length by omega)]
    exact List.pairwise_iff_getElem.1 h.le k (k + 1) (by omega) hi (by omega)
  ·have:=h.each _ (List.getElem_mem hi)
   exact ⟨this.2.1,this.2.2.1,this.2.2.2⟩
  ·rw [zlm (by omega)]
   intro j hj hji e
   exact List.pairwise_iff_getElem.1 h.ne j i hj hi hji e.symm
theorem zrw {n:Nat}(h1:1≤n) (h2:n≤64):zbS (Log.mk (List.replicate n 0) 0 []) where
 size:=by unfold zbL;simp;omega
 each:=by simp
 le:=List.Pairwise.nil
 ne:=List.Pairwise.nil
theorem zrj {l:Log}(h:zbS l) (hs:Log.Span l<1099511627776):zbS (Log.mk (Log.Mem l) (Log.Span l + 1) (Log.Lst l)) where
 size:=by have:=h.size;unfold zbL at this ⊢;simp only [Log.Mem_mk,Log.Span_mk,Log.Lst_mk];omega
 each:=fun u hu=>by have:=h.each u hu;simp only [Log.Mem_mk,Log.Span_mk];omega
 le:=h.le
 ne:=h.ne
theorem zh5 {l:Log}(h:zbS l) (p:Undo→Bool) {mem:List Int}(hm:mem.length=(Log.Mem l).length) {s:Int}(h0:0≤s) (hs:s≤Log.Span l) (hp:∀ u∈Log.Lst l,p u=true→Undo.Span u≤s):zbS (Log.mk mem s ((Log.Lst l).filter p)) where
 size:=by
  have:=h.size
  have h3:=List.length_filter_le p (Log.Lst l)
  unfold zbL at this ⊢
  simp only [Log.Mem_mk,Log.Span_mk,Log.Lst_mk]
  omega
 each:=fun u hu=>by
  simp only [Log.Lst_mk] at hu
  have h1:=List.mem_filter.1 hu
  have:=h.each u h1.1
  have:=hp u h1.1 h1.2
  simp only [Log.Mem_mk,Log.Span_mk]
  omega
 le:=h.le.filter p
 ne:=h.ne.filter p
theorem zrK {l:Log}(h:zbS l) {a w:Int}:zbS (Log.mk ((Log.Mem l).set a.toNat w) (Log.Span l) (Log.Lst l)) where
 size:=by have:=h.size;unfold zbL at this ⊢;simp only [Log.Mem_mk,Log.Span_mk,Log.Lst_mk,List.length_set];exact this
 each:=fun u hu=>by have:=h.each u hu;simpa using this
 le:=h.le
 ne:=h.ne
theorem zqP {l:Log}{a:Int}:hasU l a=false↔∀ u∈Log.Lst l,¬ (Undo.Span u=Log.Span l∧Undo.At u=a):=by
 unfold hasU
 rw [List.any_eq_false]
 constructor
 ·intro h u hu e
  have:=h u hu
  simp [e.1,e.2] at this
 ·intro h u hu e
  simp only [wD0,decide_eq_true_eq] at e
  exact h u hu e
theorem zst {l:Log}(h:zbS l) {a w v:Int}(h0:0≤a) (ha:a<((Log.Mem l).length:Int)) (hu:hasU l a=false) (h256:(Log.Lst l).length<256):zbS (Log.mk ((Log.Mem l).set a.toNat w) (Log.Span l) (Log.Lst l++[Undo.mk (Log.Span l) a v])) where
 size:=by have:=h.size;unfold zbL at this ⊢;simp only [Log.Mem_mk,Log.Span_mk,Log.Lst_mk,List.length_set,wI0,List.length_cons,List.length_nil];omega
 each:=fun u hm=>by
  simp only [Log.Lst_mk,List.mem_append,List.mem_singleton] at hm
  simp only [Log.Mem_mk,Log.Span_mk,List.length_set]
  rcases hm with hm|hm
  ·exact h.each u hm
  ·subst hm
   have:=h.size
   unfold zbL at this
   simp only [Undo.Span_mk,Undo.At_mk]
   omega
 le:=by
  simp only [Log.Lst_mk]
  rw [List.pairwise_append]
  refine ⟨h.le,List.pairwise_singleton _ _,fun x hx y hy=>?_⟩
  rw [List.mem_singleton] at hy
  subst hy
  simpa using (h.each x hx).2.1
 ne:=by
  simp only [Log.Lst_mk]
  rw [List.pairwise_append]
  refine ⟨h.ne,List.pairwise_singleton _ _,fun x hx y hy e=>?_⟩
  rw [List.mem_singleton] at hy
  subst hy
  rw [zuy] at e
  exact zqP.1 hu x hx (by simpa using e)
end Go.Proofs.Ytlgjbfdojbmmgaa
