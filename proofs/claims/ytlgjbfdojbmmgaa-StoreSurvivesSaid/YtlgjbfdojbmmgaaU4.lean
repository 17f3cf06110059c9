/- Layer 11: right logs stay right. No condition. -/
import Derived.Test.YtlgjbfdojbmmgaaU3
set_option linter.unusedSimpArgs false
set_option linter.unusedVariables false
namespace Go.Proofs.Ytlgjbfdojbmmgaa
open Go.SX
structure zby (l:Log):Prop where
 size:zb2 l
 each:∀ u∈Log.Lst l,0≤Undo.Span u∧Undo.Span u≤Log.Span l∧0≤Undo.At u∧Undo.At u<((Log.Mem l).length:Int)
 le:(Log.Lst l).Pairwise fun a b=>Undo.Span a≤Undo.Span b
 ne:(Log.Lst l).Pairwise fun a b=>¬ keyU a=keyU b
theorem zlj {l:List Undo}{i:Nat}{k:store_key}(hi:i≤l.length):dupU l i k=false↔∀ (j:Nat) (h:j<l.length),j<i→¬ k=keyU l[j]:=by
 unfold dupU
 rw [List.any_eq_false]
 constructor
 ·intro h j hj hji
  have:=h j (List.mem_range.2 hji)
  rw [wF0 hj] at this
  simpa using this
 ·intro h j hj
  have hji:=List.mem_range.1 hj
  have hjl:j<l.length:=by omega
  rw [wF0 hjl]
  simpa using h j hjl hji
theorem zdD {l:Log}:za9 l=true↔zby l:=by
 constructor
 ·intro h
  obtain ⟨hz,hu⟩:=zcI h
  have hle:(Log.Lst l).Pairwise fun a b=>Undo.Span a≤Undo.Span b:=by
   rw [List.pairwise_iff_getElem]
   intro i j hi hj hij
   exact zmo hu j hj i hij
  refine ⟨hz,fun u hm=>?_,hle,?_⟩
  ·obtain ⟨i,hi,rfl⟩:=List.getElem_of_mem hm
   have h1:=((zfu hi).1 (hu i hi)).1
   have h2:=zqx (show i≤(Log.Lst l).length by omega) fun j hj=>hu j (by omega)
   exact ⟨by omega,h1.2.1,h1.2.2.1,h1.2.2.2⟩
  ·rw [List.pairwise_iff_getElem]
   intro i j hi hj hij e
   have h1:=((zfu hj).1 (hu j hj)).2
   exact (zlj (by omega)).1 h1 i hi hij e.symm
 ·intro h
  refine zsy h.size fun i hi=>(zfu hi).2 ⟨⟨?_,?_⟩,?_⟩
  ·cases i with
   | zero=>exact (h.each _ (List.getElem_mem hi)).1
   | succ k =>
    simp only [ziV,wF0 (show k<(Log.Lst l).length by omega)]
    exact List.pairwise_iff_getElem.1 h.le k (k + 1) (by omega) hi (by omega)
  ·have:=h.each _ (List.getElem_mem hi)
   exact ⟨this.2.1,this.2.2.1,this.2.2.2⟩
  ·rw [zlj (by omega)]
   intro j hj hji e
   exact List.pairwise_iff_getElem.1 h.ne j i hj hi hji e.symm
theorem zoD {n:Nat}(h1:1≤n) (h2:n≤64):zby (Log.mk (List.replicate n 0) 0 []) where
 size:=by unfold zb2;simp;omega
 each:=by simp
 le:=List.Pairwise.nil
 ne:=List.Pairwise.nil
theorem zlH {l:Log}(h:zby l) (hs:Log.Span l<1099511627776):zby (Log.mk (Log.Mem l) (Log.Span l + 1) (Log.Lst l)) where
 size:=by have:=h.size;unfold zb2 at this ⊢;simp only [Log.Mem_mk,Log.Span_mk,Log.Lst_mk];omega
 each:=fun u hu=>by have:=h.each u hu;simp only [Log.Mem_mk,Log.Span_mk];omega
 le:=h.le
 ne:=h.ne
theorem zdK {l:Log}(h:zby l) (p:Undo→Bool) {mem:List Int}(hm:mem.length=(Log.Mem l).length) {s:Int}(h0:0≤s) (hs:s≤Log.Span l) (hp:∀ u∈Log.Lst l,p u=true→Undo.Span u≤s):zby (Log.mk mem s ((Log.Lst l).filter p)) where
 size:=by
  have:=h.size
  have h3:=List.length_filter_le p (Log.Lst l)
  unfold zb2 at this ⊢
  simp only [Log.Mem_mk,Log.Span_mk,Log.Lst_mk]
  omega
 each:=fun u hu=>by
  simp only [Log.Lst_mk] at hu
  have h1:=List.mem_filter.1 hu
  have:=h.each u h1.1
  have:=hp u h1.1 h1.2
  simp only [Log.Mem_mk,Log.Span_mk]
  omega
 le:=h.le.filter p
 ne:=h.ne.filter p
theorem zn3 {l:Log}(h:zby l) {a w:Int}:zby (Log.mk ((Log.Mem l).set a.toNat w) (Log.Span l) (Log.Lst l)) where
 size:=by have:=h.size;unfold zb2 at this ⊢;simp only [Log.Mem_mk,Log.Span_mk,Log.Lst_mk,List.length_set];exact this
 each:=fun u hu=>by have:=h.each u hu;simpa using this
 le:=h.le
 ne:=h.ne
theorem zrH {l:Log}{a:Int}:hasU l a=false↔∀ u∈Log.Lst l,¬ (Undo.Span u=Log.Span l∧Undo.At u=a):=by
 unfold hasU
 rw [List.any_eq_false]
 constructor
 ·intro h u hu e
  have:=h u hu
  simp [e.1,e.2] at this
 ·intro h u hu e
  simp only [wD0,decide_eq_true_eq] at e
  exact h u hu e
theorem zsB {l:Log}{a:Int}:hasU l a=true↔∃ u∈Log.Lst l,Undo.Span u=Log.Span l∧Undo.At u=a:=by
 unfold hasU
 rw [List.any_eq_true]
 simp
theorem zoi {l:Log}(h:zby l) {a w v:Int}(h0:0≤a) (ha:a<((Log.Mem l).length:Int)) (hu:hasU l a=false) (h256:(Log.Lst l).length<256):zby (Log.mk ((Log.Mem l).set a.toNat w) (Log.Span l) (Log.Lst l++[Undo.mk (Log.Span l) a v])) where
 size:=by have:=h.size;unfold zb2 at this ⊢;simp only [Log.Mem_mk,Log.Span_mk,Log.Lst_mk,List.length_set,wI0,List.length_cons,List.length_nil];omega
 each:=fun u hm=>by
  simp only [Log.Lst_mk,List.mem_append,List.mem_singleton] at hm
  simp only [Log.Mem_mk,Log.Span_mk,List.length_set]
  rcases hm with hm|hm
  ·exact h.each u hm
  ·subst hm
   have:=h.size
   unfold zb2 at this
   simp only [Undo.Span_mk,Undo.At_mk]
   omega
 le:=by
  simp only [Log.Lst_mk]
  rw [List.pairwise_append]
  refine ⟨h.le,List.pairwise_singleton _ _,fun x hx y hy=>?_⟩
  rw [List.mem_singleton] at hy
  subst hy
  simpa using (h.each x hx).2.1
 ne:=by
  simp only [Log.Lst_mk]
  rw [List.pairwise_append]
  refine ⟨h.ne,List.pairwise_singleton _ _,fun x hx y hy e=>?_⟩
  rw [List.mem_singleton] at hy
  subst hy
  rw [zvk] at e
  exact zrH.1 hu x hx (by simpa using e)
theorem ztD {l:Log}(h:zby l) {a w:Int}(h0:0≤a) (ha:a<((Log.Mem l).length:Int)) (h256:(Log.Lst l).length<256):∃ L,zin l a w=(Log.mk ((Log.Mem l).set a.toNat w) (Log.Span l) L,0) ∧
  zby (Log.mk ((Log.Mem l).set a.toNat w) (Log.Span l) L)∧((hasU l a=true∧L=Log.Lst l)∨(hasU l a=false∧L=Log.Lst l++[Undo.mk (Log.Span l) a (ziX l a)])):=by
 have hr:=zdD.2 h
 unfold zin
 rw [if_pos (show za9 l=true∧0≤a∧a<((Log.Mem l).length:Int) from ⟨hr,h0,ha⟩)]
 cases hu:hasU l a with
 | true =>
  rw [if_pos rfl]
  exact ⟨_,rfl,zn3 h,.inl ⟨rfl,rfl⟩⟩
 | false =>
  rw [if_neg (by simp),if_neg (by omega)]
  exact ⟨_,rfl,zoi h h0 ha hu h256,.inr ⟨rfl,rfl⟩⟩
end Go.Proofs.Ytlgjbfdojbmmgaa
