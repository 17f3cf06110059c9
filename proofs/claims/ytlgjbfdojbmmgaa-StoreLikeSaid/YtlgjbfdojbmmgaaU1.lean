import Derived.Test.YtlgjbfdojbmmgaaPG
import Derived.Test.YtlgjbfdojbmmgaaD415
set_option linter.unusedSimpArgs false
set_option linter.unusedVariables false
namespace Go.Proofs.Ytlgjbfdojbmmgaa
open Go.SX
def decK:DecidableEq store_key:=Ty.dec zaQ
def keyU (u:Undo):store_key:=store_key.mk (Undo.Span u) (Undo.At u)
theorem zuy {u v:Undo}:keyU u=keyU v↔Undo.Span u=Undo.Span v∧Undo.At u=Undo.At v:=by simp [keyU,store_key.mk]
def zix (l:List Undo):Nat→Int
 | 0=>0
 | i + 1=>match l[i]? with|some u=>Undo.Span u|none=>0
def zlU (l:List Undo):Nat→List (store_key×Bool)
 | 0=>[]
 | i + 1=>match l[i]? with|some u=>zhm decK (keyU u) true (zlU l i)|none=>zlU l i
def dupU (l:List Undo) (i:Nat) (k:store_key):Bool:=(List.range i).any fun j=>match l[j]? with|some v=>decide (k=keyU v)|none=>false
theorem zqb (l:List Undo) (k:store_key):∀ i,zkF decK false (zlU l i) k=dupU l i k
 | 0=>rfl
 | i + 1=>by
  have ih:=zqb l k i
  unfold dupU at ih ⊢
  rw [List.range_succ,List.any_append,← ih]
  simp only [zlU]
  cases hx:l[i]? with
  | none=>simp [hx]
  | some u =>
   simp only
   rw [ztN]
   by_cases h:k=keyU u<;>simp [h,hx]
def uok (l:Log) (i:Nat):Bool:=match (Log.Lst l)[i]? with
 | none=>true
 | some u=>decide (zix (Log.Lst l) i≤Undo.Span u∧Undo.Span u≤Log.Span l∧0≤Undo.At u∧Undo.At u<((Log.Mem l).length:Int))&&!dupU (Log.Lst l) i (keyU u)
def zbL (l:Log):Prop:=1≤(Log.Mem l).length∧(Log.Mem l).length≤64∧0≤Log.Span l∧Log.Span l≤1099511627776∧(Log.Lst l).length≤256
instance (l:Log):Decidable (zbL l):=by unfold zbL;infer_instance
def zaq (l:Log):Bool:=decide (zbL l)&&(List.range (Log.Lst l).length).all (uok l)
theorem zff {l:Log}{i:Nat}(h:i<(Log.Lst l).length):uok l i=true↔(zix (Log.Lst l) i≤Undo.Span (Log.Lst l)[i]∧Undo.Span (Log.Lst l)[i]≤Log.Span l∧0≤Undo.At (Log.Lst l)[i]∧Undo.At (Log.Lst l)[i]<((Log.Mem l).length:Int))∧dupU (Log.Lst l) i (keyU (Log.Lst l)[i])=false:=by
 unfold uok
 rw [wF0 h]
 simp
noncomputable def upL1 (sp w:Int) (x2:List Undo) (x3:Int) (s:(Int×Int×(List (store_key×Bool)))):Option ((Int×Int×(List (store_key×Bool)))⊕Unit⊕Bool) :=
 if decide (s.2.1<x3) then
  (getO x2 s.2.1).bind fun v8 =>
  let v11:store_key:=store_key.mk (Undo.Span v8) (Undo.At v8)
  if (decide ((Undo.Span v8)<s.1))||((decide (sp<(Undo.Span v8)))||((decide ((Undo.At v8)<(0:Int)))||((decide (w≤(Undo.At v8)))||(zkF (Ty.dec zaQ) false s.2.2 v11)))) then
   some (Sum.inr (Sum.inr (false)))
  else
   some (Sum.inl (Undo.Span v8,w64 (s.2.1 + (1:Int)),zhm (Ty.dec zaQ) v11 true s.2.2))
 else
  some (Sum.inr (Sum.inl ()))
theorem zrR (l:Log) (hl:(Log.Lst l).length≤1000):(zb6 (zaA (upL1 (Log.Span l) (List.length (Log.Mem l):Int) (Log.Lst l) (List.length (Log.Lst l):Int)) ((0:Int),(0:Int),([]:List (store_key×Bool))):Option (Unit⊕Bool)) fun v4=>some true)=some ((List.range (Log.Lst l).length).all (uok l)):=by
 have h:=znm (f:=upL1 (Log.Span l) (List.length (Log.Mem l):Int) (Log.Lst l) (List.length (Log.Lst l):Int)) (n:=(Log.Lst l).length) (fun i=>(zix (Log.Lst l) i,(i:Int),zlU (Log.Lst l) i)) (uok l) (g:=fun _=>some true) (fun i hi _=>by
  have hlt:(i:Int)<(List.length (Log.Lst l):Int):=by omega
  unfold upL1
  simp only [hlt,decide_true,if_true,zat hi,wC0,zav (show i<4611686018427387904 by omega)]
  have hs:zkF (Ty.dec zaQ) false (zlU (Log.Lst l) i) (store_key.mk (Undo.Span (Log.Lst l)[i]) (Undo.At (Log.Lst l)[i]))=dupU (Log.Lst l) i (store_key.mk (Undo.Span (Log.Lst l)[i]) (Undo.At (Log.Lst l)[i])):=zqb (Log.Lst l) (keyU (Log.Lst l)[i]) i
  rw [hs]
  have e1:zix (Log.Lst l) (i + 1)=Undo.Span (Log.Lst l)[i]:=by simp only [zix,wF0 hi]
  have e2:zlU (Log.Lst l) (i + 1)=zhm (Ty.dec zaQ) (store_key.mk (Undo.Span (Log.Lst l)[i]) (Undo.At (Log.Lst l)[i])) true (zlU (Log.Lst l) i):=by simp only [zlU,wF0 hi];rfl
  rw [e1,e2]
  by_cases hu:uok l i=true
  ·have hu':=(zff hi).1 hu
   unfold keyU at hu'
   obtain ⟨⟨g1,g2,g3,g4⟩,g5⟩:=hu'
   rw [if_pos hu,g5]
   have c:((decide (Undo.Span (Log.Lst l)[i]<zix (Log.Lst l) i))||((decide ((Log.Span l)<(Undo.Span (Log.Lst l)[i])))||((decide ((Undo.At (Log.Lst l)[i])<(0:Int)))||((decide ((List.length (Log.Mem l):Int)≤(Undo.At (Log.Lst l)[i])))||false))))=false:=by
    simp;omega
   rw [c]
   rfl
  ·rw [if_neg hu]
   have c:((decide (Undo.Span (Log.Lst l)[i]<zix (Log.Lst l) i))||((decide ((Log.Span l)<(Undo.Span (Log.Lst l)[i])))||((decide ((Undo.At (Log.Lst l)[i])<(0:Int)))||((decide ((List.length (Log.Mem l):Int)≤(Undo.At (Log.Lst l)[i])))||(dupU (Log.Lst l) i (store_key.mk (Undo.Span (Log.Lst l)[i]) (Undo.At (Log.Lst l)[i])))))))=true:=by
    cases hd:dupU (Log.Lst l) i (store_key.mk (Undo.Span (Log.Lst l)[i]) (Undo.At (Log.Lst l)[i])) with
    | true=>simp
    | false =>
     have hu2:¬ (zix (Log.Lst l) i≤Undo.Span (Log.Lst l)[i]∧Undo.Span (Log.Lst l)[i]≤Log.Span l∧0≤Undo.At (Log.Lst l)[i]∧Undo.At (Log.Lst l)[i]<((Log.Mem l).length:Int)):=fun hh=>hu ((zff hi).2 ⟨hh,hd⟩)
     simp;omega
   rw [c]
   rfl) (fun _=>by
  unfold upL1
  simp)
 refine Eq.trans h ?_
 split
 ·rename_i h;rw [h]
 ·rename_i h;rw [Bool.not_eq_true] at h;rw [h]
theorem zqa {l:Log}:∀ {i:Nat},i≤(Log.Lst l).length→(∀ j,j<i→uok l j=true)→0≤zix (Log.Lst l) i
 | 0,_,_=>Int.le_refl 0
 | i + 1,hi,h=>by
  have h1:=zqa (l:=l) (i:=i) (by omega) fun j hj=>h j (by omega)
  have h2:=((zff (show i<(Log.Lst l).length by omega)).1 (h i (by omega))).1.1
  simp only [zix,wF0 (show i<(Log.Lst l).length by omega)]
  omega
end Go.Proofs.Ytlgjbfdojbmmgaa
