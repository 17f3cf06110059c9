/- Layer 11: what Back and Trim tell, of the program and of the reference. No condition. -/
import Derived.Test.YtlgjbfdojbmmgaaU2
set_option linter.unusedSimpArgs false
set_option linter.unusedVariables false
namespace Go.Proofs.Ytlgjbfdojbmmgaa
open Go.SX
theorem zmo {l:Log}(h:∀ i,i<(Log.Lst l).length→uok l i=true):∀ (j:Nat) (hj:j<(Log.Lst l).length) (i:Nat) (hi:i<j),Undo.Span (Log.Lst l)[i]≤Undo.Span (Log.Lst l)[j]
 | 0,_,i,hi=>by omega
 | j + 1,hj,i,hi=>by
  have h1:=((zfu hj).1 (h (j + 1) hj)).1.1
  simp only [ziV,wF0 (show j<(Log.Lst l).length by omega)] at h1
  rcases Nat.lt_or_ge i j with h2|h2
  ·have:=zmo h j (by omega) i h2
   omega
  ·have:i=j:=by omega
   subst this
   exact h1
def goes (to:Int) (u:Undo):Bool:=decide (to≤Undo.Span u)
def stays (to:Int) (u:Undo):Bool:=decide (Undo.Span u<to)
theorem ziO (to:Int):∀ l:List Undo,l.Pairwise (fun a b=>Undo.Span a≤Undo.Span b)→l=l.filter (stays to)++l.filter (goes to)
 | [],_=>rfl
 | x::l,h=>by
  have hp:=List.pairwise_cons.1 h
  have ih:=ziO to l hp.2
  by_cases hx:Undo.Span x<to
  ·have h1:stays to x=true:=by simp [stays,hx]
   have h2:goes to x=false:=by simp [goes];omega
   rw [List.filter_cons,if_pos h1,List.filter_cons,h2]
   simpa using ih
  ·have h1:∀ y∈x::l,stays to y=false:=fun y hy=>by
    rcases List.mem_cons.1 hy with e|hy
    ·subst e;simp [stays];omega
    ·have:=hp.1 y hy
     simp [stays];omega
   have h2:∀ y∈x::l,goes to y=true:=fun y hy=>by
    have:=h1 y hy
    simp [stays] at this
    simp [goes,this]
   rw [List.filter_eq_nil_iff.2 (fun y hy=>by rw [h1 y hy];simp),List.filter_eq_self.2 h2]
   rfl
theorem znb {l:Log}(h:za9 l=true) (to:Int):Log.Lst l=(Log.Lst l).filter (stays to)++(Log.Lst l).filter (goes to):=by
 refine ziO to _ ?_
 rw [List.pairwise_iff_getElem]
 intro i j hi hj hij
 exact zmo (zcI h).2 j hj i hij
def putB (u:Undo) (m:List Int):List Int:=m.set (Undo.At u).toNat (Undo.Val u)
theorem zcQ (mem:List Int):∀ B:List Undo,(B.foldr putB mem).length=mem.length
 | []=>rfl
 | u::B=>by simp [putB,zcQ mem B]
def restore (l:Log) (to:Int):List Int:=((Log.Lst l).filter (goes to)).foldr putB (Log.Mem l)
def zrk (l:Log) (to:Int):Log×Int:=if za9 l=true∧0≤to∧to≤Log.Span l then (Log.mk (restore l to) to ((Log.Lst l).filter (stays to)),0) else (l,1)
theorem zv5 {l:Log}(h:za9 l=true) {u:Undo}(hu:u∈Log.Lst l):0≤Undo.At u∧Undo.At u<((Log.Mem l).length:Int):=by
 obtain ⟨i,hi,rfl⟩:=List.getElem_of_mem hu
 have:=((zfu hi).1 ((zcI h).2 i hi)).1
 exact ⟨this.2.2.1,this.2.2.2⟩
theorem zju (mem:List Int) (i:Nat) (hi:i<mem.length):∀ B:List Undo,(∀ u∈B,0≤Undo.At u)→(B.foldr putB mem)[i]?=match B.find? (fun u=>decide (Undo.At u=(i:Int))) with|some u=>some (Undo.Val u)|none=>mem[i]?
 | [],_=>rfl
 | u::B,h=>by
  have ih:=zju mem i hi B fun v hv=>h v (List.mem_cons_of_mem _ hv)
  have hu:=h u List.mem_cons_self
  have hl:=zcQ mem B
  rw [List.foldr_cons,List.find?_cons]
  unfold putB
  by_cases he:Undo.At u=(i:Int)
  ·have:(Undo.At u).toNat=i:=by omega
   simp [he,hl,hi]
   rw [List.getElem?_set_self (by rw [show B.foldr (fun u m=>m.set (Undo.At u).toNat (Undo.Val u)) mem=B.foldr putB mem from rfl,hl];exact hi)]
  ·have hne:¬ (Undo.At u).toNat=i:=by omega
   simp only [he,decide_false]
   rw [List.getElem?_set_ne hne]
   exact ih
def trimS (l:Log) (fr:Int):Log×Int:=if za9 l=true∧0≤fr∧fr≤Log.Span l then (Log.mk (Log.Mem l) (Log.Span l) ((Log.Lst l).filter (goes fr)),0) else (l,1)
end Go.Proofs.Ytlgjbfdojbmmgaa
