/- Layer 11: what Back and Trim tell, of the program and of the reference. No condition. -/
import Derived.Test.YtlgjbfdojbmmgaaU2
set_option linter.unusedSimpArgs false
set_option linter.unusedVariables false
namespace Go.Proofs.Ytlgjbfdojbmmgaa
open Go.SX
theorem zsV {l:Log}(h:∀ i,i<(Log.Lst l).length→uok l i=true):∀ (j:Nat) (hj:j<(Log.Lst l).length) (i:Nat) (hi:i<j),Undo.Span (Log.Lst l)[i]≤Undo.Span (Log.Lst l)[j]
 | 0,_,i,hi=>by omega
 | j + 1,hj,i,hi=>by
  have h1:=((zdD hj).1 (h (j + 1) hj)).1.1
  simp only [zf4,wF0 (show j<(Log.Lst l).length by omega)] at h1
  rcases Nat.lt_or_ge i j with h2|h2
  ·have:=zsV h j (by omega) i h2
   omega
  ·have:i=j:=by omega
   subst this
   exact h1
def goes (to:Int) (u:Undo):Bool:=decide (to≤Undo.Span u)
def stays (to:Int) (u:Undo):Bool:=decide (Undo.Span u<to)
theorem zjq (to:Int):∀ l:List Undo,l.Pairwise (fun a b=>Undo.Span a≤Undo.Span b)→l=l.filter (stays to)++l.filter (goes to)
 | [],_=>rfl
 | x::l,h=>by
  have hp:=List.pairwise_cons.1 h
  have ih:=zjq to l hp.2
  by_cases hx:Undo.Span x<to
  ·have h1:stays to x=true:=by simp [stays,hx]
   have h2:goes to x=false:=by simp [goes];omega
   rw [List.filter_cons,if_pos h1,List.filter_cons,h2]
   simpa using ih
  ·have h1:∀ y∈x::l,stays to y=false:=fun y hy=>by
    rcases List.mem_cons.1 hy with e|hy
    ·subst e;simp [stays];omega
    ·have:=hp.1 y hy
     simp [stays];omega
   have h2:∀ y∈x::l,goes to y=true:=fun y hy=>by
    have:=h1 y hy
    simp [stays] at this
    simp [goes,this]
   rw [List.filter_eq_nil_iff.2 (fun y hy=>by rw [h1 y hy];simp),List.filter_eq_self.2 h2]
   rfl
theorem zuC {l:Log}(h:zaU l=true) (to:Int):Log.Lst l=(Log.Lst l).filter (stays to)++(Log.Lst l).filter (goes to):=by
 refine zjq to _ ?_
 rw [List.pairwise_iff_getElem]
 intro i j hi hj hij
 exact zsV (zcT h).2 j hj i hij
def putB (u:Undo) (m:List Int):List Int:=m.set (Undo.At u).toNat (Undo.Val u)
theorem zfK (mem:List Int):∀ B:List Undo,(B.foldr putB mem).length=mem.length
 | []=>rfl
 | u::B=>by simp [putB,zfK mem B]
def restore (l:Log) (to:Int):List Int:=((Log.Lst l).filter (goes to)).foldr putB (Log.Mem l)
def zxh (l:Log) (to:Int):Log×Int:=if zaU l=true∧0≤to∧to≤Log.Span l then (Log.mk (restore l to) to ((Log.Lst l).filter (stays to)),0) else (l,1)
theorem zya {l:Log}(h:zaU l=true) {u:Undo}(hu:u∈Log.Lst l):0≤Undo.At u∧Undo.At u<((Log.Mem l).length:Int):=by
 obtain ⟨i,hi,rfl⟩:=List.getElem_of_mem hu
 have:=((zdD hi).1 ((zcT h).2 i hi)).1
 exact ⟨this.2.2.1,this.2.2.2⟩
def eldest (l:Log) (to:Int) (a:Nat):Option Undo:=(Log.Lst l).find? fun u=>goes to u&&decide (Undo.At u=(a:Int))
def setE (m:List Int) (a:Nat):Option Undo→List Int|some u=>m.set a (Undo.Val u)|none=>m
def memR (l:Log) (to:Int):Nat→List Int
 | 0=>Log.Mem l
 | a + 1=>setE (memR l to a) a (eldest l to a)
theorem zhA (l:Log) (to:Int):∀ a,(memR l to a).length=(Log.Mem l).length
 | 0=>rfl
 | a + 1=>by
  simp only [memR]
  cases eldest l to a<;>simp [setE,zhA l to a]
theorem zs7 (l:Log) (to:Int) (i:Nat) (hi:i<(Log.Mem l).length):∀ k,(memR l to k)[i]?=if i<k then (match eldest l to i with|some u=>some (Undo.Val u)|none=>(Log.Mem l)[i]?) else (Log.Mem l)[i]?
 | 0=>by simp [memR]
 | k + 1=>by
  have ih:=zs7 l to i hi k
  have hlk:=zhA l to k
  simp only [memR]
  by_cases hik:i=k
  ·subst hik
   rw [if_pos (by omega)]
   rw [if_neg (by omega)] at ih
   cases eldest l to i with
   | none=>simpa [setE] using ih
   | some u=>simp [setE,hlk,hi]
  ·have h2:(setE (memR l to k) k (eldest l to k))[i]?=(memR l to k)[i]?:=by
    cases eldest l to k with
    | none=>rfl
    | some u=>simp [setE,List.getElem?_set_ne (Ne.symm hik)]
   rw [h2,ih]
   by_cases h3:i<k
   ·rw [if_pos h3,if_pos (by omega)]
   ·rw [if_neg h3,if_neg (by omega)]
theorem zqe (mem:List Int) (i:Nat) (hi:i<mem.length):∀ B:List Undo,(∀ u∈B,0≤Undo.At u)→(B.foldr putB mem)[i]?=match B.find? (fun u=>decide (Undo.At u=(i:Int))) with|some u=>some (Undo.Val u)|none=>mem[i]?
 | [],_=>rfl
 | u::B,h=>by
  have ih:=zqe mem i hi B fun v hv=>h v (List.mem_cons_of_mem _ hv)
  have hu:=h u List.mem_cons_self
  have hl:=zfK mem B
  rw [List.foldr_cons,List.find?_cons]
  unfold putB
  by_cases he:Undo.At u=(i:Int)
  ·have:(Undo.At u).toNat=i:=by omega
   simp [he,hl,hi]
   rw [List.getElem?_set_self (by rw [show B.foldr (fun u m=>m.set (Undo.At u).toNat (Undo.Val u)) mem=B.foldr putB mem from rfl,hl];exact hi)]
  ·have hne:¬ (Undo.At u).toNat=i:=by omega
   simp only [he,decide_false]
   rw [List.getElem?_set_ne hne]
   exact ih
theorem zua {l:Log}(h:zaU l=true) (to:Int):memR l to (Log.Mem l).length=restore l to:=by
 refine List.ext_getElem? fun i=>?_
 rcases Nat.lt_or_ge i (Log.Mem l).length with hi|hi
 ·rw [zs7 l to i hi,if_pos hi]
  unfold restore
  rw [zqe _ i hi _ fun u hu=>(zya h (List.mem_filter.1 hu).1).1,List.find?_filter]
  have:eldest l to i=List.find? (fun a=>decide (goes to a=true∧decide (Undo.At a=(i:Int))=true)) (Log.Lst l):=by
   unfold eldest
   congr 1
   funext u
   simp
  rw [this]
 ·rw [List.getElem?_eq_none (by rw [zhA];exact hi),List.getElem?_eq_none (by unfold restore;rw [zfK];exact hi)]
theorem zrk (l:Log) (h:zmZ l) (to:Int):zkg l to=some (zxh l to):=by
 unfold zkg zxh
 rw [zdU l h.2]
 simp only [wC0]
 by_cases hok:zaU l=true∧0≤to∧to≤Log.Span l
 ·obtain ⟨hr,h0,ha⟩:=hok
  have hw:(if (!zaU l)=true then some true else if decide (to<(0:Int))=true then some true else some (decide (Log.Span l<to)))=some false:=by
   have e1:¬ to<0:=by omega
   have e2:¬ Log.Span l<to:=by omega
   simp [hr,e1,e2]
  rw [hw,if_pos (show zaU l=true∧0≤to∧to≤Log.Span l from ⟨hr,h0,ha⟩)]
  have hl1:=h.1
  have hl2:=h.2
  have inner:∀ (a:Nat) (m:List Int),m.length=(Log.Mem l).length→a<(Log.Mem l).length→zar (zdE l to (a:Int)) (false,(0:Int),m)=some (setE m a (eldest l to a)):=fun a m hm haa=>by
   have lp:=zav (f:=zdE l to (a:Int)) (n:=(Log.Lst l).length) (e:=setE m a (eldest l to a)) (fun i=>(((((Log.Lst l).take i).find? fun u=>goes to u&&decide (Undo.At u=(a:Int)))).isSome,(i:Int),setE m a (((Log.Lst l).take i).find? fun u=>goes to u&&decide (Undo.At u=(a:Int))))) (fun i hi=>by
    have hlt:(i:Int)<(List.length (Log.Lst l):Int):=by omega
    unfold zdE
    simp only [hlt,decide_true,if_true,zab hi,wC0,zah (show i<4611686018427387904 by omega),zaF hi,List.find?_append]
    have hml:∀ o,(setE m a o).length=(Log.Mem l).length:=fun o=>by cases o<;>simp [setE,hm]
    cases hf:((Log.Lst l).take i).find? fun u=>goes to u&&decide (Undo.At u=(a:Int)) with
    | some u =>
     by_cases e1:to≤Undo.Span (Log.Lst l)[i]<;>by_cases e2:Undo.At (Log.Lst l)[i]=(a:Int)<;>simp [e1,e2]
    | none =>
     have hma:a<m.length:=by omega
     by_cases e1:to≤Undo.Span (Log.Lst l)[i]
     ·by_cases e2:Undo.At (Log.Lst l)[i]=(a:Int)
      ·simp [e1,e2,setE,goes,zcm hma,zcZ hma]
      ·simp [e1,e2,setE,goes]
     ·simp [e1,setE,goes]) (by
    unfold zdE
    simp [eldest])
   exact lp
  have outer:=zav (f:=zfa l to) (n:=(Log.Mem l).length) (e:=memR l to (Log.Mem l).length) (fun a=>((a:Int),memR l to a)) (fun a haa=>by
   have hml:=zhA l to a
   have hlt:(a:Int)<((memR l to a).length:Int):=by omega
   unfold zfa
   simp only [hlt,decide_true,if_true,inner a _ hml haa,wC0,zah (show a<4611686018427387904 by omega)]
   rfl) (by
   have hml:=zhA l to (Log.Mem l).length
   unfold zfa
   simp [hml])
  have rest:=zav (f:=zeZ l to) (n:=(Log.Lst l).length) (e:=(Log.Lst l).filter (stays to)) (fun i=>((i:Int),((Log.Lst l).take i).filter (stays to))) (fun i hi=>by
   have hlt:(i:Int)<(List.length (Log.Lst l):Int):=by omega
   have hfl:(((Log.Lst l).take i).filter (stays to)).length≤1000:=by
    have h1:=List.length_filter_le (stays to) ((Log.Lst l).take i)
    have h2:=List.length_take_le i (Log.Lst l)
    omega
   have happ:appO 24 (((Log.Lst l).take i).filter (stays to)) ([(Log.Lst l)[i]]:List Undo)=some (((Log.Lst l).take i).filter (stays to)++[(Log.Lst l)[i]]):=zaH (by simp;omega) (by omega)
   unfold zeZ
   simp only [hlt,decide_true,if_true,zab hi,wC0,zah (show i<4611686018427387904 by omega),zaF hi,List.filter_append,happ]
   by_cases e1:Undo.Span (Log.Lst l)[i]<to<;>simp [e1,stays]) (by
   unfold zeZ
   simp)
  have happ:appO 4 ([]:List Int) (Log.Mem l)=some (Log.Mem l):=zaH (by simp;omega) (by omega)
  have e0:memR l to 0=Log.Mem l:=rfl
  rw [e0] at outer
  simp only [List.take_zero,List.filter_nil] at rest
  rw [show ((0:Nat):Int)=0 from rfl] at outer rest
  simp [happ,outer,rest,zua hr]
 ·rw [if_neg hok]
  have hw:(if (!zaU l)=true then some true else if decide (to<(0:Int))=true then some true else some (decide (Log.Span l<to)))=some true:=by
   cases hr:zaU l with
   | false=>simp
   | true =>
    by_cases h0:0≤to
    ·have e1:¬ to<0:=by omega
     have e2:Log.Span l<to:=by
      rcases Int.lt_or_le (Log.Span l) to with h|h
      ·exact h
      ·exact absurd ⟨hr,h0,h⟩ hok
     simp [e1,e2]
    ·have e1:to<0:=by omega
     simp [e1]
  rw [hw]
  simp
def trimS (l:Log) (fr:Int):Log×Int:=if zaU l=true∧0≤fr∧fr≤Log.Span l then (Log.mk (Log.Mem l) (Log.Span l) ((Log.Lst l).filter (goes fr)),0) else (l,1)
theorem zrd (l:Log) (h:zmZ l) (to:Int):zkj l to=some (trimS l to):=by
 unfold zkj trimS
 rw [zdU l h.2]
 simp only [wC0]
 by_cases hok:zaU l=true∧0≤to∧to≤Log.Span l
 ·obtain ⟨hr,h0,ha⟩:=hok
  have hw:(if (!zaU l)=true then some true else if decide (to<(0:Int))=true then some true else some (decide (Log.Span l<to)))=some false:=by
   have e1:¬ to<0:=by omega
   have e2:¬ Log.Span l<to:=by omega
   simp [hr,e1,e2]
  rw [hw,if_pos (show zaU l=true∧0≤to∧to≤Log.Span l from ⟨hr,h0,ha⟩)]
  have hl2:=h.2
  have rest:=zav (f:=ze8 l to) (n:=(Log.Lst l).length) (e:=(Log.Lst l).filter (goes to)) (fun i=>((i:Int),((Log.Lst l).take i).filter (goes to))) (fun i hi=>by
   have hlt:(i:Int)<(List.length (Log.Lst l):Int):=by omega
   have hfl:(((Log.Lst l).take i).filter (goes to)).length≤1000:=by
    have h1:=List.length_filter_le (goes to) ((Log.Lst l).take i)
    have h2:=List.length_take_le i (Log.Lst l)
    omega
   have happ:appO 24 (((Log.Lst l).take i).filter (goes to)) ([(Log.Lst l)[i]]:List Undo)=some (((Log.Lst l).take i).filter (goes to)++[(Log.Lst l)[i]]):=zaH (by simp;omega) (by omega)
   unfold ze8
   simp only [hlt,decide_true,if_true,zab hi,wC0,zah (show i<4611686018427387904 by omega),zaF hi,List.filter_append,happ]
   by_cases e1:to≤Undo.Span (Log.Lst l)[i]<;>simp [e1,goes]) (by
   unfold ze8
   simp)
  simp only [List.take_zero,List.filter_nil] at rest
  rw [show ((0:Nat):Int)=0 from rfl] at rest
  simp [rest]
 ·rw [if_neg hok]
  have hw:(if (!zaU l)=true then some true else if decide (to<(0:Int))=true then some true else some (decide (Log.Span l<to)))=some true:=by
   cases hr:zaU l with
   | false=>simp
   | true =>
    by_cases h0:0≤to
    ·have e1:¬ to<0:=by omega
     have e2:Log.Span l<to:=by
      rcases Int.lt_or_le (Log.Span l) to with h|h
      ·exact h
      ·exact absurd ⟨hr,h0,h⟩ hok
     simp [e1,e2]
    ·have e1:to<0:=by omega
     simp [e1]
  rw [hw]
  simp
end Go.Proofs.Ytlgjbfdojbmmgaa
