/- Layer 11: what New, Write, Next, Room, Back and Trim tell, of the program and of the reference. No condition. -/
import Derived.Test.YtlgjbfdojbmmgaaU1b
import Derived.Test.YtlgjbfdojbmmgaaU1c
set_option linter.unusedSimpArgs false
set_option linter.unusedVariables false
namespace Go.Proofs.Ytlgjbfdojbmmgaa
open Go.SX
def zmZ (l:Log):Prop:=(Log.Mem l).length≤1000∧(Log.Lst l).length≤1000
theorem zcT {l:Log}(h:zaU l=true):zd8 l∧∀ i,i<(Log.Lst l).length→uok l i=true:=by
 unfold zaU at h
 simp only [wD0,decide_eq_true_eq] at h
 exact ⟨h.1,zca.1 h.2⟩
def hasU (l:Log) (a:Int):Bool:=(Log.Lst l).any fun u=>decide (Undo.Span u=Log.Span l)&&decide (Undo.At u=a)
def zlp (l:Log) (a:Int):Int:=(Log.Mem l)[a.toNat]?.getD 0
def zup (l:Log) (a w:Int):Log×Int :=
 if zaU l=true∧0≤a∧a<((Log.Mem l).length:Int) then
  if hasU l a=true then (Log.mk ((Log.Mem l).set a.toNat w) (Log.Span l) (Log.Lst l),0)
  else if (Log.Lst l).length=256 then (l,6)
  else (Log.mk ((Log.Mem l).set a.toNat w) (Log.Span l) (Log.Lst l++[Undo.mk (Log.Span l) a (zlp l a)]),0)
 else (l,1)
theorem zqa (l:Log) (h:zmZ l) (a w:Int):zid l a w=some (zup l a w):=by
 unfold zid zup
 rw [zdU l h.2]
 simp only [wC0]
 by_cases hok:zaU l=true∧0≤a∧a<((Log.Mem l).length:Int)
 ·obtain ⟨hr,h0,ha⟩:=hok
  have hz:=(zcT hr).1
  unfold zd8 at hz
  obtain ⟨k,rfl⟩:∃ k:Nat,a=(k:Int):=⟨a.toNat,by omega⟩
  have hk:k<(Log.Mem l).length:=by omega
  have hlen:=h.2
  have hmem:=h.1
  have hw:(if (!zaU l)=true then some true else if decide ((k:Int)<(0:Int))=true then some true else some (decide ((List.length (Log.Mem l):Int)≤(k:Int))))=some false:=by
   have:¬ ((k:Int)<0):=by omega
   simp [hr,this,hk]
  rw [hw,if_pos (show zaU l=true∧0≤(k:Int)∧(k:Int)<((Log.Mem l).length:Int) from ⟨hr,h0,ha⟩)]
  have lp:=zav (f:=zdY l (k:Int)) (n:=(Log.Lst l).length) (e:=hasU l (k:Int)) (fun i=>(((Log.Lst l).take i).any (fun u=>decide (Undo.Span u=Log.Span l)&&decide (Undo.At u=(k:Int))),(i:Int))) (fun i hi=>by
   have hlt:(i:Int)<(List.length (Log.Lst l):Int):=by omega
   unfold zdY
   simp only [hlt,decide_true,if_true,zab hi,wC0,zah (show i<4611686018427387904 by omega),zaF hi,List.any_append,List.any_cons,List.any_nil,Bool.or_false]
   cases ((Log.Lst l).take i).any (fun u=>decide (Undo.Span u=Log.Span l)&&decide (Undo.At u=(k:Int))) with
   | true=>simp
   | false=>by_cases e1:Undo.Span (Log.Lst l)[i]=Log.Span l<;>simp [e1]) (by
   unfold zdY
   simp [hasU])
  simp only [List.take_zero,List.any_nil] at lp
  rw [show ((0:Nat):Int)=0 from rfl] at lp
  have hm:zlp l (k:Int)=(Log.Mem l)[k]:=by unfold zlp;simp [hk]
  have hwith:∀ m:List Int,m=Log.Mem l→zko m (k:Int) w=some (m.set k w):=fun m hm=>by
   subst hm
   unfold zko
   rw [zaH (by simp;omega) (by omega)]
   simp [zcm hk,zcZ hk]
  have e1:appO 24 ([]:List Undo) (Log.Lst l)=some (Log.Lst l):=zaH (by simp;omega) (by omega)
  have e2:appO 24 (Log.Lst l) ([Undo.mk (Log.Span l) (k:Int) (Log.Mem l)[k]]:List Undo)=some (Log.Lst l++[Undo.mk (Log.Span l) (k:Int) (Log.Mem l)[k]]):=zaH (by simp;omega) (by omega)
  cases hu:hasU l (k:Int) with
  | true =>
   rw [hu] at lp
   simp [lp,hwith _ rfl]
  | false =>
   rw [hu] at lp
   by_cases h256:(Log.Lst l).length=256
   ·have h256':(256:Int)≤((Log.Lst l).length:Int):=by omega
    simp only [lp,wC0]
    simp [h256]
   ·have h256':¬ (256:Int)≤((Log.Lst l).length:Int):=by omega
    simp [lp,h256,h256',e1,e2,zab hk,hwith _ rfl,hm]
 ·rw [if_neg hok]
  have hw:(if (!zaU l)=true then some true else if decide (a<(0:Int))=true then some true else some (decide ((List.length (Log.Mem l):Int)≤a)))=some true:=by
   cases hr:zaU l with
   | false=>simp
   | true =>
    by_cases h0:0≤a
    ·have:¬ a<((Log.Mem l).length:Int):=fun e=>hok ⟨hr,h0,e⟩
     have h1:¬ a<0:=by omega
     simp [h1];omega
    ·have h1:a<0:=by omega
     simp [h1]
  rw [hw]
  simp
theorem znD (l:Log) (h:zmZ l):zkm l l=some true:=by
 unfold zkm
 have h1:=h.1
 have h2:=h.2
 have lm:=zav (f:=zfk l l) (n:=(Log.Mem l).length) (e:=.inl ()) (fun i=>(i:Int)) (fun i hi=>by
  have hlt:(i:Int)<(List.length (Log.Mem l):Int):=by omega
  unfold zfk
  simp [hlt,zab hi,zah (show i<4611686018427387904 by omega)]) (by
  unfold zfk
  simp)
 have ll:=zav (f:=zeG l l) (n:=(Log.Lst l).length) (e:=.inl ()) (fun i=>(i:Int)) (fun i hi=>by
  have hlt:(i:Int)<(List.length (Log.Lst l):Int):=by omega
  unfold zeG
  simp [hlt,zab hi,zah (show i<4611686018427387904 by omega)]) (by
  unfold zeG
  simp)
 rw [show ((0:Nat):Int)=0 from rfl] at lm ll
 simp [lm,ll]
end Go.Proofs.Ytlgjbfdojbmmgaa
