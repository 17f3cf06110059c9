/- Layer 11: what New, Write, Next, Room, Back and Trim tell, of the program and of the reference. No condition. -/
import Derived.Test.YtlgjbfdojbmmgaaU1b
import Derived.Test.YtlgjbfdojbmmgaaU1c
set_option linter.unusedSimpArgs false
set_option linter.unusedVariables false
namespace Go.Proofs.Ytlgjbfdojbmmgaa
open Go.SX
def zv2 (l:Log):Prop:=(Log.Mem l).length≤1000∧(Log.Lst l).length≤1000
theorem zcI {l:Log}(h:za9 l=true):zb2 l∧∀ i,i<(Log.Lst l).length→uok l i=true:=by
 unfold za9 at h
 simp only [wD0,decide_eq_true_eq] at h
 exact ⟨h.1,zbH.1 h.2⟩
theorem zsy {l:Log}(h:zb2 l) (h2:∀ i,i<(Log.Lst l).length→uok l i=true):za9 l=true:=by
 unfold za9
 simp only [wD0,decide_eq_true_eq]
 exact ⟨h,zbH.2 h2⟩
def zrD (l:Log):Log×Int:=if za9 l=true∧Log.Span l<1099511627776 then (Log.mk (Log.Mem l) (Log.Span l + 1) (Log.Lst l),0) else (l,1)
def hasU (l:Log) (a:Int):Bool:=(Log.Lst l).any fun u=>decide (Undo.Span u=Log.Span l)&&decide (Undo.At u=a)
def ziX (l:Log) (a:Int):Int:=(Log.Mem l)[a.toNat]?.getD 0
def zin (l:Log) (a w:Int):Log×Int :=
 if za9 l=true∧0≤a∧a<((Log.Mem l).length:Int) then
  if hasU l a=true then (Log.mk ((Log.Mem l).set a.toNat w) (Log.Span l) (Log.Lst l),0)
  else if (Log.Lst l).length=256 then (l,6)
  else (Log.mk ((Log.Mem l).set a.toNat w) (Log.Span l) (Log.Lst l++[Undo.mk (Log.Span l) a (ziX l a)]),0)
 else (l,1)
theorem zm2 (l:Log) (h:zv2 l):zjg l l=some true:=by
 unfold zjg
 have h1:=h.1
 have h2:=h.2
 have lm:=zaN (f:=zeF l l) (n:=(Log.Mem l).length) (e:=.inl ()) (fun i=>(i:Int)) (fun i hi=>by
  have hlt:(i:Int)<(List.length (Log.Mem l):Int):=by omega
  unfold zeF
  simp [hlt,zat hi,zaD (show i<4611686018427387904 by omega)]) (by
  unfold zeF
  simp)
 have ll:=zaN (f:=zeQ l l) (n:=(Log.Lst l).length) (e:=.inl ()) (fun i=>(i:Int)) (fun i hi=>by
  have hlt:(i:Int)<(List.length (Log.Lst l):Int):=by omega
  unfold zeQ
  simp [hlt,zat hi,zaD (show i<4611686018427387904 by omega)]) (by
  unfold zeQ
  simp)
 rw [show ((0:Nat):Int)=0 from rfl] at lm ll
 simp [lm,ll]
end Go.Proofs.Ytlgjbfdojbmmgaa
