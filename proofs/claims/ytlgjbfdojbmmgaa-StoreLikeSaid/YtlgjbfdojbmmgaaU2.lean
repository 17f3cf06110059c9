/- Layer 11: what New, Write, Next, Room, Back and Trim tell, of the program and of the reference. No condition. -/
import Derived.Test.YtlgjbfdojbmmgaaU1b
import Derived.Test.YtlgjbfdojbmmgaaU1c
set_option linter.unusedSimpArgs false
set_option linter.unusedVariables false
namespace Go.Proofs.Ytlgjbfdojbmmgaa
open Go.SX
def zij (l:Log):Prop:=(Log.Mem l).length≤1000∧(Log.Lst l).length≤1000
theorem zbp {l:Log}(h:zaq l=true):zbL l∧∀ i,i<(Log.Lst l).length→uok l i=true:=by
 unfold zaq at h
 simp only [wD0,decide_eq_true_eq] at h
 exact ⟨h.1,zbi.1 h.2⟩
theorem zrJ {l:Log}(h:zbL l) (h2:∀ i,i<(Log.Lst l).length→uok l i=true):zaq l=true:=by
 unfold zaq
 simp only [wD0,decide_eq_true_eq]
 exact ⟨h,zbi.2 h2⟩
theorem zfE {l:Log}(h:zij l):((zaD 4 (Log.Mem l)).bind fun v5=>(zaD 24 (Log.Lst l)).bind fun v7=>some ((Log.Span l,v5,v7)):Option (Int×(List Int)×(List Undo)))=some (Log.Span l,Log.Mem l,Log.Lst l):=by
 rw [zbT (by have:=h.1;omega) (by omega),wC0,zbT (by have:=h.2;omega) (by omega),wC0]
def newS (n:Int):Log×Int:=if 1≤n∧n≤64 then (Log.mk (List.replicate n.toNat 0) 0 [],0) else (Log.mk [] 0 [],1)
theorem zoP (n:Int):ziM n=some (newS n):=by
 unfold ziM newS
 by_cases h:1≤n∧n≤64
 ·obtain ⟨k,rfl⟩:∃ k:Nat,n=(k:Int):=⟨n.toNat,by omega⟩
  have h1:¬ (k:Int)<1:=by omega
  have h2:¬ (64:Int)<(k:Int):=by omega
  rw [if_pos h]
  simp [h1,h2,zfl (show k≤1000000 by omega) (show 4≤10000 by omega)]
 ·have hc:(decide (n<(1:Int))||decide ((64:Int)<n))=true:=by simp;omega
  simp [hc,h]
def zqW (l:Log):Log×Int:=if zaq l=true∧Log.Span l<1099511627776 then (Log.mk (Log.Mem l) (Log.Span l + 1) (Log.Lst l),0) else (l,1)
theorem zoo (l:Log) (h:zij l):zfb l=some (zqW l):=by
 unfold zfb zqW
 rw [zcV l h.2]
 simp only [wC0,zfE h]
 cases hr:zaq l with
 | false=>simp
 | true =>
  have hz:=(zbp hr).1
  unfold zbL at hz
  by_cases hs:Log.Span l<1099511627776
  ·have hw:w64 (Log.Span l + 1)=Log.Span l + 1:=zdE (by omega) (by omega)
   simp [hs,hw]
  ·simp [hs]
def hasU (l:Log) (a:Int):Bool:=(Log.Lst l).any fun u=>decide (Undo.Span u=Log.Span l)&&decide (Undo.At u=a)
def zjW (l:Log) (a:Int):Int:=(Log.Mem l)[a.toNat]?.getD 0
def zj4 (l:Log) (a w:Int):Log×Int :=
 if zaq l=true∧0≤a∧a<((Log.Mem l).length:Int) then
  if hasU l a=true then (Log.mk ((Log.Mem l).set a.toNat w) (Log.Span l) (Log.Lst l),0)
  else if (Log.Lst l).length=256 then (l,6)
  else (Log.mk ((Log.Mem l).set a.toNat w) (Log.Span l) (Log.Lst l++[Undo.mk (Log.Span l) a (zjW l a)]),0)
 else (l,1)
theorem zlE (l:Log) (h:zij l) (a w:Int):zee l a w=some (zj4 l a w):=by
 unfold zee zj4
 rw [zcV l h.2]
 simp only [wC0,zfE h]
 by_cases hok:zaq l=true∧0≤a∧a<((Log.Mem l).length:Int)
 ·obtain ⟨hr,h0,ha⟩:=hok
  obtain ⟨k,rfl⟩:∃ k:Nat,a=(k:Int):=⟨a.toNat,by omega⟩
  have hk:k<(Log.Mem l).length:=by omega
  have hlen:=h.2
  have hw:(if zaq l=true then if decide ((0:Int)≤(k:Int))=true then some (decide ((k:Int)<(List.length (Log.Mem l):Int))) else some false else some false)=some true:=by simp [hr,hk]
  rw [hw,if_pos (show zaq l=true∧0≤(k:Int)∧(k:Int)<((Log.Mem l).length:Int) from ⟨hr,h0,ha⟩)]
  have lp:=zec (f:=zcU (k:Int) (Log.Span l) (Log.Lst l) (List.length (Log.Lst l):Int)) (n:=(Log.Lst l).length) (fun i=>(i:Int)) (fun i=>optT (fun u=>!(decide (Undo.Span u=Log.Span l)&&decide (Undo.At u=(k:Int)))) (Log.Lst l)[i]?) (e:=.inl ()) (r:=fun i=>.inr (i:Int)) (fun i hi _=>by
   have hlt:(i:Int)<(List.length (Log.Lst l):Int):=by omega
   unfold zcU
   simp only [hlt,decide_true,if_true,zci hi,zat hi,wC0,zav (show i<4611686018427387904 by omega),zbv hi]
   cases (decide (Undo.Span (Log.Lst l)[i]=Log.Span l)&&decide (Undo.At (Log.Lst l)[i]=(k:Int)))<;>rfl) (fun _=>by
   unfold zcU
   simp)
  rw [show ((0:Nat):Int)=0 from rfl] at lp
  have hm:zjW l (k:Int)=(Log.Mem l)[k]:=by unfold zjW;simp [hk]
  have happ:appO 24 (Log.Lst l) ([Undo.mk (Log.Span l) (k:Int) (Log.Mem l)[k]]:List Undo)=some (Log.Lst l++[Undo.mk (Log.Span l) (k:Int) (Log.Mem l)[k]]):=zdR (by simp;omega) (by omega)
  rcases lp with ⟨hall,hlp⟩|⟨i,hi,hbad,_,hlp⟩
  ·have hno:hasU l (k:Int)=false:=by
    unfold hasU
    rw [zgy,zbi.2 hall]
    rfl
   by_cases h256:(Log.Lst l).length=256
   ·have h256':((Log.Lst l).length:Int)=256:=by omega
    simp only [hlp,zd0,wC0]
    simp [hno,h256]
   ·have h256':¬ ((Log.Lst l).length:Int)=256:=by omega
    simp [hlp,hno,h256,h256',zci hk,zat hk,zeL hk,happ,hm]
  ·have hyes:hasU l (k:Int)=true:=by
    unfold hasU
    rw [zgy]
    have:((List.range (Log.Lst l).length).all fun i=>optT (fun u=>!(decide (Undo.Span u=Log.Span l)&&decide (Undo.At u=(k:Int)))) (Log.Lst l)[i]?)=false:=by
     rw [List.all_eq_false]
     exact ⟨i,List.mem_range.2 hi,by rw [hbad];simp⟩
    rw [this]
    rfl
   simp [hlp,hyes,zci hk,zeL hk]
 ·rw [if_neg hok]
  have hw:(if zaq l=true then if decide ((0:Int)≤a)=true then some (decide (a<(List.length (Log.Mem l):Int))) else some false else some false)=some false:=by
   cases hr:zaq l with
   | false=>simp
   | true =>
    by_cases h0:0≤a
    ·have:¬ a<((Log.Mem l).length:Int):=fun e=>hok ⟨hr,h0,e⟩
     simp [h0];omega
    ·simp [h0]
  rw [hw]
  simp
end Go.Proofs.Ytlgjbfdojbmmgaa
