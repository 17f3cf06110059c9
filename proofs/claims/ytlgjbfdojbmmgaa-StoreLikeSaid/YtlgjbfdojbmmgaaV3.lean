/- Layer 14: a store is read and written. -/
import Derived.Test.YtlgjbfdojbmmgaaV2
set_option linter.unusedSimpArgs false
set_option linter.unusedVariables false
namespace Go.Proofs.Ytlgjbfdojbmmgaa
open Go.SX
def inV (s:Vault) (a:Int):Prop:=zaz s=true∧0≤a∧a<Vault.Words s
theorem zj3 {s:Vault}{a:Int}(h:inV s a):(zaz s&&(decide (0≤a)&&decide (a<Vault.Words s)))=true:=by
 simp only [wD0,decide_eq_true_eq]
 exact h
theorem ziH {s:Vault}{a:Int}(h:¬ inV s a):(zaz s&&(decide (0≤a)&&decide (a<Vault.Words s)))=false:=by
 rw [Bool.eq_false_iff]
 intro e
 simp only [wD0,decide_eq_true_eq] at e
 exact h e
theorem zqs {s:Vault}{a:Int}(h:inV s a):∃ k:Nat,a=(k:Int)∧k<(Vault.Words s).toNat∧k<64:=by
 obtain ⟨h1,h2,h3⟩:=h
 have hf:=(zam h1).2.1
 unfold fitV at hf
 exact ⟨a.toNat,by omega,by omega,by omega⟩
noncomputable def ztj (s:Vault) (a:Int):Int×Int :=
 if (zaz s&&(decide (0≤a)&&decide (a<Vault.Words s)))=true then zrx (Vault.Banks s) ((a.toNat % bN (Vault.Banks s):Nat):Int) ((a.toNat / bN (Vault.Banks s):Nat):Int) else (0,1)
theorem zlF {s:Vault}(hs:VOk s) (a:Int):zfA s a=some (ztj s a):=by
 unfold zfA ztj
 rw [zqH hs]
 by_cases h:inV s a
 ·obtain ⟨k,rfl,hk,hk2⟩:=zqs h
  obtain ⟨p1,p2,p3⟩:=zfw h.1 hk
  rw [zj3 h]
  simp only [wC0,wH0,wA0,if_false,if_true,ziS s k p1 (by omega),zdH hs.b,Int.toNat_natCast]
 ·rw [ziH h]
  rfl
theorem zrH {s:Vault}(h:zaz s=true) {k:Nat}(hk:k<(Vault.Words s).toNat):(zb2 s)[k]?=some (cell (Banks.Rows (Vault.Banks s)) (k % bN (Vault.Banks s)) (k / bN (Vault.Banks s))):=by
 have hf:=(zam h).2.1
 unfold fitV at hf
 unfold zb2
 rw [List.getElem?_take,if_pos hk,zg5 (by rw [Nat.mul_comm];omega)]
theorem zrC {s:Vault}(hs:VOk s) {k:Nat}(h:zaz s=true) (hk:k<(Vault.Words s).toNat) (hl:Banks.Lost (Vault.Banks s)=0):ztj s (k:Int)=(zjW (logV s) (k:Int),0):=by
 obtain ⟨p1,p2,p3⟩:=zfw h hk
 have h2:=zsO (zjD hs h hl) p2 p3
 rw [zdH hs.b] at h2
 unfold ztj
 rw [zj3 ⟨h,by omega,by omega⟩,if_pos rfl,Int.toNat_natCast,Option.some.inj h2]
 unfold zjW logV
 rw [Log.Mem_mk,Int.toNat_natCast,zrH h hk]
 rfl
noncomputable def zp6 (s:Vault) (a w:Int) (L:List Undo):Vault:=Vault.mk (zbz (Vault.Banks s) (a.toNat % bN (Vault.Banks s)) (a.toNat / bN (Vault.Banks s)) w) (Vault.Words s) (Vault.Span s) L
noncomputable def zki (s:Vault) (a w:Int):Vault×Int :=
 if (zaz s&&(decide (0≤a)&&decide (a<Vault.Words s)))=true then
  if 0<Banks.Lost (Vault.Banks s) then (s,8)
  else if hasU (logV s) a=true then (zp6 s a w (Vault.Lst s),0)
  else if (Vault.Lst s).length=256 then (s,6)
  else (zp6 s a w (Vault.Lst s++[Undo.mk (Vault.Span s) a (zjW (logV s) a)]),0)
 else (s,1)
theorem zm0 (s:Vault) (a:Int):hasU (logV s) a=(Vault.Lst s).any fun u=>decide (Undo.Span u=Vault.Span s)&&decide (Undo.At u=a):=rfl
theorem zlS {s:Vault}(h:zaz s=true):0≤Banks.Lost (Vault.Banks s):=(zaU (zam h).1).1.2.2.2.2.1
theorem zkM {s:Vault}(hs:VOk s) (a w:Int):zde s a w=some (zki s a w):=by
 unfold zde zki
 have hc:=ziR hs
 rw [show zea=zao from rfl,hc,zqH hs]
 by_cases h:inV s a
 ·obtain ⟨k,rfl,hk,hk2⟩:=zqs h
  obtain ⟨p1,p2,p3⟩:=zfw h.1 hk
  rw [zj3 h]
  simp only [wC0,wH0,wA0,if_false,if_true,Banks.eta,Vault.eta]
  by_cases hl:0<Banks.Lost (Vault.Banks s)
  ·simp only [hl,decide_true,if_true]
  have hl0:Banks.Lost (Vault.Banks s)=0:=by have:=zlS h.1;omega
  have hlen:=hs.l
  simp only [hl,decide_false,wA0,if_false]
  have lp:=zec (f:=zcq s (k:Int) (Vault.Lst s) (List.length (Vault.Lst s):Int)) (n:=(Vault.Lst s).length) (fun i=>(i:Int)) (fun i=>optT (fun u=>!(decide (Undo.Span u=Vault.Span s)&&decide (Undo.At u=(k:Int)))) (Vault.Lst s)[i]?) (e:=.inl ()) (r:=fun i=>.inr (i:Int)) (fun i hi _=>by
   have hlt:(i:Int)<(List.length (Vault.Lst s):Int):=by omega
   unfold zcq
   simp only [hlt,decide_true,if_true,zat hi,wC0,zav (show i<4611686018427387904 by omega),zbv hi]
   cases (decide (Undo.Span (Vault.Lst s)[i]=Vault.Span s)&&decide (Undo.At (Vault.Lst s)[i]=(k:Int)))<;>rfl) (fun _=>by
   unfold zcq
   simp)
  rw [show ((0:Nat):Int)=0 from rfl] at lp
  have happ:appO 24 (Vault.Lst s) ([Undo.mk (Vault.Span s) (k:Int) (zjW (logV s) (k:Int))]:List Undo)=some (Vault.Lst s++[Undo.mk (Vault.Span s) (k:Int) (zjW (logV s) (k:Int))]):=zdR (by simp;omega) (by omega)
  have hrd:=zlF hs (k:Int)
  rw [zrC hs h.1 hk hl0] at hrd
  have hwr:∀ L:List Undo,(za6 (Vault.mk (Vault.Banks s) (Vault.Words s) (Vault.Span s) L) (k:Int)).bind (fun v21=>(zbo (Vault.Banks s) v21.1 v21.2 w).bind fun v24=>some v24.1)=some (zbz (Vault.Banks s) (k % bN (Vault.Banks s)) (k / bN (Vault.Banks s)) w):=fun L=>by
   rw [ziS _ k (show 0<bN (Vault.Banks (Vault.mk (Vault.Banks s) (Vault.Words s) (Vault.Span s) L)) from p1) (by omega),wC0]
   have:=zjc (zjD hs h.1 hl0) p2 p3 w
   rw [Vault.Banks_mk,this,wC0]
  rcases lp with ⟨hall,hlp⟩|⟨i,hi,hbad,_,hlp⟩
  ·have hno:hasU (logV s) (k:Int)=false:=by
    rw [zm0,zgy,zbi.2 hall]
    rfl
   rw [hno]
   by_cases h256:(Vault.Lst s).length=256
   ·have h256':((Vault.Lst s).length:Int)=256:=by omega
    simp only [hlp,zd0,wC0]
    simp [h256]
   ·have h256':¬ ((Vault.Lst s).length:Int)=256:=by omega
    simp only [hlp,zd0,wC0,show ¬ (0:Int)≤-1 by omega,decide_false,Bool.not_false,Bool.true_and,h256',h256,wA0,if_false,if_true,hrd,happ,hwr]
    rfl
  ·have hyes:hasU (logV s) (k:Int)=true:=by
    rw [zm0,zgy]
    have:((List.range (Vault.Lst s).length).all fun i=>optT (fun u=>!(decide (Undo.Span u=Vault.Span s)&&decide (Undo.At u=(k:Int)))) (Vault.Lst s)[i]?)=false:=by
     rw [List.all_eq_false]
     exact ⟨i,List.mem_range.2 hi,by rw [hbad];simp⟩
    rw [this]
    rfl
   rw [hyes]
   simp only [hlp,zdP,wC0,show (0:Int)≤(i:Int) by omega,decide_true,wH0,Bool.false_and,wA0,if_false,if_true,hwr]
   rfl
 ·rw [ziH h]
  simp only [wC0,Bool.not_false,if_true,Banks.eta,Vault.eta,wA0,if_false]
theorem zsS {s:Vault}(hs:VOk s) (h:zaz s=true):zij (logV s):=by
 have hf:=(zam h).2.1
 have hl:=zfF hf
 unfold fitV at hf
 have:=hs.l
 unfold zij logV
 simp only [Log.Mem_mk,Log.Lst_mk]
 omega
theorem ztq {s:Vault}(hs:VOk s):∀ x∈zb2 s,wd x:=fun x hx=>zvk hs.b x (List.mem_of_mem_take hx)
theorem zdt {s:Vault}(h:zaz s=true):(zb2 s).length=(Vault.Words s).toNat∧(Vault.Words s).toNat≤bN (Vault.Banks s) * bM (Vault.Banks s)∧(Vault.Words s).toNat≤64:=by
 have hf:=(zam h).2.1
 have hl:=zfF hf
 unfold fitV at hf
 refine ⟨hl,by rw [Nat.mul_comm];omega,by omega⟩
theorem zni (s:Vault):allB (Vault.Banks s)=zb2 s++(allB (Vault.Banks s)).drop (Vault.Words s).toNat:=(List.take_append_drop _ _).symm
end Go.Proofs.Ytlgjbfdojbmmgaa
