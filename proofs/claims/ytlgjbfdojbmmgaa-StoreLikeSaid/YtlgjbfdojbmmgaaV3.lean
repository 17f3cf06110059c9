/- Layer 14: a store is read and written. -/
import Derived.Test.YtlgjbfdojbmmgaaV2
set_option linter.unusedSimpArgs false
set_option linter.unusedVariables false
namespace Go.Proofs.Ytlgjbfdojbmmgaa
open Go.SX
def inV (s:Vault) (a:Int):Prop:=zax s=true∧0≤a∧a<Vault.Words s
theorem zjH {s:Vault}{a:Int}(h:inV s a):(zax s&&(decide (0≤a)&&decide (a<Vault.Words s)))=true:=by
 simp only [wD0,decide_eq_true_eq]
 exact h
theorem ziJ {s:Vault}{a:Int}(h:¬ inV s a):(zax s&&(decide (0≤a)&&decide (a<Vault.Words s)))=false:=by
 rw [Bool.eq_false_iff]
 intro e
 simp only [wD0,decide_eq_true_eq] at e
 exact h e
theorem zqF {s:Vault}{a:Int}(h:inV s a):∃ k:Nat,a=(k:Int)∧k<(Vault.Words s).toNat∧k<64:=by
 obtain ⟨h1,h2,h3⟩:=h
 have hf:=(zan h1).2.1
 unfold fitV at hf
 exact ⟨a.toNat,by omega,by omega,by omega⟩
noncomputable def ztk (s:Vault) (a:Int):Int×Int :=
 if (zax s&&(decide (0≤a)&&decide (a<Vault.Words s)))=true then zrJ (Vault.Banks s) ((a.toNat % bN (Vault.Banks s):Nat):Int) ((a.toNat / bN (Vault.Banks s):Nat):Int) else (0,1)
theorem zl1 {s:Vault}(hs:VOk s) (a:Int):zft s a=some (ztk s a):=by
 unfold zft ztk
 rw [zp3 hs]
 by_cases h:inV s a
 ·obtain ⟨k,rfl,hk,hk2⟩:=zqF h
  obtain ⟨p1,p2,p3⟩:=zfC h.1 hk
  rw [zjH h]
  simp only [wC0,wH0,wA0,if_false,if_true,ziH s k p1 (by omega),zdM hs.b,Int.toNat_natCast]
 ·rw [ziJ h]
  rfl
theorem zs3 {s:Vault}(h:zax s=true) {k:Nat}(hk:k<(Vault.Words s).toNat):(zb3 s)[k]?=some (cell (Banks.Rows (Vault.Banks s)) (k % bN (Vault.Banks s)) (k / bN (Vault.Banks s))):=by
 have hf:=(zan h).2.1
 unfold fitV at hf
 unfold zb3
 rw [List.getElem?_take,if_pos hk,zg2 (by rw [Nat.mul_comm];omega)]
theorem zrt {s:Vault}(hs:VOk s) {k:Nat}(h:zax s=true) (hk:k<(Vault.Words s).toNat) (hl:Banks.Lost (Vault.Banks s)=0):ztk s (k:Int)=(zjF (logV s) (k:Int),0):=by
 obtain ⟨p1,p2,p3⟩:=zfC h hk
 have h2:=zr6 (zjU hs h hl) p2 p3
 rw [zdM hs.b] at h2
 unfold ztk
 rw [zjH ⟨h,by omega,by omega⟩,if_pos rfl,Int.toNat_natCast,Option.some.inj h2]
 unfold zjF logV
 rw [Log.Mem_mk,Int.toNat_natCast,zs3 h hk]
 rfl
noncomputable def zpN (s:Vault) (a w:Int) (L:List Undo):Vault:=Vault.mk (zbw (Vault.Banks s) (a.toNat % bN (Vault.Banks s)) (a.toNat / bN (Vault.Banks s)) w) (Vault.Words s) (Vault.Span s) L
noncomputable def zjI (s:Vault) (a w:Int):Vault×Int :=
 if (zax s&&(decide (0≤a)&&decide (a<Vault.Words s)))=true then
  if 0<Banks.Lost (Vault.Banks s) then (s,8)
  else if hasU (logV s) a=true then (zpN s a w (Vault.Lst s),0)
  else if (Vault.Lst s).length=256 then (s,6)
  else (zpN s a w (Vault.Lst s++[Undo.mk (Vault.Span s) a (zjF (logV s) a)]),0)
 else (s,1)
theorem zmG (s:Vault) (a:Int):hasU (logV s) a=(Vault.Lst s).any fun u=>decide (Undo.Span u=Vault.Span s)&&decide (Undo.At u=a):=rfl
theorem zlD {s:Vault}(h:zax s=true):0≤Banks.Lost (Vault.Banks s):=(zaT (zan h).1).1.2.2.2.2.1
theorem zkp {s:Vault}(hs:VOk s) (a w:Int):zdm s a w=some (zjI s a w):=by
 unfold zdm zjI
 have hc:=ziA hs
 rw [show zdQ=zak from rfl,hc,zp3 hs]
 by_cases h:inV s a
 ·obtain ⟨k,rfl,hk,hk2⟩:=zqF h
  obtain ⟨p1,p2,p3⟩:=zfC h.1 hk
  rw [zjH h]
  simp only [wC0,wH0,wA0,if_false,if_true,Banks.eta,Vault.eta]
  by_cases hl:0<Banks.Lost (Vault.Banks s)
  ·simp only [hl,decide_true,if_true]
  have hl0:Banks.Lost (Vault.Banks s)=0:=by have:=zlD h.1;omega
  have hlen:=hs.l
  simp only [hl,decide_false,wA0,if_false]
  have lp:=zd5 (f:=zcm s (k:Int) (Vault.Lst s) (List.length (Vault.Lst s):Int)) (n:=(Vault.Lst s).length) (fun i=>(i:Int)) (fun i=>optT (fun u=>!(decide (Undo.Span u=Vault.Span s)&&decide (Undo.At u=(k:Int)))) (Vault.Lst s)[i]?) (e:=.inl ()) (r:=fun i=>.inr (i:Int)) (fun i hi _=>by
   have hlt:(i:Int)<(List.length (Vault.Lst s):Int):=by omega
   unfold zcm
   simp only [hlt,decide_true,if_true,zar hi,wC0,zau (show i<4611686018427387904 by omega),zbt hi]
   cases (decide (Undo.Span (Vault.Lst s)[i]=Vault.Span s)&&decide (Undo.At (Vault.Lst s)[i]=(k:Int)))<;>rfl) (fun _=>by
   unfold zcm
   simp)
  rw [show ((0:Nat):Int)=0 from rfl] at lp
  have happ:appO 24 (Vault.Lst s) ([Undo.mk (Vault.Span s) (k:Int) (zjF (logV s) (k:Int))]:List Undo)=some (Vault.Lst s++[Undo.mk (Vault.Span s) (k:Int) (zjF (logV s) (k:Int))]):=zea (by simp;omega) (by omega)
  have hrd:=zl1 hs (k:Int)
  rw [zrt hs h.1 hk hl0] at hrd
  have hwr:∀ L:List Undo,(za8 (Vault.mk (Vault.Banks s) (Vault.Words s) (Vault.Span s) L) (k:Int)).bind (fun v21=>(zbi (Vault.Banks s) v21.1 v21.2 w).bind fun v24=>some v24.1)=some (zbw (Vault.Banks s) (k % bN (Vault.Banks s)) (k / bN (Vault.Banks s)) w):=fun L=>by
   rw [ziH _ k (show 0<bN (Vault.Banks (Vault.mk (Vault.Banks s) (Vault.Words s) (Vault.Span s) L)) from p1) (by omega),wC0]
   have:=zjS (zjU hs h.1 hl0) p2 p3 w
   rw [Vault.Banks_mk,this,wC0]
  rcases lp with ⟨hall,hlp⟩|⟨i,hi,hbad,_,hlp⟩
  ·have hno:hasU (logV s) (k:Int)=false:=by
    rw [zmG,zg7,zbn.2 hall]
    rfl
   rw [hno]
   by_cases h256:(Vault.Lst s).length=256
   ·have h256':((Vault.Lst s).length:Int)=256:=by omega
    simp only [hlp,zdT,wC0]
    simp [h256]
   ·have h256':¬ ((Vault.Lst s).length:Int)=256:=by omega
    simp only [hlp,zdT,wC0,show ¬ (0:Int)≤-1 by omega,decide_false,Bool.not_false,Bool.true_and,h256',h256,wA0,if_false,if_true,hrd,happ,hwr]
    rfl
  ·have hyes:hasU (logV s) (k:Int)=true:=by
    rw [zmG,zg7]
    have:((List.range (Vault.Lst s).length).all fun i=>optT (fun u=>!(decide (Undo.Span u=Vault.Span s)&&decide (Undo.At u=(k:Int)))) (Vault.Lst s)[i]?)=false:=by
     rw [List.all_eq_false]
     exact ⟨i,List.mem_range.2 hi,by rw [hbad];simp⟩
    rw [this]
    rfl
   rw [hyes]
   simp only [hlp,zec,wC0,show (0:Int)≤(i:Int) by omega,decide_true,wH0,Bool.false_and,wA0,if_false,if_true,hwr]
   rfl
 ·rw [ziJ h]
  simp only [wC0,Bool.not_false,if_true,Banks.eta,Vault.eta,wA0,if_false]
theorem zrz {s:Vault}(hs:VOk s) (h:zax s=true):zh1 (logV s):=by
 have hf:=(zan h).2.1
 have hl:=zfA hf
 unfold fitV at hf
 have:=hs.l
 unfold zh1 logV
 simp only [Log.Mem_mk,Log.Lst_mk]
 omega
theorem zty {s:Vault}(hs:VOk s):∀ x∈zb3 s,wd x:=fun x hx=>zvg hs.b x (List.mem_of_mem_take hx)
theorem zdu {s:Vault}(h:zax s=true):(zb3 s).length=(Vault.Words s).toNat∧(Vault.Words s).toNat≤bN (Vault.Banks s) * bM (Vault.Banks s)∧(Vault.Words s).toNat≤64:=by
 have hf:=(zan h).2.1
 have hl:=zfA hf
 unfold fitV at hf
 refine ⟨hl,by rw [Nat.mul_comm];omega,by omega⟩
theorem zn0 (s:Vault):allB (Vault.Banks s)=zb3 s++(allB (Vault.Banks s)).drop (Vault.Words s).toNat:=(List.take_append_drop _ _).symm
end Go.Proofs.Ytlgjbfdojbmmgaa
