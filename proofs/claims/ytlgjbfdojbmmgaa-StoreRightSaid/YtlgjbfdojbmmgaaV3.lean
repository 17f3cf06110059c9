/- Layer 14: a store is read and written. -/
import Derived.Test.YtlgjbfdojbmmgaaV2
set_option linter.unusedSimpArgs false
set_option linter.unusedVariables false
namespace Go.Proofs.Ytlgjbfdojbmmgaa
open Go.SX
def inV (s:Vault) (a:Int):Prop:=zam s=true∧0≤a∧a<Vault.Words s
theorem ziM {s:Vault}{a:Int}(h:inV s a):(zam s&&(decide (0≤a)&&decide (a<Vault.Words s)))=true:=by
 simp only [wD0,decide_eq_true_eq]
 exact h
theorem zhy {s:Vault}{a:Int}(h:¬ inV s a):(zam s&&(decide (0≤a)&&decide (a<Vault.Words s)))=false:=by
 rw [Bool.eq_false_iff]
 intro e
 simp only [wD0,decide_eq_true_eq] at e
 exact h e
theorem zwS {s:Vault}{a:Int}:((some (zam s):Option Bool).bind fun v3 =>
  if !v3 then
   some (true)
  else
   if decide (a<(0:Int)) then
    some (true)
   else
    some ((decide ((Vault.Words s)≤a))))=some (!(zam s&&(decide (0≤a)&&decide (a<Vault.Words s)))):=by
 cases zam s
 ·rfl
 ·by_cases h:a<0
  ·have h':¬ 0≤a:=by omega
   simp only [h,h',decide_true,decide_false,wC0,wH0,wA0,if_false,if_true,Bool.true_and,Bool.false_and,Bool.not_false]
  ·have h':0≤a:=by omega
   have e:decide (Vault.Words s≤a)=!decide (a<Vault.Words s):=by
    by_cases h2:a<Vault.Words s
    ·have:¬ Vault.Words s≤a:=by omega
     simp [h2,this]
    ·have:Vault.Words s≤a:=by omega
     simp [h2,this]
   simp only [h,h',e,decide_true,decide_false,wC0,wH0,wA0,if_false,if_true,Bool.true_and]
theorem zpn {s:Vault}{a:Int}(h:inV s a):∃ k:Nat,a=(k:Int)∧k<(Vault.Words s).toNat∧k<64:=by
 obtain ⟨h1,h2,h3⟩:=h
 have hf:=(zau h1).2.1
 unfold fitV at hf
 exact ⟨a.toNat,by omega,by omega,by omega⟩
noncomputable def ztU (s:Vault) (a:Int):Int×Int :=
 if (zam s&&(decide (0≤a)&&decide (a<Vault.Words s)))=true then ztK (Vault.Banks s) ((a.toNat % bN (Vault.Banks s):Nat):Int) ((a.toNat / bN (Vault.Banks s):Nat):Int) else (0,1)
theorem zhS {s:Vault}(hs:VOk s) (a:Int):zex s a=some (ztU s a):=by
 unfold zex ztU
 rw [zsa hs]
 by_cases h:inV s a
 ·obtain ⟨k,rfl,hk,hk2⟩:=zpn h
  obtain ⟨p1,p2,p3⟩:=zd1 h.1 hk
  rw [ziM h]
  simp only [wC0,wH0,wA0,if_false,if_true,zj7 s k p1 (by omega),zd7 hs.b,Int.toNat_natCast]
 ·rw [zhy h]
  rfl
theorem zqX {s:Vault}(hs:VOk s) (a:Int):zkn s a=some (ztU s a):=by
 unfold zkn ztU
 rw [zb7 hs,zwS]
 by_cases h:inV s a
 ·obtain ⟨k,rfl,hk,hk2⟩:=zpn h
  obtain ⟨p1,p2,p3⟩:=zd1 h.1 hk
  rw [ziM h]
  have e:(List.length (Banks.Rows (Vault.Banks s)):Int)=(bN (Vault.Banks s):Int):=rfl
  simp only [wC0,wH0,wA0,if_false,if_true,e,znP p1,zix p1 (show k≤1000000 by omega),zrt hs.b,Int.toNat_natCast]
 ·rw [zhy h]
  rfl
theorem zvP {s:Vault}(h:zam s=true) {k:Nat}(hk:k<(Vault.Words s).toNat):(zbT s)[k]?=some (cell (Banks.Rows (Vault.Banks s)) (k % bN (Vault.Banks s)) (k / bN (Vault.Banks s))):=by
 have hf:=(zau h).2.1
 unfold fitV at hf
 unfold zbT
 rw [List.getElem?_take,if_pos hk,zgC (by rw [Nat.mul_comm];omega)]
theorem zuM {s:Vault}(hs:VOk s) {k:Nat}(h:zam s=true) (hk:k<(Vault.Words s).toNat) (hl:Banks.Lost (Vault.Banks s)=0):ztU s (k:Int)=(zlp (logV s) (k:Int),0):=by
 obtain ⟨p1,p2,p3⟩:=zd1 h hk
 have h2:=zuZ (zg1 hs h hl) p2 p3
 rw [zd7 hs.b] at h2
 unfold ztU
 rw [ziM ⟨h,by omega,by omega⟩,if_pos rfl,Int.toNat_natCast,Option.some.inj h2]
 unfold zlp logV
 rw [Log.Mem_mk,Int.toNat_natCast,zvP h hk]
 rfl
noncomputable def zuT (s:Vault) (a w:Int) (L:List Undo):Vault:=Vault.mk (zbj (Vault.Banks s) (a.toNat % bN (Vault.Banks s)) (a.toNat / bN (Vault.Banks s)) w) (Vault.Words s) (Vault.Span s) L
noncomputable def zmY (s:Vault) (a w:Int):Vault×Int :=
 if (zam s&&(decide (0≤a)&&decide (a<Vault.Words s)))=true then
  if 0<Banks.Lost (Vault.Banks s) then (s,8)
  else if hasU (logV s) a=true then (zuT s a w (Vault.Lst s),0)
  else if (Vault.Lst s).length=256 then (s,6)
  else (zuT s a w (Vault.Lst s++[Undo.mk (Vault.Span s) a (zlp (logV s) a)]),0)
 else (s,1)
theorem zo7 (s:Vault) (a:Int):hasU (logV s) a=(Vault.Lst s).any fun u=>decide (Undo.Span u=Vault.Span s)&&decide (Undo.At u=a):=rfl
theorem ziY {s:Vault}(h:zam s=true):0≤Banks.Lost (Vault.Banks s):=(zas (zau h).1).1.2.2.2.2.1
theorem zl7 {s:Vault}(hs:VOk s) (a w:Int):ze4 s a w=some (zmY s a w):=by
 unfold ze4 zmY
 have hc:=zgf hs
 rw [show zbH=zae from rfl,hc,zsa hs]
 by_cases h:inV s a
 ·obtain ⟨k,rfl,hk,hk2⟩:=zpn h
  obtain ⟨p1,p2,p3⟩:=zd1 h.1 hk
  rw [ziM h]
  simp only [wC0,wH0,wA0,if_false,if_true,Banks.eta,Vault.eta]
  by_cases hl:0<Banks.Lost (Vault.Banks s)
  ·simp only [hl,decide_true,if_true]
  have hl0:Banks.Lost (Vault.Banks s)=0:=by have:=ziY h.1;omega
  have hlen:=hs.l
  simp only [hl,decide_false,wA0,if_false]
  have lp:=zjd (f:=zcD s (k:Int) (Vault.Lst s) (List.length (Vault.Lst s):Int)) (n:=(Vault.Lst s).length) (fun i=>(i:Int)) (fun i=>optT (fun u=>!(decide (Undo.Span u=Vault.Span s)&&decide (Undo.At u=(k:Int)))) (Vault.Lst s)[i]?) (e:=.inl ()) (r:=fun i=>.inr (i:Int)) (fun i hi _=>by
   have hlt:(i:Int)<(List.length (Vault.Lst s):Int):=by omega
   unfold zcD
   simp only [hlt,decide_true,if_true,zab hi,wC0,zah (show i<4611686018427387904 by omega),zce hi]
   cases (decide (Undo.Span (Vault.Lst s)[i]=Vault.Span s)&&decide (Undo.At (Vault.Lst s)[i]=(k:Int)))<;>rfl) (fun _=>by
   unfold zcD
   simp)
  rw [show ((0:Nat):Int)=0 from rfl] at lp
  have happ:appO 24 (Vault.Lst s) ([Undo.mk (Vault.Span s) (k:Int) (zlp (logV s) (k:Int))]:List Undo)=some (Vault.Lst s++[Undo.mk (Vault.Span s) (k:Int) (zlp (logV s) (k:Int))]):=zaH (by simp;omega) (by omega)
  have hrd:=zhS hs (k:Int)
  rw [zuM hs h.1 hk hl0] at hrd
  have hwr:∀ L:List Undo,(zbm (Vault.mk (Vault.Banks s) (Vault.Words s) (Vault.Span s) L) (k:Int)).bind (fun v21=>(zby (Vault.Banks s) v21.1 v21.2 w).bind fun v24=>some v24.1)=some (zbj (Vault.Banks s) (k % bN (Vault.Banks s)) (k / bN (Vault.Banks s)) w):=fun L=>by
   rw [zj7 _ k (show 0<bN (Vault.Banks (Vault.mk (Vault.Banks s) (Vault.Words s) (Vault.Span s) L)) from p1) (by omega),wC0]
   have:=zk7 (zg1 hs h.1 hl0) p2 p3 w
   rw [Vault.Banks_mk,this,wC0]
  rcases lp with ⟨hall,hlp⟩|⟨i,hi,hbad,_,hlp⟩
  ·have hno:hasU (logV s) (k:Int)=false:=by
    rw [zo7,zpW,zca.2 hall]
    rfl
   rw [hno]
   by_cases h256:(Vault.Lst s).length=256
   ·have h256':((Vault.Lst s).length:Int)=256:=by omega
    simp only [hlp,zeA,wC0]
    simp [h256]
   ·have h256':¬ ((Vault.Lst s).length:Int)=256:=by omega
    simp only [hlp,zeA,wC0,show ¬ (0:Int)≤-1 by omega,decide_false,Bool.not_false,Bool.true_and,h256',h256,wA0,if_false,if_true,hrd,happ,hwr]
    rfl
  ·have hyes:hasU (logV s) (k:Int)=true:=by
    rw [zo7,zpW]
    have:((List.range (Vault.Lst s).length).all fun i=>optT (fun u=>!(decide (Undo.Span u=Vault.Span s)&&decide (Undo.At u=(k:Int)))) (Vault.Lst s)[i]?)=false:=by
     rw [List.all_eq_false]
     exact ⟨i,List.mem_range.2 hi,by rw [hbad];simp⟩
    rw [this]
    rfl
   rw [hyes]
   simp only [hlp,zgu,wC0,show (0:Int)≤(i:Int) by omega,decide_true,wH0,Bool.false_and,wA0,if_false,if_true,hwr]
   rfl
 ·rw [zhy h]
  simp only [wC0,Bool.not_false,if_true,Banks.eta,Vault.eta,wA0,if_false]
theorem zqw {s:Vault}(hs:VOk s) (h:zam s=true):zmZ (logV s):=by
 have hf:=(zau h).2.1
 have hl:=zji hf
 unfold fitV at hf
 have:=hs.l
 unfold zmZ logV
 simp only [Log.Mem_mk,Log.Lst_mk]
 omega
theorem zku {s:Vault}(hs:VOk s):∀ x∈zbT s,wd x:=fun x hx=>zxS hs.b x (List.mem_of_mem_take hx)
theorem znm {s:Vault}(hs:VOk s) (h:zam s=true):zla s=some (logV s):=by
 unfold zla
 rw [zjo hs,if_pos h]
 rfl
theorem zdT {s:Vault}(h:zam s=true):(zbT s).length=(Vault.Words s).toNat∧(Vault.Words s).toNat≤bN (Vault.Banks s) * bM (Vault.Banks s)∧(Vault.Words s).toNat≤64:=by
 have hf:=(zau h).2.1
 have hl:=zji hf
 unfold fitV at hf
 refine ⟨hl,by rw [Nat.mul_comm];omega,by omega⟩
theorem zln (s:Vault):allB (Vault.Banks s)=zbT s++(allB (Vault.Banks s)).drop (Vault.Words s).toNat:=(List.take_append_drop _ _).symm
theorem zxF {s:Vault}(hs:VOk s) (h:zam s=true) (hl:Banks.Lost (Vault.Banks s)=0) {k:Nat}(hk:k<(Vault.Words s).toNat) {w:Int}(hw:wd w) :
  layB (bN (Vault.Banks s)) (Vault.Banks s) ((zbT s).set k w) ((zbT s).set k w).length=zbj (Vault.Banks s) (k % bN (Vault.Banks s)) (k / bN (Vault.Banks s)) w:=by
 obtain ⟨l1,l2,l3⟩:=zdT h
 have g:=zg1 hs h hl
 obtain ⟨p1,p2,p3⟩:=zd1 h hk
 have hlen:((zbT s).set k w).length=(Vault.Words s).toNat:=by rw [List.length_set,l1]
 obtain ⟨g1,g2⟩:=zh1 g (mem:=(zbT s).set k w) (zjk (zku hs) hw) (by omega) _ (wG0 _)
 refine zs4 g1 (ziT g p2 p3 hw) ?_
 rw [g2,zkM g (by omega),List.take_length,hlen]
 conv=>rhs;rw [zln s]
 rw [List.set_append_left _ _ (by omega)]
theorem zqG {s:Vault}(hs:VOk s) (a w:Int) (hw:wd w):zhN s a w=some (zmY s a w):=by
 unfold zhN zmY
 rw [zb7 hs,zwS]
 by_cases h:inV s a
 ·obtain ⟨k,rfl,hk,hk2⟩:=zpn h
  rw [ziM h]
  simp only [wC0,wH0,wA0,if_false,if_true]
  by_cases hl:0<Banks.Lost (Vault.Banks s)
  ·have hl1:¬ Banks.Lost (Vault.Banks s)=0:=by omega
   simp only [hl,hl1,decide_false,Bool.not_false,if_true]
  have hl0:Banks.Lost (Vault.Banks s)=0:=by have:=ziY h.1;omega
  obtain ⟨l1,l2,l3⟩:=zdT h.1
  have hrl:=zfx h.1
  have g:=zg1 hs h.1 hl0
  simp only [hl0,Int.lt_irrefl,decide_true,wH0,wA0,if_false,znm hs h.1,wC0,zqa _ (zqw hs h.1)]
  have hin:zaU (logV s)=true∧0≤(k:Int)∧(k:Int)<((Log.Mem (logV s)).length:Int):=⟨hrl,by omega,by show (k:Int)<((zbT s).length:Int);omega⟩
  have hset:∀ L:List Undo,zgc s (Log.mk ((Log.Mem (logV s)).set k w) (Log.Span (logV s)) L)=some (zuT s (k:Int) w L):=fun L=>by
   have:=zuy (l:=Log.mk ((zbT s).set k w) (Vault.Span s) L) g (by rw [Log.Mem_mk];exact zjk (zku hs) hw) (by rw [Log.Mem_mk,List.length_set];omega) (by rw [Log.Mem_mk,List.length_set];omega)
   rw [Log.Mem_mk,Log.Span_mk,Log.Lst_mk,zxF hs h.1 hl0 hk hw] at this
   exact this
  unfold zup
  rw [if_pos hin]
  cases hu:hasU (logV s) (k:Int)
  ·by_cases h256:(Vault.Lst s).length=256
   ·have:(Log.Lst (logV s)).length=256:=h256
    simp only [this,h256,wA0,if_false,if_true,show ¬ (6:Int)=0 by omega,decide_false,Bool.not_false]
   ·have:¬ (Log.Lst (logV s)).length=256:=h256
    simp only [this,h256,wA0,if_false,if_true,decide_true,wH0,Int.toNat_natCast,hset,wC0]
    rfl
  ·simp only [if_true,decide_true,wH0,wA0,if_false,Int.toNat_natCast,hset,wC0]
   rfl
 ·rw [zhy h]
  simp only [wC0,Bool.not_false,if_true,wA0,if_false]
end Go.Proofs.Ytlgjbfdojbmmgaa
