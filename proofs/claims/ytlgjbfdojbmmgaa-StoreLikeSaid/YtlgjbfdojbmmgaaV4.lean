/- Layer 14: a store goes back. -/
import Derived.Test.YtlgjbfdojbmmgaaV3
set_option linter.unusedSimpArgs false
set_option linter.unusedVariables false
namespace Go.Proofs.Ytlgjbfdojbmmgaa
open Go.SX
def toV (s:Vault) (t:Int):Prop:=zaz s=true∧0≤t∧t≤Vault.Span s
theorem ziX {s:Vault}{a:Int}(h:toV s a):(zaz s&&(decide (0≤a)&&decide (a≤Vault.Span s)))=true:=by
 simp only [wD0,decide_eq_true_eq]
 exact h
theorem zgz {s:Vault}{a:Int}(h:¬ toV s a):(zaz s&&(decide (0≤a)&&decide (a≤Vault.Span s)))=false:=by
 rw [Bool.eq_false_iff]
 intro e
 simp only [wD0,decide_eq_true_eq] at e
 exact h e
noncomputable def zdV (s:Vault) (to:Int):Banks:=((Vault.Lst s).filter (goes to)).foldr (putV (bN (Vault.Banks s))) (Vault.Banks s)
noncomputable def zq4 (s:Vault) (to:Int):Vault×Int :=
 if (zaz s&&(decide (0≤to)&&decide (to≤Vault.Span s)))=true then
  if 0<Banks.Lost (Vault.Banks s) then (s,8)
  else (Vault.mk (zdV s to) (Vault.Words s) to ((Vault.Lst s).filter (stays to)),0)
 else (s,1)
theorem at_V {s:Vault}(hs:VOk s) (h:zaz s=true) {u:Undo}(hu:u∈Vault.Lst s):0≤Undo.At u∧(Undo.At u).toNat<(zb2 s).length∧(Undo.At u).toNat<bN (Vault.Banks s) * bM (Vault.Banks s)∧wd (Undo.Val u):=by
 obtain ⟨l1,l2,l3⟩:=zdt h
 have:=zu7 (zcC h) (u:=u) hu
 unfold logV at this
 rw [Log.Mem_mk] at this
 exact ⟨this.1,by omega,by omega,hs.v u hu⟩
theorem ziD {s:Vault}{to:Int}{u:Undo}(h:u∈(Vault.Lst s).filter (goes to)):u∈Vault.Lst s:=(List.mem_filter.1 h).1
theorem zi7 {s:Vault}(hs:VOk s) (h:zaz s=true) (hl:Banks.Lost (Vault.Banks s)=0) (to:Int):Good (bN (Vault.Banks s)) (bM (Vault.Banks s)) (zdV s to)∧allB (zdV s to)=restore (logV s) to++(allB (Vault.Banks s)).drop (Vault.Words s).toNat:=by
 obtain ⟨h1,h2⟩:=zjr (zjD hs h hl) ((Vault.Lst s).filter (goes to)) fun u hu=>⟨(at_V hs h (ziD hu)).2.2.1,(at_V hs h (ziD hu)).2.2.2⟩
 refine ⟨h1,?_⟩
 unfold zdV
 rw [h2,zni s,znt _ _ _ fun u hu=>(at_V hs h (ziD hu)).2.1]
 rw [← zni]
 rfl
theorem zsX {s:Vault}(hs:VOk s) (h:zaz s=true) (hl:Banks.Lost (Vault.Banks s)=0) (to:Int) :
  zaA (zb0 to (Vault.Words s) (Vault.Span s) (Vault.Lst s) (Vault.Lst s)) (w64 ((List.length (Vault.Lst s):Int) - (1:Int)),Banks.Rows (Vault.Banks s),Banks.Par (Vault.Banks s),Banks.Lost (Vault.Banks s),(List.length (Vault.Lst s):Int)) =
   some (Banks.Rows (zdV s to),Banks.Par (zdV s to),Banks.Lost (zdV s to),(((Vault.Lst s).filter (stays to)).length:Int)) ∧
  subO (Vault.Lst s) (0:Int) (((Vault.Lst s).filter (stays to)).length:Int)=some ((Vault.Lst s).filter (stays to)):=by
 have hsp:Vault.Lst s=(Vault.Lst s).filter (stays to)++(Vault.Lst s).filter (goes to):=znT (zcC h) to
 have hB0:zdV s to=((Vault.Lst s).filter (goes to)).foldr (putV (bN (Vault.Banks s))) (Vault.Banks s):=rfl
 have hat:∀ u∈(Vault.Lst s).filter (goes to),u∈Vault.Lst s:=fun u hu=>ziD hu
 generalize hA:(Vault.Lst s).filter (stays to)=A at hsp ⊢
 generalize hB:(Vault.Lst s).filter (goes to)=B at hsp hB0 hat
 have hgo:∀ u∈B,to≤Undo.Span u:=fun u hu=>by
  rw [← hB] at hu
  have:=(List.mem_filter.1 hu).2
  simpa [goes] using this
 have hst:∀ u∈A,Undo.Span u<to:=fun u hu=>by
  rw [← hA] at hu
  have:=(List.mem_filter.1 hu).2
  simpa [stays] using this
 have hlen:(Vault.Lst s).length=A.length + B.length:=by
  have:=congrArg List.length hsp
  rwa [wI0] at this
 have hl2:=hs.l
 have g:=zjD hs h hl
 obtain ⟨l1,l2,l3⟩:=zdt h
 have hsub:∀ k:Nat,k≤(Vault.Lst s).length→subO (Vault.Lst s) (0:Int) (k:Int)=some ((Vault.Lst s).take k):=fun k hk=>by
  have:=zgh (l:=Vault.Lst s) (i:=0) (j:=k) (by omega) hk
  rw [List.drop_zero] at this
  exact this
 have lp:=za5 (f:=zb0 to (Vault.Words s) (Vault.Span s) (Vault.Lst s) (Vault.Lst s)) (n:=B.length) (e:=(Banks.Rows (zdV s to),Banks.Par (zdV s to),Banks.Lost (zdV s to),(A.length:Int)))
  (fun j=>(((A.length + B.length - j:Nat):Int) - 1,Banks.Rows ((B.drop (B.length - j)).foldr (putV (bN (Vault.Banks s))) (Vault.Banks s)),Banks.Par ((B.drop (B.length - j)).foldr (putV (bN (Vault.Banks s))) (Vault.Banks s)),Banks.Lost ((B.drop (B.length - j)).foldr (putV (bN (Vault.Banks s))) (Vault.Banks s)),((A.length + B.length - j:Nat):Int))) (fun j hj=>by
  have hib:B.length - j - 1<B.length:=by omega
  have hil:A.length + B.length - j - 1<(Vault.Lst s).length:=by omega
  have hix:((A.length + B.length - j:Nat):Int) - 1=((A.length + B.length - j - 1:Nat):Int):=by omega
  have hx:(Vault.Lst s)[A.length + B.length - j - 1]=B[B.length - j - 1]:=by
   have e:(Vault.Lst s)[A.length + B.length - j - 1]?=(A++B)[A.length + B.length - j - 1]?:=by rw [← hsp]
   rw [List.getElem?_append_right (by omega),show A.length + B.length - j - 1 - A.length=B.length - j - 1 by omega,wF0 hil,wF0 hib] at e
   exact Option.some.inj e
  have hgb:=hgo _ (List.getElem_mem hib)
  obtain ⟨a1,a2,a3,a4⟩:=at_V hs h (hat _ (List.getElem_mem hib))
  have hdrop:B.drop (B.length - (j + 1))=B[B.length - j - 1]::B.drop (B.length - j):=by
   rw [show B.length - (j + 1)=B.length - j - 1 by omega,List.drop_eq_getElem_cons hib,show B.length - j - 1 + 1=B.length - j by omega]
  obtain ⟨gj,_⟩:=zjr g (B.drop (B.length - j)) fun u hu=>⟨(at_V hs h (hat _ (List.mem_of_mem_drop hu))).2.2.1,(at_V hs h (hat _ (List.mem_of_mem_drop hu))).2.2.2⟩
  rw [hdrop,List.foldr_cons]
  generalize (B.drop (B.length - j)).foldr (putV (bN (Vault.Banks s))) (Vault.Banks s)=bj at gj
  generalize B[B.length - j - 1]=u at *
  obtain ⟨p,hp⟩:∃ p:Nat,Undo.At u=(p:Int):=⟨(Undo.At u).toNat,by omega⟩
  rw [hp,Int.toNat_natCast] at a2 a3
  have hn:0<bN (Vault.Banks s):=Nat.pos_of_ne_zero fun e=>by rw [e] at a3;omega
  have hbn:bN bj=bN (Vault.Banks s):=gj.rl
  have hpl:∀ L,za6 (Vault.mk bj (Vault.Words s) (Vault.Span s) L) (p:Int)=some (((p % bN (Vault.Banks s):Nat):Int),((p / bN (Vault.Banks s):Nat):Int)):=fun L=>by
   have:=ziS (Vault.mk bj (Vault.Words s) (Vault.Span s) L) p (by rw [Vault.Banks_mk,hbn];exact hn) (by omega)
   rwa [Vault.Banks_mk,hbn] at this
  have hwr:=zjc gj (Nat.mod_lt p hn) (show p / bN (Vault.Banks s)<bM (Vault.Banks s) by rw [Nat.div_lt_iff_lt_mul hn,Nat.mul_comm];exact a3) (Undo.Val u)
  have hsb:=hsub (A.length + B.length - j) (by omega)
  have hw1:w64 ((((A.length + B.length - j:Nat):Int) - 0) - 1)=((A.length + B.length - j - 1:Nat):Int):=by rw [zdE (by omega) (by omega)];omega
  have hrv:zmO (List.length (Vault.Lst s):Int) 0 0 ((A.length + B.length - j - 1:Nat):Int)=some ((A.length + B.length - j - 1:Nat):Int):=by
   unfold zmO
   rw [if_pos (by omega),Int.zero_add]
  have hw2:w64 (((A.length + B.length - j - 1:Nat):Int) - 1)=((A.length + B.length - (j + 1):Nat):Int) - 1:=by rw [zdE (by omega) (by omega)];omega
  unfold zb0
  simp only [hix,show ¬ ((A.length + B.length - j - 1:Nat):Int)<0 by omega,decide_false,wA0,if_false,zat hil,hx,wC0,show ¬ Undo.Span u<to by omega,hsb,Banks.eta,hp,hpl,hwr,hw1,hrv,hw2]
  unfold putV
  rw [hp,Int.toNat_natCast,show A.length + B.length - (j + 1)=A.length + B.length - j - 1 by omega]) (by
  have hd0:B.drop (B.length - B.length)=B:=by rw [Nat.sub_self,List.drop_zero]
  rw [show A.length + B.length - B.length=A.length by omega,hd0,← hB0]
  unfold zb0
  rcases Nat.eq_zero_or_pos A.length with ha0|ha0
  ·simp [ha0]
  ·have hil:A.length - 1<(Vault.Lst s).length:=by omega
   have hix:(A.length:Int) - 1=((A.length - 1:Nat):Int):=by omega
   have hx:(Vault.Lst s)[A.length - 1]=A[A.length - 1]:=by
    have e:(Vault.Lst s)[A.length - 1]?=(A++B)[A.length - 1]?:=by rw [← hsp]
    rw [List.getElem?_append_left (by omega),wF0 hil,wF0 (show A.length - 1<A.length by omega)] at e
    exact Option.some.inj e
   have hsa:=hst _ (List.getElem_mem (show A.length - 1<A.length by omega))
   simp only [hix,show ¬ ((A.length - 1:Nat):Int)<0 by omega,decide_false,wA0,if_false,zat hil,hx,wC0,hsa,decide_true,if_true])
 have h00:B.drop (B.length - 0)=[]:=by rw [Nat.sub_zero,List.drop_length]
 rw [h00,Nat.sub_zero,← hlen] at lp
 simp only [List.foldr_nil] at lp
 refine ⟨?_,?_⟩
 ·rw [zdE (by omega) (by omega)]
  exact lp
 ·rw [hsub A.length (by omega)]
  have:(A++B).take A.length=A:=List.take_left' rfl
  rw [← hsp] at this
  rw [this]
theorem zl6 {s:Vault}(hs:VOk s) (to:Int):zdZ s to=some (zq4 s to):=by
 unfold zdZ zq4
 have hc:=ziR hs
 rw [show zcZ=zao from rfl,hc,zn5 hs]
 by_cases h:toV s to
 ·rw [ziX h]
  simp only [wC0,wH0,wA0,if_false,if_true,Banks.eta,Vault.eta]
  by_cases hl:0<Banks.Lost (Vault.Banks s)
  ·simp only [hl,decide_true,if_true]
  have hl0:Banks.Lost (Vault.Banks s)=0:=by have:=zlS h.1;omega
  obtain ⟨b1,b2⟩:=zsX hs h.1 hl0 to
  simp only [hl,decide_false,wA0,if_false,b1,b2,wC0,Banks.eta]
 ·rw [zgz h]
  simp only [wC0,Bool.not_false,if_true,Banks.eta,Vault.eta,wA0,if_false]
end Go.Proofs.Ytlgjbfdojbmmgaa
