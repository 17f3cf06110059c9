/- Layer 14: a store goes back. -/
import Derived.Test.YtlgjbfdojbmmgaaV3
set_option linter.unusedSimpArgs false
set_option linter.unusedVariables false
namespace Go.Proofs.Ytlgjbfdojbmmgaa
open Go.SX
def toV (s:Vault) (t:Int):Prop:=zam s=true∧0≤t∧t≤Vault.Span s
theorem zop {s:Vault}{a:Int}(h:toV s a):(zam s&&(decide (0≤a)&&decide (a≤Vault.Span s)))=true:=by
 simp only [wD0,decide_eq_true_eq]
 exact h
theorem zkd {s:Vault}{a:Int}(h:¬ toV s a):(zam s&&(decide (0≤a)&&decide (a≤Vault.Span s)))=false:=by
 rw [Bool.eq_false_iff]
 intro e
 simp only [wD0,decide_eq_true_eq] at e
 exact h e
theorem zxT {s:Vault}{a:Int}:((some (zam s):Option Bool).bind fun v3 =>
  if !v3 then
   some (true)
  else
   if decide (a<(0:Int)) then
    some (true)
   else
    some ((decide ((Vault.Span s)<a))))=some (!(zam s&&(decide (0≤a)&&decide (a≤Vault.Span s)))):=by
 cases zam s
 ·rfl
 ·by_cases h:a<0
  ·have h':¬ 0≤a:=by omega
   simp only [h,h',decide_true,decide_false,wC0,wH0,wA0,if_false,if_true,Bool.true_and,Bool.false_and,Bool.not_false]
  ·have h':0≤a:=by omega
   have e:decide (Vault.Span s<a)=!decide (a≤Vault.Span s):=by
    by_cases h2:a≤Vault.Span s
    ·have:¬ Vault.Span s<a:=by omega
     simp [h2,this]
    ·have:Vault.Span s<a:=by omega
     simp [h2,this]
   simp only [h,h',e,decide_true,decide_false,wC0,wH0,wA0,if_false,if_true,Bool.true_and]
noncomputable def zfz (s:Vault) (to:Int):Banks:=((Vault.Lst s).filter (goes to)).foldr (putV (bN (Vault.Banks s))) (Vault.Banks s)
noncomputable def ztl (s:Vault) (to:Int):Vault×Int :=
 if (zam s&&(decide (0≤to)&&decide (to≤Vault.Span s)))=true then
  if 0<Banks.Lost (Vault.Banks s) then (s,8)
  else (Vault.mk (zfz s to) (Vault.Words s) to ((Vault.Lst s).filter (stays to)),0)
 else (s,1)
theorem at_V {s:Vault}(hs:VOk s) (h:zam s=true) {u:Undo}(hu:u∈Vault.Lst s):0≤Undo.At u∧(Undo.At u).toNat<(zbT s).length∧(Undo.At u).toNat<bN (Vault.Banks s) * bM (Vault.Banks s)∧wd (Undo.Val u):=by
 obtain ⟨l1,l2,l3⟩:=zdT h
 have:=zya (zfx h) (u:=u) hu
 unfold logV at this
 rw [Log.Mem_mk] at this
 exact ⟨this.1,by omega,by omega,hs.v u hu⟩
theorem zj6 {s:Vault}{to:Int}{u:Undo}(h:u∈(Vault.Lst s).filter (goes to)):u∈Vault.Lst s:=(List.mem_filter.1 h).1
theorem zkx {s:Vault}(hs:VOk s) (h:zam s=true) (hl:Banks.Lost (Vault.Banks s)=0) (to:Int):Good (bN (Vault.Banks s)) (bM (Vault.Banks s)) (zfz s to)∧allB (zfz s to)=restore (logV s) to++(allB (Vault.Banks s)).drop (Vault.Words s).toNat:=by
 obtain ⟨h1,h2⟩:=zlI (zg1 hs h hl) ((Vault.Lst s).filter (goes to)) fun u hu=>⟨(at_V hs h (zj6 hu)).2.2.1,(at_V hs h (zj6 hu)).2.2.2⟩
 refine ⟨h1,?_⟩
 unfold zfz
 rw [h2,zln s,zpG _ _ _ fun u hu=>(at_V hs h (zj6 hu)).2.1]
 rw [← zln]
 rfl
theorem zu5 {s:Vault}(hs:VOk s) (h:zam s=true) (hl:Banks.Lost (Vault.Banks s)=0) (to:Int) :
  zar (zcb to (Vault.Words s) (Vault.Span s) (Vault.Lst s) (Vault.Lst s)) (w64 ((List.length (Vault.Lst s):Int) - (1:Int)),Banks.Rows (Vault.Banks s),Banks.Par (Vault.Banks s),Banks.Lost (Vault.Banks s),(List.length (Vault.Lst s):Int)) =
   some (Banks.Rows (zfz s to),Banks.Par (zfz s to),Banks.Lost (zfz s to),(((Vault.Lst s).filter (stays to)).length:Int)) ∧
  subO (Vault.Lst s) (0:Int) (((Vault.Lst s).filter (stays to)).length:Int)=some ((Vault.Lst s).filter (stays to)):=by
 have hsp:Vault.Lst s=(Vault.Lst s).filter (stays to)++(Vault.Lst s).filter (goes to):=zuC (zfx h) to
 have hB0:zfz s to=((Vault.Lst s).filter (goes to)).foldr (putV (bN (Vault.Banks s))) (Vault.Banks s):=rfl
 have hat:∀ u∈(Vault.Lst s).filter (goes to),u∈Vault.Lst s:=fun u hu=>zj6 hu
 generalize hA:(Vault.Lst s).filter (stays to)=A at hsp ⊢
 generalize hB:(Vault.Lst s).filter (goes to)=B at hsp hB0 hat
 have hgo:∀ u∈B,to≤Undo.Span u:=fun u hu=>by
  rw [← hB] at hu
  have:=(List.mem_filter.1 hu).2
  simpa [goes] using this
 have hst:∀ u∈A,Undo.Span u<to:=fun u hu=>by
  rw [← hA] at hu
  have:=(List.mem_filter.1 hu).2
  simpa [stays] using this
 have hlen:(Vault.Lst s).length=A.length + B.length:=by
  have:=congrArg List.length hsp
  rwa [wI0] at this
 have hl2:=hs.l
 have g:=zg1 hs h hl
 obtain ⟨l1,l2,l3⟩:=zdT h
 have hsub:∀ k:Nat,k≤(Vault.Lst s).length→subO (Vault.Lst s) (0:Int) (k:Int)=some ((Vault.Lst s).take k):=fun k hk=>by
  have:=zn8 (l:=Vault.Lst s) (i:=0) (j:=k) (by omega) hk
  rw [List.drop_zero] at this
  exact this
 have lp:=zav (f:=zcb to (Vault.Words s) (Vault.Span s) (Vault.Lst s) (Vault.Lst s)) (n:=B.length) (e:=(Banks.Rows (zfz s to),Banks.Par (zfz s to),Banks.Lost (zfz s to),(A.length:Int)))
  (fun j=>(((A.length + B.length - j:Nat):Int) - 1,Banks.Rows ((B.drop (B.length - j)).foldr (putV (bN (Vault.Banks s))) (Vault.Banks s)),Banks.Par ((B.drop (B.length - j)).foldr (putV (bN (Vault.Banks s))) (Vault.Banks s)),Banks.Lost ((B.drop (B.length - j)).foldr (putV (bN (Vault.Banks s))) (Vault.Banks s)),((A.length + B.length - j:Nat):Int))) (fun j hj=>by
  have hib:B.length - j - 1<B.length:=by omega
  have hil:A.length + B.length - j - 1<(Vault.Lst s).length:=by omega
  have hix:((A.length + B.length - j:Nat):Int) - 1=((A.length + B.length - j - 1:Nat):Int):=by omega
  have hx:(Vault.Lst s)[A.length + B.length - j - 1]=B[B.length - j - 1]:=by
   have e:(Vault.Lst s)[A.length + B.length - j - 1]?=(A++B)[A.length + B.length - j - 1]?:=by rw [← hsp]
   rw [List.getElem?_append_right (by omega),show A.length + B.length - j - 1 - A.length=B.length - j - 1 by omega,wF0 hil,wF0 hib] at e
   exact Option.some.inj e
  have hgb:=hgo _ (List.getElem_mem hib)
  obtain ⟨a1,a2,a3,a4⟩:=at_V hs h (hat _ (List.getElem_mem hib))
  have hdrop:B.drop (B.length - (j + 1))=B[B.length - j - 1]::B.drop (B.length - j):=by
   rw [show B.length - (j + 1)=B.length - j - 1 by omega,List.drop_eq_getElem_cons hib,show B.length - j - 1 + 1=B.length - j by omega]
  obtain ⟨gj,_⟩:=zlI g (B.drop (B.length - j)) fun u hu=>⟨(at_V hs h (hat _ (List.mem_of_mem_drop hu))).2.2.1,(at_V hs h (hat _ (List.mem_of_mem_drop hu))).2.2.2⟩
  rw [hdrop,List.foldr_cons]
  generalize (B.drop (B.length - j)).foldr (putV (bN (Vault.Banks s))) (Vault.Banks s)=bj at gj
  generalize B[B.length - j - 1]=u at *
  obtain ⟨p,hp⟩:∃ p:Nat,Undo.At u=(p:Int):=⟨(Undo.At u).toNat,by omega⟩
  rw [hp,Int.toNat_natCast] at a2 a3
  have hn:0<bN (Vault.Banks s):=Nat.pos_of_ne_zero fun e=>by rw [e] at a3;omega
  have hbn:bN bj=bN (Vault.Banks s):=gj.rl
  have hpl:∀ L,zbm (Vault.mk bj (Vault.Words s) (Vault.Span s) L) (p:Int)=some (((p % bN (Vault.Banks s):Nat):Int),((p / bN (Vault.Banks s):Nat):Int)):=fun L=>by
   have:=zj7 (Vault.mk bj (Vault.Words s) (Vault.Span s) L) p (by rw [Vault.Banks_mk,hbn];exact hn) (by omega)
   rwa [Vault.Banks_mk,hbn] at this
  have hwr:=zk7 gj (Nat.mod_lt p hn) (show p / bN (Vault.Banks s)<bM (Vault.Banks s) by rw [Nat.div_lt_iff_lt_mul hn,Nat.mul_comm];exact a3) (Undo.Val u)
  have hsb:=hsub (A.length + B.length - j) (by omega)
  have hw1:w64 ((((A.length + B.length - j:Nat):Int) - 0) - 1)=((A.length + B.length - j - 1:Nat):Int):=by rw [zdO (by omega) (by omega)];omega
  have hrv:zu4 (List.length (Vault.Lst s):Int) 0 0 ((A.length + B.length - j - 1:Nat):Int)=some ((A.length + B.length - j - 1:Nat):Int):=by
   unfold zu4
   rw [if_pos (by omega),Int.zero_add]
  have hw2:w64 (((A.length + B.length - j - 1:Nat):Int) - 1)=((A.length + B.length - (j + 1):Nat):Int) - 1:=by rw [zdO (by omega) (by omega)];omega
  unfold zcb
  simp only [hix,show ¬ ((A.length + B.length - j - 1:Nat):Int)<0 by omega,decide_false,wA0,if_false,zab hil,hx,wC0,show ¬ Undo.Span u<to by omega,hsb,Banks.eta,hp,hpl,hwr,hw1,hrv,hw2]
  unfold putV
  rw [hp,Int.toNat_natCast,show A.length + B.length - (j + 1)=A.length + B.length - j - 1 by omega]) (by
  have hd0:B.drop (B.length - B.length)=B:=by rw [Nat.sub_self,List.drop_zero]
  rw [show A.length + B.length - B.length=A.length by omega,hd0,← hB0]
  unfold zcb
  rcases Nat.eq_zero_or_pos A.length with ha0|ha0
  ·simp [ha0]
  ·have hil:A.length - 1<(Vault.Lst s).length:=by omega
   have hix:(A.length:Int) - 1=((A.length - 1:Nat):Int):=by omega
   have hx:(Vault.Lst s)[A.length - 1]=A[A.length - 1]:=by
    have e:(Vault.Lst s)[A.length - 1]?=(A++B)[A.length - 1]?:=by rw [← hsp]
    rw [List.getElem?_append_left (by omega),wF0 hil,wF0 (show A.length - 1<A.length by omega)] at e
    exact Option.some.inj e
   have hsa:=hst _ (List.getElem_mem (show A.length - 1<A.length by omega))
   simp only [hix,show ¬ ((A.length - 1:Nat):Int)<0 by omega,decide_false,wA0,if_false,zab hil,hx,wC0,hsa,decide_true,if_true])
 have h00:B.drop (B.length - 0)=[]:=by rw [Nat.sub_zero,List.drop_length]
 rw [h00,Nat.sub_zero,← hlen] at lp
 simp only [List.foldr_nil] at lp
 refine ⟨?_,?_⟩
 ·rw [zdO (by omega) (by omega)]
  exact lp
 ·rw [hsub A.length (by omega)]
  have:(A++B).take A.length=A:=List.take_left' rfl
  rw [← hsp] at this
  rw [this]
theorem zn4 {s:Vault}(hs:VOk s) (to:Int):zgh s to=some (ztl s to):=by
 unfold zgh ztl
 have hc:=zgf hs
 rw [show zbJ=zae from rfl,hc,zpm hs]
 by_cases h:toV s to
 ·rw [zop h]
  simp only [wC0,wH0,wA0,if_false,if_true,Banks.eta,Vault.eta]
  by_cases hl:0<Banks.Lost (Vault.Banks s)
  ·simp only [hl,decide_true,if_true]
  have hl0:Banks.Lost (Vault.Banks s)=0:=by have:=ziY h.1;omega
  obtain ⟨b1,b2⟩:=zu5 hs h.1 hl0 to
  simp only [hl,decide_false,wA0,if_false,b1,b2,wC0,Banks.eta]
 ·rw [zkd h]
  simp only [wC0,Bool.not_false,if_true,Banks.eta,Vault.eta,wA0,if_false]
theorem zto {l:Log}{to:Int}(h:∀ x∈Log.Mem l,wd x) (hv:∀ u∈Log.Lst l,wd (Undo.Val u)):∀ x∈restore l to,wd x:=by
 unfold restore
 have:∀ B:List Undo,(∀ u∈B,wd (Undo.Val u))→∀ x∈B.foldr putB (Log.Mem l),wd x:=by
  intro B
  induction B with
  | nil=>intro _;exact h
  | cons u B ih=>intro hu;exact zjk (ih fun v hv=>hu v (List.mem_cons_of_mem _ hv)) (hu u List.mem_cons_self)
 exact this _ fun u hu=>hv u (List.mem_filter.1 hu).1
theorem zr2 {s:Vault}(hs:VOk s) (to:Int):zkb s to=some (ztl s to):=by
 unfold zkb ztl
 rw [zb7 hs,zxT]
 by_cases h:toV s to
 ·rw [zop h]
  simp only [wC0,wH0,wA0,if_false,if_true]
  by_cases hl:0<Banks.Lost (Vault.Banks s)
  ·have hl1:¬ Banks.Lost (Vault.Banks s)=0:=by omega
   simp only [hl,hl1,decide_false,Bool.not_false,if_true]
  have hl0:Banks.Lost (Vault.Banks s)=0:=by have:=ziY h.1;omega
  obtain ⟨l1,l2,l3⟩:=zdT h.1
  have hrl:=zfx h.1
  have g:=zg1 hs h.1 hl0
  simp only [hl0,Int.lt_irrefl,decide_true,wH0,wA0,if_false,znm hs h.1,wC0,zrk _ (zqw hs h.1)]
  unfold zxh
  rw [if_pos ⟨hrl,h.2⟩]
  have hrl2:(restore (logV s) to).length=(Vault.Words s).toNat:=(zfK _ _).trans l1
  have hrw:∀ x∈restore (logV s) to,wd x:=zto (zku hs) hs.v
  rw [zuy (l:=Log.mk (restore (logV s) to) to ((Log.Lst (logV s)).filter (stays to))) g (by rw [Log.Mem_mk];exact hrw) (by rw [Log.Mem_mk];omega) (by rw [Log.Mem_mk];omega)]
  simp only [Log.Mem_mk,Log.Span_mk,Log.Lst_mk,wC0]
  obtain ⟨g1,g2⟩:=zh1 g (mem:=restore (logV s) to) hrw (by omega) _ (wG0 _)
  obtain ⟨g3,g4⟩:=zkx hs h.1 hl0 to
  have he:=zs4 g1 g3 (by rw [g2,g4,List.take_length,hrl2])
  rw [he]
  rfl
 ·rw [zkd h]
  simp only [wC0,Bool.not_false,if_true,wA0,if_false]
end Go.Proofs.Ytlgjbfdojbmmgaa
