/- Layer 14: the law StoreSurvives on typed data. No condition. -/
import Derived.Test.YtlgjbfdojbmmgaaV7
import Derived.Test.YtlgjbfdojbmmgaaU5
set_option linter.unusedSimpArgs false
set_option linter.unusedVariables false
namespace Go.Proofs.Ytlgjbfdojbmmgaa
open Go.SX
noncomputable def ztq (x7:Int) (v21:l14_Do) (v23:Int) (s1:Int) (s3:Vault) (s4:List (List Int)):Option ((Int×Int×(List (List Int))×Vault)⊕(Int×Int×Vault×(List (List Int)))⊕Unit⊕Bool) :=
  let v24:Bool:=decide (v23=(0:Int))
   if bif v24 then v24 else decide (v23=(1:Int)) then
    (remO (w64 (l14_Do.At v21)) x7).bind fun v28 =>
    (zbX s3 v28 (l14_Do.Val v21)).bind fun v30 =>
    some (Sum.inl (s1,v30.2,s4,v30.1))
   else
    zbc (
     if decide (v23=(2:Int)) then
      (zer s3).bind fun v27 =>
      (rngO (List.length s4:Int) (0:Int) (w64 ((Vault.Span s3) + (1:Int)))).bind fun v33 =>
      (eqiO (w64 ((Vault.Span s3) + (1:Int))) v33).bind fun v34 =>
      (zaG v27.1).bind fun v35 =>
      (subO s4 (0:Int) v34).bind fun v37 =>
      (appO 24 v37 ([v35]:List (List Int))).bind fun v38 =>
      some (Sum.inl (s1,v27.2,v38,v27.1))
     else
      zbc (
       if decide (v23=(3:Int)) then
        (remO (w64 (l14_Do.To v21)) (w64 ((w64 ((Vault.Span s3) - s1)) + (1:Int)))).bind fun v33 =>
        let v34:Int:=w64 (s1 + v33)
        (zcm s3 v34).bind fun v35 =>
        (
         (zaG v35.1).bind fun v37 =>
         (idxO (List.length s4:Int) v34).bind fun v38 =>
         (getO s4 v38).bind fun v39 =>
         (zcE v37 v39).bind fun v40 =>
         if !v40 then
          some (true)
         else
          some ((!decide ((Vault.Span v35.1)=v34))):Option Bool).bind fun v37 =>
        if v37 then
         some (Sum.inr (Sum.inr (Sum.inr (Sum.inr (Sum.inr (false))))))
        else
         some (Sum.inl (s1,v35.2,v35.1))
       else
        zbc (
         if decide (v23=(4:Int)) then
          (remO (w64 (l14_Do.To v21)) (w64 ((w64 ((Vault.Span s3) - s1)) + (1:Int)))).bind fun v34 =>
          let v35:Int:=w64 (s1 + v34)
          (zep s3 v35).bind fun v36 =>
          (zaG v36.1).bind fun v38 =>
          (zaG s3).bind fun v39 =>
          (zcE v38 v39).bind fun v40 =>
          if !v40 then
           some (Sum.inr (Sum.inr (Sum.inr (Sum.inr (Sum.inr (Sum.inr (false)))))))
          else
           some (Sum.inl (v35,v36.2,v36.1))
         else
          (remO (w64 (l14_Do.At v21)) (List.length (Banks.Rows (Vault.Banks s3)):Int)).bind fun v34 =>
          (zen s3 v34).bind fun v35 =>
          (zbX v35.1 (0:Int) (1:Int)).bind fun v37 =>
          (zcm v35.1 s1).bind fun v39 =>
          (zb3 v35.1).bind fun v41 =>
          (
           if !decide (v35.2=(0:Int)) then
            some (true)
           else
            if !decide (v37.2=(8:Int)) then
             some (true)
            else
             if !decide (v39.2=(8:Int)) then
              some (true)
             else
              (zht v41.1 s3).bind fun v46 =>
              some ((!v46)):Option Bool).bind fun v43 =>
          if v43 then
           some (Sum.inr (Sum.inr (Sum.inr (Sum.inr (Sum.inr (Sum.inr (false)))))))
          else
           some (Sum.inl (s1,v41.2,v41.1)):Option ((Int×Int×Vault)⊕(Int×Int×Vault)⊕(Int×Int×(List (List Int))×Vault)⊕(Int×Int×(List (List Int))×Vault)⊕(Int×Int×Vault×(List (List Int)))⊕Unit⊕Bool)) fun v29 =>
        some (Sum.inl (v29.1,v29.2.1,v29.2.2)):Option ((Int×Int×Vault)⊕(Int×Int×(List (List Int))×Vault)⊕(Int×Int×(List (List Int))×Vault)⊕(Int×Int×Vault×(List (List Int)))⊕Unit⊕Bool)) fun v28 =>
      some (Sum.inl (v28.1,v28.2.1,s4,v28.2.2)):Option ((Int×Int×(List (List Int))×Vault)⊕(Int×Int×(List (List Int))×Vault)⊕(Int×Int×Vault×(List (List Int)))⊕Unit⊕Bool)) fun v27 =>
    some (Sum.inl (v27.1,v27.2.1,v27.2.2.1,v27.2.2.2))
noncomputable def zmH (s2:Int) (v26:Int×Int×(List (List Int))×Vault):Option ((Int×Int×Vault×(List (List Int)))⊕Unit⊕Bool) :=
  (
   if !decide (v26.2.1=(0:Int)) then
    some (true)
   else
    (zaT v26.2.2.2).bind fun v31 =>
    some ((!v31)):Option Bool).bind fun v30 =>
  if v30 then
   some (Sum.inr (Sum.inr (false)))
  else
   some (Sum.inl (v26.1,w64 (s2 + (1:Int)),v26.2.2.2,v26.2.2.1))
theorem ztV (x2:List l14_Do) (x7:Int) (s:Int×Int×Vault×(List (List Int))):zbG x2 x7 s =
 if (decide (s.2.1<(List.length x2:Int)))&&(decide (s.2.1<(60:Int))) then
  (getO x2 s.2.1).bind fun v21 =>
  (remO (l14_Do.Kind v21) (6:Int)).bind fun v23=>zbc (ztq x7 v21 v23 s.1 s.2.2.1 s.2.2.2) (zmH s.2.1)
 else some (Sum.inr (Sum.inl ())):=rfl
def zvy (d:l14_Do):Prop:=(0≤l14_Do.Kind d∧l14_Do.Kind d<256)∧(0≤l14_Do.At d∧l14_Do.At d<256)∧(0≤l14_Do.To d∧l14_Do.To d<256)∧wd (l14_Do.Val d)
theorem zsm {n m:Nat}{W:Int}{t:Vault}(I:SI n m W t) {i:Nat}(hi:i<100) (f:Int) (was:List (List Int)):zmH (i:Int) (f,0,was,t)=some (Sum.inl (f,((i + 1:Nat):Int),t,was)):=by
 unfold zmH
 simp only [decide_true,wH0,wA0,if_false,zaZ I.ok,I.right,wC0,zaD (show i<4611686018427387904 by omega)]
theorem zqG {n m:Nat}{W:Int}{r:Vault×Int}{q:Log×Int}(S:Sim n m W r q) {L:Log}(e:q=(L,0)):r=(r.1,0)∧logV r.1=L∧SI n m W r.1:=by
 obtain ⟨I,hl,he⟩:=S
 rw [e] at hl he
 exact ⟨Prod.ext rfl he,hl,I⟩
theorem zto {n m:Nat}{W:Int}{s:Vault}(I:SI n m W s) {k:Nat}(hk:k<n) {to:Int}(ht:0≤to∧to≤Vault.Span s) :
  ∃ l,zpD s (k:Int)=(l,0)∧VOk l∧zg8 l 0 1=(l,8)∧zkY l to=(l,8)∧zi8 l=(s,0):=by
 have g:=I.good
 have hok:=ztM I.ok (k:Int)
 have hf:=(zaj I.right).2.1
 have hl:zpD s (k:Int)=(Vault.mk (zc0 (Vault.Banks s) k) (Vault.Words s) (Vault.Span s) (Vault.Lst s),0):=by
  have:=zu0 g hk
  rw [zdU I.ok.b] at this
  unfold zpD
  rw [if_pos I.right,Option.some.inj this]
 rw [hl] at hok
 have hbn:bN (zc0 (Vault.Banks s) k)=bN (Vault.Banks s):=List.length_set
 have hft:fitV (Vault.mk (zc0 (Vault.Banks s) k) (Vault.Words s) (Vault.Span s) (Vault.Lst s)):=by
  unfold fitV at hf ⊢
  rw [Vault.Banks_mk,Vault.Words_mk,hbn]
  exact hf
 have hr:zaw (Vault.mk (zc0 (Vault.Banks s) k) (Vault.Words s) (Vault.Span s) (Vault.Lst s))=true:=by
  unfold zaw
  rw [Vault.Banks_mk,zlb g hk,decide_eq_true hft,Bool.true_and,Bool.true_and]
  exact (zaj I.right).2.2
 have hp:0<Banks.Lost (zc0 (Vault.Banks s) k):=by show 0<(k:Int) + 1;omega
 refine ⟨_,hl,hok,?_,?_,?_⟩
 ·unfold zg8
  unfold fitV at hf
  rw [zhS ⟨hr,by omega,by rw [Vault.Words_mk];omega⟩,if_pos rfl,Vault.Banks_mk,if_pos hp]
 ·unfold zkY
  rw [zhX ⟨hr,ht⟩,if_pos rfl,Vault.Banks_mk,if_pos hp]
 ·have:=znM g hk
  have hb:BOk (zc0 (Vault.Banks s) k):=hok.b
  rw [zcj hb] at this
  unfold zi8
  rw [if_pos hr,Vault.Banks_mk,Option.some.inj this]
  exact congrArg (fun v=>(v,(0:Int))) (Vault.eta s)
theorem zu5 {i n m first q:Nat}{s:Vault}{was:List (List Int)}(I:SI n m ((q + 1:Nat):Int) s) (B:zgR i (q + 1) first (logV s) was) (hi:i<60) (hq:q<64) {d:l14_Do}(hd:zvy d) (v:Int) :
  ∃ (f2:Nat) (t:Vault) (was2:List (List Int)),ztq ((q + 1:Nat):Int) d v (first:Int) s was=some (Sum.inl ((f2:Int),0,was2,t))∧SI n m ((q + 1:Nat):Int) t∧zgR (i + 1) (q + 1) f2 (logV t) was2:=by
 obtain ⟨_,⟨a1,a2⟩,⟨t1,t2⟩,hval⟩:=hd
 have hwa:w64 (l14_Do.At d)=l14_Do.At d:=zcM (by omega) (by omega)
 have hwt:w64 (l14_Do.To d)=l14_Do.To d:=zcM (by omega) (by omega)
 have hspn:Log.Span (logV s)=Vault.Span s:=rfl
 have hsp:=B.span
 have hfi:=B.low
 have hwl:=B.wasl
 have hwk:=B.wask
 have hlen:=B.len
 rw [hspn] at hsp hfi hwl
 unfold ztq
 dsimp only
 by_cases hv01:v=0∨v=1
 ·obtain ⟨y1,y2,y3⟩:=zgi (a:=l14_Do.At d) (n:=((q + 1:Nat):Int)) a1 (by omega)
  obtain ⟨m',e1,e2,e3,e4⟩:=zpA B (by omega) (l14_Do.At d % ((q + 1:Nat):Int)) (l14_Do.Val d) y2 y3
  have hc:(bif decide (v=0) then decide (v=0) else decide (v=1))=true:=by rcases hv01 with h|h<;>simp [h]
  obtain ⟨f1,f2,f3⟩:=zqG (zsk I (l14_Do.At d % ((q + 1:Nat):Int)) hval) e1
  refine ⟨first,_,was,?_,f3,by rw [f2];exact e2⟩
  simp only [hc,if_true,hwa,y1,wC0,zf5 I.ok]
  rw [f1]
 ·have hc:(bif decide (v=0) then decide (v=0) else decide (v=1))=false:=by
   have h1:¬ v=0:=fun e=>hv01 (.inl e)
   have h2:¬ v=1:=fun e=>hv01 (.inr e)
   simp [h1,h2]
  by_cases hv2:v=2
  ·obtain ⟨e1,e2⟩:=zrO B (by omega)
   obtain ⟨f1,f2,f3⟩:=zqG (ztW I) e1
   have hw1:w64 (Vault.Span s + 1)=Vault.Span s + 1:=zcM (by omega) (by omega)
   have hrng:rngO (was.length:Int) 0 (Vault.Span s + 1)=some (Vault.Span s + 1):=by unfold rngO;rw [if_pos (by omega)]
   have heq:eqiO (Vault.Span s + 1) (Vault.Span s + 1)=some (Vault.Span s + 1):=by unfold eqiO;rw [if_pos rfl]
   have hmem:zbb (znF s).1=zbb s:=congrArg Log.Mem f2
   have hsub:subO was 0 (Vault.Span s + 1)=some (was.take (Vault.Span s + 1).toNat):=by
    rw [zsW (by omega) (by omega) (by omega)]
    simp
   have hap2:appO 24 (was.take (Vault.Span s + 1).toNat) ([zbb s]:List (List Int))=some (was.take (Vault.Span s + 1).toNat++[zbb s]):=zdf (by rw [wE0];simp;omega) (by omega)
   refine ⟨first,(znF s).1,_,?_,f3,by rw [f2];exact e2⟩
   rw [hc]
   simp only [wA0,if_false,hv2,decide_true,if_true,zmr I.ok,wC0,hw1,hrng,heq,f3.words_eq,hmem,hsub,hap2,zbn]
   rw [f1]
   rfl
  ·have hspf:w64 (w64 (Vault.Span s - (first:Int)) + 1)=Vault.Span s - (first:Int) + 1:=by
    rw [zcM (n:=Vault.Span s - (first:Int)) (by omega) (by omega),zcM (by omega) (by omega)]
   obtain ⟨z1,z2,z3⟩:=zgi (a:=l14_Do.To d) (n:=Vault.Span s - (first:Int) + 1) t1 (by omega)
   obtain ⟨to,hto⟩:∃ to:Nat,l14_Do.To d % (Vault.Span s - (first:Int) + 1)=(to:Int):=⟨(l14_Do.To d % (Vault.Span s - (first:Int) + 1)).toNat,by omega⟩
   rw [hto] at z1 z2 z3
   have hw31:w64 ((first:Int) + (to:Int))=((first + to:Nat):Int):=by rw [zcM (by omega) (by omega)];omega
   by_cases hv3:v=3
   ·obtain ⟨e1,e2⟩:=zre B (by omega) (first + to) (by omega) (by rw [hspn];omega)
    obtain ⟨f1,f2,f3⟩:=zqG (zt1 I ((first + to:Nat):Int)) e1
    have hwas:first + to<was.length:=by omega
    have hix:idxO (was.length:Int) ((first + to:Nat):Int)=some ((first + to:Nat):Int):=zdV hwas
    have hgw:getO was ((first + to:Nat):Int)=some (restore (logV s) ((first + to:Nat):Int)):=by rw [zqn,B.key (first + to) (by omega) (by rw [hspn];omega)]
    have hmem:zbb (zkY s ((first + to:Nat):Int)).1=restore (logV s) ((first + to:Nat):Int):=congrArg Log.Mem f2
    have hsp2:Vault.Span (zkY s ((first + to:Nat):Int)).1=((first + to:Nat):Int):=congrArg Log.Span f2
    have hws:=f3.refl
    rw [hmem] at hws
    refine ⟨first,_,was,?_,f3,by rw [f2];exact e2⟩
    rw [hc]
    simp only [wA0,if_false,hv3,show ¬ (3:Int)=2 by omega,decide_false,decide_true,if_true,hwt,hspf,z1,hw31,zgP I.ok,wC0,f3.words_eq,hmem,hix,hgw,hws,hsp2,wH0,zbn]
    rw [f1]
   ·by_cases hv4:v=4
    ·obtain ⟨e1,e2⟩:=zq5 B (by omega) (first + to) (by omega) (by rw [hspn];omega)
     obtain ⟨f1,f2,f3⟩:=zqG (zun I ((first + to:Nat):Int)) e1
     have hmem:zbb (zpC s ((first + to:Nat):Int)).1=zbb s:=congrArg Log.Mem f2
     refine ⟨first + to,_,was,?_,f3,by rw [f2];exact e2⟩
     rw [hc]
     simp only [wA0,if_false,hv4,show ¬ (4:Int)=2 by omega,show ¬ (4:Int)=3 by omega,decide_false,decide_true,if_true,hwt,hspf,z1,hw31,zmW I.ok,wC0,f3.words_eq,I.words_eq,hmem,I.refl,wH0,zbn]
     rw [f1]
    ·have hn:0<n:=by
      have:=(zau (zaj I.right).1).1.1
      rw [← I.bn]
      exact this
     have hrl:(List.length (Banks.Rows (Vault.Banks s)):Int)=(n:Int):=by rw [I.good.rl]
     obtain ⟨y1,y2,y3⟩:=zgi (a:=l14_Do.At d) (n:=(n:Int)) a1 (by omega)
     obtain ⟨k,hk⟩:∃ k:Nat,l14_Do.At d % (n:Int)=(k:Int):=⟨(l14_Do.At d % (n:Int)).toNat,by omega⟩
     rw [hk] at y1 y2 y3
     obtain ⟨l,h1,h2,h3,h4,h5⟩:=zto I (k:=k) (by omega) (to:=(first:Int)) ⟨by omega,hfi⟩
     have B2:zgR (i + 1) (q + 1) first (logV s) was:=⟨B.right,B.len,B.low,by have:=B.span;omega,by have:=B.lst;omega,B.wasl,by omega,B.key⟩
     refine ⟨first,s,was,?_,I,B2⟩
     rw [hc]
     simp only [wA0,if_false,hv2,hv3,hv4,decide_false,if_true,hwa,hrl,y1,wC0,zmA I.ok,h1,zf5 h2,h3,zgP h2,h4,zi3 h2,h5,decide_true,wH0,zmS I.ok,zbn]
theorem zhN (p0 p1:Int) (l:List l14_Do) (h0:0≤p0) (h1:0≤p1) (hl:∀ d∈l,zvy d):zcr p0 p1 l=some true:=by
 unfold zcr
 obtain ⟨r1,r2,r3⟩:=zgi (a:=p0) (n:=16) h0 (by omega)
 obtain ⟨q1,q2,q3⟩:=zgi (a:=p1) (n:=8) h1 (by omega)
 obtain ⟨a,ha⟩:∃ a:Nat,p0 % 16=(a:Int):=⟨(p0 % 16).toNat,by omega⟩
 obtain ⟨b,hb⟩:∃ b:Nat,p1 % 8=(b:Int):=⟨(p1 % 8).toNat,by omega⟩
 have ha':a<16:=by omega
 have hb':b<8:=by omega
 obtain ⟨m,I0,e0,g0⟩:=zvr (w:=a + 1) (n:=b + 1) (by omega) (by omega)
 rw [ha] at r1
 rw [hb] at q1
 have hw0:zbb (newV ((a + 1:Nat):Int) ((b + 1:Nat):Int)).1=List.replicate (a + 1) 0:=congrArg Log.Mem g0
 simp only [zjM,wH0,wA0,if_false,r1,q1,wC0,zpm (show a<4611686018427387904 by omega),zpm (show b<4611686018427387904 by omega),zaD (show a<4611686018427387904 by omega),zaD (show b<4611686018427387904 by omega),zoj,e0,decide_true,I0.words_eq,hw0]
 have B0:zgR 0 (a + 1) 0 (logV (newV ((a + 1:Nat):Int) ((b + 1:Nat):Int)).1) [List.replicate (a + 1) 0]:=by rw [g0];exact ztc (by omega) (by omega)
 generalize (newV ((a + 1:Nat):Int) ((b + 1:Nat):Int)).1=s0 at *
 have lp:=zsl (f:=zbG l ((a + 1:Nat):Int)) (fun s=>∃ (i first:Nat) (t:Vault) (was:List (List Int)),s=((first:Int),(i:Int),t,was)∧i≤60∧SI (b + 1) m ((a + 1:Nat):Int) t∧zgR i (a + 1) first (logV t) was) (fun s=>60 - s.2.1.toNat) (fun r=>r=.inl ()) (fun s hs=>by
  obtain ⟨i,first,t,was,rfl,hi,I,B⟩:=hs
  rw [ztV]
  dsimp only
  by_cases h:i<l.length∧i<60
  ·left
   have c1:(i:Int)<(l.length:Int):=by omega
   have c2:(i:Int)<60:=by omega
   have hd:=hl _ (List.getElem_mem h.1)
   obtain ⟨k1,_,_⟩:=zgi (a:=l14_Do.Kind l[i]) (n:=6) hd.1.1 (by omega)
   obtain ⟨f2,t2,was2,e,I2,B2⟩:=zu5 I B h.2 (by omega) hd (l14_Do.Kind l[i] % 6)
   simp only [c1,c2,decide_true,Bool.and_self,if_true,zat h.1,wC0,k1,e,zbn,zsm I2 (show i<100 by omega)]
   exact ⟨_,rfl,⟨i + 1,f2,t2,was2,rfl,by omega,I2,B2⟩,by simp only [Int.toNat_natCast];omega⟩
  ·right
   have c:(decide ((i:Int)<(l.length:Int))&&decide ((i:Int)<60))=false:=by
    rw [Bool.and_eq_false_iff,decide_eq_false_iff_not,decide_eq_false_iff_not]
    omega
   rw [c]
   exact ⟨_,rfl,rfl⟩) (s:=((0:Int),(0:Int),s0,[List.replicate (a + 1) 0])) ⟨0,0,s0,_,rfl,by omega,I0,B0⟩
 obtain ⟨r,hr,rfl⟩:=lp
 rw [hr]
 rfl
theorem zjJ {x:Int}(h:okI .u8 x):0≤x∧x<256:=⟨h.1,Int.lt_of_le_of_lt h.2 (by decide)⟩
theorem zvb {x:Int}(h:okI .u32 x):wd x:=⟨h.1,Int.lt_of_le_of_lt h.2 (by decide)⟩
theorem zvO {d:l14_Do}(h:OkT ze2 d):zvy d:=⟨zjJ h.1,zjJ h.2.1,zjJ h.2.2.1,zvb h.2.2.2⟩
theorem ziZ (x:Ty.Tup zbi.ps) (h:OkL zbi.ps x):zbi.sem x=some true :=
 zhN _ _ _ (zjJ h.1).1 (zjJ h.2.1).1 fun d hd=>zvO (h.2.2.2 d hd)
end Go.Proofs.Ytlgjbfdojbmmgaa
