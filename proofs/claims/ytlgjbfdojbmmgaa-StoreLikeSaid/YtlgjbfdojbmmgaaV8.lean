/- Layer 14: the law StoreLike on typed data. No condition. -/
import Derived.Test.YtlgjbfdojbmmgaaV7
set_option linter.unusedSimpArgs false
set_option linter.unusedVariables false
namespace Go.Proofs.Ytlgjbfdojbmmgaa
open Go.SX
noncomputable def zsv (x7:Int) (v20:l14_Do) (v22:Int) (s1:Vault) (s2:Log):Option (Int×Int×Vault×Log) :=
  let v23:Bool:=decide (v22=(0:Int))
  (
   if bif v23 then v23 else decide (v22=(1:Int)) then
    (remO (w64 (l14_Do.At v20)) x7).bind fun v27 =>
    (zde s1 v27 (l14_Do.Val v20)).bind fun v29 =>
    (remO (w64 (l14_Do.At v20)) x7).bind fun v33 =>
    (zee s2 v33 (l14_Do.Val v20)).bind fun v35 =>
    some ((v29.2,v35.2,v29.1,v35.1))
   else
    (
     if decide (v22=(2:Int)) then
      (zd9 s1).bind fun v26 =>
      (zfb s2).bind fun v28 =>
      some ((v26.2,v28.2,v26.1,v28.1))
     else
      (
       if decide (v22=(3:Int)) then
        (zdZ s1 (w64 (l14_Do.To v20))).bind fun v29 =>
        (zfj s2 (w64 (l14_Do.To v20))).bind fun v33 =>
        some ((v29.2,v33.2,v29.1,v33.1))
       else
        (zd6 s1 (w64 (l14_Do.To v20))).bind fun v29 =>
        (zeT s2 (w64 (l14_Do.To v20))).bind fun v33 =>
        some ((v29.2,v33.2,v29.1,v33.1)):Option (Int×Int×Vault×Log)).bind fun v27 =>
      some ((v27.1,v27.2.1,v27.2.2.1,v27.2.2.2)):Option (Int×Int×Vault×Log)).bind fun v26 =>
    some ((v26.1,v26.2.1,v26.2.2.1,v26.2.2.2)):Option (Int×Int×Vault×Log))
noncomputable def zl3 (s1:Int) (v25:Int×Int×Vault×Log):Option ((Int×Vault×Log)⊕Unit⊕Bool) :=
  (
   if !decide (v25.1=v25.2.1) then
    some (true)
   else
    (zcm v25.2.2.1).bind fun v30 =>
    (zdr v30 (Log.Mem v25.2.2.2)).bind fun v32 =>
    if !v32 then
     some (true)
    else
     if !decide ((Vault.Span v25.2.2.1)=(Log.Span v25.2.2.2)) then
      some (true)
     else
      some ((!decide ((List.length (Vault.Lst v25.2.2.1):Int)=(List.length (Log.Lst v25.2.2.2):Int)))):Option Bool).bind fun v29 =>
  if v29 then
   some (Sum.inr (Sum.inr (false)))
  else
   zb6 (
    zaA (zbb v25.2.2.1 v25.2.2.2) (0:Int):Option (Unit⊕(Int×Vault×Log)⊕Unit⊕Bool)) fun v30 =>
   some (Sum.inl (w64 (s1 + (1:Int)),v25.2.2.1,v25.2.2.2))
theorem ztM (x2:List l14_Do) (x7:Int) (s:Int×Vault×Log):zcK x2 x7 s =
 if (decide (s.1<(List.length x2:Int)))&&(decide (s.1<(60:Int))) then
  (getO x2 s.1).bind fun v20 =>
  (remO (l14_Do.Kind v20) (5:Int)).bind fun v22=>(zsv x7 v20 v22 s.2.1 s.2.2).bind fun v25=>zl3 s.1 v25
 else some (Sum.inr (Sum.inl ())):=rfl
def DoOk (d:l14_Do):Prop:=(0≤l14_Do.Kind d∧l14_Do.Kind d<256)∧(0≤l14_Do.At d∧l14_Do.At d<256)∧(0≤l14_Do.To d∧l14_Do.To d<256)∧wd (l14_Do.Val d)
theorem zu3 {n m:Nat}{W:Int}{s:Vault}(I:SI n m W s) (hW:1≤W∧W≤64) {d:l14_Do}(hd:DoOk d) (k:Int):∃ (r:Vault×Int) (q:Log×Int),Sim n m W r q∧zsv W d k s (logV s)=some (r.2,q.2,r.1,q.1):=by
 obtain ⟨h1,h2,h3,h4⟩:=hd
 unfold zsv
 dsimp only
 by_cases c:k=0∨k=1
 ·have hc:(bif decide (k=0) then decide (k=0) else decide (k=1))=true:=by
   rcases c with c|c
   ·rw [c];rfl
   ·rw [c];rfl
  rw [hc]
  obtain ⟨r1,_,_⟩:=zjo (a:=w64 (l14_Do.At d)) (n:=W) (by rw [zdE (by omega) (by omega)];exact h2.1) (by omega)
  refine ⟨_,_,zs8 I (w64 (l14_Do.At d) % W) h4,?_⟩
  simp only [if_true,r1,wC0,zkM I.ok,zlE _ I.small]
 ·have hc:(bif decide (k=0) then decide (k=0) else decide (k=1))=false:=by
   have c0:¬ k=0:=fun e=>c (.inl e)
   have c1:¬ k=1:=fun e=>c (.inr e)
   rw [decide_eq_false c0,decide_eq_false c1]
   rfl
  rw [hc]
  by_cases c2:k=2
  ·refine ⟨_,_,ztD I,?_⟩
   simp only [c2,decide_true,wA0,if_false,if_true,zmv I.ok,zoo _ I.small,wC0]
  ·by_cases c3:k=3
   ·refine ⟨_,_,zti I (w64 (l14_Do.To d)),?_⟩
    simp only [c3,show ¬ (3:Int)=2 by omega,decide_true,decide_false,wA0,if_false,if_true,zl6 I.ok,zm2 _ I.small,wC0]
   ·refine ⟨_,_,ztl I (w64 (l14_Do.To d)),?_⟩
    simp only [c2,c3,decide_false,wA0,if_false,if_true,zlB I.ok,znc _ I.small,wC0]
theorem zs4 {n m:Nat}{W:Int}{r:Vault×Int}{q:Log×Int}(S:Sim n m W r q) {i:Nat}(hi:i<100):zl3 (i:Int) (r.2,q.2,r.1,q.1)=some (Sum.inl (((i + 1:Nat):Int),r.1,logV r.1)):=by
 obtain ⟨I,hl,he⟩:=S
 have hlen:=I.ok.l
 have lp:=za5 (f:=zbb r.1 (logV r.1)) (n:=(Vault.Lst r.1).length) (e:=.inl ()) (fun i=>(i:Int)) (fun i hi=>by
  have hlt:(i:Int)<(List.length (Vault.Lst r.1):Int):=by omega
  unfold zbb
  have e:getO (Log.Lst (logV r.1)) (i:Int)=some (Vault.Lst r.1)[i]:=zat hi
  simp only [hlt,decide_true,if_true,zat hi,e,wC0,wH0,wA0,if_false,zav (show i<4611686018427387904 by omega)]) (by
  unfold zbb
  simp)
 rw [show (((0:Nat):Int))=0 from rfl] at lp
 unfold zl3
 rw [← hl,← he]
 have h2:zdr (zb2 r.1) (Log.Mem (logV r.1))=some true:=I.refl
 have h3:Log.Span (logV r.1)=Vault.Span r.1:=rfl
 have h4:(Log.Lst (logV r.1)).length=(Vault.Lst r.1).length:=rfl
 simp only [decide_true,wH0,wA0,if_false,I.words_eq,wC0,h2,h3,h4,lp,zd0,zav (show i<4611686018427387904 by omega)]
theorem zlH (p0 p1:Int) (l:List l14_Do) (h0:0≤p0) (h1:0≤p1) (hl:∀ d∈l,DoOk d):zeC p0 p1 l=some true:=by
 unfold zeC
 obtain ⟨r1,r2,r3⟩:=zjo (a:=p0) (n:=64) h0 (by omega)
 obtain ⟨q1,q2,q3⟩:=zjo (a:=p1) (n:=8) h1 (by omega)
 obtain ⟨a,ha⟩:∃ a:Nat,p0 % 64=(a:Int):=⟨(p0 % 64).toNat,by omega⟩
 obtain ⟨b,hb⟩:∃ b:Nat,p1 % 8=(b:Int):=⟨(p1 % 8).toNat,by omega⟩
 have ha':a<64:=by omega
 have hb':b<8:=by omega
 obtain ⟨m,I0,e0,g0⟩:=zut (w:=a + 1) (n:=b + 1) (by omega) (by omega)
 have u0:newS (((a + 1:Nat)):Int)=(Log.mk (List.replicate (a + 1) 0) 0 [],0):=by
  unfold newS
  rw [if_pos (by omega),Int.toNat_natCast]
 rw [ha] at r1
 rw [hb] at q1
 simp only [zj9,wH0,wA0,if_false,r1,q1,wC0,zoW (show a<4611686018427387904 by omega),zoW (show b<4611686018427387904 by omega),zav (show a<4611686018427387904 by omega),zav (show b<4611686018427387904 by omega),zos,zoP,u0,e0,decide_true,Bool.or_self]
 rw [← g0]
 generalize (newV ((a + 1:Nat):Int) ((b + 1:Nat):Int)).1=s0 at *
 have lp:=zrr (f:=zcK l ((a + 1:Nat):Int)) (fun s=>∃ (i:Nat) (t:Vault),s=((i:Int),t,logV t)∧i≤60∧SI (b + 1) m ((a + 1:Nat):Int) t) (fun s=>60 - s.1.toNat) (fun r=>r=.inl ()) (fun s hs=>by
  obtain ⟨i,t,rfl,hi,I⟩:=hs
  rw [ztM]
  dsimp only
  by_cases h:i<l.length∧i<60
  ·left
   have c1:(i:Int)<(l.length:Int):=by omega
   have c2:(i:Int)<60:=by omega
   have hd:=hl _ (List.getElem_mem h.1)
   obtain ⟨k1,_,_⟩:=zjo (a:=l14_Do.Kind l[i]) (n:=5) hd.1.1 (by omega)
   obtain ⟨r,q,S,e⟩:=zu3 I (by omega) hd (l14_Do.Kind l[i] % 5)
   simp only [c1,c2,decide_true,Bool.and_self,if_true,zat h.1,wC0,k1,e,zs4 S (show i<100 by omega)]
   exact ⟨_,rfl,⟨i + 1,r.1,rfl,by omega,S.si⟩,by simp only [Int.toNat_natCast];omega⟩
  ·right
   have c:(decide ((i:Int)<(l.length:Int))&&decide ((i:Int)<60))=false:=by
    rw [Bool.and_eq_false_iff,decide_eq_false_iff_not,decide_eq_false_iff_not]
    omega
   rw [c]
   exact ⟨_,rfl,rfl⟩) (s:=((0:Int),s0,logV s0)) ⟨0,s0,rfl,by omega,I0⟩
 obtain ⟨r,hr,rfl⟩:=lp
 rw [hr]
 rfl
theorem zoj {x:Int}(h:okI .u8 x):0≤x∧x<256:=⟨h.1,Int.lt_of_le_of_lt h.2 (by decide)⟩
theorem zus {x:Int}(h:okI .u32 x):wd x:=⟨h.1,Int.lt_of_le_of_lt h.2 (by decide)⟩
theorem zvy {d:l14_Do}(h:OkT zfg d):DoOk d:=⟨zoj h.1,zoj h.2.1,zoj h.2.2.1,zus h.2.2.2⟩
theorem zoh (x:Ty.Tup zb1.ps) (h:OkL zb1.ps x):zb1.sem x=some true :=
 zlH _ _ _ (zoj h.1).1 (zoj h.2.1).1 fun d hd=>zvy (h.2.2.2 d hd)
end Go.Proofs.Ytlgjbfdojbmmgaa
