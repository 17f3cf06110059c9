/- Frames read. -/
import Derived.Test.YtlgjbfdojbmmgaaR0
set_option linter.unusedSimpArgs false
set_option linter.unusedVariables false
namespace Go.Proofs.Ytlgjbfdojbmmgaa
open Go.SX
theorem zmg (p0:List Int):zg5 p0 =
 (if decide ((List.length p0:Int)<(19:Int)) then
  some (((Msg.mk (0:Int) (0:Int) (0:Int) (0:Int) (0:Int) (0:Int) false (0:Int) (0:Int)),(3:Int)))
 else
  if decide ((19:Int)<(List.length p0:Int)) then
   some (((Msg.mk (0:Int) (0:Int) (0:Int) (0:Int) (0:Int) (0:Int) false (0:Int) (0:Int)),(4:Int)))
  else
   (zzR p0 (15:Int) (List.length p0:Int)).bind fun v6 =>
   (zfB v6).bind fun v7 =>
   (zzR p0 (0:Int) (15:Int)).bind fun v9 =>
   (zdK v9).bind fun v10 =>
   if !decide (v7=v10) then
    some (((Msg.mk (0:Int) (0:Int) (0:Int) (0:Int) (0:Int) (0:Int) false (0:Int) (0:Int)),(5:Int)))
   else
    (zzG p0 (0:Int)).bind fun v12 =>
    (zzG p0 (1:Int)).bind fun v14 =>
    (zzG p0 (2:Int)).bind fun v16 =>
    (zzG p0 (3:Int)).bind fun v18 =>
    (zzG p0 (4:Int)).bind fun v20 =>
    (zzG p0 (5:Int)).bind fun v22 =>
    (zzG p0 (6:Int)).bind fun v24 =>
    (zzR p0 (7:Int) (List.length p0:Int)).bind fun v27 =>
    (zfB v27).bind fun v28 =>
    (zzR p0 (11:Int) (List.length p0:Int)).bind fun v30 =>
    (zfB v30).bind fun v31 =>
    let v32:Msg:=Msg.mk (w64 v12) (w64 v14) (w64 v16) (w64 v18) (w64 v20) (w64 v22) (decide (v24=(1:Int))) v28 v31
    (
     (zeK v32).bind fun v33 =>
     if !v33 then
      some (true)
     else
      (zeY v32).bind fun v35 =>
      (bytes_Equal v35 p0).bind fun v36 =>
      some ((!v36)):Option Bool).bind fun v33 =>
    if v33 then
     some (((Msg.mk (0:Int) (0:Int) (0:Int) (0:Int) (0:Int) (0:Int) false (0:Int) (0:Int)),(2:Int)))
    else
     some ((v32,(0:Int)))):=rfl
theorem zoJ (l:List Nat) (hl:l.length≤1000) (hb:∀ x∈l,x<256):zg5 (zaH l)=some (zvW l):=by
 rw [zmg]
 unfold zvW
 by_cases h1:l.length<19
 ·have:(List.length (zaH l):Int)<19:=by rw [zbo];omega
  rw [vC0 this,if_pos rfl,if_pos h1]
  rfl
 ·have h1':¬ (List.length (zaH l):Int)<19:=by rw [zbo];omega
  rw [vD0 h1',if_neg (by simp),if_neg h1]
  by_cases h2:19<l.length
  ·have:(19:Int)<(List.length (zaH l):Int):=by rw [zbo];omega
   rw [vC0 this,if_pos rfl,if_pos h2]
   rfl
  ·have h2':¬ (19:Int)<(List.length (zaH l):Int):=by rw [zbo];omega
   rw [vD0 h2',if_neg (by simp),if_neg h2]
   have h19:l.length=19:=by omega
   have hby:zqx l:=⟨h19,hb⟩
   have g:=getD_lt hby
   have hno:=ztO hby
   have hpr:=zwq hby
   have hbsO:zAH (zaH l)=some (zaH l):=zqb hb
   have hinj:∀ m,zaH m=zaH l↔m=l:=fun m=>zvr
   have hsum:=zkd (l.take 15) (by simp;omega) (fun x hx=>hb x (List.mem_of_mem_take hx))
   obtain ⟨b0,b1,b2,b3,b4,b5,b6,b7,b8,b9,b10,b11,b12,b13,b14,b15,b16,b17,b18,rfl⟩:=zwB l h19
   have g0:b0<256:=g 0
   have g1:b1<256:=g 1
   have g2:b2<256:=g 2
   have g3:b3<256:=g 3
   have g4:b4<256:=g 4
   have g5:b5<256:=g 5
   have g6:b6<256:=g 6
   have w1:=zjC b15 b16 b17 b18 [] (g 15) (g 16) (g 17) (g 18)
   have w2:=zjC b7 b8 b9 b10 [(b11:Int),b12,b13,b14,b15,b16,b17,b18] (g 7) (g 8) (g 9) (g 10)
   have w3:=zjC b11 b12 b13 b14 [(b15:Int),b16,b17,b18] (g 11) (g 12) (g 13) (g 14)
   obtain ⟨C,hC⟩:∃ C:List Int,C=zaH [b0,b1,b2,b3,b4,b5,b6,b7,b8,b9,b10,b11,b12,b13,b14,b15,b16,b17,b18]:=⟨_,rfl⟩
   have hCl:(List.length C:Int)=19:=by rw [hC];rfl
   have s1:zzR C (15:Int) (19:Int)=some [(b15:Int),b16,b17,b18]:=by rw [hC];rfl
   have s2:zzR C (0:Int) (15:Int)=some (zaH [b0,b1,b2,b3,b4,b5,b6,b7,b8,b9,b10,b11,b12,b13,b14]):=by rw [hC];rfl
   have s3:zzR C (7:Int) (19:Int)=some [(b7:Int),b8,b9,b10,b11,b12,b13,b14,b15,b16,b17,b18]:=by rw [hC];rfl
   have s4:zzR C (11:Int) (19:Int)=some [(b11:Int),b12,b13,b14,b15,b16,b17,b18]:=by rw [hC];rfl
   have e0:zzG C (0:Int)=some (b0:Int):=by rw [hC];rfl
   have e1:zzG C (1:Int)=some (b1:Int):=by rw [hC];rfl
   have e2:zzG C (2:Int)=some (b2:Int):=by rw [hC];rfl
   have e3:zzG C (3:Int)=some (b3:Int):=by rw [hC];rfl
   have e4:zzG C (4:Int)=some (b4:Int):=by rw [hC];rfl
   have e5:zzG C (5:Int)=some (b5:Int):=by rw [hC];rfl
   have e6:zzG C (6:Int)=some (b6:Int):=by rw [hC];rfl
   have hsum':zdK (zaH [b0,b1,b2,b3,b4,b5,b6,b7,b8,b9,b10,b11,b12,b13,b14])=some (zAh [b0,b1,b2,b3,b4,b5,b6,b7,b8,b9,b10,b11,b12,b13,b14]:Int):=hsum
   have hwh:ziJ [b0,b1,b2,b3,b4,b5,b6,b7,b8,b9,b10,b11,b12,b13,b14,b15,b16,b17,b18]↔ofN b15 b16 b17 b18=zAh [b0,b1,b2,b3,b4,b5,b6,b7,b8,b9,b10,b11,b12,b13,b14]:=Iff.rfl
   rw [← hC]
   rw [← hC] at hbsO hinj
   simp only [hCl,s1,w1,s2,hsum',wC0]
   by_cases hw:ziJ [b0,b1,b2,b3,b4,b5,b6,b7,b8,b9,b10,b11,b12,b13,b14,b15,b16,b17,b18]
   ·have hw':((ofN b15 b16 b17 b18:Nat):Int)=((zAh [b0,b1,b2,b3,b4,b5,b6,b7,b8,b9,b10,b11,b12,b13,b14]:Nat):Int):=by rw [hwh.1 hw]
    rw [if_pos hw]
    simp only [hw',vE0,wH0,wA0,if_false,e0,e1,e2,e3,e4,e5,e6,s3,s4,w2,w3,wC0,zgR]
    have hmsg:Msg.mk (w64 (b0:Int)) (w64 (b1:Int)) (w64 (b2:Int)) (w64 (b3:Int)) (w64 (b4:Int)) (w64 (b5:Int)) (decide ((b6:Int)=(1:Int))) (ofN b7 b8 b9 b10:Int) (ofN b11 b12 b13 b14:Int)=(numsOf [b0,b1,b2,b3,b4,b5,b6,b7,b8,b9,b10,b11,b12,b13,b14,b15,b16,b17,b18]).msg:=by
     rw [zjz (by omega),zjz (by omega),zjz (by omega),zjz (by omega),zjz (by omega),zjz (by omega)]
     have hd:decide ((b6:Int)=(1:Int))=decide (b6=1):=by
      by_cases q:b6=1
      ·rw [vC0 q,vC0 (show (b6:Int)=1 by omega)]
      ·rw [vD0 q,vD0 (show ¬ (b6:Int)=1 by omega)]
     rw [hd]
     rfl
    rw [hmsg]
    have hnm:zAb (numsOf [b0,b1,b2,b3,b4,b5,b6,b7,b8,b9,b10,b11,b12,b13,b14,b15,b16,b17,b18]).msg=true↔1≤b0∧b0≤11:=by
     unfold zAb
     show ((zaa (b1:Int)&&(zaa (b2:Int)&&(zaa (b3:Int)&&(zaa (b4:Int)&&zaa (b5:Int)))))&&(decide ((1:Int)≤(b0:Int))&&decide ((b0:Int)≤11)))=true↔_
     simp only [wD0,zhk,vG0]
     omega
    by_cases hm:1≤b0∧b0≤11
    ·rw [hnm.2 hm]
     obtain ⟨x,hx⟩:∃ x,x=numsOf [b0,b1,b2,b3,b4,b5,b6,b7,b8,b9,b10,b11,b12,b13,b14,b15,b16,b17,b18]:=⟨_,rfl⟩
     have hxo:x.Ok:=by
      rw [hx]
      exact ⟨hm.1,hm.2,g1,g2,g3,g4,g5,zsa (g 7) (g 8) (g 9) (g 10),zsa (g 11) (g 12) (g 13) (g 14)⟩
     rw [← hx]
     have p1:=zwF hxo
     have hq:bytes_Equal (zaH (zav x)) C=some (decide (zaH (zav x)=C)):=by
      unfold bytes_Equal
      rw [zqb (zfV hxo).lt,hbsO]
      rfl
     simp only [wH0,wA0,if_false,p1,hq,wC0]
     by_cases h6:b6≤1
     ·have hk:kindOk [b0,b1,b2,b3,b4,b5,b6,b7,b8,b9,b10,b11,b12,b13,b14,b15,b16,b17,b18]:=⟨hm.1,hm.2,h6⟩
      have he:zaH (zav x)=C:=by rw [hx,hpr hw hk,hC]
      rw [if_pos hk,vC0 he]
      rfl
     ·have hk:¬ kindOk [b0,b1,b2,b3,b4,b5,b6,b7,b8,b9,b10,b11,b12,b13,b14,b15,b16,b17,b18]:=fun h=>h6 h.2.2
      have he:¬ zaH (zav x)=C:=by
       rw [hinj]
       intro h
       have h7:(zav x).getD 6 0=b6:=by rw [h];rfl
       have h8:(zav x).getD 6 0=if x.own=true then 1 else 0:=rfl
       rw [h8] at h7
       split at h7<;>omega
      rw [if_neg hk,vD0 he]
      rfl
    ·have hmf:zAb (numsOf [b0,b1,b2,b3,b4,b5,b6,b7,b8,b9,b10,b11,b12,b13,b14,b15,b16,b17,b18]).msg=false:=by
      cases e:zAb (numsOf [b0,b1,b2,b3,b4,b5,b6,b7,b8,b9,b10,b11,b12,b13,b14,b15,b16,b17,b18]).msg
      ·rfl
      ·exact absurd (hnm.1 e) hm
     have hk:¬ kindOk [b0,b1,b2,b3,b4,b5,b6,b7,b8,b9,b10,b11,b12,b13,b14,b15,b16,b17,b18]:=fun h=>hm ⟨h.1,h.2.1⟩
     rw [hmf,if_neg hk]
     rfl
   ·have hw':¬ ((ofN b15 b16 b17 b18:Nat):Int)=((zAh [b0,b1,b2,b3,b4,b5,b6,b7,b8,b9,b10,b11,b12,b13,b14]:Nat):Int):=fun h=>hw (hwh.2 (Int.ofNat.inj h))
    rw [if_neg hw,vD0 hw']
    rfl
end Go.Proofs.Ytlgjbfdojbmmgaa
