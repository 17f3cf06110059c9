import Derived.Test.YtdfohlonacbelaaGreatQB
set_option linter.unusedSimpArgs false
set_option linter.unusedVariables false
set_option maxRecDepth 100000
namespace Go.Proofs.YtdfohlonacbelaaGreat
open Go.SX
theorem zxn {st va:List (List Int)}{wa:List Wait}{ho:List Int}{di:List Entry}{bu:List Int}{po:Pool}{F:Prop}(h:zAM F (Proto.mk st va wa ho di bu po)) {m:Msg}(M:zwY m) {l f:Nat}(hl:Msg.Line m=(l:Int)) (hf:Msg.From m=(f:Int) + 1) (hfc:f<wa.length) (h4:wa.length≤4) (h1:l<ho.length) (h2:l<di.length) (h3:l<bu.length) (hm:zAP di[l] (wa.length:Int)=true) (hb0:0≤bu[l]) :
  ∃ q o d b,zzH po m ho di bu=some (q,o,d,b)∧zfw (Proto.mk st va wa ho di bu po) m=some (Proto.mk st va wa o d b q)∧zAM F (Proto.mk st va wa o d b q):=by
 have hz:decide ((0:Int)<bu[l])=!decide (bu[l]=0):=by
  by_cases c:bu[l]=0
  ·rw [vC0 c,vD0 (by omega)];rfl
  ·rw [vD0 c,vC0 (by omega)];rfl
 obtain ⟨z,hz1⟩:∃ z,decide (bu[l]=0)=z:=⟨_,rfl⟩
 obtain ⟨qn,en,n1,n2,n3⟩:=zcO h (Msg.mk 10 0 (Msg.From m) (l:Int) 0 0 false 0 0) u0 u0
 have gn:=zbD h n3
 simp only [ps,pv,pw,ph,pd,pb,pp] at n1 n2 gn
 unfold zzH zfw
 simp only [hl,pb,zac h3,zaz h3,hz,hz1,wC0]
 have req:Msg.Kind m=1∨Msg.Kind m=2→(bif decide (Msg.Kind m=1) then decide (Msg.Kind m=1) else decide (Msg.Kind m=2))=true:=fun k=>by
  rcases k with k|k<;>rw [k]<;>rfl
 by_cases hk:Msg.Kind m=1∨Msg.Kind m=2
 ·simp only [req hk,if_true]
  by_cases hff:Msg.For m=Msg.From m
  rotate_left
  ·simp only [hff,vF0,vH0,if_true,wC0,zai]
   exact ⟨_,_,_,_,rfl,rfl,h⟩
  simp only [hff,vE0,wH0,wA0,if_false]
  cases z
  ·simp only [vH0,if_true,n1,n2,wC0,zai,wA0,if_false]
   exact ⟨_,_,_,_,rfl,rfl,gn⟩
  obtain ⟨o,L,E',q,a,r1,r2,r3,x,e,r4,r5,r6⟩:=zrZ h M hl hf hfc h4 h1 h2 h3 hm hk
  refine ⟨x,ho,di.set l E',bu.set l (Msg.From m),?_,by simp only [if_true,r5,wC0],r6⟩
  simp only [wH0,wA0,if_false,zaD h3,zaz h2,zac h2,r1,zaD h2,wC0,r2,r3]
  by_cases c0:o=0
  ·rw [if_pos c0] at r4
   simp only [c0,vE0,if_true,zaz h1,zac h1,r4,wC0,zai]
  ·rw [if_neg c0] at r4
   simp only [c0,vF0,wA0,if_false]
   by_cases c1:o=Msg.From m
   ·rw [if_pos c1] at r4
    simp only [c1,vE0,if_true,r4,wC0,zai]
   ·rw [if_neg c1] at r4
    simp only [c1,vF0,wA0,if_false,r4,wC0,zai]
 have k1:¬ Msg.Kind m=1:=fun q=>hk (.inl q)
 have k2:¬ Msg.Kind m=2:=fun q=>hk (.inr q)
 simp only [k1,k2,vF0,cond_false,wA0,if_false]
 by_cases k8:Msg.Kind m=8
 ·simp only [k8,vE0,if_true]
  cases z
  ·simp only [vH0,if_true,n1,n2,wC0,zai,za6]
   exact ⟨_,_,_,_,rfl,rfl,gn⟩
  have hw:w64 (Msg.From m - 1)=(f:Int):=by rw [hf,zaV (by omega) (by omega)];omega
  have hmm:=(zbM.1 hm).1
  have hlen:(Entry.Share di[l]).length≤1000:=by omega
  obtain ⟨bf1,bf2,bf3⟩:=zun hm (k:=(f:Int)) (by omega) (by omega)
  have hb2:=zqY di[l] (f:Int) hlen
  have hb3:=zut di[l] (f:Int)
  have hm':=(zbM.1 bf3).1
  simp only [wH0,wA0,if_false,zaz h2,zac h2,hw,hb2,hb3,pd,wC0]
  by_cases c:(zmj di[l] (f:Int)).2=0
  ·have d1:=zzz h (n:=l) h2 (zmj di[l] (f:Int)).1
   have g1:=zwV h l (w:=(zmj di[l] (f:Int)).1) (by omega) (fun _=>bf3)
   simp only [ps,pv,pw,ph,pd,pb,pp] at d1 g1
   have d2:=zzK g1 (n:=l) h1 (Msg.Val m)
   have g2:=zyZ g1 l M.val
   simp only [ps,pv,pw,ph,pd,pb,pp] at d2 g2
   obtain ⟨x,e,x1,x2,x3⟩:=zcO g2 (Msg.mk 9 0 (Msg.From m) (l:Int) 0 0 false 0 0) u0 u0
   have g3:=zbD g2 x3
   simp only [ps,pv,pw,ph,pd,pb,pp] at x1 x2 g3
   simp only [c,vE0,if_true,zaD h2,zaz h1,zaD h1,x1,d1,d2,x2,wC0,zai]
   exact ⟨_,_,_,_,rfl,rfl,g3⟩
  ·obtain ⟨x,e,x1,x2,x3⟩:=zcO h (Msg.mk 9 0 (Msg.From m) (l:Int) 0 0 false 0 0) u0 u0
   have g3:=zbD h x3
   simp only [ps,pv,pw,ph,pd,pb,pp] at x1 x2 g3
   simp only [c,vF0,wA0,if_false,x1,x2,wC0,zai]
   exact ⟨_,_,_,_,rfl,rfl,g3⟩
 simp only [k8,vF0,wA0,if_false]
 by_cases k11:Msg.Kind m=11
 ·simp only [k11,vE0,if_true]
  by_cases c:bu[l]=Msg.From m
  ·have b1:=zwM h (n:=l) h3 0
   have g1:=zu4 h l 0 (fun _=>by simp only [pw];omega)
   simp only [ps,pv,pw,ph,pd,pb,pp] at b1 g1
   simp only [c,vE0,if_true,zaD h3,b1,wC0,zai,za6]
   exact ⟨_,_,_,_,rfl,rfl,g1⟩
  ·simp only [c,vF0,wA0,if_false,wC0,zai]
   exact ⟨_,_,_,_,rfl,rfl,h⟩
 simp only [k11,vF0,wA0,if_false,wC0,zai]
 exact ⟨_,_,_,_,rfl,rfl,h⟩
end Go.Proofs.YtdfohlonacbelaaGreat
