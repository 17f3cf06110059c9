/- Deliver, at home: the program does what the document does. -/
import Derived.Test.YtdfohlonacbelaaGreatQA
set_option linter.unusedSimpArgs false
set_option linter.unusedVariables false
set_option maxRecDepth 100000
namespace Go.Proofs.YtdfohlonacbelaaGreat
open Go.SX
theorem u1:U32 1:=⟨by omega,by omega⟩
theorem zsF {st va:List (List Int)}{wa:List Wait}{ho:List Int}{di:List Entry}{bu:List Int}{po:Pool}(h:Ok10 (Proto.mk st va wa ho di bu po)) {m:Msg}(M:zxA m) {l f:Nat}(hl:Msg.Line m=(l:Int)) (hf:Msg.From m=(f:Int) + 1) (hfc:f<wa.length) (h4:wa.length≤4) (h1:l<ho.length) (h2:l<di.length) (h3:l<bu.length) (hm:mayB di[l] (wa.length:Int)=true) (hk:Msg.Kind m=1∨Msg.Kind m=2) :
  ∃ o L E' q a,(if decide (Msg.Kind m=2)=true then (zcn di[l] (w64 (Msg.From m - 1))).bind fun v47=>some (v47.2.1,v47.2.2.1,(7:Int),v47.1) else (zc2 di[l] (w64 (Msg.From m - 1))).bind fun v47=>some (v47.2.1,([]:List Int),(6:Int),v47.1))=some (o,L,5 + Msg.Kind m,E') ∧
   zai (za4 m L (List.length L:Int)) ((0:Int),po)=some q ∧
   (if decide (Entry.Owner E'=Msg.From m)=true then (zbW E').bind fun v57=>some v57 else some false)=some a ∧
   ∃ x e,zak q (if o=0 then Msg.mk 3 0 (Msg.From m) (l:Int) 0 (List.length L:Int) a 0 ho[l] else if o=Msg.From m then Msg.mk 3 0 (Msg.From m) (l:Int) 0 (List.length L:Int) a 1 0 else Msg.mk (5 + Msg.Kind m) 0 o (l:Int) (Msg.From m) (List.length L:Int) false 0 0)=some (x,e) ∧
   zf1 (Proto.mk st va wa ho di bu po) m=some (Proto.mk st va wa ho (di.set l E') (bu.set l (Msg.From m)) x)∧Ok10 (Proto.mk st va wa ho (di.set l E') (bu.set l (Msg.From m)) x):=by
 have hw:w64 (Msg.From m - 1)=(f:Int):=by rw [hf,zbc (by omega) (by omega)];omega
 have hmm:=(zb6.1 hm).1
 have hlen:(Entry.Share di[l]).length≤1000:=by omega
 obtain ⟨rf1,rf2,rf3,rf4,rf5,rf6⟩:=ztp hm (k:=(f:Int)) (by omega) (by omega)
 obtain ⟨wf1,wf2,wf3⟩:=zsv hm (k:=(f:Int)) (by omega) (by omega)
 have hrd:=zt0 di[l] (f:Int) hlen
 have hwr:=zrO di[l] (f:Int) hlen
 have hrd2:=zqS di[l] (f:Int) hlen
 have hwr2:=zo5 di[l] (f:Int) hlen
 obtain ⟨o,L,E',p1,p2,p3,p4⟩:∃ o L E',(if decide (Msg.Kind m=2)=true then (zcn di[l] (f:Int)).bind fun v47=>some (v47.2.1,v47.2.2.1,(7:Int),v47.1) else (zc2 di[l] (f:Int)).bind fun v47=>some (v47.2.1,([]:List Int),(6:Int),v47.1))=some (o,L,5 + Msg.Kind m,E') ∧
   (if decide (Msg.Kind m=2)=true then (zhq di[l] (f:Int)).bind fun v20=>some (v20.2.2.1,v20.2.1,v20.1) else some (([]:List Int),(ziv di[l] (f:Int)).2.1,(ziv di[l] (f:Int)).1))=some (L,o,E')∧mayB E' (wa.length:Int)=true∧L.length≤1000:=by
  rcases hk with k|k
  ·rw [k]
   simp only [show decide ((1:Int)=2)=false from rfl,wA0,if_false,hrd2,wC0]
   exact ⟨_,_,_,rfl,rfl,rf6,by simp⟩
  ·rw [k]
   simp only [decide_true,if_true,hwr2,hwr,wC0]
   refine ⟨_,_,_,rfl,rfl,?_,?_⟩
   ·rw [wf1];exact wf2
   ·rw [wf1]
    have:=zfX (Entry.Share di[l]) (f:Int) (Entry.Share di[l]).length
    show (zaN (Entry.Share di[l]) (f:Int) (Entry.Share di[l]).length).length≤1000
    omega
 have hm':=(zb6.1 p3).1
 have b1:=zxT h (n:=l) h3 (Msg.From m)
 have g1:=zu3 h l (Msg.From m)
 simp only [ps,pv,pw,ph,pd,pb,pp] at b1 g1
 have b2:=zy4 g1 (n:=l) h2 E'
 have g2:=zxW g1 l (w:=E') (by omega)
 simp only [ps,pv,pw,ph,pd,pb,pp] at b2 g2
 obtain ⟨q,q1,q2,q3⟩:=zxp g2 m L p4
 have g3:=zbv g2 q3
 simp only [ps,pv,pw,ph,pd,pb,pp] at g3
 obtain ⟨a,a1,a2⟩:∃ a,(if decide (Entry.Owner E'=Msg.From m)=true then (zbW E').bind fun v57=>some v57 else some false)=some a∧(if decide (Entry.Owner E'=Msg.From m)=true then (zcC E' (-1:Int)).bind fun v24=>some (decide ((List.length v24:Int)=(0:Int))) else some false)=some a:=by
  by_cases c:Entry.Owner E'=Msg.From m
  ·obtain ⟨a,x1,x2⟩:=zwc p3 (show 0<Entry.Owner E' by omega)
   rw [if_pos (decide_eq_true c),if_pos (decide_eq_true c)]
   exact ⟨a,by rw [x1];rfl,x2⟩
  ·rw [if_neg (by rw [decide_eq_true_eq];exact c),if_neg (by rw [decide_eq_true_eq];exact c)]
   exact ⟨false,rfl,rfl⟩
 have hho:U32 ho[l]:=h.hw _ (List.getElem_mem h1)
 have hwk:w64 (5 + Msg.Kind m)=5 + Msg.Kind m:=zbc (by rcases hk with k|k<;>omega) (by rcases hk with k|k<;>omega)
 obtain ⟨mm,hmmm⟩:∃ mm,(if o=0 then Msg.mk 3 0 (Msg.From m) (l:Int) 0 (List.length L:Int) a 0 ho[l] else if o=Msg.From m then Msg.mk 3 0 (Msg.From m) (l:Int) 0 (List.length L:Int) a 1 0 else Msg.mk (5 + Msg.Kind m) 0 o (l:Int) (Msg.From m) (List.length L:Int) false 0 0)=mm:=⟨_,rfl⟩
 have hu:U32 (Msg.Num mm)∧U32 (Msg.Val mm):=by
  rw [← hmmm]
  by_cases c0:o=0
  ·rw [if_pos c0];exact ⟨u0,hho⟩
  ·rw [if_neg c0]
   by_cases c1:o=Msg.From m
   ·rw [if_pos c1];exact ⟨u1,u0⟩
   ·rw [if_neg c1];exact ⟨u0,u0⟩
 obtain ⟨x,e,x1,x2,x3⟩:=zcW g3 mm hu.1 hu.2
 have g4:=zbv g3 x3
 simp only [ps,pv,pw,ph,pd,pb,pp] at x1 x2 g4
 refine ⟨o,L,E',q,a,by rw [hw];exact p1,q1,a1,x,e,by rw [hmmm];exact x1,?_,g4⟩
 unfold zf1
 simp only [hl,b1,pd,zab h2,hw,hrd,wC0,p2,b2,q2,a2,hwk,ph,zab h1]
 by_cases c0:o=0
 ·rw [if_pos c0] at hmmm
  simp only [c0,decide_true,if_true,hmmm,x2,wC0]
 ·rw [if_neg c0] at hmmm
  simp only [c0,decide_false,wA0,if_false]
  by_cases c1:o=Msg.From m
  ·rw [if_pos c1] at hmmm
   simp only [c1,decide_true,if_true,hmmm,x2,wC0]
  ·rw [if_neg c1] at hmmm
   simp only [c1,decide_false,wA0,if_false,hmmm,x2,wC0]
end Go.Proofs.YtdfohlonacbelaaGreat
