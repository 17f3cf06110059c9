import Derived.Test.YtdfohlonacbelaaGreatQA
set_option linter.unusedSimpArgs false
set_option linter.unusedVariables false
set_option maxRecDepth 100000
namespace Go.Proofs.YtdfohlonacbelaaGreat
open Go.SX
theorem u1:U32 1:=⟨by omega,by omega⟩
theorem zrZ {st va:List (List Int)}{wa:List Wait}{ho:List Int}{di:List Entry}{bu:List Int}{po:Pool}{F:Prop}(h:zAM F (Proto.mk st va wa ho di bu po)) {m:Msg}(M:zwY m) {l f:Nat}(hl:Msg.Line m=(l:Int)) (hf:Msg.From m=(f:Int) + 1) (hfc:f<wa.length) (h4:wa.length≤4) (h1:l<ho.length) (h2:l<di.length) (h3:l<bu.length) (hm:zAP di[l] (wa.length:Int)=true) (hk:Msg.Kind m=1∨Msg.Kind m=2) :
  ∃ o L E' q a,(if decide (Msg.Kind m=2)=true then (zck di[l] (w64 (Msg.From m - 1))).bind fun v47=>some (v47.2.1,v47.2.2.1,(7:Int),v47.1) else (zc5 di[l] (w64 (Msg.From m - 1))).bind fun v47=>some (v47.2.1,([]:List Int),(6:Int),v47.1))=some (o,L,5 + Msg.Kind m,E') ∧
   zaf (za9 m L (List.length L:Int)) ((0:Int),po)=some q ∧
   (if decide (Entry.Owner E'=Msg.From m)=true then (zbT E').bind fun v57=>some v57 else some false)=some a ∧
   ∃ x e,zae q (if o=0 then Msg.mk 3 0 (Msg.From m) (l:Int) 0 (List.length L:Int) a 0 ho[l] else if o=Msg.From m then Msg.mk 3 0 (Msg.From m) (l:Int) 0 (List.length L:Int) a 1 0 else Msg.mk (5 + Msg.Kind m) 0 o (l:Int) (Msg.From m) (List.length L:Int) false 0 0)=some (x,e) ∧
   zgA (Proto.mk st va wa ho di bu po) m=some (Proto.mk st va wa ho (di.set l E') (bu.set l (Msg.From m)) x)∧zAM F (Proto.mk st va wa ho (di.set l E') (bu.set l (Msg.From m)) x):=by
 have hw:w64 (Msg.From m - 1)=(f:Int):=by rw [hf,zaV (by omega) (by omega)];omega
 have hmm:=(zbM.1 hm).1
 have hlen:(Entry.Share di[l]).length≤1000:=by omega
 obtain ⟨rf1,rf2,rf3,rf4,rf5,rf6⟩:=ztZ hm (k:=(f:Int)) (by omega) (by omega)
 obtain ⟨wf1,wf2,wf3⟩:=zr1 hm (k:=(f:Int)) (by omega) (by omega)
 have hrd:=zuj di[l] (f:Int) hlen
 have hwr:=zsa di[l] (f:Int) hlen
 have hrd2:=zqz di[l] (f:Int) hlen
 have hwr2:=zo9 di[l] (f:Int) hlen
 obtain ⟨o,L,E',p1,p2,p3,p4⟩:∃ o L E',(if decide (Msg.Kind m=2)=true then (zck di[l] (f:Int)).bind fun v47=>some (v47.2.1,v47.2.2.1,(7:Int),v47.1) else (zc5 di[l] (f:Int)).bind fun v47=>some (v47.2.1,([]:List Int),(6:Int),v47.1))=some (o,L,5 + Msg.Kind m,E') ∧
   (if decide (Msg.Kind m=2)=true then (zhb di[l] (f:Int)).bind fun v20=>some (v20.2.2.1,v20.2.1,v20.1) else some (([]:List Int),(zin di[l] (f:Int)).2.1,(zin di[l] (f:Int)).1))=some (L,o,E')∧zAP E' (wa.length:Int)=true∧L.length≤1000:=by
  rcases hk with k|k
  ·rw [k]
   simp only [show decide ((1:Int)=2)=false from rfl,wA0,if_false,hrd2,wC0]
   exact ⟨_,_,_,rfl,rfl,rf6,by simp⟩
  ·rw [k]
   simp only [vE0,if_true,hwr2,hwr,wC0]
   refine ⟨_,_,_,rfl,rfl,?_,?_⟩
   ·rw [wf1];exact wf2
   ·rw [wf1]
    have:=zgo (Entry.Share di[l]) (f:Int) (Entry.Share di[l]).length
    show (zaP (Entry.Share di[l]) (f:Int) (Entry.Share di[l]).length).length≤1000
    omega
 have hm':=(zbM.1 p3).1
 have b1:=zwM h (n:=l) h3 (Msg.From m)
 have g1:=zu4 h l (Msg.From m) (fun _=>by simp only [pw];omega)
 simp only [ps,pv,pw,ph,pd,pb,pp] at b1 g1
 have b2:=zzz g1 (n:=l) h2 E'
 have g2:=zwV g1 l (w:=E') (by omega) (fun _=>p3)
 simp only [ps,pv,pw,ph,pd,pb,pp] at b2 g2
 obtain ⟨q,q1,q2,q3⟩:=zw5 g2 m L p4
 have g3:=zbD g2 q3
 simp only [ps,pv,pw,ph,pd,pb,pp] at g3
 obtain ⟨a,a1,a2⟩:∃ a,(if decide (Entry.Owner E'=Msg.From m)=true then (zbT E').bind fun v57=>some v57 else some false)=some a∧(if decide (Entry.Owner E'=Msg.From m)=true then (zcD E' (-1:Int)).bind fun v24=>some (decide ((List.length v24:Int)=(0:Int))) else some false)=some a:=by
  by_cases c:Entry.Owner E'=Msg.From m
  ·obtain ⟨a,x1,x2⟩:=zv3 p3 (show 0<Entry.Owner E' by omega)
   rw [if_pos (vC0 c),if_pos (vC0 c)]
   exact ⟨a,by rw [x1];rfl,x2⟩
  ·rw [if_neg (by rw [vG0];exact c),if_neg (by rw [vG0];exact c)]
   exact ⟨false,rfl,rfl⟩
 have hho:U32 ho[l]:=h.hw _ (List.getElem_mem h1)
 have hwk:w64 (5 + Msg.Kind m)=5 + Msg.Kind m:=zaV (by rcases hk with k|k<;>omega) (by rcases hk with k|k<;>omega)
 obtain ⟨mm,hmmm⟩:∃ mm,(if o=0 then Msg.mk 3 0 (Msg.From m) (l:Int) 0 (List.length L:Int) a 0 ho[l] else if o=Msg.From m then Msg.mk 3 0 (Msg.From m) (l:Int) 0 (List.length L:Int) a 1 0 else Msg.mk (5 + Msg.Kind m) 0 o (l:Int) (Msg.From m) (List.length L:Int) false 0 0)=mm:=⟨_,rfl⟩
 have hu:U32 (Msg.Num mm)∧U32 (Msg.Val mm):=by
  rw [← hmmm]
  by_cases c0:o=0
  ·rw [if_pos c0];exact ⟨u0,hho⟩
  ·rw [if_neg c0]
   by_cases c1:o=Msg.From m
   ·rw [if_pos c1];exact ⟨u1,u0⟩
   ·rw [if_neg c1];exact ⟨u0,u0⟩
 obtain ⟨x,e,x1,x2,x3⟩:=zcO g3 mm hu.1 hu.2
 have g4:=zbD g3 x3
 simp only [ps,pv,pw,ph,pd,pb,pp] at x1 x2 g4
 refine ⟨o,L,E',q,a,by rw [hw];exact p1,q1,a1,x,e,by rw [hmmm];exact x1,?_,g4⟩
 unfold zgA
 simp only [hl,b1,pd,zac h2,hw,hrd,wC0,p2,b2,q2,a2,hwk,ph,zac h1]
 by_cases c0:o=0
 ·rw [if_pos c0] at hmmm
  simp only [c0,vE0,if_true,hmmm,x2,wC0]
 ·rw [if_neg c0] at hmmm
  simp only [c0,vF0,wA0,if_false]
  by_cases c1:o=Msg.From m
  ·rw [if_pos c1] at hmmm
   simp only [c1,vE0,if_true,hmmm,x2,wC0]
  ·rw [if_neg c1] at hmmm
   simp only [c1,vF0,wA0,if_false,hmmm,x2,wC0]
end Go.Proofs.YtdfohlonacbelaaGreat
