/- Deliver, of systems made of functions. No condition. -/
import Derived.Test.YtlgjbfdojbmmgaaRC
set_option linter.unusedSimpArgs false
set_option linter.unusedVariables false
set_option maxRecDepth 100000
namespace Go.Proofs.Ytlgjbfdojbmmgaa
open Go.SX
section
variable {c h:Nat} {S V:Nat→Nat→Int} {W:Nat→Wait} {H O:Nat→Int} {Z:Nat→Nat→Bool} {B:Nat→Int} {ms:List Msg}
theorem zby {α:Type}{ms:List α}{k:Nat}(hk:k<ms.length):(ms.eraseIdx k).length=ms.length - 1:=by rw [List.length_eraseIdx,if_pos hk]
theorem zpL (F:Fit c h S W O Z B ms) {k:Int}(hk:k<0∨(ms.length:Int)≤k):zax (mkP c h S V W H O Z B ms) k=some (mkP c h S V W H O Z B ms,7):=by
 have c4:=F.c4
 have h16:=F.h16
 obtain ⟨q,m,t⟩:=zxI F.ln hk
 have hR:=zjr (V:=V) (H:=H) F
 rw [zlq]
 unfold mkP at hR ⊢
 simp only [d2,d3,d4,d5,ps,pv,pw,ph,pd,pb,pp,cp4 c4 h16,cp3 c4 h16,cp2 c4 h16,cp1 F.ln,cl (n:=c) (b:=40) (by omega) (by omega),cl (n:=h) (b:=4) (by omega) (by omega),cl (n:=h) (b:=8) (by omega) (by omega),wC0,hR,wH0,wA0,if_false,t,vE0,if_true]
 rfl
theorem zfU (F:Fit c h S W O Z B ms) (hm:∀ m∈ms,zdo m) {k:Nat}(hk:k<ms.length) (m:Msg) (e:ms[k]=m) :
  (64<ms.length + c→zax (mkP c h S V W H O Z B ms) (k:Int)=some (mkP c h S V W H O Z B ms,6)) ∧
  (ms.length + c≤64→∀ (l n:Nat),l<h→n<c→Msg.Line m=(l:Int)→Msg.From m≤(c:Int)→Msg.For m≤(c:Int) →
   (Msg.To m=(n:Int) + 1→∀ q s v x,zey (pl (ms.eraseIdx k)) m (tb c h S) (tb c h V) (ls c W) (n:Int)=some (q,s,v,x)→zax (mkP c h S V W H O Z B ms) (k:Int)=some (Proto.mk s v x (ls h H) (ls h (dr c O Z)) (ls h B) q,0)) ∧
   (Msg.To m=0→Msg.From m=(n:Int) + 1→∀ q o d b,zgl (pl (ms.eraseIdx k)) m (ls h H) (ls h (dr c O Z)) (ls h B)=some (q,o,d,b)→zax (mkP c h S V W H O Z B ms) (k:Int)=some (Proto.mk (tb c h S) (tb c h V) (ls c W) o d b q,0))):=by
 have c4:=F.c4
 have h16:=F.h16
 have hln:=F.ln
 have t:=zxJ hm hln hk
 rw [e] at t
 have M:=hm _ (List.getElem_mem hk)
 rw [e] at M
 have hR:=zjr (V:=V) (H:=H) F
 have he:=zby hk
 have hrm:=zrs (ms:=ms.eraseIdx k) (by omega)
 rw [zlq]
 unfold mkP at hR ⊢
 simp only [d2,d3,d4,d5,ps,pv,pw,ph,pd,pb,pp,cp4 c4 h16,cp3 c4 h16,cp2 c4 h16,cp1 F.ln,cl (n:=c) (b:=40) (by omega) (by omega),cl (n:=h) (b:=4) (by omega) (by omega),cl (n:=h) (b:=8) (by omega) (by omega),wC0,hR,wH0,wA0,if_false,t,show decide ((0:Int)=7)=false from rfl,hrm]
 simp only [za6,w1 (show c≤300 by omega)]
 refine ⟨fun hr=>?_,fun hr l n hl hn h1 h2 h3=>?_⟩
 ·simp only [show 64 - (((ms.eraseIdx k).length:Nat):Int)<(c:Int) + 1 by omega,vE0,if_true]
  rfl
 simp only [show ¬ 64 - (((ms.eraseIdx k).length:Nat):Int)<(c:Int) + 1 by omega,vF0,wA0,if_false,vE0,wH0,Bool.false_or]
 constructor
 ·intro ht q s v x hc
  have fit:zcz (Proto.mk (tb c h S) (tb c h V) (ls c W) (ls h H) (ls h fun l=>Entry.mk (O l) (ls c (Z l))) (ls h B) (pl ms)) m=true:=by
   unfold zcz
   rw [pw,ph,za6,za6]
   simp only [wD0,vG0]
   omega
  simp only [fit,wH0,wA0,if_false,show (0:Int)<Msg.To m by omega,vE0,if_true,show w64 (Msg.To m - 1)=(n:Int) by rw [ht,w2 (by omega)],hc,wC0]
  rfl
 ·intro ht hf q o d b hc
  have fit:zcz (Proto.mk (tb c h S) (tb c h V) (ls c W) (ls h H) (ls h fun l=>Entry.mk (O l) (ls c (Z l))) (ls h B) (pl ms)) m=true:=by
   unfold zcz
   rw [pw,ph,za6,za6]
   simp only [wD0,vG0]
   omega
  have hc':zgl (pl (ms.eraseIdx k)) m (ls h H) (ls h fun l=>Entry.mk (O l) (ls c (Z l))) (ls h B)=some (q,o,d,b):=hc
  simp only [fit,wH0,wA0,if_false,show ¬ (0:Int)<Msg.To m by omega,show (0:Int)<Msg.From m by omega,vE0,vF0,if_true,hc',wC0]
end
end Go.Proofs.Ytlgjbfdojbmmgaa
