/- Has, Get, Set, Want and Evict, of systems made of functions. No condition. -/
import Derived.Test.YtlgjbfdojbmmgaaR8
set_option linter.unusedSimpArgs false
set_option linter.unusedVariables false
set_option maxRecDepth 100000
namespace Go.Proofs.Ytlgjbfdojbmmgaa
open Go.SX
def up2 {α:Type}(f:Nat→Nat→α) (n l:Nat) (x:α):Nat→Nat→α:=up f n (up (f n) l x)
theorem zyd {α:Type}{c h n l:Nat}{f:Nat→Nat→α}{x:α}:ls c (up (fun n=>ls h (f n)) n (ls h (up (f n) l x)))=tb c h (up2 f n l x):=by
 refine zkx fun i hi=>?_
 unfold up2
 by_cases q:i=n
 ·subst q
  rw [show up (fun n=>ls h (f n)) i (ls h (up (f i) l x)) i=ls h (up (f i) l x) from if_pos rfl,show up f i (up (f i) l x) i=up (f i) l x from if_pos rfl]
 ·rw [show up (fun n=>ls h (f n)) n (ls h (up (f n) l x)) i=ls h (f i) from if_neg q,show up f n (up (f n) l x) i=f i from if_neg q]
theorem zad {α:Type}{f:Nat→α}{n:Nat}{x:α}:up f n x n=x:=if_pos rfl
theorem zaU {α:Type}{n i:Nat}{f:Nat→α}(h:i<n):idxO (List.length (ls n f):Int) (i:Int)=some (i:Int):=by rw [zaW];exact zjl h
theorem zby {α:Type}{c h n:Nat}{f:Nat→Nat→α}(hn:n<c):getO (tb c h f) (n:Int)=some (ls h (f n)):=zaq hn
theorem zf3 {α:Type}{c h n l:Nat}{f:Nat→Nat→α}{x:α}(hn:n<c):setO (tb c h f) (n:Int) (ls h (up (f n) l x))=some (tb c h (up2 f n l x)):=by
 rw [← zyd]
 exact zaY hn
theorem zeG {α:Type}{c h i:Nat}{f:Nat→Nat→α}(hi:i<c):idxO (List.length (tb c h f):Int) (i:Int)=some (i:Int):=zaU hi
theorem w1 {l:Nat}(h:l≤300):w64 ((l:Int) + 1)=(l:Int) + 1:=zcf (by omega) (by omega)
theorem w2 {l:Nat}(h:l≤300):w64 ((l:Int) + 1 - 1)=(l:Int):=by rw [zcf (by omega) (by omega)];omega
section
variable {c h:Nat} {S V:Nat→Nat→Int} {W:Nat→Wait} {H O:Nat→Int} {Z:Nat→Nat→Bool} {B:Nat→Int} {ms:List Msg}
theorem ziJ (F:Fit c h S W O Z B ms) {n l:Nat}(hn:n<c) (hl:l<h):zb4 (mkP c h S V W H O Z B ms) (n:Int) (l:Int)=some true:=by
 unfold zb4
 rw [zlt F]
 unfold mkP zay
 simp only [wC0,if_true,pw,ph,zaW,show (0:Int)≤(n:Int) by omega,show (0:Int)≤(l:Int) by omega,show (n:Int)<(c:Int) by omega,show (l:Int)<(h:Int) by omega,vE0,Bool.and_self]
def hasF (S:Nat→Nat→Int) (W:Nat→Wait) (n l:Nat) (w:Bool):Bool:=!decide (Wait.Line (W n)=(l:Int) + 1)&&if w=true then decide (S n l=2)||decide (S n l=3) else !decide (S n l=0)
theorem zqJ (F:Fit c h S W O Z B ms) {n l:Nat}(hn:n<c) (hl:l<h) (w:Bool):zew (mkP c h S V W H O Z B ms) (n:Int) (l:Int) w=some (hasF S W n l w):=by
 have:=F.h16
 unfold zew mkP hasF
 simp only [ps,pw,zby hn,zaq hn,zaq hl,wC0,w1 (show l≤300 by omega)]
 by_cases q:Wait.Line (W n)=(l:Int) + 1
 ·simp only [q,vE0,if_true,wH0,vC1]
 ·simp only [q,vF0,wA0,if_false,vH0,vB1]
  cases w<;>rfl
theorem zxq (F:Fit c h S W O Z B ms) {n l:Nat}(hn:n<c) (hl:l<h):zgu (mkP c h S V W H O Z B ms) (n:Int) (l:Int)=some (if hasF S W n l false=true then (V n l,0) else (0,8)):=by
 unfold zgu
 simp only [ziJ F hn hl,zqJ F hn hl,wC0]
 unfold mkP
 simp only [pv,zby hn,zaq hl,wC0]
 cases hasF S W n l false<;>rfl
theorem zxa (F:Fit c h S W O Z B ms) {n l:Nat}(hn:n<c) (hl:l<h) (v:Int):zex (mkP c h S V W H O Z B ms) (n:Int) (l:Int) v=some (if hasF S W n l true=true then (mkP c h (up2 S n l 3) (up2 V n l v) W H O Z B ms,0) else (mkP c h S V W H O Z B ms,8)):=by
 have c4:=F.c4
 have h16:=F.h16
 unfold zex
 simp only [ziJ F hn hl,zqJ F hn hl,wC0]
 unfold mkP
 simp only [ps,pv,pw,ph,pd,pb,pp,cp4 c4 h16,cp3 c4 h16,cp2 c4 h16,cp1 F.ln,cl (n:=c) (b:=40) (by omega) (by omega),cl (n:=h) (b:=4) (by omega) (by omega),cl (n:=h) (b:=8) (by omega) (by omega),wC0,wH0,wA0,if_false]
 cases hasF S W n l true
 ·rfl
 ·simp only [wH0,wA0,if_false,if_true,zeG hn,zby hn,zaU hl,zaY hl,zf3 hn,wC0]
  rfl
theorem zpX {ms:List Msg}(h:ms.length≤64):zcj (pl ms)=some (64 - (ms.length:Int)):=by
 rw [zjU _ (by rw [zfF];omega),if_pos (ziE h),zfF]
def askM (n l:Nat) (w:Bool):Msg:=Msg.mk (if w=true then 2 else 1) ((n:Int) + 1) 0 (l:Int) ((n:Int) + 1) 0 false 0 0
def putM (n l:Nat) (v:Int):Msg:=Msg.mk 8 ((n:Int) + 1) 0 (l:Int) 0 0 false 0 v
def wAsk (l:Nat) (w b:Bool):Wait:=Wait.mk ((l:Int) + 1) w b false false false 0 0 0
theorem zob {n l:Nat}(hn:n<4) (hl:l<16) (w:Bool):zdd (askM n l w):=by
 cases w<;>refine ⟨?_,?_,?_,?_,?_,?_,u0,u0⟩<;>simp only [askM,Msg.Kind_mk,Msg.From_mk,Msg.To_mk,Msg.Line_mk,Msg.For_mk,Msg.Acks_mk,if_true,wA0,if_false]<;>omega
theorem znY {n l:Nat}(hn:n<4) (hl:l<16) {v:Int}(hv:U32 v):zdd (putM n l v):=by
 refine ⟨?_,?_,?_,?_,?_,?_,u0,hv⟩<;>simp only [putM,Msg.Kind_mk,Msg.From_mk,Msg.To_mk,Msg.Line_mk,Msg.For_mk,Msg.Acks_mk]<;>omega
theorem zrQ (F:Fit c h S W O Z B ms) {n l:Nat}(hn:n<c) (hl:l<h) (w:Bool):zbx (mkP c h S V W H O Z B ms) (n:Int) (l:Int) w =
  some (if 0<Wait.Line (W n)∨hasF S W n l w=true then (mkP c h S V W H O Z B ms,8) else if ms.length=64 then (mkP c h S V W H O Z B ms,6) else (mkP c h S V (up W n (wAsk l w false)) H O Z B (ms++[askM n l w]),0)):=by
 have c4:=F.c4
 have h16:=F.h16
 have ln:=F.ln
 unfold zbx
 simp only [ziJ F hn hl,zqJ F hn hl,wC0]
 unfold mkP
 simp only [ps,pv,pw,ph,pd,pb,pp,cp4 c4 h16,cp3 c4 h16,cp2 c4 h16,cp1 F.ln,cl (n:=c) (b:=40) (by omega) (by omega),cl (n:=h) (b:=4) (by omega) (by omega),cl (n:=h) (b:=8) (by omega) (by omega),wC0,wH0,wA0,if_false,zaq hn,zpX ln]
 by_cases q:0<Wait.Line (W n)
 ·simp only [q,vE0,if_true,wC0,true_or]
  rfl
 simp only [q,vF0,wA0,if_false,wC0,false_or]
 cases hasF S W n l w
 rotate_left
 ·rfl
 by_cases r:ms.length=64
 ·simp only [r,wA0,if_false,show (64:Int) - ((64:Nat):Int)=0 by omega,vE0,if_true]
  rfl
 have M:=zob (n:=n) (l:=l) (by omega) (by omega) w
 have sd:=zbN (ms:=ms) M (by omega)
 unfold askM at sd
 simp only [wA0,if_false,r,show ¬ (64:Int) - (ms.length:Int)=0 by omega,vF0,zaU hn,zaY hn,zaq hn,zad,wC0,w1 (show l≤300 by omega),w1 (show n≤300 by omega),Wait.Line_mk,Wait.Back_mk,Wait.Write_mk,w2 (show l≤300 by omega)]
 cases w
 ·simp only [cond_false,wA0,if_false] at sd ⊢
  rw [show Pool.mk (Pool.Frames (pl ms))=pl ms from rfl,sd]
  rfl
 ·simp only [cond_true,if_true] at sd ⊢
  rw [show Pool.mk (Pool.Frames (pl ms))=pl ms from rfl,show (Msg.setKind (Msg.mk (1:Int) ((n:Int) + 1) 0 (l:Int) ((n:Int) + 1) 0 false 0 0) 2)=Msg.mk (2:Int) ((n:Int) + 1) 0 (l:Int) ((n:Int) + 1) 0 false 0 0 from rfl,sd]
  rfl
theorem ztv (F:Fit c h S W O Z B ms) {n l:Nat}(hn:n<c) (hl:l<h) (hv:U32 (V n l)):zbL (mkP c h S V W H O Z B ms) (n:Int) (l:Int) =
  some (if 0<Wait.Line (W n)∨S n l=0 then (mkP c h S V W H O Z B ms,8) else if S n l=1 then (mkP c h (up2 S n l 0) V W H O Z B ms,0) else if ms.length=64 then (mkP c h S V W H O Z B ms,6) else (mkP c h S V (up W n (wAsk l false true)) H O Z B (ms++[putM n l (V n l)]),0)):=by
 have c4:=F.c4
 have h16:=F.h16
 have ln:=F.ln
 unfold zbL
 simp only [ziJ F hn hl,wC0]
 unfold mkP
 simp only [e1,e2,e3,e4,ps,pv,pw,ph,pd,pb,pp,cp4 c4 h16,cp3 c4 h16,cp2 c4 h16,cp1 F.ln,cl (n:=c) (b:=40) (by omega) (by omega),cl (n:=h) (b:=4) (by omega) (by omega),cl (n:=h) (b:=8) (by omega) (by omega),wC0,wH0,wA0,if_false,zaq hn,zby hn,zaq hl,zpX ln]
 by_cases q:0<Wait.Line (W n)
 ·simp only [q,vE0,if_true,wC0,true_or]
  rfl
 simp only [q,vF0,wA0,if_false,wC0,false_or]
 by_cases q0:S n l=0
 ·simp only [q0,vE0,if_true]
  rfl
 simp only [q0,vF0,wA0,if_false]
 by_cases q1:S n l=1
 ·simp only [q1,vE0,if_true,zeG hn,zby hn,zaU hl,zaY hl,zf3 hn,wC0]
  rfl
 simp only [q1,vF0,wA0,if_false]
 by_cases r:ms.length=64
 ·simp only [r,wA0,if_false,show (64:Int) - ((64:Nat):Int)=0 by omega,vE0,if_true]
  rfl
 have M:=znY (n:=n) (l:=l) (by omega) (by omega) hv
 have sd:=zbN (ms:=ms) M (by omega)
 unfold putM at sd
 simp only [wA0,if_false,r,show ¬ (64:Int) - (ms.length:Int)=0 by omega,vF0,zaU hn,zaY hn,zaq hn,zad,wC0,w1 (show l≤300 by omega),w1 (show n≤300 by omega),Wait.Line_mk,Wait.Back_mk,Wait.Write_mk,w2 (show l≤300 by omega),if_true,Msg.Line_mk,zeG hn,zby hn,zaU hl,zaq hl]
 rw [show Pool.mk (Pool.Frames (pl ms))=pl ms from rfl,show Msg.setVal (Msg.setFor (Msg.setKind (Msg.mk (1:Int) ((n:Int) + 1) 0 (l:Int) ((n:Int) + 1) 0 false 0 0) 8) 0) (V n l)=Msg.mk 8 ((n:Int) + 1) 0 (l:Int) 0 0 false 0 (V n l) from rfl,sd]
 rfl
end
end Go.Proofs.Ytlgjbfdojbmmgaa
