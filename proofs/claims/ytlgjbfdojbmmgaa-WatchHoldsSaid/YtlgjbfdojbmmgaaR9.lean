/- Has, Get, Set, Want and Evict, of systems made of functions. No condition. -/
import Derived.Test.YtlgjbfdojbmmgaaR8
set_option linter.unusedSimpArgs false
set_option linter.unusedVariables false
set_option maxRecDepth 100000
namespace Go.Proofs.Ytlgjbfdojbmmgaa
open Go.SX
def up2 {α:Type}(f:Nat→Nat→α) (n l:Nat) (x:α):Nat→Nat→α:=up f n (up (f n) l x)
theorem zyo {α:Type}{c h n l:Nat}{f:Nat→Nat→α}{x:α}:ls c (up (fun n=>ls h (f n)) n (ls h (up (f n) l x)))=tb c h (up2 f n l x):=by
 refine zlv fun i hi=>?_
 unfold up2
 by_cases q:i=n
 ·subst q
  rw [show up (fun n=>ls h (f n)) i (ls h (up (f i) l x)) i=ls h (up (f i) l x) from if_pos rfl,show up f i (up (f i) l x) i=up (f i) l x from if_pos rfl]
 ·rw [show up (fun n=>ls h (f n)) n (ls h (up (f n) l x)) i=ls h (f i) from if_neg q,show up f n (up (f n) l x) i=f i from if_neg q]
theorem zah {α:Type}{f:Nat→α}{n:Nat}{x:α}:up f n x n=x:=if_pos rfl
theorem zaT {α:Type}{n i:Nat}{f:Nat→α}(h:i<n):zzH (List.length (ls n f):Int) (i:Int)=some (i:Int):=by rw [za6];exact zoQ h
theorem zbC {α:Type}{c h n:Nat}{f:Nat→Nat→α}(hn:n<c):zzG (tb c h f) (n:Int)=some (ls h (f n)):=zar hn
theorem zgt {α:Type}{c h n l:Nat}{f:Nat→Nat→α}{x:α}(hn:n<c):zzI (tb c h f) (n:Int) (ls h (up (f n) l x))=some (tb c h (up2 f n l x)):=by
 rw [← zyo]
 exact za1 hn
theorem zfd {α:Type}{c h i:Nat}{f:Nat→Nat→α}(hi:i<c):zzH (List.length (tb c h f):Int) (i:Int)=some (i:Int):=zaT hi
theorem w1 {l:Nat}(h:l≤300):w64 ((l:Int) + 1)=(l:Int) + 1:=zcu (by omega) (by omega)
theorem w2 {l:Nat}(h:l≤300):w64 ((l:Int) + 1 - 1)=(l:Int):=by rw [zcu (by omega) (by omega)];omega
section
variable {c h:Nat} {S V:Nat→Nat→Int} {W:Nat→Wait} {H O:Nat→Int} {Z:Nat→Nat→Bool} {B:Nat→Int} {ms:List Msg}
theorem ziY (F:Fit c h S W O Z B ms) {n l:Nat}(hn:n<c) (hl:l<h):zcf (mkP c h S V W H O Z B ms) (n:Int) (l:Int)=some true:=by
 unfold zcf
 rw [zjr F]
 unfold mkP zaz
 simp only [wC0,if_true,pw,ph,za6,show (0:Int)≤(n:Int) by omega,show (0:Int)≤(l:Int) by omega,show (n:Int)<(c:Int) by omega,show (l:Int)<(h:Int) by omega,vE0,Bool.and_self]
def zz1 (S:Nat→Nat→Int) (W:Nat→Wait) (n l:Nat) (w:Bool):Bool:=!decide (Wait.Line (W n)=(l:Int) + 1)&&if w=true then decide (S n l=2)||decide (S n l=3) else !decide (S n l=0)
theorem zq6 (F:Fit c h S W O Z B ms) {n l:Nat}(hn:n<c) (hl:l<h) (w:Bool):ze8 (mkP c h S V W H O Z B ms) (n:Int) (l:Int) w=some (zz1 S W n l w):=by
 have:=F.h16
 unfold ze8 mkP zz1
 simp only [ps,pw,zbC hn,zar hn,zar hl,wC0,w1 (show l≤300 by omega)]
 by_cases q:Wait.Line (W n)=(l:Int) + 1
 ·simp only [q,vE0,if_true,wH0,vC1]
 ·simp only [q,vF0,wA0,if_false,vH0,vB1]
  cases w<;>rfl
theorem zxk (F:Fit c h S W O Z B ms) {n l:Nat}(hn:n<c) (hl:l<h) (w:Bool):zfe (mkP c h S V W H O Z B ms) (n:Int) (l:Int) w=some (zz1 S W n l w):=by
 unfold zfe
 simp only [ziY F hn hl,zq6 F hn hl,wC0,if_true]
theorem zx4 (F:Fit c h S W O Z B ms) {n l:Nat}(hn:n<c) (hl:l<h) (v:Int):ze2 (mkP c h S V W H O Z B ms) (n:Int) (l:Int) v=some (if zz1 S W n l true=true then (mkP c h (up2 S n l 3) (up2 V n l v) W H O Z B ms,0) else (mkP c h S V W H O Z B ms,8)):=by
 have c4:=F.c4
 have h16:=F.h16
 unfold ze2
 simp only [ziY F hn hl,zq6 F hn hl,wC0]
 unfold mkP
 simp only [ps,pv,pw,ph,pd,pb,pp,cp4 c4 h16,cp3 c4 h16,cp2 c4 h16,cp1 F.ln,cl (n:=c) (b:=40) (by omega) (by omega),cl (n:=h) (b:=4) (by omega) (by omega),cl (n:=h) (b:=8) (by omega) (by omega),wC0,wH0,wA0,if_false]
 cases zz1 S W n l true
 ·rfl
 ·simp only [wH0,wA0,if_false,if_true,zfd hn,zbC hn,zaT hl,za1 hl,zgt hn,wC0]
  rfl
theorem zrs {ms:List Msg}(h:ms.length≤64):zcr (pl ms)=some (64 - (ms.length:Int)):=by
 rw [zkb _ (by rw [zep];omega),if_pos (ziV h),zep]
def zAe (n l:Nat) (w:Bool):Msg:=Msg.mk (if w=true then 2 else 1) ((n:Int) + 1) 0 (l:Int) ((n:Int) + 1) 0 false 0 0
def zAd (n l:Nat) (v:Int):Msg:=Msg.mk 8 ((n:Int) + 1) 0 (l:Int) 0 0 false 0 v
def zz9 (l:Nat) (w b:Bool):Wait:=Wait.mk ((l:Int) + 1) w b false false false 0 0 0
theorem zot {n l:Nat}(hn:n<4) (hl:l<16) (w:Bool):zdo (zAe n l w):=by
 cases w<;>refine ⟨?_,?_,?_,?_,?_,?_,u0,u0⟩<;>simp only [zAe,Msg.Kind_mk,Msg.From_mk,Msg.To_mk,Msg.Line_mk,Msg.For_mk,Msg.Acks_mk,if_true,wA0,if_false]<;>omega
theorem zn9 {n l:Nat}(hn:n<4) (hl:l<16) {v:Int}(hv:U32 v):zdo (zAd n l v):=by
 refine ⟨?_,?_,?_,?_,?_,?_,u0,hv⟩<;>simp only [zAd,Msg.Kind_mk,Msg.From_mk,Msg.To_mk,Msg.Line_mk,Msg.For_mk,Msg.Acks_mk]<;>omega
theorem zvJ (F:Fit c h S W O Z B ms) {n l:Nat}(hn:n<c) (hl:l<h) (w:Bool):zcM (mkP c h S V W H O Z B ms) (n:Int) (l:Int) w =
  some (if 0<Wait.Line (W n)∨zz1 S W n l w=true then (mkP c h S V W H O Z B ms,8) else if ms.length=64 then (mkP c h S V W H O Z B ms,6) else (mkP c h S V (up W n (zz9 l w false)) H O Z B (ms++[zAe n l w]),0)):=by
 have c4:=F.c4
 have h16:=F.h16
 have ln:=F.ln
 unfold zcM
 simp only [ziY F hn hl,zq6 F hn hl,wC0]
 unfold mkP
 simp only [ps,pv,pw,ph,pd,pb,pp,cp4 c4 h16,cp3 c4 h16,cp2 c4 h16,cp1 F.ln,cl (n:=c) (b:=40) (by omega) (by omega),cl (n:=h) (b:=4) (by omega) (by omega),cl (n:=h) (b:=8) (by omega) (by omega),wC0,wH0,wA0,if_false,zar hn,zrs ln]
 by_cases q:0<Wait.Line (W n)
 ·simp only [q,vE0,if_true,wC0,true_or]
  rfl
 simp only [q,vF0,wA0,if_false,wC0,false_or]
 cases zz1 S W n l w
 rotate_left
 ·rfl
 by_cases r:ms.length=64
 ·simp only [r,wA0,if_false,show (64:Int) - ((64:Nat):Int)=0 by omega,vE0,if_true]
  rfl
 have M:=zot (n:=n) (l:=l) (by omega) (by omega) w
 have sd:=zbK (ms:=ms) M (by omega)
 unfold zAe at sd
 simp only [wA0,if_false,r,show ¬ (64:Int) - (ms.length:Int)=0 by omega,vF0,zaT hn,za1 hn,zar hn,zah,wC0,w1 (show l≤300 by omega),w1 (show n≤300 by omega),Wait.Line_mk,Wait.Back_mk,Wait.Write_mk,w2 (show l≤300 by omega)]
 cases w
 ·simp only [cond_false,wA0,if_false] at sd ⊢
  rw [show Pool.mk (Pool.Frames (pl ms))=pl ms from rfl,sd]
  rfl
 ·simp only [cond_true,if_true] at sd ⊢
  rw [show Pool.mk (Pool.Frames (pl ms))=pl ms from rfl,show (Msg.setKind (Msg.mk (1:Int) ((n:Int) + 1) 0 (l:Int) ((n:Int) + 1) 0 false 0 0) 2)=Msg.mk (2:Int) ((n:Int) + 1) 0 (l:Int) ((n:Int) + 1) 0 false 0 0 from rfl,sd]
  rfl
theorem zuh (F:Fit c h S W O Z B ms) {n l:Nat}(hn:n<c) (hl:l<h) (hv:U32 (V n l)):zca (mkP c h S V W H O Z B ms) (n:Int) (l:Int) =
  some (if 0<Wait.Line (W n)∨S n l=0 then (mkP c h S V W H O Z B ms,8) else if S n l=1 then (mkP c h (up2 S n l 0) V W H O Z B ms,0) else if ms.length=64 then (mkP c h S V W H O Z B ms,6) else (mkP c h S V (up W n (zz9 l false true)) H O Z B (ms++[zAd n l (V n l)]),0)):=by
 have c4:=F.c4
 have h16:=F.h16
 have ln:=F.ln
 unfold zca
 simp only [ziY F hn hl,wC0]
 unfold mkP
 simp only [e1,e2,e3,e4,ps,pv,pw,ph,pd,pb,pp,cp4 c4 h16,cp3 c4 h16,cp2 c4 h16,cp1 F.ln,cl (n:=c) (b:=40) (by omega) (by omega),cl (n:=h) (b:=4) (by omega) (by omega),cl (n:=h) (b:=8) (by omega) (by omega),wC0,wH0,wA0,if_false,zar hn,zbC hn,zar hl,zrs ln]
 by_cases q:0<Wait.Line (W n)
 ·simp only [q,vE0,if_true,wC0,true_or]
  rfl
 simp only [q,vF0,wA0,if_false,wC0,false_or]
 by_cases q0:S n l=0
 ·simp only [q0,vE0,if_true]
  rfl
 simp only [q0,vF0,wA0,if_false]
 by_cases q1:S n l=1
 ·simp only [q1,vE0,if_true,zfd hn,zbC hn,zaT hl,za1 hl,zgt hn,wC0]
  rfl
 simp only [q1,vF0,wA0,if_false]
 by_cases r:ms.length=64
 ·simp only [r,wA0,if_false,show (64:Int) - ((64:Nat):Int)=0 by omega,vE0,if_true]
  rfl
 have M:=zn9 (n:=n) (l:=l) (by omega) (by omega) hv
 have sd:=zbK (ms:=ms) M (by omega)
 unfold zAd at sd
 simp only [wA0,if_false,r,show ¬ (64:Int) - (ms.length:Int)=0 by omega,vF0,zaT hn,za1 hn,zar hn,zah,wC0,w1 (show l≤300 by omega),w1 (show n≤300 by omega),Wait.Line_mk,Wait.Back_mk,Wait.Write_mk,w2 (show l≤300 by omega),if_true,Msg.Line_mk,zfd hn,zbC hn,zaT hl,zar hl]
 rw [show Pool.mk (Pool.Frames (pl ms))=pl ms from rfl,show Msg.setVal (Msg.setFor (Msg.setKind (Msg.mk (1:Int) ((n:Int) + 1) 0 (l:Int) ((n:Int) + 1) 0 false 0 0) 8) 0) (V n l)=Msg.mk 8 ((n:Int) + 1) 0 (l:Int) 0 0 false 0 (V n l) from rfl,sd]
 rfl
end
end Go.Proofs.Ytlgjbfdojbmmgaa
