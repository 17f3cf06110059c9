/- A system and its lines; a change of one line. No condition. -/
import Derived.Test.YtlgjbfdojbmmgaaRE
set_option linter.unusedSimpArgs false
set_option linter.unusedVariables false
set_option maxRecDepth 100000
namespace Go.Proofs.Ytlgjbfdojbmmgaa
open Go.SX
def s4 (f:Nat→Nat):Nat:=f 0 + f 1 + f 2 + f 3
theorem ztA {f g:Nat→Nat}{n:Nat}(hn:n<4) (h:∀ k,k≠n→g k=f k):s4 g + f n=s4 f + g n:=by
 unfold s4
 have:n=0∨n=1∨n=2∨n=3:=by omega
 rcases this with rfl|rfl|rfl|rfl<;>have h0:=h 0<;>have h1:=h 1<;>have h2:=h 2<;>have h3:=h 3<;>omega
theorem zui {f g:Nat→Nat}(h:∀ k,k<4→g k=f k):s4 g=s4 f:=by
 unfold s4
 rw [h 0 (by omega),h 1 (by omega),h 2 (by omega),h 3 (by omega)]
noncomputable instance:DecidableEq Msg:=fun a b=>Classical.propDecidable (a=b)
noncomputable def io (o:Option Msg) (x:Msg):Nat:=if o=some x then 1 else 0
def tkS (A:AL) (l n:Nat):Option Msg :=
 if A.tk n=0 then none else if A.tk n=1 then some (if A.wk n=3 then zAd n l (A.tv n) else zAe n l (decide (A.wk n=2))) else if A.tk n=2 then some (zAs n l) else some (zAk n l)
def phS (A:AL) (l:Nat):Option Msg :=
 if A.ph=1 then some (zz8 A.fo (A.bu - 1) l A.ac false) else if A.ph=2 then some (zz8 A.fo (A.bu - 1) l A.ac true) else if A.ph=3 then some (zzU A.sr (A.bu - 1) l A.ac A.own A.kp A.pv) else if A.ph=5 then some (zjG (A.bu - 1) l) else none
def pdS (A:AL) (l n:Nat):Option Msg :=
 if A.pd n=0 then none else if A.pd n=1 then some (zAC l (A.bu - 1) n) else some (Msg.mk 5 ((n:Int) + 1) (((A.bu - 1:Nat):Int) + 1) (l:Int) 0 0 false 0 0)
noncomputable def cA (A:AL) (l:Nat) (x:Msg):Nat:=s4 (fun n=>io (tkS A l n) x) + io (phS A l) x + s4 (fun n=>io (pdS A l n) x)
theorem zwK {A:AL}{l:Nat}{x:Msg}(h:0<cA A l x):(∃ n,n<4∧tkS A l n=some x)∨phS A l=some x∨∃ n,n<4∧pdS A l n=some x:=by
 have q:∀ f:Nat→Option Msg,0<s4 (fun n=>io (f n) x)→∃ n,n<4∧f n=some x:=fun f hf=>by
  by_cases a0:f 0=some x
  ·exact ⟨0,by omega,a0⟩
  by_cases a1:f 1=some x
  ·exact ⟨1,by omega,a1⟩
  by_cases a2:f 2=some x
  ·exact ⟨2,by omega,a2⟩
  by_cases a3:f 3=some x
  ·exact ⟨3,by omega,a3⟩
  unfold s4 io at hf
  dsimp only at hf
  rw [if_neg a0,if_neg a1,if_neg a2,if_neg a3] at hf
  omega
 unfold cA at h
 by_cases h1:0<s4 (fun n=>io (tkS A l n) x)
 ·exact .inl (q _ h1)
 by_cases h2:phS A l=some x
 ·exact .inr (.inl h2)
 have:io (phS A l) x=0:=if_neg h2
 exact .inr (.inr (q _ (by omega)))
def wOf (A:AL) (l n:Nat):Wait :=
 if A.bu=n + 1∧A.ph≤4 then Wait.mk ((l:Int) + 1) (decide (A.wk n=2)) false (decide (A.ph=4)) (decide (A.ph=4)&&A.own) (decide (A.ph=4)&&A.kp) (if A.ph=4 then (A.ac:Int) else 0) (A.got:Int) (if A.ph=4 then A.pv else 0)
 else zz9 l (decide (A.wk n=2)) (decide (A.wk n=3))
theorem zhj (A:AL) (l n:Nat):Wait.Line (wOf A l n)=(l:Int) + 1:=by unfold wOf zz9;split<;>rfl
def pr (c h:Nat) (A:Nat→AL) (W:Nat→Wait) (ms:List Msg):Proto :=
 mkP c h (fun n l=>((A l).st n:Int)) (fun n l=>(A l).va n) W (fun l=>(A l).ho) (fun l=>((A l).ow:Int)) (fun l=>(A l).sh) (fun l=>((A l).bu:Int)) ms
structure Ok (c h:Nat) (A:Nat→AL) (W:Nat→Wait) (ms:List Msg) (v:Nat→Int):Prop where
 c1:1≤c
 c4:c≤4
 h1:1≤h
 h16:h≤16
 lv:∀ l,l<h→Lv c (A l) (v l)
 w1:∀ l n,l<h→n<c→(A l).wk n≠0→W n=wOf (A l) l n
 w0:∀ n,n<c→(∀ l,l<h→(A l).wk n=0)→W n=w00
 ln:ms.length≤64
 mo:∀ m∈ms,zdo m
 lo:∀ m∈ms,∃ l,l<h∧Msg.Line m=(l:Int)
 ct:∀ l,l<h→∀ x,Msg.Line x=(l:Int)→ms.count x=cA (A l) l x
theorem zvn {c h l n:Nat}{A:AL}{v:Int}(i:Iv c A v) (hl:l<h):zmB h (wOf A l n)=true:=by
 have:=i.a4
 unfold wOf zz9
 split
 ·refine zqu.2 ⟨?_,?_,?_⟩<;>simp only [Wait.Line_mk,Wait.Need_mk,Wait.Got_mk]
  ·omega
  ·split<;>omega
  ·omega
 ·refine zqu.2 ⟨?_,?_,?_⟩<;>simp only [Wait.Line_mk,Wait.Need_mk,Wait.Got_mk]<;>omega
theorem Ok.fit {c h:Nat}{A:Nat→AL}{W:Nat→Wait}{ms:List Msg}{v:Nat→Int}(K:Ok c h A W ms v):Fit c h (fun n l=>((A l).st n:Int)) W (fun l=>((A l).ow:Int)) (fun l=>(A l).sh) (fun l=>((A l).bu:Int)) ms:=by
 refine ⟨K.c1,K.c4,K.h1,K.h16,fun n l hn hl=>?_,fun n hn=>?_,fun l hl=>?_,fun l hl=>?_,K.ln⟩
 ·have:=((K.lv l hl).iv.s4 n).1
  omega
 ·by_cases q:∃ l,l<h∧(A l).wk n≠0
  ·obtain ⟨l,hl,hw⟩:=q
   rw [K.w1 l n hl hn hw]
   exact zvn (K.lv l hl).iv hl
  ·rw [K.w0 n hn fun l hl=>by
    by_cases r:(A l).wk n=0
    ·exact r
    ·exact absurd ⟨l,hl,r⟩ q]
   exact zxO h
 ·have i:=(K.lv l hl).iv
  refine ⟨by omega,by have:=i.bz.2.2.2;omega,fun n hn=>i.so n (by omega)⟩
 ·have:=(K.lv l hl).iv.bz.2.1
  omega
theorem Ok.upd {c h:Nat}{A:Nat→AL}{W:Nat→Wait}{ms:List Msg}{v:Nat→Int}(K:Ok c h A W ms v) {l:Nat}(hl:l<h) {B:AL}{W':Nat→Wait}{ms':List Msg}{y:Int}(lv:Lv c B y)
  (a1:∀ k,k<c→B.wk k≠0→W' k=wOf B l k) (a2:∀ k,k<c→B.wk k=0→(A l).wk k≠0→W' k=w00) (a3:∀ k,k<c→B.wk k=0→(A l).wk k=0→W' k=W k)
  (a4:∀ k,k<c→B.wk k≠0→(A l).wk k=0→∀ j,j<h→(A j).wk k=0) (ln:ms'.length≤64) (mo:∀ m∈ms',m∈ms∨zdo m∧Msg.Line m=(l:Int))
  (ct:∀ x,Msg.Line x=(l:Int)→ms'.count x=cA B l x) (co:∀ x,Msg.Line x≠(l:Int)→ms'.count x=ms.count x):Ok c h (up A l B) W' ms' (up v l y):=by
 have ul:up A l B l=B:=zah
 have uo:∀ j,j≠l→up A l B j=A j:=fun j hj=>if_neg hj
 have one:∀ j k,j<h→k<c→j≠l→(A j).wk k≠0→(A l).wk k=0:=fun j k hj hk hne hw=>by
  by_cases q:(A l).wk k=0
  ·exact q
  ·have e1:=K.w1 j k hj hk hw
   rw [K.w1 l k hl hk q] at e1
   have:=congrArg Wait.Line e1
   rw [zhj,zhj] at this
   omega
 refine ⟨K.c1,K.c4,K.h1,K.h16,fun j hj=>?_,fun j n hj hn hw=>?_,fun n hn h0=>?_,ln,fun m hm=>?_,fun m hm=>?_,fun j hj x hx=>?_⟩
 ·by_cases q:j=l
  ·subst q;rw [ul,zah];exact lv
  ·rw [uo j q,show up v l y j=v j from if_neg q];exact K.lv j hj
 ·by_cases q:j=l
  ·subst q;rw [ul] at hw ⊢;exact a1 n hn hw
  ·rw [uo j q] at hw ⊢
   have z:=one j n hj hn q hw
   by_cases r:B.wk n=0
   ·rw [a3 n hn r z];exact K.w1 j n hj hn hw
   ·exact absurd (a4 n hn r z j hj) hw
 ·have hb:B.wk n=0:=by have:=h0 l hl;rw [ul] at this;exact this
  by_cases r:(A l).wk n=0
  ·rw [a3 n hn hb r]
   refine K.w0 n hn fun j hj=>?_
   by_cases q:j=l
   ·subst q;exact r
   ·have:=h0 j hj;rw [uo j q] at this;exact this
  ·exact a2 n hn hb r
 ·rcases mo m hm with q|q
  ·exact K.mo m q
  ·exact q.1
 ·rcases mo m hm with q|q
  ·exact K.lo m q
  ·exact ⟨l,hl,q.2⟩
 ·by_cases q:j=l
  ·subst q;rw [ul];exact ct x hx
  ·rw [uo j q,co x (by omega)];exact K.ct j hj x hx
theorem zs7 {c h l:Nat}{A:Nat→AL}{B:AL}{S V:Nat→Nat→Int}{W:Nat→Wait}{H Bu:Nat→Int}{D:Nat→Entry}{ms:List Msg}
  (hs:∀ n j,n<c→j<h→S n j=((up A l B j).st n:Int)) (hv:∀ n j,n<c→j<h→V n j=(up A l B j).va n) (hh:∀ j,j<h→H j=(up A l B j).ho)
  (hd:∀ j,j<h→D j=Entry.mk ((up A l B j).ow:Int) (ls c (up A l B j).sh)) (hb:∀ j,j<h→Bu j=((up A l B j).bu:Int)) :
  Proto.mk (tb c h S) (tb c h V) (ls c W) (ls h H) (ls h D) (ls h Bu) (pl ms)=pr c h (up A l B) W ms:=by
 unfold pr mkP
 rw [zxa hs,zxa hv,zlv hh,zlv hd,zlv hb]
end Go.Proofs.Ytlgjbfdojbmmgaa
