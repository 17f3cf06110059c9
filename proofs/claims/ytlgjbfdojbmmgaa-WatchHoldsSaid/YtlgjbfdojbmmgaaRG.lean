/- A delivery changes one line. No condition. -/
import Derived.Test.YtlgjbfdojbmmgaaRF
set_option linter.unusedSimpArgs false
set_option linter.unusedVariables false
set_option maxRecDepth 100000
namespace Go.Proofs.Ytlgjbfdojbmmgaa
open Go.SX
theorem cnt1 (x y:Msg):[y].count x=io (some y) x:=by
 unfold io
 rw [List.count_singleton]
 by_cases q:y=x
 ·subst q;simp
 ·rw [if_neg (by simpa using q),if_neg (by simpa using q)]
theorem zmn:∀ {ms:List Msg}{k:Nat}(hk:k<ms.length) (x:Msg),(ms.eraseIdx k).count x + io (some ms[k]) x=ms.count x
 | a::l,0,_,x=>by
  rw [List.count_cons,← cnt1,List.count_singleton]
  rfl
 | a::l,k + 1,hk,x=>by
  have ih:=zmn (ms:=l) (k:=k) (by simpa using hk) x
  rw [List.eraseIdx_cons_succ,List.count_cons,List.count_cons,List.getElem_cons_succ]
  omega
theorem zvq {m x:Msg}{l:Nat}(h:Msg.Line m=(l:Int)) (hx:Msg.Line x≠(l:Int)):io (some m) x=0:=if_neg fun q=>hx (by rw [← Option.some.inj q];exact h)
theorem zmj (x:Msg):io none x=0:=rfl
def twt (t:Nat):Nat:=if t=0 then 0 else if t=3 then 1 else 13
def pwt (p:Nat):Nat:=if p=0 then 0 else if p=5 then 1 else if p=4 then 2 else if p=3 then 3 else 4
def dwt (d:Nat):Nat:=if d=0 then 0 else if d=1 then 2 else 1
def phi (A:AL):Nat:=s4 (fun k=>twt (A.tk k)) + pwt A.ph + s4 (fun k=>dwt (A.pd k))
theorem Ev.wk {c:Nat}{A B:AL}(e:Ev c A B) (k:Nat) (h:B.wk k≠0):A.wk k≠0:=by
 cases e<;>(try unfold zeL at h)<;>dsimp only at h<;>first|exact h|(unfold up at h;split at h<;>first|exact absurd rfl h|exact h)
inductive Wc (A B:AL) (W:Nat→Wait) (l:Nat):(Nat→Wait)→Prop
 | same (h:∀ k,B.wk k=A.wk k) (g:∀ k,A.wk k≠0→wOf B l k=wOf A l k):Wc A B W l W
 | over (n:Nat) (h0:B.wk n=0) (hn:A.wk n≠0) (h:∀ k,k≠n→B.wk k=A.wk k) (g:∀ k,k≠n→A.wk k≠0→wOf B l k=wOf A l k):Wc A B W l (up W n w00)
 | one (n:Nat) (hn:A.wk n≠0) (h:∀ k,B.wk k=A.wk k) (g:∀ k,k≠n→A.wk k≠0→wOf B l k=wOf A l k):Wc A B W l (up W n (wOf B l n))
theorem Ok.dl {c h:Nat}{A:Nat→AL}{W:Nat→Wait}{ms:List Msg}{v:Nat→Int}(K:Ok c h A W ms v) {k l:Nat}(hk:k<ms.length) (hr:ms.length + c≤64) (hl:l<h) {B:AL}{W':Nat→Wait}{new:List Msg}
  (hm:Msg.Line ms[k]=(l:Int)) (e:Ev c (A l) B) (w:Wc (A l) B W l W') (cnt:∀ x,cA B l x + io (some ms[k]) x=cA (A l) l x + new.count x) (nm:∀ y∈new,zdo y∧Msg.Line y=(l:Int)) (nl:new.length≤c + 1):Ok c h (up A l B) W' (ms.eraseIdx k++new) v:=by
 have he:=zby hk
 have hv:up v l (v l)=v:=by funext j;unfold up;split<;>simp_all
 rw [← hv]
 have o:=fun n hn hw=>K.w1 l n hl hn hw
 refine K.upd hl (e.keep (K.lv l hl)) (fun j hj hw=>?_) (fun j hj h0 hw=>?_) (fun j hj h0 hw=>?_) (fun j hj hw h0=>absurd h0 (e.wk j hw)) (by rw [wI0];omega) (fun m hm=>?_) (fun x hx=>?_) (fun x hx=>?_)
 ·cases w with
  | same h g =>
   have q:(A l).wk j≠0:=by rw [← h j];exact hw
   rw [o j hj q,g j q]
  | over n h0 hn h g =>
   by_cases r:j=n
   ·subst r;exact absurd h0 hw
   ·have q:(A l).wk j≠0:=by rw [← h j r];exact hw
    rw [show up W n w00 j=W j from if_neg r,o j hj q,g j r q]
  | one n hn h g =>
   by_cases r:j=n
   ·subst r;exact zah
   ·have q:(A l).wk j≠0:=by rw [← h j];exact hw
    rw [show up W n (wOf B l n) j=W j from if_neg r,o j hj q,g j r q]
 ·cases w with
  | same h g=>exact absurd ((h j).symm.trans h0) hw
  | over n h0' hn h g =>
   by_cases r:j=n
   ·subst r;exact zah
   ·exact absurd ((h j r).symm.trans h0) hw
  | one n hn h g=>exact absurd ((h j).symm.trans h0) hw
 ·cases w with
  | same h g=>rfl
  | over n h0' hn h g =>
   by_cases r:j=n
   ·subst r;exact absurd hw hn
   ·exact if_neg r
  | one n hn h g =>
   by_cases r:j=n
   ·subst r;exact absurd hw hn
   ·exact if_neg r
 ·rcases List.mem_append.1 hm with q|q
  ·exact .inl (List.mem_of_mem_eraseIdx q)
  ·exact .inr (nm m q)
 ·have h1:=zmn hk x
  have h2:=K.ct l hl x hx
  have h3:=cnt x
  rw [List.count_append]
  omega
 ·have h1:=zmn hk x
  rw [zvq hm hx] at h1
  rw [List.count_append,List.count_eq_zero.2 fun q=>hx (nm x q).2]
  exact h1
end Go.Proofs.Ytlgjbfdojbmmgaa
