/- Rows made of functions; messages in frames. No condition. -/
import Derived.Test.YtlgjbfdojbmmgaaR5
import Derived.Test.YtlgjbfdojbmmgaaRL
set_option linter.unusedSimpArgs false
set_option linter.unusedVariables false
namespace Go.Proofs.Ytlgjbfdojbmmgaa
open Go.SX
def ls {α:Type}(n:Nat) (f:Nat→α):List α:=(List.range n).map f
theorem zaU {α:Type}{n:Nat}{f:Nat→α}:(ls n f).length=n:=by simp [ls]
theorem zg2 {α:Type}{n i:Nat}{f:Nat→α}(h:i<(ls n f).length):(ls n f)[i]=f i:=by simp [ls]
theorem zld {α:Type}{n:Nat}{f g:Nat→α}(h:∀ i,i<n→f i=g i):ls n f=ls n g:=by
 unfold ls
 exact List.map_congr_left fun i hi=>h i (by simpa using hi)
theorem zvW {α:Type}{n i:Nat}{f:Nat→α}{x:α}:(ls n f).set i x=ls n (up f i x):=by
 apply List.ext_getElem
 ·simp [ls]
 ·intro k h1 h2
  rw [zg2,List.getElem_set]
  unfold up
  by_cases q:i=k
  ·rw [if_pos q,if_pos q.symm]
  ·rw [if_neg q,if_neg (fun r=>q r.symm),zg2]
theorem zat {α:Type}{n i:Nat}{f:Nat→α}(h:i<n):getO (ls n f) (i:Int)=some (f i):=by
 rw [zbx (by rw [zaU];exact h),zg2]
theorem zaZ {α:Type}{n i:Nat}{f:Nat→α}{x:α}(h:i<n):setO (ls n f) (i:Int) x=some (ls n (up f i x)):=by
 rw [zw7 (by rw [zaU];exact h),zvW]
theorem zrt {α:Type}{n:Nat}{f:Nat→α}{x:α}(h:x∈ls n f):∃ i,i<n∧f i=x:=by
 unfold ls at h
 obtain ⟨i,hi,e⟩:=List.mem_map.1 h
 exact ⟨i,by simpa using hi,e⟩
def tb {α:Type}(c h:Nat) (f:Nat→Nat→α):List (List α):=ls c fun n=>ls h (f n)
theorem zwh {α:Type}{c h:Nat}{f g:Nat→Nat→α}(ho:∀ i j,i<c→j<h→f i j=g i j):tb c h f=tb c h g:=zld fun i hi=>zld fun j hj=>ho i j hi hj
def zyv (m:Msg):Nums:=⟨(Msg.Kind m).toNat,(Msg.From m).toNat,(Msg.To m).toNat,(Msg.Line m).toNat,(Msg.For m).toNat,(Msg.Acks m).toNat,Msg.Own m,(Msg.Num m).toNat,(Msg.Val m).toNat⟩
def frm (m:Msg):List Int:=zaD (zav (zyv m))
theorem zto (m:Msg):(frm m).length=19:=by
 unfold frm
 rw [zbb]
 rfl
theorem zvS {m:Msg}(M:zc8 m):mayM m=true:=by
 have:=M.kind;have:=M.src;have:=M.dst;have:=M.line;have:=M.hfor;have:=M.acks
 unfold mayM
 simp only [wD0,zgw,decide_eq_true_eq]
 omega
def pl (ms:List Msg):Pool:=Pool.mk (ms.map frm)
theorem zpa (ms:List Msg):Pool.Frames (pl ms)=ms.map frm:=rfl
theorem zfD (ms:List Msg):(Pool.Frames (pl ms)).length=ms.length:=by rw [zpa,List.length_map]
theorem zit {ms:List Msg}(h:ms.length≤64):zfB (pl ms)=true:=by
 refine zgg.2 ⟨by rw [zfD];exact h,fun b hb=>?_⟩
 obtain ⟨m,_,rfl⟩:=List.mem_map.1 hb
 exact zto m
theorem zbI {ms:List Msg}{m:Msg}(M:zc8 m) (h:ms.length<64):zaf (pl ms) m=some (pl (ms++[m]),0):=by
 have hb:=zit (ms:=ms) (by omega)
 rcases zop (pl ms) (zfb hb) m M.num M.val with ⟨x,hx,hm,_,_,e⟩|⟨e,_,_,q⟩
 ·rw [e]
  have:frm m=zaD (zav x):=by rw [hm];rfl
  unfold pl
  rw [List.map_append,← this]
  rfl
 ·have:=q (zvS M) hb
  rw [zfD] at this
  omega
theorem zoY {α β:Type}(f:α→β):∀ (l:List α) (k:Nat),(l.map f).eraseIdx k=(l.eraseIdx k).map f
 | [],_=>rfl
 | _::_,0=>rfl
 | a::l,k + 1=>congrArg (f a::·) (zoY f l k)
theorem zwK {ms:List Msg}(hm:∀ m∈ms,zc8 m) (h:ms.length≤64) {k:Nat}(hk:k<ms.length):zc2 (pl ms) (k:Int)=some (pl (ms.eraseIdx k),ms[k],0):=by
 have M:=hm _ (List.getElem_mem hk)
 obtain ⟨x,hx,e⟩:=zt8 (zvS M) M.num M.val
 have hk':k<(Pool.Frames (pl ms)).length:=by rw [zfD];exact hk
 have hf:(Pool.Frames (pl ms))[k]=zaD (zav x):=by
  show (ms.map frm)[k]'(by rw [List.length_map];exact hk)=_
  rw [List.getElem_map,e]
  rfl
 rw [zoB (pl ms) (zit h) k hk' x hx hf,e]
 rw [zpa,zoY]
 rfl
theorem zwE {ms:List Msg}(h:ms.length≤64) {k:Int}(hk:k<0∨(ms.length:Int)≤k):∃ q m,zc2 (pl ms) k=some (q,m,7):=by
 have hb:=zit h
 have hh:=zlp (pl ms) (by rw [zfD];omega) k
 rw [hb,if_pos rfl,zfD,if_pos hk] at hh
 have hcp:=zkH (f:=zfI (Pool.Frames (pl ms)) (List.length (Pool.Frames (pl ms)):Int)) (fr:=Pool.Frames (pl ms)) (fun s=>rfl) (zfb hb).1 (zfb hb).2
 have hsub:subO (Pool.Frames (pl ms)) (0:Int) (List.length (Pool.Frames (pl ms)):Int)=some (Pool.Frames (pl ms)):=by
  have:=zg9 (l:=Pool.Frames (pl ms)) (i:=0) (j:=(Pool.Frames (pl ms)).length) (by omega) (wG0 _)
  rw [List.drop_zero,List.take_length] at this
  exact this
 refine ⟨pl ms,Msg.mk 0 0 0 0 0 0 false 0 0,?_⟩
 unfold zc2 zfS
 simp only [hh,hcp,wC0,show ¬ (7:Int)=0 by decide,decide_false,Bool.not_false,wA0,if_false,if_true,hsub]
 rfl
end Go.Proofs.Ytlgjbfdojbmmgaa
