/- Rows made of functions; messages in frames. No condition. -/
import Derived.Test.YtlgjbfdojbmmgaaR5
import Derived.Test.YtlgjbfdojbmmgaaRL
set_option linter.unusedSimpArgs false
set_option linter.unusedVariables false
namespace Go.Proofs.Ytlgjbfdojbmmgaa
open Go.SX
def ls {α:Type}(n:Nat) (f:Nat→α):List α:=(List.range n).map f
theorem za6 {α:Type}{n:Nat}{f:Nat→α}:(ls n f).length=n:=by simp [ls]
theorem zhq {α:Type}{n i:Nat}{f:Nat→α}(h:i<(ls n f).length):(ls n f)[i]=f i:=by simp [ls]
theorem zlv {α:Type}{n:Nat}{f g:Nat→α}(h:∀ i,i<n→f i=g i):ls n f=ls n g:=by
 unfold ls
 exact List.map_congr_left fun i hi=>h i (by simpa using hi)
theorem zw6 {α:Type}{n i:Nat}{f:Nat→α}{x:α}:(ls n f).set i x=ls n (up f i x):=by
 apply List.ext_getElem
 ·simp [ls]
 ·intro k h1 h2
  rw [zhq,List.getElem_set]
  unfold up
  by_cases q:i=k
  ·rw [if_pos q,if_pos q.symm]
  ·rw [if_neg q,if_neg (fun r=>q r.symm),zhq]
theorem zar {α:Type}{n i:Nat}{f:Nat→α}(h:i<n):zzG (ls n f) (i:Int)=some (f i):=by
 rw [zbd (by rw [za6];exact h),zhq]
theorem za1 {α:Type}{n i:Nat}{f:Nat→α}{x:α}(h:i<n):zzI (ls n f) (i:Int) x=some (ls n (up f i x)):=by
 rw [zyd (by rw [za6];exact h),zw6]
theorem zrZ {α:Type}{n:Nat}{f:Nat→α}{x:α}(h:x∈ls n f):∃ i,i<n∧f i=x:=by
 unfold ls at h
 obtain ⟨i,hi,e⟩:=List.mem_map.1 h
 exact ⟨i,by simpa using hi,e⟩
def tb {α:Type}(c h:Nat) (f:Nat→Nat→α):List (List α):=ls c fun n=>ls h (f n)
theorem zxa {α:Type}{c h:Nat}{f g:Nat→Nat→α}(ho:∀ i j,i<c→j<h→f i j=g i j):tb c h f=tb c h g:=zlv fun i hi=>zlv fun j hj=>ho i j hi hj
def zzf (m:Msg):Nums:=⟨(Msg.Kind m).toNat,(Msg.From m).toNat,(Msg.To m).toNat,(Msg.Line m).toNat,(Msg.For m).toNat,(Msg.Acks m).toNat,Msg.Own m,(Msg.Num m).toNat,(Msg.Val m).toNat⟩
def frm (m:Msg):List Int:=zaH (zav (zzf m))
theorem zvj (m:Msg):(frm m).length=19:=by
 unfold frm
 rw [zbo]
 rfl
theorem zxg {m:Msg}(M:zdo m):zAb m=true:=by
 have:=M.kind;have:=M.src;have:=M.dst;have:=M.line;have:=M.hfor;have:=M.acks
 unfold zAb
 simp only [wD0,zhk,vG0]
 omega
def pl (ms:List Msg):Pool:=Pool.mk (ms.map frm)
theorem zpM (ms:List Msg):Pool.Frames (pl ms)=ms.map frm:=rfl
theorem zep (ms:List Msg):(Pool.Frames (pl ms)).length=ms.length:=by rw [zpM,List.length_map]
theorem ziV {ms:List Msg}(h:ms.length≤64):zfg (pl ms)=true:=by
 refine zgO.2 ⟨by rw [zep];exact h,fun b hb=>?_⟩
 obtain ⟨m,_,rfl⟩:=List.mem_map.1 hb
 exact zvj m
theorem zbK {ms:List Msg}{m:Msg}(M:zdo m) (h:ms.length<64):zaf (pl ms) m=some (pl (ms++[m]),0):=by
 have hb:=ziV (ms:=ms) (by omega)
 rcases zpk (pl ms) (zfn hb) m M.num M.val with ⟨x,hx,hm,_,_,e⟩|⟨e,_,_,q⟩
 ·rw [e]
  have:frm m=zaH (zav x):=by rw [hm];rfl
  unfold pl
  rw [List.map_append,← this]
  rfl
 ·have:=q (zxg M) hb
  rw [zep] at this
  omega
theorem zqa {α β:Type}(f:α→β):∀ (l:List α) (k:Nat),(l.map f).eraseIdx k=(l.eraseIdx k).map f
 | [],_=>rfl
 | _::_,0=>rfl
 | a::l,k + 1=>congrArg (f a::·) (zqa f l k)
theorem zxJ {ms:List Msg}(hm:∀ m∈ms,zdo m) (h:ms.length≤64) {k:Nat}(hk:k<ms.length):zdd (pl ms) (k:Int)=some (pl (ms.eraseIdx k),ms[k],0):=by
 have M:=hm _ (List.getElem_mem hk)
 obtain ⟨x,hx,e⟩:=ztB (zxg M) M.num M.val
 have hk':k<(Pool.Frames (pl ms)).length:=by rw [zep];exact hk
 have hf:(Pool.Frames (pl ms))[k]=zaH (zav x):=by
  show (ms.map frm)[k]'(by rw [List.length_map];exact hk)=_
  rw [List.getElem_map,e]
  rfl
 rw [zpi (pl ms) (ziV h) k hk' x hx hf,e]
 rw [zpM,zqa]
 rfl
theorem zxI {ms:List Msg}(h:ms.length≤64) {k:Int}(hk:k<0∨(ms.length:Int)≤k):∃ q m,zdd (pl ms) k=some (q,m,7):=by
 have hb:=ziV h
 have hh:=zmp (pl ms) (by rw [zep];omega) k
 rw [hb,if_pos rfl,zep,if_pos hk] at hh
 have hcp:=zlQ (f:=zgD (Pool.Frames (pl ms)) (List.length (Pool.Frames (pl ms)):Int)) (fr:=Pool.Frames (pl ms)) (fun s=>rfl) (zfn hb).1 (zfn hb).2
 have hsub:zzR (Pool.Frames (pl ms)) (0:Int) (List.length (Pool.Frames (pl ms)):Int)=some (Pool.Frames (pl ms)):=by
  have:=zit (l:=Pool.Frames (pl ms)) (i:=0) (j:=(Pool.Frames (pl ms)).length) (by omega) (wG0 _)
  rw [List.drop_zero,List.take_length] at this
  exact this
 refine ⟨pl ms,Msg.mk 0 0 0 0 0 0 false 0 0,?_⟩
 unfold zdd zgj
 simp only [hh,hcp,wC0,show ¬ (7:Int)=0 by decide,vF0,vH0,wA0,if_false,if_true,hsub]
 rfl
end Go.Proofs.Ytlgjbfdojbmmgaa
