/- Rows made of functions; messages in frames. No condition. -/
import Derived.Test.YtlgjbfdojbmmgaaR5
import Derived.Test.YtlgjbfdojbmmgaaRL
set_option linter.unusedSimpArgs false
set_option linter.unusedVariables false
namespace Go.Proofs.Ytlgjbfdojbmmgaa
open Go.SX
def ls {α:Type}(n:Nat) (f:Nat→α):List α:=(List.range n).map f
theorem zaW {α:Type}{n:Nat}{f:Nat→α}:(ls n f).length=n:=by simp [ls]
theorem zg0 {α:Type}{n i:Nat}{f:Nat→α}(h:i<(ls n f).length):(ls n f)[i]=f i:=by simp [ls]
theorem zkx {α:Type}{n:Nat}{f g:Nat→α}(h:∀ i,i<n→f i=g i):ls n f=ls n g:=by
 unfold ls
 exact List.map_congr_left fun i hi=>h i (by simpa using hi)
theorem zws {α:Type}{n i:Nat}{f:Nat→α}{x:α}:(ls n f).set i x=ls n (up f i x):=by
 apply List.ext_getElem
 ·simp [ls]
 ·intro k h1 h2
  rw [zg0,List.getElem_set]
  unfold up
  by_cases q:i=k
  ·rw [if_pos q,if_pos q.symm]
  ·rw [if_neg q,if_neg (fun r=>q r.symm),zg0]
theorem zaq {α:Type}{n i:Nat}{f:Nat→α}(h:i<n):getO (ls n f) (i:Int)=some (f i):=by
 rw [zbA (by rw [zaW];exact h),zg0]
theorem zaY {α:Type}{n i:Nat}{f:Nat→α}{x:α}(h:i<n):setO (ls n f) (i:Int) x=some (ls n (up f i x)):=by
 rw [zw4 (by rw [zaW];exact h),zws]
theorem zrP {α:Type}{n:Nat}{f:Nat→α}{x:α}(h:x∈ls n f):∃ i,i<n∧f i=x:=by
 unfold ls at h
 obtain ⟨i,hi,e⟩:=List.mem_map.1 h
 exact ⟨i,by simpa using hi,e⟩
def tb {α:Type}(c h:Nat) (f:Nat→Nat→α):List (List α):=ls c fun n=>ls h (f n)
theorem zwy {α:Type}{c h:Nat}{f g:Nat→Nat→α}(ho:∀ i j,i<c→j<h→f i j=g i j):tb c h f=tb c h g:=zkx fun i hi=>zkx fun j hj=>ho i j hi hj
def zyH (m:Msg):Nums:=⟨(Msg.Kind m).toNat,(Msg.From m).toNat,(Msg.To m).toNat,(Msg.Line m).toNat,(Msg.For m).toNat,(Msg.Acks m).toNat,Msg.Own m,(Msg.Num m).toNat,(Msg.Val m).toNat⟩
def frm (m:Msg):List Int:=zaE (zav (zyH m))
theorem ztB (m:Msg):(frm m).length=19:=by
 unfold frm
 rw [zbe]
 rfl
theorem zwo {m:Msg}(M:zdd m):mayM m=true:=by
 have:=M.kind;have:=M.src;have:=M.dst;have:=M.line;have:=M.hfor;have:=M.acks
 unfold mayM
 simp only [wD0,zgA,vG0]
 omega
def pl (ms:List Msg):Pool:=Pool.mk (ms.map frm)
theorem zoQ (ms:List Msg):Pool.Frames (pl ms)=ms.map frm:=rfl
theorem zfF (ms:List Msg):(Pool.Frames (pl ms)).length=ms.length:=by rw [zoQ,List.length_map]
theorem ziE {ms:List Msg}(h:ms.length≤64):zfb (pl ms)=true:=by
 refine zgl.2 ⟨by rw [zfF];exact h,fun b hb=>?_⟩
 obtain ⟨m,_,rfl⟩:=List.mem_map.1 hb
 exact ztB m
theorem zbN {ms:List Msg}{m:Msg}(M:zdd m) (h:ms.length<64):zaf (pl ms) m=some (pl (ms++[m]),0):=by
 have hb:=ziE (ms:=ms) (by omega)
 rcases zpu (pl ms) (zfp hb) m M.num M.val with ⟨x,hx,hm,_,_,e⟩|⟨e,_,_,q⟩
 ·rw [e]
  have:frm m=zaE (zav x):=by rw [hm];rfl
  unfold pl
  rw [List.map_append,← this]
  rfl
 ·have:=q (zwo M) hb
  rw [zfF] at this
  omega
theorem zpF {α β:Type}(f:α→β):∀ (l:List α) (k:Nat),(l.map f).eraseIdx k=(l.eraseIdx k).map f
 | [],_=>rfl
 | _::_,0=>rfl
 | a::l,k + 1=>congrArg (f a::·) (zpF f l k)
theorem zwW {ms:List Msg}(hm:∀ m∈ms,zdd m) (h:ms.length≤64) {k:Nat}(hk:k<ms.length):zcY (pl ms) (k:Int)=some (pl (ms.eraseIdx k),ms[k],0):=by
 have M:=hm _ (List.getElem_mem hk)
 obtain ⟨x,hx,e⟩:=zuO (zwo M) M.num M.val
 have hk':k<(Pool.Frames (pl ms)).length:=by rw [zfF];exact hk
 have hf:(Pool.Frames (pl ms))[k]=zaE (zav x):=by
  show (ms.map frm)[k]'(by rw [List.length_map];exact hk)=_
  rw [List.getElem_map,e]
  rfl
 rw [zpe (pl ms) (ziE h) k hk' x hx hf,e]
 rw [zoQ,zpF]
 rfl
theorem zxl {ms:List Msg}(h:ms.length≤64) {k:Int}(hk:k<0∨(ms.length:Int)≤k):∃ q m,zcY (pl ms) k=some (q,m,7):=by
 have hb:=ziE h
 have hh:=zkX (pl ms) (by rw [zfF];omega) k
 rw [hb,if_pos rfl,zfF,if_pos hk] at hh
 have hcp:=zlN (f:=zf0 (Pool.Frames (pl ms)) (List.length (Pool.Frames (pl ms)):Int)) (fr:=Pool.Frames (pl ms)) (fun s=>rfl) (zfp hb).1 (zfp hb).2
 have hsub:subO (Pool.Frames (pl ms)) (0:Int) (List.length (Pool.Frames (pl ms)):Int)=some (Pool.Frames (pl ms)):=by
  have:=zhk (l:=Pool.Frames (pl ms)) (i:=0) (j:=(Pool.Frames (pl ms)).length) (by omega) (wG0 _)
  rw [List.drop_zero,List.take_length] at this
  exact this
 refine ⟨pl ms,Msg.mk 0 0 0 0 0 0 false 0 0,?_⟩
 unfold zcY zf1
 simp only [hh,hcp,wC0,show ¬ (7:Int)=0 by decide,vF0,vH0,wA0,if_false,if_true,hsub]
 rfl
end Go.Proofs.Ytlgjbfdojbmmgaa
