/- Directories. -/
import Derived.Test.YtdfohlonacbelaaGreatQ2
set_option linter.unusedSimpArgs false
set_option linter.unusedVariables false
namespace Go.Proofs.YtdfohlonacbelaaGreat
open Go.SX
def mayB (e:Entry) (c:Int):Bool :=
 decide (1≤c∧c≤4∧((Entry.Share e).length:Int)=c∧0≤Entry.Owner e∧Entry.Owner e≤c)&&(decide (Entry.Owner e=0)||decide ((Entry.Share e)[(Entry.Owner e - 1).toNat]?≠some true))
theorem zg5 (e:Entry) (c:Int):zfr e c=some (mayB e c):=by
 unfold zfr mayB
 by_cases h:1≤c∧c≤4∧((Entry.Share e).length:Int)=c∧0≤Entry.Owner e∧Entry.Owner e≤c
 ·obtain ⟨h1,h2,h3,h4,h5⟩:=h
  have e1:¬ c<1:=by omega
  have e2:¬ 4<c:=by omega
  have e4:¬ Entry.Owner e<0:=by omega
  have e5:¬ c<Entry.Owner e:=by omega
  by_cases ho:Entry.Owner e=0
  ·have e6:¬ c<0:=by omega
   have e7:0≤c:=by omega
   simp [e1,e2,h1,h2,h3,h4,ho,e6,e7]
  ·obtain ⟨k,hk⟩:∃ k:Nat,Entry.Owner e=k + 1:=⟨(Entry.Owner e - 1).toNat,by omega⟩
   have hw:w64 (Entry.Owner e - 1)=(k:Int):=by rw [zbc (by omega) (by omega)];omega
   have hl:k<(Entry.Share e).length:=by omega
   have hz:(Entry.Owner e - 1).toNat=k:=by omega
   have hc:(decide (c<1)||(decide (4<c)||(!decide (((Entry.Share e).length:Int)=c)||(decide (Entry.Owner e<0)||decide (c<Entry.Owner e)))))=false:=by
    simp [e1,e2,h3,e4,e5]
   have hh:decide (1≤c∧c≤4∧((Entry.Share e).length:Int)=c∧0≤Entry.Owner e∧Entry.Owner e≤c)=true:=decide_eq_true ⟨h1,h2,h3,h4,h5⟩
   simp only [hc,hh,hz,hw,zeI,wF0 hl,ho]
   cases (Entry.Share e)[k]<;>simp
 ·have:(decide (c<1)||(decide (4<c)||(!decide (((Entry.Share e).length:Int)=c)||(decide (Entry.Owner e<0)||decide (c<Entry.Owner e)))))=true:=by
   simp
   omega
  simp [this,h]
theorem zpX (e:Entry) (c:Int):znM e c=some (mayB e c):=by
 unfold znM mayB
 by_cases h:1≤c∧c≤4∧((Entry.Share e).length:Int)=c∧0≤Entry.Owner e∧Entry.Owner e≤c
 ·obtain ⟨h1,h2,h3,h4,h5⟩:=h
  have e1:¬ c<1:=by omega
  have e2:¬ 4<c:=by omega
  have e4:¬ Entry.Owner e<0:=by omega
  have e5:¬ c<Entry.Owner e:=by omega
  have step:∀ i:Nat,i<(Entry.Share e).length→zb1 e c i=some (if ((Entry.Share e)[i]?=some true∧Entry.Owner e=i + 1) then .inr (.inr false) else .inl ((i:Int) + 1)):=fun i hi=>by
   have hw:w64 ((i:Int) + 1)=i + 1:=zbc (by omega) (by omega)
   have hlt:(i:Int)<c:=by omega
   unfold zb1
   rw [zeI,wF0 hi]
   cases hb:(Entry.Share e)[i]<;>simp [hlt,hw,hb]
   split<;>simp_all
  have last:zb1 e c ((Entry.Share e).length:Int)=some (.inr (.inl ())):=by
   unfold zb1
   simp [h3]
  have c0:(decide (c<1)||(decide (4<c)||(!decide (((Entry.Share e).length:Int)=c)||(decide (Entry.Owner e<0)||decide (c<Entry.Owner e)))))=false:=by
   simp [e1,e2,h3,e4,e5]
  simp only [c0,wA0,if_false]
  by_cases hb:∃ i,i<(Entry.Share e).length∧(Entry.Share e)[i]?=some true∧Entry.Owner e=i + 1
  ·obtain ⟨i,hi,hb1,hb2⟩:=hb
   have hl:zai (zb1 e c) 0=some (.inr false):=by
    have:=zgw (f:=zb1 e c) (fun i=>(i:Int)) (n:=0) (m:=i) (by omega) fun j _ hj=>by
     rw [step j (by omega),if_neg (by rintro ⟨_,h⟩;omega)]
     simp
    refine this.trans ?_
    refine zb2 ?_
    rw [step i hi,if_pos ⟨hb1,hb2⟩]
   rw [hl]
   have hz:(Entry.Owner e - 1).toNat=i:=by omega
   have ho:Entry.Owner e≠0:=by omega
   simp [h1,h2,h3,h4,hz,hb1,ho]
  ·have hl:zai (zb1 e c) 0=some (.inl ()):=by
    have:=zgw (f:=zb1 e c) (fun i=>(i:Int)) (n:=0) (m:=(Entry.Share e).length) (by omega) fun j _ hj=>by
     rw [step j (by omega),if_neg (fun h=>hb ⟨j,hj,h⟩)]
     simp
    exact this.trans (zb2 last)
   rw [hl]
   by_cases ho:Entry.Owner e=0
   ·have e7:0≤c:=by omega
    simp [h1,h2,h3,h4,ho,e7]
   ·have hb':¬ (Entry.Share e)[(Entry.Owner e - 1).toNat]?=some true:=fun h=>hb ⟨(Entry.Owner e - 1).toNat,by omega,h,by omega⟩
    have hh:decide (1≤c∧c≤4∧((Entry.Share e).length:Int)=c∧0≤Entry.Owner e∧Entry.Owner e≤c)=true:=decide_eq_true ⟨h1,h2,h3,h4,h5⟩
    have h2':decide ((Entry.Share e)[(Entry.Owner e - 1).toNat]?≠some true)=true:=decide_eq_true hb'
    rw [hh,h2']
    simp
 ·have:(decide (c<1)||(decide (4<c)||(!decide (((Entry.Share e).length:Int)=c)||(decide (Entry.Owner e<0)||decide (c<Entry.Owner e)))))=true:=by
   simp
   omega
  simp [this,h]
def hasB (e:Entry) (n:Int):Bool:=mayB e ((Entry.Share e).length:Int)&&(decide (0≤n)&&decide (n<((Entry.Share e).length:Int)))
theorem zg6 (e:Entry) (n:Int):zfA e n=some (hasB e n):=by
 unfold zfA hasB
 rw [zg5]
 cases mayB e ((Entry.Share e).length:Int)<;>by_cases h:0≤n<;>simp [h]
theorem zk6 (e:Entry) (n:Int):zkN e n=some (hasB e n):=by
 unfold zkN hasB
 rw [zpX]
 cases mayB e ((Entry.Share e).length:Int)<;>by_cases h:0≤n<;>simp [h]
theorem zhV {e:Entry}{n:Int}(h:hasB e n=true):(Entry.Share e).length≤4∧0≤n∧n<((Entry.Share e).length:Int)∧0≤Entry.Owner e∧Entry.Owner e≤4:=by
 simp [hasB,mayB] at h
 omega
def zaN (l:List Bool) (n:Int):Nat→List Int
 | 0=>[]
 | k + 1=>if l[k]?=some true∧(k:Int)≠n then zaN l n k++[(k:Int)] else zaN l n k
theorem zfX (l:List Bool) (n:Int):∀ k,(zaN l n k).length≤k
 | 0=>wG0 _
 | k + 1=>by
  have:=zfX l n k
  simp only [zaN]
  split
  ·simp;omega
  ·omega
theorem app8 {l:List Int}{x:Int}(h:l.length≤1000):appO 8 l [x]=some (l++[x]):=ztx (zg9 (by simp;omega) (by simp;omega))
theorem zos (l:List Bool) (n:Int) (hl:l.length≤1000):zai (zb3 n l (l.length:Int)) ((0:Int),([]:List Int))=some (zaN l n l.length):=by
 have:=zgw (f:=zb3 n l (l.length:Int)) (fun i=>((i:Int),zaN l n i)) (n:=0) (m:=l.length) (by omega) fun i _ hi=>by
  have hlt:(i:Int)<l.length:=by omega
  have hw:w64 ((i:Int) + 1)=i + 1:=zbc (by omega) (by omega)
  have hx:idxO (l.length:Int) (i:Int)=some (i:Int):=znp (by omega) hlt
  have ho:=zfX l n i
  unfold zb3
  simp only [hlt,hx,decide_true,if_true,wC0,zeI,wF0 hi,hw,zaN]
  rw [app8 (by omega)]
  cases l[i]<;>by_cases hn:(i:Int)=n<;>simp [hn]
 refine this.trans (zb2 ?_)
 unfold zb3
 simp
theorem zfU (e:Entry) (n:Int) (hl:(Entry.Share e).length≤1000):zcC e n=some (zaN (Entry.Share e) n (Entry.Share e).length):=by
 have:=zgw (f:=zb0 e n) (fun i=>((i:Int),zaN (Entry.Share e) n i)) (n:=0) (m:=(Entry.Share e).length) (by omega) fun i _ hi=>by
  have hlt:(i:Int)<(Entry.Share e).length:=by omega
  have hw:w64 ((i:Int) + 1)=i + 1:=zbc (by omega) (by omega)
  have ho:=zfX (Entry.Share e) n i
  unfold zb0
  simp only [hlt,decide_true,if_true,zeI,wF0 hi,wC0,hw,zaN]
  rw [app8 (by omega)]
  cases (Entry.Share e)[i]<;>by_cases hn:(i:Int)=n<;>simp [hn]
 have last:zb0 e n (((Entry.Share e).length:Int),zaN (Entry.Share e) n (Entry.Share e).length)=some (.inr (zaN (Entry.Share e) n (Entry.Share e).length)):=by
  unfold zb0
  simp
 unfold zcC
 rw [show zai (zb0 e n) ((0:Int),([]:List Int))=some (zaN (Entry.Share e) n (Entry.Share e).length) from this.trans (zb2 last)]
 rfl
theorem zgx {l:List Bool}{n:Int}:∀ {k:Nat},zaN l n k=[]→∀ i,i<k→(i:Int)≠n→l[i]?≠some true
 | 0,_,i,hi,_=>by omega
 | k + 1,h,i,hi,hn=>by
  simp only [zaN] at h
  split at h
  ·simp at h
  ·rename_i hc
   by_cases e:i=k
   ·subst e;exact fun h'=>hc ⟨h',hn⟩
   ·exact zgx h i (by omega) hn
theorem zxo {l:List Bool}(h:l.length≤1000):zaD 1 l=some l:=zr8 (zg9 (by omega) (by omega))
theorem app1 {l:List Bool}(h:l.length≤1000):appO 1 ([]:List Bool) l=some l:=by
 rw [ztx (zg9 (by simp;omega) (by simp;omega))]
 rfl
theorem rep1 {n:Nat}(h:n≤1000):repO false 1 (n:Int) (n:Int)=some (List.replicate n false):=by
 rw [zzu (by omega) (by omega) (zg9 (by omega) (by omega))]
 rfl
def ziv (e:Entry) (n:Int):Entry×Int×Int :=
 if hasB e n=true then
  if Entry.Owner e=0∧zaN (Entry.Share e) n (Entry.Share e).length=[] then (Entry.mk (n + 1) (List.replicate (Entry.Share e).length false),0,0)
  else if Entry.Owner e=n + 1 then (e,n + 1,0)
  else (Entry.mk (Entry.Owner e) ((Entry.Share e).set n.toNat true),Entry.Owner e,0)
 else (e,0,1)
theorem zwF {l:List Bool}{n:Int}(h0:0≤n) (hn:n<(l.length:Int)) (h:zaN l n l.length=[]):l.set n.toNat false=List.replicate l.length false:=by
 apply List.ext_getElem
 ·simp
 ·intro i h1 h2
  simp only [List.length_set] at h1
  rw [List.getElem_set,List.getElem_replicate]
  split
  ·rfl
  ·have:=zgx h i h1 (by omega)
   rw [wF0 h1] at this
   cases hb:l[i] with
   | false=>rfl
   | true=>rw [hb] at this;exact absurd rfl this
theorem zqS (e:Entry) (n:Int) (hl:(Entry.Share e).length≤1000):zc2 e n=some (ziv e n):=by
 unfold zc2 ziv
 rw [zxo hl]
 simp only [wC0,Entry.eta,zg6]
 cases hh:hasB e n with
 | false=>simp
 | true =>
  obtain ⟨h1,h2,h3,h4,h5⟩:=zhV hh
  have hw:w64 (n + 1)=n + 1:=zbc (by omega) (by omega)
  have hx:idxO ((Entry.Share e).length:Int) n=some n:=znp h2 h3
  have hs:=fun b:Bool=>ztH (v:=b) h2 h3
  simp only [wH0,wA0,if_false,if_true,zos _ _ hl,wC0,hw,hx,hs]
  by_cases ho:Entry.Owner e=0
  ·by_cases hn:zaN (Entry.Share e) n (Entry.Share e).length=[]
   ·simp [ho,hn,zwF h2 h3 hn]
   ·have:¬ ((zaN (Entry.Share e) n (Entry.Share e).length).length:Int)=0:=fun h=>hn (List.eq_nil_of_length_eq_zero (by omega))
    have h6:¬ (0:Int)=n + 1:=by omega
    simp [ho,hn,this,h6]
  ·by_cases h6:Entry.Owner e=n + 1
   ·have h7:¬ n + 1=0:=by omega
    simp [ho,h6,h7]
    rw [← h6]
    rfl
   ·simp [ho,h6]
theorem zt0 (e:Entry) (n:Int) (hl:(Entry.Share e).length≤1000):zmi e n=some (ziv e n):=by
 unfold zmi ziv
 rw [zk6]
 simp only [wC0]
 cases hh:hasB e n with
 | false=>simp
 | true =>
  obtain ⟨h1,h2,h3,h4,h5⟩:=zhV hh
  have hw:w64 (n + 1)=n + 1:=zbc (by omega) (by omega)
  have hx:idxO ((Entry.Share e).length:Int) n=some n:=znp h2 h3
  have hs:=fun b:Bool=>ztH (v:=b) h2 h3
  have hset:zqP (Entry.Share e) n true=some ((Entry.Share e).set n.toNat true):=by
   unfold zqP
   simp [app1 hl,hx,hs]
  simp only [wH0,wA0,if_false,if_true,zfU _ _ hl,wC0,hw,rep1 hl,hset]
  by_cases ho:Entry.Owner e=0
  ·by_cases hn:zaN (Entry.Share e) n (Entry.Share e).length=[]
   ·simp [ho,hn]
   ·have:¬ ((zaN (Entry.Share e) n (Entry.Share e).length).length:Int)=0:=fun h=>hn (List.eq_nil_of_length_eq_zero (by omega))
    have h6:¬ (0:Int)=n + 1:=by omega
    simp [ho,hn,this,h6]
  ·by_cases h6:Entry.Owner e=n + 1
   ·have h7:¬ n + 1=0:=by omega
    simp [ho,h6,h7]
   ·simp [ho,h6]
theorem ztR:zii=zb3:=rfl
def zpm (e:Entry) (n:Int):Entry×Int×List Int×Int :=
 if hasB e n=true then (Entry.mk (n + 1) (List.replicate (Entry.Share e).length false),Entry.Owner e,zaN (Entry.Share e) n (Entry.Share e).length,0) else (e,0,[],1)
theorem zo5 (e:Entry) (n:Int) (hl:(Entry.Share e).length≤1000):zcn e n=some (zpm e n):=by
 unfold zcn zpm
 rw [zxo hl,ztR]
 simp only [wC0,Entry.eta,zg6]
 rcases Bool.eq_false_or_eq_true (hasB e n) with hh|hh
 rotate_left
 ·simp [hh]
 ·obtain ⟨h1,h2,h3,h4,h5⟩:=zhV hh
  have hw:w64 (n + 1)=n + 1:=zbc (by omega) (by omega)
  simp only [hh,wH0,wA0,if_false,if_true,zos _ _ hl,wC0,hw]
theorem zrO (e:Entry) (n:Int) (hl:(Entry.Share e).length≤1000):zhq e n=some (zpm e n):=by
 unfold zhq zpm
 rw [zk6]
 simp only [wC0]
 rcases Bool.eq_false_or_eq_true (hasB e n) with hh|hh
 rotate_left
 ·simp [hh]
 ·obtain ⟨h1,h2,h3,h4,h5⟩:=zhV hh
  have hw:w64 (n + 1)=n + 1:=zbc (by omega) (by omega)
  simp only [hh,wH0,wA0,if_false,if_true,zfU _ _ hl,wC0,hw,rep1 hl]
def zmd (e:Entry) (n:Int):Entry×Int :=
 if hasB e n=true then (if Entry.Owner e=n + 1 then (Entry.mk 0 (Entry.Share e),0) else (e,7)) else (e,1)
theorem zre (e:Entry) (n:Int) (hl:(Entry.Share e).length≤1000):zfB e n=some (zmd e n):=by
 unfold zfB zmd
 rw [zxo hl]
 simp only [wC0,Entry.eta,zg6]
 rcases Bool.eq_false_or_eq_true (hasB e n) with hh|hh
 rotate_left
 ·simp [hh]
 ·obtain ⟨h1,h2,h3,h4,h5⟩:=zhV hh
  have hw:w64 (n + 1)=n + 1:=zbc (by omega) (by omega)
  by_cases h6:Entry.Owner e=n + 1<;>simp [hh,hw,h6]
theorem zui (e:Entry) (n:Int):zmz e n=some (zmd e n):=by
 unfold zmz zmd
 rw [zk6]
 simp only [wC0]
 rcases Bool.eq_false_or_eq_true (hasB e n) with hh|hh
 rotate_left
 ·simp [hh]
 ·obtain ⟨h1,h2,h3,h4,h5⟩:=zhV hh
  have hw:w64 (n + 1)=n + 1:=zbc (by omega) (by omega)
  by_cases h6:Entry.Owner e=n + 1<;>simp [hh,hw,h6]
theorem zvs (l:List Bool) (hl:(l.length:Int)≤9223372036854775807):(true∈l∧∃ i:Nat,zaR l true=some (i:Int))∨(true∉l∧zaR l true=some (-1)):=by
 have step:∀ i:Nat,i<l.length→zaj l true (l.length:Int) i=some (if l[i]?=some true then .inr (.inr (i:Int)) else .inl ((i:Int) + 1)):=fun i hi=>by
  have hw:w64 ((i:Int) + 1)=i + 1:=zbc (by omega) (by omega)
  have hlt:(i:Int)<(l.length:Int):=by omega
  unfold zaj
  rw [zeI,wF0 hi]
  cases hb:l[i]<;>simp [hlt,hw,hb]
 have last:zaj l true (l.length:Int) (l.length:Int)=some (.inr (.inl ())):=by
  unfold zaj
  simp
 simp only [zaR]
 rcases zmu (fun i=>decide (l[i]?≠some true)) l.length with h|⟨i,h1,h2,h3⟩
 ·refine .inr ⟨fun hm=>?_,?_⟩
  ·obtain ⟨i,hi,e⟩:=List.getElem_of_mem hm
   have:=h i hi
   simp [wF0 hi,e] at this
  ·have:=zgw (f:=zaj l true (l.length:Int)) (fun i=>(i:Int)) (n:=0) (m:=l.length) (by omega) fun j _ hj=>by
    rw [step j hj,if_neg (by simpa using h j hj)]
    simp
   rw [show zai (zaj l true (l.length:Int)) 0=some (.inl ()) from this.trans (zb2 last)]
   rfl
 ·have h2':l[i]?=some true:=by simpa using h2
  refine .inl ⟨List.mem_of_getElem? h2',i,?_⟩
  have:=zgw (f:=zaj l true (l.length:Int)) (fun i=>(i:Int)) (n:=0) (m:=i) (by omega) fun j _ hj=>by
   rw [step j (by omega),if_neg (by simpa using h3 j hj)]
   simp
  rw [show zai (zaj l true (l.length:Int)) 0=some (.inr (i:Int)) from this.trans (zb2 (by rw [step i h1,if_pos h2']))]
  rfl
theorem zqI (l:List Bool) (hl:(l.length:Int)≤9223372036854775807):zaW l true=some (decide (true∈l)):=by
 unfold zaW
 rcases zvs l hl with ⟨h1,i,h2⟩|⟨h1,h2⟩
 ·rw [h2];simp [h1]
 ·rw [h2];simp [h1]
def zrN (e:Entry):Bool:=mayB e ((Entry.Share e).length:Int)&&(decide (0<Entry.Owner e)&&decide (true∉Entry.Share e))
theorem zoU (e:Entry):zbW e=some (zrN e):=by
 unfold zbW zrN
 rw [zg5]
 cases hm:mayB e ((Entry.Share e).length:Int) with
 | false=>simp
 | true =>
  have hl:((Entry.Share e).length:Int)≤9223372036854775807:=by
   simp [mayB] at hm
   omega
  simp only [zqI _ hl]
  by_cases h:0<Entry.Owner e<;>simp [h]
theorem zxm (e:Entry) (hl:((Entry.Share e).length:Int)≤9223372036854775807):zml e e=some true:=by
 have step:∀ i:Nat,i<(Entry.Share e).length→zcu e e i=some (.inl ((i:Int) + 1)):=fun i hi=>by
  have hw:w64 ((i:Int) + 1)=i + 1:=zbc (by omega) (by omega)
  have hlt:(i:Int)<((Entry.Share e).length:Int):=by omega
  unfold zcu
  rw [zeI,wF0 hi]
  simp [hlt,hw]
 have last:zcu e e ((Entry.Share e).length:Int)=some (.inr (.inl ())):=by
  unfold zcu
  simp
 unfold zml
 have:=zgw (f:=zcu e e) (fun i=>(i:Int)) (n:=0) (m:=(Entry.Share e).length) (by omega) fun j _ hj=>by
  rw [step j hj]
  simp
 rw [show zai (zcu e e) 0=some (.inl ()) from this.trans (zb2 last)]
 simp
theorem zmH (l:List Int) (hl:(l.length:Int)≤9223372036854775807):zjF l l=some true:=by
 have step:∀ i:Nat,i<l.length→zbM l l i=some (.inl ((i:Int) + 1)):=fun i hi=>by
  have hw:w64 ((i:Int) + 1)=i + 1:=zbc (by omega) (by omega)
  have hlt:(i:Int)<(l.length:Int):=by omega
  unfold zbM
  rw [zeI,wF0 hi]
  simp [hlt,hw]
 have last:zbM l l (l.length:Int)=some (.inr (.inl ())):=by
  unfold zbM
  simp
 unfold zjF
 have:=zgw (f:=zbM l l) (fun i=>(i:Int)) (n:=0) (m:=l.length) (by omega) fun j _ hj=>by
  rw [step j hj]
  simp
 rw [show zai (zbM l l) 0=some (.inl ()) from this.trans (zb2 last)]
 simp
theorem zb6 {e:Entry}{c:Int}:mayB e c=true↔(1≤c∧c≤4∧((Entry.Share e).length:Int)=c∧0≤Entry.Owner e∧Entry.Owner e≤c)∧(Entry.Owner e=0∨(Entry.Share e)[(Entry.Owner e - 1).toNat]?≠some true):=by
 unfold mayB
 simp only [wD0,Bool.or_eq_true,decide_eq_true_eq]
theorem ztz {e:Entry}{n k:Int}(h:mayB e n=true) (h0:0≤k) (hk:k<n):hasB e k=true:=by
 have:=(zb6.1 h).1.2.2.1
 unfold hasB
 rw [this,h]
 simp [h0,hk]
theorem ziH {l:List Bool}{n:Int}{x:Int}:∀ {k:Nat},x∈zaN l n k→∃ j:Nat,x=j∧j<k∧l[j]?=some true∧(j:Int)≠n
 | 0,h=>by simp [zaN] at h
 | k + 1,h=>by
  simp only [zaN] at h
  split at h
  ·rename_i hc
   rcases List.mem_append.1 h with h|h
   ·obtain ⟨j,h1,h2,h3,h4⟩:=ziH h
    exact ⟨j,h1,by omega,h3,h4⟩
   ·rw [List.mem_singleton] at h
    exact ⟨k,h,by omega,hc.1,hc.2⟩
  ·obtain ⟨j,h1,h2,h3,h4⟩:=ziH h
   exact ⟨j,h1,by omega,h3,h4⟩
theorem ztp {e:Entry}{n k:Int}(h:mayB e n=true) (h0:0≤k) (hk:k<n) :
  (ziv e k).2.2=0∧(ziv e k).2.1=Entry.Owner e∧(Entry.Owner (ziv e k).1=k + 1∨(Entry.Share (ziv e k).1)[k.toNat]?=some true)∧(0<Entry.Owner e→Entry.Owner (ziv e k).1=Entry.Owner e) ∧
   (∀ c:Nat,(Entry.Share e)[c]?=some true→(Entry.Share (ziv e k).1)[c]?=some true∨Entry.Owner (ziv e k).1=c + 1)∧mayB (ziv e k).1 n=true:=by
 have hh:=ztz h h0 hk
 obtain ⟨⟨m1,m2,m3,m4,m5⟩,m6⟩:=zb6.1 h
 unfold ziv
 rw [if_pos hh]
 by_cases h1:Entry.Owner e=0∧zaN (Entry.Share e) k (Entry.Share e).length=[]
 ·rw [if_pos h1]
  refine ⟨rfl,h1.1.symm,.inl (by simp),fun h=>by omega,fun c hc=>.inr ?_,?_⟩
  ·have hlt:c<(Entry.Share e).length:=by
    rcases Nat.lt_or_ge c (Entry.Share e).length with h|h
    ·exact h
    ·rw [List.getElem?_eq_none h] at hc;cases hc
   have:(c:Int)=k:=Classical.byContradiction fun hn=>zgx h1.2 c hlt hn hc
   simp [this]
  ·refine zb6.2 ⟨?_,.inr ?_⟩
   ·simp;omega
   ·simp only [Entry.Owner_mk,Entry.Share_mk]
    rw [List.getElem?_replicate]
    split<;>simp
 ·rw [if_neg h1]
  by_cases h2:Entry.Owner e=k + 1
  ·rw [if_pos h2]
   exact ⟨rfl,h2.symm,.inl h2,fun _=>rfl,fun c hc=>.inl hc,h⟩
  ·rw [if_neg h2]
   refine ⟨rfl,rfl,.inr ?_,fun _=>by simp,fun c hc=>.inl ?_,zb6.2 ⟨?_,?_⟩⟩
   ·simp only [Entry.Share_mk]
    rw [List.getElem?_set_self (by omega)]
   ·simp only [Entry.Share_mk]
    rw [List.getElem?_set]
    split
    ·rename_i he
     subst he
     have:k.toNat<(Entry.Share e).length:=by omega
     simp [this]
    ·exact hc
   ·simp;omega
   ·rcases m6 with m6|m6
    ·exact .inl (by simpa using m6)
    ·by_cases ho:Entry.Owner e=0
     ·exact .inl (by simpa using ho)
     ·refine .inr ?_
      simp only [Entry.Owner_mk,Entry.Share_mk]
      rw [List.getElem?_set_ne (by omega)]
      exact m6
theorem zsv {e:Entry}{n k:Int}(h:mayB e n=true) (h0:0≤k) (hk:k<n) :
  zpm e k=(Entry.mk (k + 1) (List.replicate (Entry.Share e).length false),Entry.Owner e,zaN (Entry.Share e) k (Entry.Share e).length,0)∧mayB (Entry.mk (k + 1) (List.replicate (Entry.Share e).length false)) n=true ∧
   zrN (Entry.mk (k + 1) (List.replicate (Entry.Share e).length false))=true:=by
 have hh:=ztz h h0 hk
 obtain ⟨⟨m1,m2,m3,m4,m5⟩,m6⟩:=zb6.1 h
 have hm:mayB (Entry.mk (k + 1) (List.replicate (Entry.Share e).length false)) n=true:=by
  refine zb6.2 ⟨?_,.inr ?_⟩
  ·simp;omega
  ·simp only [Entry.Owner_mk,Entry.Share_mk]
   rw [List.getElem?_replicate]
   split<;>simp
 refine ⟨?_,hm,?_⟩
 ·unfold zpm
  rw [if_pos hh]
 ·unfold zrN
  have:((Entry.Share (Entry.mk (k + 1) (List.replicate (Entry.Share e).length false))).length:Int)=n:=by simp [m3]
  rw [this,hm]
  have:¬ true∈List.replicate (Entry.Share e).length false:=by simp
  have h1:0<k + 1:=by omega
  simp [this,h1]
theorem ztE {e:Entry}{n k:Int}(h:mayB e n=true) (h0:0≤k) (hk:k<n) :
  (((zmd e k).2=0)↔(Entry.Owner e=k + 1))∧((zmd e k).2=0→Entry.Owner (zmd e k).1=0)∧mayB (zmd e k).1 n=true:=by
 have hh:=ztz h h0 hk
 obtain ⟨⟨m1,m2,m3,m4,m5⟩,m6⟩:=zb6.1 h
 unfold zmd
 rw [if_pos hh]
 by_cases h1:Entry.Owner e=k + 1
 ·rw [if_pos h1]
  refine ⟨by simp [h1],by simp,zb6.2 ⟨?_,.inl (by simp)⟩⟩
  simp;omega
 ·rw [if_neg h1]
  exact ⟨by simp [h1],by simp,h⟩
end Go.Proofs.YtdfohlonacbelaaGreat
