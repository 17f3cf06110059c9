/- Directories. -/
import Derived.Test.YtlgjbfdojbmmgaaR2
set_option linter.unusedSimpArgs false
set_option linter.unusedVariables false
namespace Go.Proofs.Ytlgjbfdojbmmgaa
open Go.SX
def zz5 (e:Entry) (c:Int):Bool :=
 decide (1≤c∧c≤4∧((Entry.Share e).length:Int)=c∧0≤Entry.Owner e∧Entry.Owner e≤c)&&(decide (Entry.Owner e=0)||decide ((Entry.Share e)[(Entry.Owner e - 1).toNat]?≠some true))
theorem zgG (e:Entry) (c:Int):ze3 e c=some (zz5 e c):=by
 unfold ze3 zz5
 by_cases h:1≤c∧c≤4∧((Entry.Share e).length:Int)=c∧0≤Entry.Owner e∧Entry.Owner e≤c
 ·obtain ⟨h1,h2,h3,h4,h5⟩:=h
  have e1:¬ c<1:=by omega
  have e2:¬ 4<c:=by omega
  have e4:¬ Entry.Owner e<0:=by omega
  have e5:¬ c<Entry.Owner e:=by omega
  by_cases ho:Entry.Owner e=0
  ·have e6:¬ c<0:=by omega
   have e7:0≤c:=by omega
   simp [e1,e2,h1,h2,h3,h4,ho,e6,e7]
  ·obtain ⟨k,hk⟩:∃ k:Nat,Entry.Owner e=k + 1:=⟨(Entry.Owner e - 1).toNat,by omega⟩
   have hw:w64 (Entry.Owner e - 1)=(k:Int):=by rw [zcu (by omega) (by omega)];omega
   have hl:k<(Entry.Share e).length:=by omega
   have hz:(Entry.Owner e - 1).toNat=k:=by omega
   have hc:(decide (c<1)||(decide (4<c)||(!decide (((Entry.Share e).length:Int)=c)||(decide (Entry.Owner e<0)||decide (c<Entry.Owner e)))))=false:=by
    simp [e1,e2,h3,e4,e5]
   have hh:decide (1≤c∧c≤4∧((Entry.Share e).length:Int)=c∧0≤Entry.Owner e∧Entry.Owner e≤c)=true:=vC0 ⟨h1,h2,h3,h4,h5⟩
   simp only [hc,hh,hz,hw,zkR,wF0 hl,ho]
   cases (Entry.Share e)[k]<;>simp
 ·have:(decide (c<1)||(decide (4<c)||(!decide (((Entry.Share e).length:Int)=c)||(decide (Entry.Owner e<0)||decide (c<Entry.Owner e)))))=true:=by
   simp
   omega
  simp [this,h]
def hasB (e:Entry) (n:Int):Bool:=zz5 e ((Entry.Share e).length:Int)&&(decide (0≤n)&&decide (n<((Entry.Share e).length:Int)))
theorem zgb (e:Entry) (n:Int):zeT e n=some (hasB e n):=by
 unfold zeT hasB
 rw [zgG]
 cases zz5 e ((Entry.Share e).length:Int)<;>by_cases h:0≤n<;>simp [h]
theorem zoB {e:Entry}{n:Int}(h:hasB e n=true):(Entry.Share e).length≤4∧0≤n∧n<((Entry.Share e).length:Int)∧0≤Entry.Owner e∧Entry.Owner e≤4:=by
 simp [hasB,zz5] at h
 omega
def za5 (l:List Bool) (n:Int):Nat→List Int
 | 0=>[]
 | k + 1=>if l[k]?=some true∧(k:Int)≠n then za5 l n k++[(k:Int)] else za5 l n k
theorem ziE (l:List Bool) (n:Int):∀ k,(za5 l n k).length≤k
 | 0=>wG0 _
 | k + 1=>by
  have:=ziE l n k
  simp only [za5]
  split
  ·simp;omega
  ·omega
theorem zBn {l:List Int}{x:Int}(h:l.length≤1000):zzN 8 l [x]=some (l++[x]):=zvc (zlS (by simp;omega) (by simp;omega))
theorem zlL (l:List Bool) (n:Int) (hl:l.length≤1000):zae (zbP n l (l.length:Int)) ((0:Int),([]:List Int))=some (za5 l n l.length):=by
 have:=zov (f:=zbP n l (l.length:Int)) (fun i=>((i:Int),za5 l n i)) (n:=0) (m:=l.length) (by omega) fun i _ hi=>by
  have hlt:(i:Int)<l.length:=by omega
  have hw:w64 ((i:Int) + 1)=i + 1:=zcu (by omega) (by omega)
  have hx:zzH (l.length:Int) (i:Int)=some (i:Int):=zrb (by omega) hlt
  have ho:=ziE l n i
  unfold zbP
  simp only [hlt,hx,vE0,if_true,wC0,zkR,wF0 hi,hw,za5]
  rw [zBn (by omega)]
  cases l[i]<;>by_cases hn:(i:Int)=n<;>simp [hn]
 refine this.trans (zdy ?_)
 unfold zbP
 simp
theorem ziv {l:List Bool}{n:Int}:∀ {k:Nat},za5 l n k=[]→∀ i,i<k→(i:Int)≠n→l[i]?≠some true
 | 0,_,i,hi,_=>by omega
 | k + 1,h,i,hi,hn=>by
  simp only [za5] at h
  split at h
  ·simp at h
  ·rename_i hc
   by_cases e:i=k
   ·subst e;exact fun h'=>hc ⟨h',hn⟩
   ·exact ziv h i (by omega) hn
theorem zua {l:List Bool}(h:l.length≤1000):zat 1 l=some l:=zpe (zlS (by omega) (by omega))
def zxV (e:Entry) (n:Int):Entry×Int×Int :=
 if hasB e n=true then
  if Entry.Owner e=0∧za5 (Entry.Share e) n (Entry.Share e).length=[] then (Entry.mk (n + 1) (List.replicate (Entry.Share e).length false),0,0)
  else if Entry.Owner e=n + 1 then (e,n + 1,0)
  else (Entry.mk (Entry.Owner e) ((Entry.Share e).set n.toNat true),Entry.Owner e,0)
 else (e,0,1)
theorem zuK {l:List Bool}{n:Int}(h0:0≤n) (hn:n<(l.length:Int)) (h:za5 l n l.length=[]):l.set n.toNat false=List.replicate l.length false:=by
 apply List.ext_getElem
 ·simp
 ·intro i h1 h2
  simp only [List.length_set] at h1
  rw [List.getElem_set,List.getElem_replicate]
  split
  ·rfl
  ·have:=ziv h i h1 (by omega)
   rw [wF0 h1] at this
   cases hb:l[i] with
   | false=>rfl
   | true=>rw [hb] at this;exact absurd rfl this
theorem zo1 (e:Entry) (n:Int) (hl:(Entry.Share e).length≤1000):ze7 e n=some (zxV e n):=by
 unfold ze7 zxV
 rw [zua hl]
 simp only [wC0,Entry.eta,zgb]
 cases hh:hasB e n with
 | false=>simp
 | true =>
  obtain ⟨h1,h2,h3,h4,h5⟩:=zoB hh
  have hw:w64 (n + 1)=n + 1:=zcu (by omega) (by omega)
  have hx:zzH ((Entry.Share e).length:Int) n=some n:=zrb h2 h3
  have hs:=fun b:Bool=>zvv (v:=b) h2 h3
  simp only [wH0,wA0,if_false,if_true,zlL _ _ hl,wC0,hw,hx,hs]
  by_cases ho:Entry.Owner e=0
  ·by_cases hn:za5 (Entry.Share e) n (Entry.Share e).length=[]
   ·simp [ho,hn,zuK h2 h3 hn]
   ·have:¬ ((za5 (Entry.Share e) n (Entry.Share e).length).length:Int)=0:=fun h=>hn (vO0 (by omega))
    have h6:¬ (0:Int)=n + 1:=by omega
    simp [ho,hn,this,h6]
  ·by_cases h6:Entry.Owner e=n + 1
   ·have h7:¬ n + 1=0:=by omega
    simp [ho,h6,h7]
    rw [← h6]
    rfl
   ·simp [ho,h6]
theorem zrn:zhy=zbP:=rfl
def zuZ (e:Entry) (n:Int):Entry×Int×List Int×Int :=
 if hasB e n=true then (Entry.mk (n + 1) (List.replicate (Entry.Share e).length false),Entry.Owner e,za5 (Entry.Share e) n (Entry.Share e).length,0) else (e,0,[],1)
theorem znd (e:Entry) (n:Int) (hl:(Entry.Share e).length≤1000):zd8 e n=some (zuZ e n):=by
 unfold zd8 zuZ
 rw [zua hl,zrn]
 simp only [wC0,Entry.eta,zgb]
 rcases Bool.eq_false_or_eq_true (hasB e n) with hh|hh
 rotate_left
 ·simp [hh]
 ·obtain ⟨h1,h2,h3,h4,h5⟩:=zoB hh
  have hw:w64 (n + 1)=n + 1:=zcu (by omega) (by omega)
  simp only [hh,wH0,wA0,if_false,if_true,zlL _ _ hl,wC0,hw]
def zya (e:Entry) (n:Int):Entry×Int :=
 if hasB e n=true then (if Entry.Owner e=n + 1 then (Entry.mk 0 (Entry.Share e),0) else (e,7)) else (e,1)
theorem zoP (e:Entry) (n:Int) (hl:(Entry.Share e).length≤1000):zeZ e n=some (zya e n):=by
 unfold zeZ zya
 rw [zua hl]
 simp only [wC0,Entry.eta,zgb]
 rcases Bool.eq_false_or_eq_true (hasB e n) with hh|hh
 rotate_left
 ·simp [hh]
 ·obtain ⟨h1,h2,h3,h4,h5⟩:=zoB hh
  have hw:w64 (n + 1)=n + 1:=zcu (by omega) (by omega)
  by_cases h6:Entry.Owner e=n + 1<;>simp [hh,hw,h6]
theorem zto (l:List Bool) (hl:(l.length:Int)≤9223372036854775807):(true∈l∧∃ i:Nat,zaM l true=some (i:Int))∨(true∉l∧zaM l true=some (-1)):=by
 have step:∀ i:Nat,i<l.length→zad l true (l.length:Int) i=some (if l[i]?=some true then .inr (.inr (i:Int)) else .inl ((i:Int) + 1)):=fun i hi=>by
  have hw:w64 ((i:Int) + 1)=i + 1:=zcu (by omega) (by omega)
  have hlt:(i:Int)<(l.length:Int):=by omega
  unfold zad
  rw [zkR,wF0 hi]
  cases hb:l[i]<;>simp [hlt,hw,hb]
 have last:zad l true (l.length:Int) (l.length:Int)=some (.inr (.inl ())):=by
  unfold zad
  simp
 simp only [zaM]
 rcases zkZ (fun i=>decide (l[i]?≠some true)) l.length with h|⟨i,h1,h2,h3⟩
 ·refine .inr ⟨fun hm=>?_,?_⟩
  ·obtain ⟨i,hi,e⟩:=List.getElem_of_mem hm
   have:=h i hi
   simp [wF0 hi,e] at this
  ·have:=zov (f:=zad l true (l.length:Int)) (fun i=>(i:Int)) (n:=0) (m:=l.length) (by omega) fun j _ hj=>by
    rw [step j hj,if_neg (by simpa using h j hj)]
    simp
   rw [show zae (zad l true (l.length:Int)) 0=some (.inl ()) from this.trans (zdy last)]
   rfl
 ·have h2':l[i]?=some true:=by simpa using h2
  refine .inl ⟨List.mem_of_getElem? h2',i,?_⟩
  have:=zov (f:=zad l true (l.length:Int)) (fun i=>(i:Int)) (n:=0) (m:=i) (by omega) fun j _ hj=>by
   rw [step j (by omega),if_neg (by simpa using h3 j hj)]
   simp
  rw [show zae (zad l true (l.length:Int)) 0=some (.inr (i:Int)) from this.trans (zdy (by rw [step i h1,if_pos h2']))]
  rfl
theorem zn4 (l:List Bool) (hl:(l.length:Int)≤9223372036854775807):zaN l true=some (decide (true∈l)):=by
 unfold zaN
 rcases zto l hl with ⟨h1,i,h2⟩|⟨h1,h2⟩
 ·rw [h2];simp [h1]
 ·rw [h2];simp [h1]
def zvu (e:Entry):Bool:=zz5 e ((Entry.Share e).length:Int)&&(decide (0<Entry.Owner e)&&decide (true∉Entry.Share e))
theorem zm2 (e:Entry):zcJ e=some (zvu e):=by
 unfold zcJ zvu
 rw [zgG]
 cases hm:zz5 e ((Entry.Share e).length:Int) with
 | false=>simp
 | true =>
  have hl:((Entry.Share e).length:Int)≤9223372036854775807:=by
   simp [zz5] at hm
   omega
  simp only [zn4 _ hl]
  by_cases h:0<Entry.Owner e<;>simp [h]
theorem zk5 {e:Entry}{c:Int}:zz5 e c=true↔(1≤c∧c≤4∧((Entry.Share e).length:Int)=c∧0≤Entry.Owner e∧Entry.Owner e≤c)∧(Entry.Owner e=0∨(Entry.Share e)[(Entry.Owner e - 1).toNat]?≠some true):=by
 unfold zz5
 simp only [wD0,Bool.or_eq_true,vG0]
theorem zrv {e:Entry}{n k:Int}(h:zz5 e n=true) (h0:0≤k) (hk:k<n):hasB e k=true:=by
 have:=(zk5.1 h).1.2.2.1
 unfold hasB
 rw [this,h]
 simp [h0,hk]
theorem zh7 {l:List Bool}{n:Int}{x:Int}:∀ {k:Nat},x∈za5 l n k→∃ j:Nat,x=j∧j<k∧l[j]?=some true∧(j:Int)≠n
 | 0,h=>by simp [za5] at h
 | k + 1,h=>by
  simp only [za5] at h
  split at h
  ·rename_i hc
   rcases List.mem_append.1 h with h|h
   ·obtain ⟨j,h1,h2,h3,h4⟩:=zh7 h
    exact ⟨j,h1,by omega,h3,h4⟩
   ·rw [List.mem_singleton] at h
    exact ⟨k,h,by omega,hc.1,hc.2⟩
  ·obtain ⟨j,h1,h2,h3,h4⟩:=zh7 h
   exact ⟨j,h1,by omega,h3,h4⟩
end Go.Proofs.Ytlgjbfdojbmmgaa
