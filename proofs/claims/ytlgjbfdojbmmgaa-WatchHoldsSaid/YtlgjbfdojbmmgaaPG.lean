/- Plain lemmas about loops, lists and entries, for the proofs behind. No condition. -/
import Derived.Test.YtlgjbfdojbmmgaaLim
set_option linter.unusedSimpArgs false
set_option linter.unusedVariables false
namespace Go.Proofs.Ytlgjbfdojbmmgaa
open Go.SX
theorem zaw {i:Nat}(h:i<4611686018427387904):w64 ((i:Int) + 1)=((i + 1:Nat):Int):=by rw [zcu (by omega) (by omega)];omega
theorem zjz {i:Nat}(h:i<4611686018427387904):w64 (i:Int)=i:=zcu (by omega) (by omega)
theorem zq1 {a n:Int}(h0:0≤a) (hn:0<n):zAj a n=some (a % n)∧0≤a % n∧a % n<n:=by
 refine ⟨?_,Int.emod_nonneg _ (by omega),Int.emod_lt_of_pos _ hn⟩
 unfold zAj
 rw [if_neg (by omega),Int.tmod_eq_emod_of_nonneg h0]
theorem zbd {α:Type}{l:List α}{i:Nat}(h:i<l.length):zzG l (i:Int)=some l[i]:=by rw [zkR,wF0 h]
theorem zoQ {n i:Nat}(h:i<n):zzH (n:Int) (i:Int)=some (i:Int):=zrb (by omega) (by omega)
theorem zyd {α:Type}{l:List α}{i:Nat}{v:α}(h:i<l.length):zzI l (i:Int) v=some (l.set i v):=by rw [zvv (by omega) (by omega)];simp
theorem zcG {n b:Nat}(h:n≤1000000) (hb:b≤10000):zaX n b=true:=by
 refine zlS ?_ (by omega)
 have:n * b≤1000000 * 10000:=Nat.mul_le_mul h hb
 omega
theorem zcP {α:Type}{b:Nat}{s x:List α}(h:s.length + x.length≤1000000) (hb:b≤10000):zzN b s x=some (s++x):=zvc (zcG h hb)
theorem zdj {α:Type}{b:Nat}{s:List α}(h:s.length≤1000000) (hb:b≤10000):zat b s=some s:=zpe (zcG h hb)
theorem zhb {α:Type}{z:α}{b n:Nat}(h:n≤1000000) (hb:b≤10000):zAf z b (n:Int) (n:Int)=some (List.replicate n z):=by
 rw [zxr (by omega) (by omega) (by simpa using zcG h hb)]
 simp
theorem zit {α:Type}{l:List α}{i j:Nat}(h1:i≤j) (h2:j≤l.length):zzR l (i:Int) (j:Int)=some ((l.take j).drop i):=by
 rw [zx2 (by omega) (by omega) (by omega)];simp
theorem zbq {α:Type}{l:List α}{i:Nat}(h:i<l.length):l.take (i + 1)=l.take i++[l[i]]:=by
 rw [List.take_add_one,wF0 h];rfl
theorem zaF {S E:Type}{f:S→Option (S⊕E)}(st:Nat→S) {n:Nat}{e:E}(step:∀ i,i<n→f (st i)=some (.inl (st (i + 1)))) (out:f (st n)=some (.inr e)):zae f (st 0)=some e:=by
 rw [zov st (Nat.zero_le n) (fun i _ h=>step i h),zdy out]
theorem zsW {S E:Type}{f:S→Option (S⊕E)}(st:Nat→S) {n:Nat}(ok:Nat→Bool) {e r:E}
  (step:∀ i,i<n→(∀ j,j<i→ok j=true)→f (st i)=some (if ok i=true then .inl (st (i + 1)) else .inr r))
  (out:(∀ j,j<n→ok j=true)→f (st n)=some (.inr e)):zae f (st 0)=some (if (List.range n).all ok=true then e else r):=by
 rcases zkZ ok n with h|⟨k,hk,h1,h2⟩
 ·have hall:(List.range n).all ok=true:=by
   rw [List.all_eq_true]
   intro i hi
   exact h i (List.mem_range.1 hi)
  rw [if_pos hall]
  refine zaF st (fun i hi=>?_) (out h)
  rw [step i hi fun j hj=>h j (by omega),h i hi]
  rfl
 ·have hall:(List.range n).all ok=false:=by
   rw [List.all_eq_false]
   exact ⟨k,List.mem_range.2 hk,by rw [h1];simp⟩
  rw [hall]
  refine zaF (n:=k) st (fun i hi=>?_) ?_
  ·rw [step i (by omega) fun j hj=>h2 j (by omega),h2 i hi]
   rfl
  ·rw [step k hk h2,h1]
   rfl
theorem zp5 {S:Type}{f:S→Option (S⊕Unit⊕Bool)}(st:Nat→S) {n:Nat}(ok:Nat→Bool) {g:Unit→Option Bool}
  (step:∀ i,i<n→(∀ j,j<i→ok j=true)→f (st i)=some (if ok i=true then .inl (st (i + 1)) else .inr (.inr false)))
  (out:(∀ j,j<n→ok j=true)→f (st n)=some (.inr (.inl ()))):zbv (zae f (st 0)) g=if (List.range n).all ok=true then g () else some false:=by
 rw [zsW st ok step out]
 split<;>rfl
theorem zbM {n:Nat}{p:Nat→Bool}:(List.range n).all p=true↔∀ i,i<n→p i=true:=by
 rw [List.all_eq_true]
 exact ⟨fun h i hi=>h i (List.mem_range.2 hi),fun h i hi=>h i (List.mem_range.1 hi)⟩
theorem zsV {S E:Type}{f:S→Option (S⊕E)}(st:Nat→S) {n:Nat}(ok:Nat→Bool) {e:E}{r:Nat→E}
  (step:∀ i,i<n→(∀ j,j<i→ok j=true)→f (st i)=some (if ok i=true then .inl (st (i + 1)) else .inr (r i)))
  (out:(∀ j,j<n→ok j=true)→f (st n)=some (.inr e)):((∀ j,j<n→ok j=true)∧zae f (st 0)=some e)∨∃ k,k<n∧ok k=false∧(∀ j,j<k→ok j=true)∧zae f (st 0)=some (r k):=by
 rcases zkZ ok n with h|⟨k,hk,h1,h2⟩
 ·refine .inl ⟨h,zaF st (fun i hi=>?_) (out h)⟩
  rw [step i hi fun j hj=>h j (by omega),h i hi]
  rfl
 ·refine .inr ⟨k,hk,h1,h2,zaF (n:=k) st (fun i hi=>?_) ?_⟩
  ·rw [step i (by omega) fun j hj=>h2 j (by omega),h2 i hi]
   rfl
  ·rw [step k hk h2,h1]
   rfl
def zbx (ok:Nat→Bool):Nat→Nat
 | 0=>0
 | n + 1=>if zbx ok n<n then zbx ok n else if ok n=true then n + 1 else n
theorem zci (ok:Nat→Bool):∀ n,zbx ok n≤n∧(∀ j,j<zbx ok n→ok j=true)∧(zbx ok n<n→ok (zbx ok n)=false)
 | 0=>⟨wG0 0,fun j h=>absurd h (Nat.not_lt_zero j),fun h=>absurd h (Nat.lt_irrefl 0)⟩
 | n + 1=>by
  obtain ⟨h1,h2,h3⟩:=zci ok n
  simp only [zbx]
  by_cases hlt:zbx ok n<n
  ·rw [if_pos hlt]
   exact ⟨by omega,h2,fun _=>h3 hlt⟩
  ·rw [if_neg hlt]
   have he:zbx ok n=n:=by omega
   rw [he] at h2
   by_cases hok:ok n=true
   ·rw [if_pos hok]
    refine ⟨wG0 _,fun j hj=>?_,fun h=>absurd h (Nat.lt_irrefl _)⟩
    rcases vU0 j n with h|h
    ·exact h2 j h
    ·have:j=n:=by omega
     rw [this];exact hok
   ·rw [if_neg hok]
    exact ⟨by omega,h2,fun _=>by simpa using hok⟩
theorem zhi {ok:Nat→Bool}{n:Nat}:zbx ok n=n↔∀ j,j<n→ok j=true:=by
 obtain ⟨h1,h2,h3⟩:=zci ok n
 constructor
 ·intro h j hj
  exact h2 j (by omega)
 ·intro h
  rcases vU0 (zbx ok n) n with hl|hl
  ·have:=h3 hl
   rw [h _ hl] at this
   cases this
  ·omega
theorem ztX {ok:Nat→Bool}{n k:Nat}(hk:k<n) (h0:ok k=false) (hp:∀ j,j<k→ok j=true):zbx ok n=k:=by
 obtain ⟨h1,h2,h3⟩:=zci ok n
 rcases Nat.lt_trichotomy (zbx ok n) k with h|h|h
 ·have:=h3 (by omega)
  rw [hp _ h] at this
  cases this
 ·exact h
 ·have:=h2 k h
  rw [h0] at this
  cases this
theorem zj5 {S E:Type}{f:S→Option (S⊕E)}(st:Nat→S) {n:Nat}(ok:Nat→Bool) {e:E}{r:Nat→E}
  (step:∀ i,i<n→(∀ j,j<i→ok j=true)→f (st i)=some (if ok i=true then .inl (st (i + 1)) else .inr (r i)))
  (out:(∀ j,j<n→ok j=true)→f (st n)=some (.inr e)):zae f (st 0)=some (if zbx ok n<n then r (zbx ok n) else e):=by
 rcases zsV st ok step out with ⟨h,hl⟩|⟨k,hk,h0,hp,hl⟩
 ·rw [hl,if_neg (by rw [zhi.2 h];omega)]
 ·rw [hl,ztX hk h0 hp,if_pos hk]
def zz4 {α:Type}(p:α→Bool):Option α→Bool|some x=>p x|none=>true
theorem zdm {α:Type}{p:α→Bool}{l:List α}{i:Nat}(h:i<l.length):zz4 p l[i]?=p l[i]:=by rw [wF0 h];rfl
theorem zeN {α:Type}{p:α→Bool}{l:List α}:l.all p=(List.range l.length).all fun i=>zz4 p l[i]?:=by
 rw [Bool.eq_iff_iff,zbM]
 simp only [List.all_eq_true]
 constructor
 ·intro h i hi
  rw [zdm hi]
  exact h _ (List.getElem_mem hi)
 ·intro h x hx
  obtain ⟨i,hi,rfl⟩:=List.getElem_of_mem hx
  have:=h i hi
  rwa [zdm hi] at this
theorem zka {α:Type}{b:Nat}{buf x:List α}{p:Nat}(hp:p≤buf.length) (hr:p + x.length≤1000000) (hb:b≤10000) :
  ∃ buf',zoO b buf (p:Int) x=some buf'∧buf'.take (p + x.length)=buf.take p++x∧p + x.length≤buf'.length:=by
 refine ⟨buf.take p++(x++buf.drop (p + x.length)),?_,?_,?_⟩
 ·unfold zoO
  rw [if_pos ⟨by omega,by omega,by simpa using zcG hr hb⟩]
  simp
 ·rw [← vB0,List.take_append_of_le_length (by rw [wI0,wE0];omega),List.take_of_length_le (by rw [wI0,wE0];omega)]
 ·simp only [wI0,wE0,vR0]
  omega
theorem ztj {α:Type}{f:(Int×Int)→Option ((Int×Int)⊕Int)}{xs:List (List α)}
  (step:∀ (i:Nat) (h:i<xs.length) (s:Nat),s + xs[i].length≤1000000→f ((s:Int),(i:Int))=some (.inl (((s + xs[i].length:Nat):Int),((i + 1:Nat):Int))))
  (out:∀ s:Nat,f ((s:Int),(xs.length:Int))=some (.inr (s:Int))) (ht:xs.flatten.length≤1000000):zae f ((0:Int),(0:Int))=some (xs.flatten.length:Int):=by
 have hle:∀ i,(xs.take i).flatten.length≤xs.flatten.length:=fun i=>by
  have:xs.flatten=(xs.take i).flatten++(xs.drop i).flatten:=by rw [← List.flatten_append,List.take_append_drop]
  rw [this,wI0]
  omega
 have lp:=zaF (f:=f) (n:=xs.length) (e:=(xs.flatten.length:Int)) (fun i=>(((xs.take i).flatten.length:Int),(i:Int))) (fun i hi=>by
  have e:(xs.take (i + 1)).flatten.length=(xs.take i).flatten.length + xs[i].length:=by rw [zbq hi,List.flatten_append,wI0];simp
  have:=hle (i + 1)
  rw [step i hi _ (by omega),e]) (by
  rw [List.take_length]
  exact out _)
 exact lp
theorem zs9 {α:Type}{b:Nat}(hb:b≤10000) {f:(Int×Int×List α)→Option ((Int×Int×List α)⊕(Int×List α))}{xs:List (List α)}
  (step:∀ (i:Nat) (h:i<xs.length) (p:Nat) (buf buf':List α),zoO b buf (p:Int) xs[i]=some buf'→f ((p:Int),(i:Int),buf)=some (.inl (((p + xs[i].length:Nat):Int),((i + 1:Nat):Int),buf')))
  (out:∀ (p:Nat) (buf:List α),f ((p:Int),(xs.length:Int),buf)=some (.inr ((p:Int),buf))) (ht:xs.flatten.length≤1000000) (buf0:List α) :
  ∃ buf,zae f ((0:Int),(0:Int),buf0)=some ((xs.flatten.length:Int),buf)∧zzR buf (0:Int) (xs.flatten.length:Int)=some xs.flatten:=by
 have hle:∀ i,(xs.take i).flatten.length≤xs.flatten.length:=fun i=>by
  have:xs.flatten=(xs.take i).flatten++(xs.drop i).flatten:=by rw [← List.flatten_append,List.take_append_drop]
  rw [this,wI0]
  omega
 have lp:=ztR (f:=f) (fun s=>∃ (i:Nat) (buf:List α),i≤xs.length∧s=(((xs.take i).flatten.length:Int),(i:Int),buf)∧buf.take (xs.take i).flatten.length=(xs.take i).flatten∧(xs.take i).flatten.length≤buf.length) (fun s=>xs.length - s.2.1.toNat)
  (fun r=>∃ buf:List α,r=((xs.flatten.length:Int),buf)∧buf.take xs.flatten.length=xs.flatten∧xs.flatten.length≤buf.length) (fun s hs=>by
   obtain ⟨i,buf,hi,rfl,h1,h2⟩:=hs
   rcases vU0 i xs.length with hil|hil
   ·left
    have e:(xs.take (i + 1)).flatten=(xs.take i).flatten++xs[i]:=by rw [zbq hil,List.flatten_append];simp
    have el:(xs.take (i + 1)).flatten.length=(xs.take i).flatten.length + xs[i].length:=by rw [e,wI0]
    have:=hle (i + 1)
    obtain ⟨buf',g1,g2,g3⟩:=zka (b:=b) (buf:=buf) (x:=xs[i]) h2 (by omega) hb
    refine ⟨_,step i hil _ _ _ g1,⟨i + 1,buf',by omega,by rw [el],by rw [el,g2,h1,e],by omega⟩,by simp only [Int.toNat_natCast];omega⟩
   ·right
    have:i=xs.length:=by omega
    subst this
    rw [List.take_length] at h1 h2 ⊢
    exact ⟨_,out _ _,buf,rfl,h1,h2⟩) (s:=((0:Int),(0:Int),buf0)) ⟨0,buf0,Nat.zero_le _,by simp,by simp,by simp⟩
 obtain ⟨r,hr,buf,rfl,h1,h2⟩:=lp
 refine ⟨buf,hr,?_⟩
 have:=zit (l:=buf) (i:=0) (j:=xs.flatten.length) (by omega) h2
 rw [List.drop_zero,h1] at this
 exact this
theorem zqT {α:Type}{z:α}{b n:Nat}(hn:n≤1000000) (hb:b≤10000):∃ buf0:List α,((if decide ((0:Int)<(n:Int))=true then (ztg z b ([]:List α) (n:Int)).bind fun v13=>(zAl (List.length v13:Int) (0:Int) (0:Int)).bind fun v15=>some ((v15,v13)) else some (((0:Int),([]:List α)))):Option (Int×List α))=some ((0:Int),buf0):=by
 by_cases h:(0:Int)<(n:Int)
 ·refine ⟨List.replicate n z,?_⟩
  have h1:ztg z b ([]:List α) (n:Int)=some (List.replicate n z):=by
   unfold ztg
   rw [if_pos (by omega),Int.toNat_natCast,zcP (by simp;omega) hb]
   rfl
  have h2:zAl (List.length (List.replicate n z):Int) (0:Int) (0:Int)=some 0:=by unfold zAl;rw [if_pos (by omega)]
  simp only [h,vE0,if_true,h1,wC0,h2]
 ·exact ⟨[],by simp only [h,vF0,wA0,if_false]⟩
end Go.Proofs.Ytlgjbfdojbmmgaa
