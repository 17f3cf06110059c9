/- Layer 14: which stores are right, and their words, by the program and by the reference. -/
import Derived.Test.YtlgjbfdojbmmgaaP7e
import Derived.Test.YtlgjbfdojbmmgaaU4
set_option linter.unusedSimpArgs false
set_option linter.unusedVariables false
namespace Go.Proofs.Ytlgjbfdojbmmgaa
open Go.SX
theorem zuu {a n:Nat}(hn:0<n):remO (a:Int) (n:Int)=some ((a % n:Nat):Int):=by
 rw [(zjo (a:=(a:Int)) (n:=(n:Int)) (by omega) (by omega)).1]
 rfl
theorem ztb {a n:Nat}(hn:0<n) (ha:a≤1000000):quoO .i64 (a:Int) (n:Int)=some ((a / n:Nat):Int):=by
 unfold quoO
 rw [if_neg (by omega)]
 have h:=Nat.div_le_self a n
 show some (w64 ((a / n:Nat):Int))=_
 rw [zoW (by omega)]
def bN (b:Banks):Nat:=(Banks.Rows b).length
def bM (b:Banks):Nat:=(Banks.Par b).length
def allB (b:Banks):List Int:=(List.range (bN b * bM b)).map fun p=>cell (Banks.Rows b) (p % bN b) (p / bN b)
theorem zfH (b:Banks):(allB b).length=bN b * bM b:=by simp [allB]
theorem zg5 {b:Banks}{p:Nat}(h:p<bN b * bM b):(allB b)[p]?=some (cell (Banks.Rows b) (p % bN b) (p / bN b)):=by
 unfold allB
 rw [List.getElem?_map,List.getElem?_range h]
 rfl
def zb2 (s:Vault):List Int:=(allB (Vault.Banks s)).take (Vault.Words s).toNat
def zlog (s:Vault):Log:=Log.mk (List.replicate (Vault.Words s).toNat 0) (Vault.Span s) (Vault.Lst s)
def logV (s:Vault):Log:=Log.mk (zb2 s) (Vault.Span s) (Vault.Lst s)
def fitV (s:Vault):Prop:=1≤Vault.Words s∧Vault.Words s≤64∧(Vault.Words s).toNat≤bM (Vault.Banks s) * bN (Vault.Banks s)∧(bM (Vault.Banks s) - 1) * bN (Vault.Banks s)<(Vault.Words s).toNat
instance (s:Vault):Decidable (fitV s):=by unfold fitV;infer_instance
noncomputable def zaz (s:Vault):Bool:=zb9 (Vault.Banks s)&&(decide (fitV s)&&zaq (zlog s))
structure VOk (s:Vault):Prop where
 b:BOk (Vault.Banks s)
 l:(Vault.Lst s).length≤300
 v:∀ u∈Vault.Lst s,wd (Undo.Val u)
theorem zam {s:Vault}(h:zaz s=true):zb9 (Vault.Banks s)=true∧fitV s∧zaq (zlog s)=true:=by
 unfold zaz at h
 simpa only [wD0,decide_eq_true_eq] using h
theorem zrG {w n:Nat}(hn:0<n) (hw:w≤100) (hn2:n≤100):zd1 (w:Int) (n:Int)=some (((w + n - 1) / n:Nat):Int):=by
 unfold zd1
 have e1:w64 (w64 ((w:Int) + (n:Int)) - 1)=((w + n - 1:Nat):Int):=by
  rw [zdE (n:=(w:Int) + (n:Int)) (by omega) (by omega),zdE (by omega) (by omega)]
  omega
 rw [e1,ztb hn (by omega)]
 rfl
theorem zqk {w n m:Nat}(hn:0<n) (hw:0<w) (hm:1≤m):m=(w + n - 1) / n↔w≤m * n∧(m - 1) * n<w:=by
 have h1:=Nat.div_add_mod (w + n - 1) n
 have h2:=Nat.mod_lt (w + n - 1) hn
 constructor
 ·intro h
  rw [← h] at h1
  have e:(m - 1) * n + n=n * m:=by
   obtain ⟨k,rfl⟩:∃ k,m=k + 1:=⟨m - 1,by omega⟩
   rw [Nat.mul_comm n,Nat.add_mul,Nat.one_mul];rfl
  rw [Nat.mul_comm m n]
  omega
 ·rintro ⟨h3,h4⟩
  rw [eq_comm,Nat.div_eq_iff hn]
  have e:(m - 1) * n + n=m * n:=by
   obtain ⟨k,rfl⟩:∃ k,m=k + 1:=⟨m - 1,by omega⟩
   rw [Nat.add_mul,Nat.one_mul];rfl
  omega
theorem zr7 {s:Vault}(hl:(Vault.Lst s).length≤1000) (hw:0≤Vault.Words s):ze7 s=some ((List.range (Vault.Lst s).length).all (uok (zlog s))):=by
 have h:=zrR (zlog s) hl
 have e:(List.length (Log.Mem (zlog s)):Int)=Vault.Words s:=by
  unfold zlog
  rw [Log.Mem_mk,List.length_replicate]
  omega
 rw [e] at h
 exact h
theorem zct {s:Vault}(hs:VOk s):zbO s=some (zaz s):=by
 unfold zbO zaz
 rw [zfh hs.b]
 cases hr:zb9 (Vault.Banks s)
 ·rfl
 obtain ⟨⟨s1,s2,s3,s4,_,_⟩,_⟩:=zaU hr
 simp only [wC0,wH0,wA0,if_false,Bool.true_and]
 by_cases h1:Vault.Words s<1
 ·have:¬ fitV s:=fun h=>by unfold fitV at h;omega
  simp only [h1,this,decide_true,decide_false,if_true,Bool.false_and,wC0]
 by_cases h2:64<Vault.Words s
 ·have:¬ fitV s:=fun h=>by unfold fitV at h;omega
  simp only [h1,h2,this,decide_true,decide_false,if_true,Bool.false_and,wC0,wA0,if_false]
 obtain ⟨W,hW⟩:∃ W:Nat,Vault.Words s=(W:Int):=⟨(Vault.Words s).toNat,by omega⟩
 have hri:=zr7 (s:=s) (by have:=hs.l;omega) (by omega)
 simp only [h1,h2,decide_false,wC0,wA0,if_false]
 have he:=zrG (w:=W) (n:=(Banks.Rows (Vault.Banks s)).length) (by omega) (by omega) (by omega)
 rw [hW,he]
 simp only [wC0]
 have hi:=zqk (w:=W) (n:=(Banks.Rows (Vault.Banks s)).length) (m:=(Banks.Par (Vault.Banks s)).length) (by omega) (by omega) s3
 by_cases hf:fitV s
 ·have hf2:=hf
  unfold fitV bM bN at hf2
  rw [hW,Int.toNat_natCast] at hf2
  have hm:=hi.2 ⟨hf2.2.2.1,hf2.2.2.2⟩
  have c1:(List.length (Banks.Par (Vault.Banks s)):Int)=(((W + (Banks.Rows (Vault.Banks s)).length - 1) / (Banks.Rows (Vault.Banks s)).length:Nat):Int):=by rw [← hm]
  simp only [c1,hf,decide_true,wH0,wA0,if_false,Bool.true_and]
  unfold zaq
  by_cases h3:0≤Vault.Span s
  ·by_cases h4:Vault.Span s≤1099511627776
   ·by_cases h5:(Vault.Lst s).length≤256
    ·have hz:zbL (zlog s):=by
      unfold zbL zlog
      simp only [Log.Mem_mk,Log.Span_mk,Log.Lst_mk,List.length_replicate]
      omega
     have h5':(List.length (Vault.Lst s):Int)≤256:=by omega
     simp only [h3,h4,h5',hz,decide_true,if_true,hri,wC0,Bool.true_and]
     rfl
    ·have hz:¬ zbL (zlog s):=by
      unfold zbL zlog
      simp only [Log.Mem_mk,Log.Span_mk,Log.Lst_mk,List.length_replicate]
      omega
     have h5':¬ (List.length (Vault.Lst s):Int)≤256:=by omega
     simp only [h3,h4,h5',hz,decide_true,decide_false,if_true,wC0,Bool.false_and,wA0,if_false]
   ·have hz:¬ zbL (zlog s):=by
     unfold zbL zlog
     simp only [Log.Mem_mk,Log.Span_mk,Log.Lst_mk,List.length_replicate]
     omega
    simp only [h3,h4,hz,decide_true,decide_false,if_true,wC0,Bool.false_and,wA0,if_false]
  ·have hz:¬ zbL (zlog s):=by
    unfold zbL zlog
    simp only [Log.Mem_mk,Log.Span_mk,Log.Lst_mk,List.length_replicate]
    omega
   simp only [h3,hz,decide_false,wC0,Bool.false_and,wA0,if_false]
 ·have hm:¬ (List.length (Banks.Par (Vault.Banks s)):Int)=(((W + (Banks.Rows (Vault.Banks s)).length - 1) / (Banks.Rows (Vault.Banks s)).length:Nat):Int):=by
   intro h
   have h':=hi.1 (Int.ofNat.inj h)
   apply hf
   unfold fitV bM bN
   rw [hW,Int.toNat_natCast]
   omega
  simp only [hm,hf,decide_false,Bool.not_false,if_true,Bool.false_and]
theorem zlq {m m':List Int}{sp:Int}{l:List Undo}(h:m.length=m'.length):zaq (Log.mk m sp l)=zaq (Log.mk m' sp l):=by
 have hu:uok (Log.mk m sp l)=uok (Log.mk m' sp l):=by
  funext i
  unfold uok
  simp only [Log.Mem_mk,Log.Span_mk,Log.Lst_mk,h]
  cases l[i]?<;>rfl
 have hs:zbL (Log.mk m sp l)=zbL (Log.mk m' sp l):=by
  unfold zbL
  simp only [Log.Mem_mk,Log.Span_mk,Log.Lst_mk,h]
 unfold zaq
 simp only [Log.Lst_mk,hs,hu]
theorem zfF {s:Vault}(h:fitV s):(zb2 s).length=(Vault.Words s).toNat:=by
 unfold fitV at h
 unfold zb2
 rw [wE0,zfH,Nat.mul_comm]
 omega
theorem zcC {s:Vault}(h:zaz s=true):zaq (logV s)=true:=by
 obtain ⟨_,h2,h3⟩:=zam h
 unfold logV
 rw [zlq (m':=List.replicate (Vault.Words s).toNat 0) (by rw [zfF h2,List.length_replicate])]
 exact h3
theorem zq7 {f:(Int×List Int)→Option ((Int×List Int)⊕List Int)}{s:Vault}(hr:zaz s=true)
  (step:∀ (i:Nat) (l:List Int),i<(Vault.Words s).toNat→l.length≤100→f ((i:Int),l)=some (.inl (((i + 1:Nat):Int),l++[cell (Banks.Rows (Vault.Banks s)) (i % bN (Vault.Banks s)) (i / bN (Vault.Banks s))])))
  (out:∀ l:List Int,f (Vault.Words s,l)=some (.inr l)):zaA f ((0:Int),([]:List Int))=some (zb2 s):=by
 obtain ⟨_,h2,_⟩:=zam hr
 have h3:=h2
 unfold fitV at h3
 have hl:=zfH (Vault.Banks s)
 have lp:=za5 (f:=f) (n:=(Vault.Words s).toNat) (e:=zb2 s) (fun i=>((i:Int),(allB (Vault.Banks s)).take i)) (fun i hi=>by
  have hip:i<bN (Vault.Banks s) * bM (Vault.Banks s):=by rw [Nat.mul_comm];omega
  rw [step i _ hi (by rw [wE0];omega),zb3 (by rw [hl];exact hip)]
  have:=zg5 hip
  rw [wF0 (by rw [hl];exact hip)] at this
  rw [Option.some.inj this]) (by
  have e:(((Vault.Words s).toNat:Nat):Int)=Vault.Words s:=by omega
  rw [e,out]
  rfl)
 exact lp
theorem zuK {b:Banks}(h:zb9 b=true) {k:Nat}(hk:k<bN b):(rowAt (Banks.Rows b) k).length=bM b:=(zaU h).2 _ (zdh hk)
theorem zfw {s:Vault}(h:zaz s=true) {i:Nat}(hi:i<(Vault.Words s).toNat):0<bN (Vault.Banks s)∧i % bN (Vault.Banks s)<bN (Vault.Banks s)∧i / bN (Vault.Banks s)<bM (Vault.Banks s):=by
 obtain ⟨h1,h2,_⟩:=zam h
 obtain ⟨⟨s1,_⟩,_⟩:=zaU h1
 have hn:0<bN (Vault.Banks s):=s1
 unfold fitV at h2
 refine ⟨hn,Nat.mod_lt _ hn,?_⟩
 rw [Nat.div_lt_iff_lt_mul hn]
 omega
theorem ziS (s:Vault) (i:Nat) (hn:0<bN (Vault.Banks s)) (hi:i≤1000):za6 s (i:Int)=some (((i % bN (Vault.Banks s):Nat):Int),((i / bN (Vault.Banks s):Nat):Int)):=by
 unfold za6
 have e:(List.length (Banks.Rows (Vault.Banks s)):Int)=(bN (Vault.Banks s):Int):=rfl
 dsimp only
 rw [e,zuu hn,wC0,ztb hn (by omega),wC0]
theorem ztn {b:Banks}(h:zb9 b=true) {k a:Nat}(hk:k<bN b) (ha:a<bM b):getO (Banks.Rows b) (k:Int)=some (rowAt (Banks.Rows b) k)∧getO (rowAt (Banks.Rows b) k) (a:Int)=some (cell (Banks.Rows b) k a):=by
 constructor
 ·rw [zat hk,zek hk]
 ·have hl:=zuK h hk
  rw [zat (show a<(rowAt (Banks.Rows b) k).length by omega)]
  unfold cell
  rw [zcF]
theorem zky {s:Vault}(hs:VOk s):zcm s=some (if zaz s=true then zb2 s else []):=by
 unfold zcm
 rw [zct hs]
 cases hr:zaz s
 ·rfl
 have h2:=(zam hr).2.1
 have h3:=(zam hr).1
 unfold fitV at h2
 rw [wC0,zq7 hr (fun i l hi hl=>by
  obtain ⟨p1,p2,p3⟩:=zfw hr hi
  obtain ⟨g1,g2⟩:=ztn h3 p2 p3
  have hlt:(i:Int)<Vault.Words s:=by omega
  unfold zdO
  simp only [hlt,decide_true,if_true,ziS s i p1 (by omega),wC0,g1,g2]
  rw [zdR (by simp;omega) (by omega),wC0,zav (by omega)]) (fun l=>by
  unfold zdO
  simp only [Int.lt_irrefl,decide_false,wA0,if_false])]
 rfl
theorem zkN (l:List Int) (h:l.length≤1000):zdr l l=some true:=by
 unfold zdr
 have lp:=za5 (f:=zdx l l) (n:=l.length) (e:=.inl ()) (fun i=>(i:Int)) (fun i hi=>by
  have hlt:(i:Int)<(l.length:Int):=by omega
  unfold zdx
  simp only [hlt,decide_true,if_true,zat hi,wC0,wH0,wA0,if_false,zav (show i<4611686018427387904 by omega)]) (by
  unfold zdx
  simp)
 rw [show (((0:Nat):Int))=0 from rfl] at lp
 simp only [decide_true,wH0,wA0,if_false,lp,zd0]
end Go.Proofs.Ytlgjbfdojbmmgaa
