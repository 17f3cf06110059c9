/- A new system, and what is asked, set and given back. No condition. -/
import Derived.Test.YtlgjbfdojbmmgaaRN
set_option linter.unusedSimpArgs false
set_option linter.unusedVariables false
set_option maxRecDepth 100000
namespace Go.Proofs.Ytlgjbfdojbmmgaa
open Go.SX
def al0:AL:=⟨fun _=>0,fun _=>0,fun _=>0,fun _=>0,fun _=>0,fun _=>0,fun _=>false,0,0,0,0,0,0,0,false,false,0,0⟩
theorem iv0 {c:Nat}(c4:c≤4):Iv c al0 0:=by
 constructor<;>(try simp only [al0])<;>grind [np,z1]
theorem ok0 {c h:Nat}(c1:1≤c) (c4:c≤4) (h1:1≤h) (h16:h≤16):Ok c h (fun _=>al0) (fun _=>w00) [] (fun _=>0) where
 c1:=c1
 c4:=c4
 h1:=h1
 h16:=h16
 lv:=fun _ _=>⟨iv0 c4,fun q=>absurd (show (0:Nat)=4 from q) (by decide),Nat.zero_le c,fun _=>u0,fun _=>u0,u0,u0⟩
 w1:=fun _ _ _ _ q=>absurd rfl q
 w0:=fun _ _ _=>rfl
 ln:=by simp
 mo:=fun m hm=>by cases hm
 lo:=fun m hm=>by cases hm
 ct:=fun _ _ x _=>by rfl
theorem zy5 {α:Type}{n:Nat}{x:α}:List.replicate n x=ls n fun _=>x:=by
 apply List.ext_getElem
 ·simp [ls]
 ·intro i h1 h2
  simp [ls]
theorem zvd {α:Type}{b i:Nat}{x:α}(hi:i≤1000) (hb:b≤10000):zzN b (List.replicate i x) [x]=some (List.replicate (i + 1) x):=by
 rw [zcP (by simp;omega) hb,List.replicate_succ']
theorem zxC {c:Nat}(h1:1≤c) (h4:c≤4):zjg (c:Int)=some (Entry.mk 0 (List.replicate c false),0):=by
 unfold zjg
 have hc:¬ (decide ((c:Int)<1)||decide (4<(c:Int)))=true:=by
  simp only [Bool.or_eq_true,vG0];omega
 rw [if_neg hc,zhb (by omega) (by omega)]
 rfl
theorem zy4 {n k:Nat}(c1:1≤n) (c4:n≤4) (h1:1≤k) (h16:k≤16):zjq (n:Int) (k:Int)=some (pr n k (fun _=>al0) (fun _=>w00) [],0):=by
 unfold zjq
 rw [if_neg (by simp only [Bool.or_eq_true,vG0];omega)]
 have r1:zAf (Wait.mk (0:Int) false false false false false (0:Int) (0:Int) (0:Int)) 40 (n:Int) (n:Int)=some (List.replicate n w00):=zhb (by omega) (by omega)
 have r2:zAf (0:Int) 4 (k:Int) (k:Int)=some (List.replicate k 0):=zhb (by omega) (by omega)
 have r3:zAf (0:Int) 8 (k:Int) (k:Int)=some (List.replicate k 0):=zhb (by omega) (by omega)
 have l1:=zaF (f:=zc2 (n:Int) (k:Int)) (n:=n) (e:=(List.replicate n (List.replicate k 0),List.replicate n (List.replicate k 0))) (fun i=>((i:Int),List.replicate i (List.replicate k 0),List.replicate i (List.replicate k 0))) (fun i hi=>by
  unfold zc2
  simp only [show (i:Int)<(n:Int) by omega,vE0,if_true,r2,r3,wC0,zvd (b:=24) (show i≤1000 by omega) (by omega),zaw (show i<4611686018427387904 by omega)]) (by
  unfold zc2
  simp only [show ¬ (n:Int)<(n:Int) by omega,vF0,wA0,if_false])
 have l2:=zaF (f:=zc0 (n:Int) (k:Int)) (n:=k) (e:=List.replicate k (Entry.mk 0 (List.replicate n false))) (fun i=>((i:Int),List.replicate i (Entry.mk 0 (List.replicate n false)))) (fun i hi=>by
  unfold zc0
  simp only [show (i:Int)<(k:Int) by omega,vE0,if_true,zxC (show 1≤n by omega) (by omega),wC0,zvd (b:=32) (show i≤1000 by omega) (by omega),zaw (show i<4611686018427387904 by omega)]) (by
  unfold zc0
  simp only [show ¬ (k:Int)<(k:Int) by omega,vF0,wA0,if_false])
 simp only [List.replicate_zero] at l1 l2
 simp only [r1,r2,r3,wC0,show zae (zc2 (n:Int) (k:Int)) ((0:Int),([]:List (List Int)),([]:List (List Int)))=_ from l1,show zae (zc0 (n:Int) (k:Int)) ((0:Int),([]:List Entry))=_ from l2]
 simp only [zy5]
 rfl
section
variable {c h:Nat} {A:Nat→AL} {W:Nat→Wait} {ms:List Msg} {v:Nat→Int}
theorem zok {l:Nat}{B:AL}(h:B.bu=(A l).bu) (j:Nat):((A j).bu:Int)=((up A l B j).bu:Int):=zaK (fun A=>(A.bu:Int)) (by show (B.bu:Int)=_;rw [h]) j
theorem Ok.free (K:Ok c h A W ms v) {n:Nat}(hn:n<c) (q:¬ 0<Wait.Line (W n)):∀ l,l<h→(A l).wk n=0:=fun l hl=>by
 apply Classical.byContradiction
 intro r
 rw [K.w1 l n hl hn r,zhj] at q
 omega
theorem Ok.busy (K:Ok c h A W ms v) {n l:Nat}(hn:n<c) (hl:l<h):(A l).wk n≠0↔Wait.Line (W n)=(l:Int) + 1:=by
 constructor
 ·intro r
  rw [K.w1 l n hl hn r,zhj]
 ·intro q r
  by_cases e:∃ j,j<h∧(A j).wk n≠0
  ·obtain ⟨j,hj,hw⟩:=e
   rw [K.w1 j n hj hn hw,zhj] at q
   have:j=l:=by omega
   rw [this] at hw
   exact hw r
  ·rw [K.w0 n hn fun j hj=>by
    apply Classical.byContradiction
    intro s
    exact e ⟨j,hj,s⟩] at q
   have:(0:Int)=(l:Int) + 1:=q
   omega
theorem upE {α:Type}{f:Nat→α}{n:Nat}{x:α}(h:f n=x):up f n x=f:=by funext k;unfold up;split<;>simp_all
theorem zwR (K:Ok c h A W ms v) {n l:Nat}(hn:n<c) (hl:l<h) (q:¬ 0<Wait.Line (W n)) (hlen:ms.length<64) {B:AL}{m:Msg}{t:Nat}{x:Int}(ht:t≠0) (hB:B={ A l with wk:=up (A l).wk n t,tk:=up (A l).tk n 1,tv:=up (A l).tv n x }) (i:Iv c B (v l)) (hx:U32 x) (em:tkS B l n=some m) (M:zdo m) (hm:Msg.Line m=(l:Int)) :
  Ok c h (up A l B) (up W n (zz9 l (decide (t=2)) (decide (t=3)))) (ms++[m]) v:=by
 have hf:=K.free hn q
 have c4:=K.c4
 have L:=K.lv l hl
 have no:¬ ((A l).bu=n + 1∧(A l).ph≤4):=fun r=>by have:=(L.iv.op n r.1 r.2).1;have:=hf l hl;omega
 have bw:B.wk n=t:=by rw [hB];exact zah
 have bn:∀ k,k≠n→B.wk k=(A l).wk k:=fun k r=>by rw [hB];exact zbL r
 have wo:∀ k,k≠n→wOf B l k=wOf (A l) l k:=fun k r=>zxn (bn k r) (by rw [hB]) (by rw [hB]) (by rw [hB]) (by rw [hB]) (by rw [hB]) (by rw [hB]) (by rw [hB])
 have lv:Lv c B (v l):=by
  obtain ⟨_,pc,sc,a1,a2,a3,a4⟩:=L
  refine ⟨i,?_,?_,?_,?_,?_,?_⟩<;>rw [hB]
  ·exact pc
  ·exact sc
  ·exact a1
  ·intro k
   show U32 (up (A l).tv n x k)
   unfold up;split
   ·exact hx
   ·exact a2 k
  ·exact a3
  ·exact a4
 have cn:=zqy (A:=A l) (B:=B) (l:=l) (n:=n) (by omega) (fun j r=>zjd (by rw [hB];exact zbL r) (bn j r) (by rw [hB];exact zbL r)) (by rw [hB];rfl) (fun _=>by rw [hB];rfl)
 rw [em,zjM (A:=A l) (L.iv.t0 n (hf l hl))] at cn
 have hv:up v l (v l)=v:=upE rfl
 rw [← hv]
 refine K.upd hl lv (fun k hk hw=>?_) (fun k hk h0 hw=>?_) (fun k hk h0 hw=>?_) (fun k hk hw h0 j hj=>?_) (by rw [wI0,List.length_singleton];omega) (fun y hy=>?_) (fun y hy=>?_) (fun y hy=>?_)
 ·by_cases r:k=n
  ·subst r
   rw [zah]
   have:wOf B l k=zz9 l (decide (B.wk k=2)) (decide (B.wk k=3)):=if_neg (by rw [hB];exact no)
   rw [this,bw]
  ·rw [zbL r,wo k r]
   exact K.w1 l k hl hk (by rw [← bn k r];exact hw)
 ·by_cases r:k=n
  ·subst r;exact absurd (hf l hl) hw
  ·exact absurd ((bn k r).symm.trans h0) hw
 ·by_cases r:k=n
  ·subst r;exact absurd (bw.symm.trans h0) ht
  ·exact zbL r
 ·by_cases r:k=n
  ·subst r;exact hf j hj
  ·exact absurd ((bn k r).trans h0) hw
 ·rcases List.mem_append.1 hy with r|r
  ·exact .inl r
  ·rw [List.mem_singleton.1 r];exact .inr ⟨M,hm⟩
 ·have:=cn y
  rw [zmj] at this
  rw [List.count_append,K.ct l hl y hy,cnt1]
  omega
 ·rw [List.count_append,cnt1,zvq hm hy]
  rfl
def zrx (A:AL) (n:Nat) (w:Bool):AL:={ A with wk:=up A.wk n (if w=true then 2 else 1),tk:=up A.tk n 1 }
def zut (A:AL) (n:Nat):AL:={ A with wk:=up A.wk n 3,tk:=up A.tk n 1,tv:=up A.tv n (A.va n) }
def zv4 (A:AL) (n:Nat):AL:={ A with st:=up A.st n 0 }
def zA6 (A:AL) (n:Nat) (w:Int):AL:={ A with st:=up A.st n 3,va:=up A.va n w }
theorem zx6 (K:Ok c h A W ms v) {n l:Nat}(hn:n<c) (hl:l<h) (w:Bool) :
  (zcM (pr c h A W ms) (n:Int) (l:Int) w=some (pr c h A W ms,8)∧(0<Wait.Line (W n)∨zz1 (fun n l=>((A l).st n:Int)) W n l w=true))∨(zcM (pr c h A W ms) (n:Int) (l:Int) w=some (pr c h A W ms,6)∧ms.length=64) ∨
  (∃ m,zcM (pr c h A W ms) (n:Int) (l:Int) w=some (pr c h (up A l (zrx (A l) n w)) (up W n (zz9 l w false)) (ms++[m]),0)∧Ok c h (up A l (zrx (A l) n w)) (up W n (zz9 l w false)) (ms++[m]) v∧¬ 0<Wait.Line (W n)):=by
 have c4:=K.c4
 have h16:=K.h16
 have e:=zvJ (V:=fun n l=>(A l).va n) (H:=fun l=>(A l).ho) K.fit hn hl w
 by_cases q:0<Wait.Line (W n)∨zz1 (fun n l=>((A l).st n:Int)) W n l w=true
 ·rw [if_pos q] at e
  exact .inl ⟨e,q⟩
 rw [if_neg q] at e
 by_cases r:ms.length=64
 ·rw [if_pos r] at e
  exact .inr (.inl ⟨e,r⟩)
 rw [if_neg r] at e
 have q1:¬ 0<Wait.Line (W n):=fun s=>q (.inl s)
 have hf:=K.free hn q1 l hl
 have hl0:¬ Wait.Line (W n)=(l:Int) + 1:=by omega
 have hst:zz1 (fun n l=>((A l).st n:Int)) W n l w=false:=by
  cases s:zz1 (fun n l=>((A l).st n:Int)) W n l w
  ·rfl
  ·exact absurd (.inr s) q
 unfold zz1 at hst
 rw [vD0 hl0,vH0,vB1] at hst
 have hB:zrx (A l) n w={ A l with wk:=up (A l).wk n (if w=true then 2 else 1),tk:=up (A l).tk n 1,tv:=up (A l).tv n ((A l).tv n) }:=by
  unfold zrx
  rw [upE (f:=(A l).tv) rfl]
 have i:Iv c (zrx (A l) n w) (v l):=by
  cases w
  ·simp only [wA0,if_false,Bool.not_eq_false',vG0] at hst
   exact zxL (K.lv l hl).iv hn hf (by omega)
  ·simp only [if_true,Bool.or_eq_false_iff,decide_eq_false_iff_not] at hst
   exact zxA (K.lv l hl).iv hn hf (by omega)
 have em:tkS (zrx (A l) n w) l n=some (zAe n l w):=by
  refine (zlB (A:=zrx (A l) n w) zah ?_).trans ?_
  ·show up (A l).wk n _ n≠3
   rw [zah];cases w<;>decide
  ·show some (zAe n l (decide (up (A l).wk n (if w=true then 2 else 1) n=2)))=_
   rw [zah];cases w<;>rfl
 have ok:=zwR K hn hl q1 (by have:=K.ln;omega) (t:=if w=true then 2 else 1) (by cases w<;>decide) hB i ((K.lv l hl).uv.2.1 n) em (zot (by omega) (by omega) w) rfl
 have ew:zz9 l (decide ((if w=true then 2 else 1)=2)) (decide ((if w=true then 2 else 1)=3))=zz9 l w false:=by cases w<;>rfl
 rw [ew] at ok
 refine .inr (.inr ⟨_,e.trans (congrArg (fun x=>some (x,(0:Int))) ?_),ok,q1⟩)
 exact zs7 (fun i j _ _=>zgq (by rfl) i j) (fun i j _ _=>zcD (by rfl) i j) (fun j _=>zaK (fun A=>A.ho) (by rfl) j) (fun j _=>zaK (fun A=>Entry.mk (A.ow:Int) (ls c A.sh)) (by rfl) j) (fun j _=>zok (by rfl) j)
theorem zuS (K:Ok c h A W ms v) {l:Nat}(hl:l<h) {B:AL}{y:Int}(lv:Lv c B y) (h1:B.wk=(A l).wk) (h2:∀ k,wOf B l k=wOf (A l) l k) (h3:∀ x,cA B l x=cA (A l) l x):Ok c h (up A l B) W ms (up v l y) :=
 K.upd hl lv (fun k hk hw=>by rw [h2];exact K.w1 l k hl hk (by rw [← h1];exact hw)) (fun k hk h0 hw=>absurd (by rw [← h1];exact h0) hw) (fun _ _ _ _=>rfl) (fun k hk hw h0=>absurd (by rw [h1];exact h0) hw) K.ln (fun m hm=>.inl hm) (fun x hx=>by rw [K.ct l hl x hx,h3]) (fun _ _=>rfl)
theorem zvM (K:Ok c h A W ms v) {n l:Nat}(hn:n<c) (hl:l<h) :
  (∃ e,zca (pr c h A W ms) (n:Int) (l:Int)=some (pr c h A W ms,e)∧(e=8∧(0<Wait.Line (W n)∨(A l).st n=0)∨e=6∧ms.length=64)) ∨
  (zca (pr c h A W ms) (n:Int) (l:Int)=some (pr c h (up A l (zv4 (A l) n)) W ms,0)∧Ok c h (up A l (zv4 (A l) n)) W ms v∧¬ 0<Wait.Line (W n)∧(A l).st n=1) ∨
  (∃ m,zca (pr c h A W ms) (n:Int) (l:Int)=some (pr c h (up A l (zut (A l) n)) (up W n (zz9 l false true)) (ms++[m]),0)∧Ok c h (up A l (zut (A l) n)) (up W n (zz9 l false true)) (ms++[m]) v∧¬ 0<Wait.Line (W n)∧2≤(A l).st n):=by
 have c4:=K.c4
 have h16:=K.h16
 have hu:=(K.lv l hl).uv
 have e:=zuh (V:=fun n l=>(A l).va n) (H:=fun l=>(A l).ho) K.fit hn hl (hu.1 n)
 by_cases q:0<Wait.Line (W n)∨((A l).st n:Int)=0
 ·rw [if_pos q] at e
  exact .inl ⟨8,e,.inl ⟨rfl,by omega⟩⟩
 rw [if_neg q] at e
 have q1:¬ 0<Wait.Line (W n):=fun s=>q (.inl s)
 have hf:=K.free hn q1 l hl
 by_cases s1:((A l).st n:Int)=1
 ·rw [if_pos s1] at e
  have i:Iv c (zv4 (A l) n) (v l):=zyK (K.lv l hl).iv hn hf (by omega)
  refine .inr (.inl ⟨e.trans (congrArg (fun x=>some (x,(0:Int))) ?_),?_,q1,by omega⟩)
  ·exact zs7 (fun i j _ _=>zra (x:=0) (by rfl) i j) (fun i j _ _=>zcD (by rfl) i j) (fun j _=>zaK (fun A=>A.ho) (by rfl) j) (fun j _=>zaK (fun A=>Entry.mk (A.ow:Int) (ls c A.sh)) (by rfl) j) (fun j _=>zok (by rfl) j)
  ·have:=zuS K hl (B:=zv4 (A l) n) (y:=v l) ⟨i,(K.lv l hl).pc,(K.lv l hl).sc,hu⟩ rfl (fun _=>rfl) (fun _=>rfl)
   rw [upE rfl] at this
   exact this
 rw [if_neg s1] at e
 by_cases r:ms.length=64
 ·rw [if_pos r] at e
  exact .inl ⟨6,e,.inr ⟨rfl,r⟩⟩
 rw [if_neg r] at e
 have i:Iv c (zut (A l) n) (v l):=zy8 (K.lv l hl).iv hn hf (by omega)
 have em:tkS (zut (A l) n) l n=some (zAd n l ((A l).va n)):=(zqK (A:=zut (A l) n) zah zah).trans (congrArg (fun x=>some (zAd n l x)) zah)
 have ok:=zwR K hn hl q1 (by have:=K.ln;omega) (t:=3) (by decide) rfl i (hu.1 n) em (zn9 (by omega) (by omega) (hu.1 n)) rfl
 refine .inr (.inr ⟨_,e.trans (congrArg (fun x=>some (x,(0:Int))) ?_),ok,q1,by omega⟩)
 exact zs7 (fun i j _ _=>zgq (by rfl) i j) (fun i j _ _=>zcD (by rfl) i j) (fun j _=>zaK (fun A=>A.ho) (by rfl) j) (fun j _=>zaK (fun A=>Entry.mk (A.ow:Int) (ls c A.sh)) (by rfl) j) (fun j _=>zok (by rfl) j)
theorem zyZ (K:Ok c h A W ms v) {n l:Nat}(hn:n<c) (hl:l<h) {x:Int}(hx:U32 x) :
  ze2 (pr c h A W ms) (n:Int) (l:Int) x=some (pr c h A W ms,8) ∨
  (ze2 (pr c h A W ms) (n:Int) (l:Int) x=some (pr c h (up A l (zA6 (A l) n x)) W ms,0)∧Ok c h (up A l (zA6 (A l) n x)) W ms (up v l x)):=by
 have hu:=(K.lv l hl).uv
 have e:=zx4 (V:=fun n l=>(A l).va n) (H:=fun l=>(A l).ho) K.fit hn hl x
 cases q:zz1 (fun n l=>((A l).st n:Int)) W n l true
 ·rw [q] at e
  exact .inl e
 rw [q,if_pos rfl] at e
 unfold zz1 at q
 simp only [if_true,wD0,Bool.not_eq_true',decide_eq_false_iff_not,Bool.or_eq_true,vG0] at q
 have hf:(A l).wk n=0:=by
  apply Classical.byContradiction
  intro r
  exact q.1 ((K.busy hn hl).1 r)
 have i:Iv c (zA6 (A l) n x) x:=zzx (K.lv l hl).iv hn hf (by omega) x
 refine .inr ⟨e.trans (congrArg (fun x=>some (x,(0:Int))) ?_),zuS K hl ⟨i,(K.lv l hl).pc,(K.lv l hl).sc,fun k=>?_,hu.2⟩ rfl (fun _=>rfl) (fun _=>rfl)⟩
 ·exact zs7 (fun i j _ _=>zra (x:=3) (by rfl) i j) (fun i j _ _=>zyM (by rfl) i j) (fun j _=>zaK (fun A=>A.ho) (by rfl) j) (fun j _=>zaK (fun A=>Entry.mk (A.ow:Int) (ls c A.sh)) (by rfl) j) (fun j _=>zok (by rfl) j)
 ·show U32 (up (A l).va n x k)
  unfold up;split
  ·exact hx
  ·exact hu.1 k
end
end Go.Proofs.Ytlgjbfdojbmmgaa
