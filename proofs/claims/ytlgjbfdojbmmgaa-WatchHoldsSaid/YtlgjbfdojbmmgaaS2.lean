/- All that is under way comes: a measure. No condition. -/
import Derived.Test.YtlgjbfdojbmmgaaRP
set_option linter.unusedSimpArgs false
set_option linter.unusedVariables false
set_option maxRecDepth 100000
namespace Go.Proofs.Ytlgjbfdojbmmgaa
open Go.SX
def zAJ (A:AL) (l:Nat):List Msg:=(tkS A l 0).toList++((tkS A l 1).toList++((tkS A l 2).toList++((tkS A l 3).toList++((phS A l).toList++((pdS A l 0).toList++((pdS A l 1).toList++((pdS A l 2).toList++(pdS A l 3).toList)))))))
def big (A:Nat→AL):Nat→List Msg
 | 0=>[]
 | l + 1=>big A l++zAJ (A l) l
theorem zxT (o:Option Msg) (x:Msg):o.toList.count x=io o x:=by
 cases o with
 | none=>rfl
 | some y=>exact cnt1 x y
theorem zxU (A:AL) (l:Nat) (x:Msg):(zAJ A l).count x=cA A l x:=by
 unfold zAJ cA s4
 simp only [List.count_append,zxT]
 omega
theorem zhw (o:Option Msg):o.toList.length≤1:=by cases o<;>simp
theorem zxH (A:AL) (l:Nat):(zAJ A l).length≤9:=by
 have a0:=zhw (tkS A l 0);have a1:=zhw (tkS A l 1);have a2:=zhw (tkS A l 2);have a3:=zhw (tkS A l 3);have a4:=zhw (phS A l)
 have b0:=zhw (pdS A l 0);have b1:=zhw (pdS A l 1);have b2:=zhw (pdS A l 2);have b3:=zhw (pdS A l 3)
 unfold zAJ
 simp only [wI0]
 omega
theorem zsH {A:AL}{l n:Nat}{m:Msg}(h:tkS A l n=some m):Msg.Line m=(l:Int)∧(Msg.Kind m=1∨Msg.Kind m=2∨Msg.Kind m=8∨Msg.Kind m=10∨Msg.Kind m=9):=by
 unfold tkS at h
 split at h
 ·cases h
 split at h
 ·rw [← Option.some.inj h]
  split
  ·exact ⟨rfl,.inr (.inr (.inl rfl))⟩
  ·cases decide (A.wk n=2)
   ·exact ⟨rfl,.inl rfl⟩
   ·exact ⟨rfl,.inr (.inl rfl)⟩
 split at h
 ·rw [← Option.some.inj h];exact ⟨rfl,.inr (.inr (.inr (.inl rfl)))⟩
 ·rw [← Option.some.inj h];exact ⟨rfl,.inr (.inr (.inr (.inr rfl)))⟩
def tkn (m:Msg):Bool:=decide (Msg.Kind m=1)||decide (Msg.Kind m=2)||decide (Msg.Kind m=8)||decide (Msg.Kind m=10)
def nkn (m:Msg):Bool:=decide (Msg.Kind m=10)
theorem zkP {A:AL}{l:Nat}{m:Msg}(h:phS A l=some m):Msg.Line m=(l:Int)∧tkn m=false:=by
 unfold phS at h
 split at h
 ·rw [← Option.some.inj h];exact ⟨rfl,rfl⟩
 split at h
 ·rw [← Option.some.inj h];exact ⟨rfl,rfl⟩
 split at h
 ·rw [← Option.some.inj h];exact ⟨rfl,rfl⟩
 split at h
 ·rw [← Option.some.inj h];exact ⟨rfl,rfl⟩
 ·cases h
theorem zfv {A:AL}{l n:Nat}{m:Msg}(h:pdS A l n=some m):Msg.Line m=(l:Int)∧tkn m=false:=by
 unfold pdS at h
 split at h
 ·cases h
 split at h
 ·rw [← Option.some.inj h];exact ⟨rfl,rfl⟩
 ·rw [← Option.some.inj h];exact ⟨rfl,rfl⟩
theorem ztG {A:AL}{l:Nat}{x:Msg}(h:Msg.Line x≠(l:Int)):cA A l x=0:=by
 apply Classical.byContradiction
 intro q
 rcases zwK (show 0<cA A l x by omega) with ⟨n,_,e⟩|e|⟨n,_,e⟩
 ·exact h (zsH e).1
 ·exact h (zkP e).1
 ·exact h (zfv e).1
def tkB (A:AL) (n:Nat):Nat:=if A.wk n=0 then 0 else 1
theorem zvE {A:AL}{c l n:Nat}{v:Int}(i:Iv c A v):(tkS A l n).toList.countP tkn≤tkB A n:=by
 unfold tkB
 by_cases q:A.wk n=0
 ·rw [zjM (i.t0 n q),if_pos q];exact wG0 0
 ·rw [if_neg q]
  exact Nat.le_trans List.countP_le_length (zhw _)
theorem zpH {o:Option Msg}(h:∀ m,o=some m→tkn m=false):o.toList.countP tkn=0:=by
 cases o with
 | none=>rfl
 | some m =>
  show [m].countP tkn=0
  rw [List.countP_singleton,h m rfl]
  rfl
theorem zxt {A:AL}{c l:Nat}{v:Int}(i:Iv c A v):(zAJ A l).countP tkn≤s4 (tkB A):=by
 have a0:=zvE (l:=l) (n:=0) i;have a1:=zvE (l:=l) (n:=1) i;have a2:=zvE (l:=l) (n:=2) i;have a3:=zvE (l:=l) (n:=3) i
 have p:=zpH (o:=phS A l) fun m h=>(zkP h).2
 have b0:=zpH (o:=pdS A l 0) fun m h=>(zfv h).2;have b1:=zpH (o:=pdS A l 1) fun m h=>(zfv h).2
 have b2:=zpH (o:=pdS A l 2) fun m h=>(zfv h).2;have b3:=zpH (o:=pdS A l 3) fun m h=>(zfv h).2
 unfold zAJ s4
 simp only [List.countP_append,p,b0,b1,b2,b3]
 omega
def sm (f:Nat→Nat):Nat→Nat
 | 0=>0
 | k + 1=>sm f k + f k
theorem zvU {f g:Nat→Nat}{l:Nat}(e:∀ k,k≠l→g k=f k):∀ {h:Nat},(l<h→sm g h + f l=sm f h + g l)∧(h≤l→sm g h=sm f h)
 | 0=>⟨fun q=>by omega,fun _=>rfl⟩
 | h + 1=>by
  have ih:=zvU (l:=l) e (h:=h)
  constructor
  ·intro q
   simp only [sm]
   by_cases r:h=l
   ·subst r
    rw [ih.2 (wG0 h)]
    omega
   ·have:=ih.1 (by omega)
    rw [e h r]
    omega
  ·intro q
   simp only [sm]
   rw [ih.2 (by omega),e h (by omega)]
theorem zvR {f g:Nat→Nat}:∀ {h:Nat},(∀ k,k<h→f k≤g k)→sm f h≤sm g h
 | 0,_=>wG0 0
 | h + 1,e=>by
  have:=zvR (f:=f) (g:=g) (h:=h) fun k hk=>e k (by omega)
  have:=e h (by omega)
  simp only [sm]
  omega
theorem zwZ {f:Nat→Nat}:∀ {h:Nat},(∀ k,k<h→f k≤1)→(∀ i j,i<h→j<h→f i≠0→f j≠0→i=j)→sm f h≤1
 | 0,_,_=>Nat.zero_le 1
 | h + 1,e,u=>by
  have ih:=zwZ (f:=f) (h:=h) (fun k hk=>e k (by omega)) fun i j hi hj=>u i j (by omega) (by omega)
  simp only [sm]
  by_cases q:f h=0
  ·omega
  ·have z:sm f h≤sm (fun _=>0) h:=zvR fun k hk=>by
    by_cases r:f k=0
    ·omega
    ·have:=u k h (by omega) (by omega) r q;omega
   have z0:∀ k,sm (fun _=>0) k=0:=fun k=>by
    induction k with
    | zero=>rfl
    | succ k ih=>exact ih
   rw [z0] at z
   have:=e h (by omega)
   omega
section
variable {c h:Nat} {A:Nat→AL} {W:Nat→Wait} {ms:List Msg} {v:Nat→Int}
theorem zuM (x:Msg):∀ k,(big A k).count x=sm (fun l=>cA (A l) l x) k
 | 0=>rfl
 | k + 1=>by simp only [big,sm,List.count_append,zxU,zuM x k]
theorem Ok.perm (K:Ok c h A W ms v):ms.Perm (big A h):=by
 rw [List.perm_iff_count]
 intro x
 rw [zuM]
 have z:∀ k:Nat,(∀ l:Nat,l<k→Msg.Line x≠(l:Int))→sm (fun l=>cA (A l) l x) k=0:=fun k hk=>by
  induction k with
  | zero=>rfl
  | succ k ih =>
   simp only [sm]
   rw [ih fun l hl=>hk l (by omega),ztG (hk k (by omega))]
 by_cases q:∃ l:Nat,l<h∧Msg.Line x=(l:Int)
 ·obtain ⟨l,hl,hx⟩:=q
  rw [K.ct l hl x hx]
  have s:=(zvU (f:=fun _=>0) (g:=fun j=>cA (A j) j x) (l:=l) (fun k hk=>ztG (by omega)) (h:=h)).1 hl
  have z0:∀ k,sm (fun _=>0) k=0:=fun k=>by
   induction k with
   | zero=>rfl
   | succ k ih=>exact ih
  rw [z0] at s
  omega
 ·rw [z h fun l hl r=>q ⟨l,hl,r⟩]
  exact List.count_eq_zero.2 fun r=>q (K.lo x r)
theorem Ok.len (K:Ok c h A W ms v):ms.length≤9 * h:=by
 rw [K.perm.length_eq]
 have:∀ k,(big A k).length≤9 * k:=fun k=>by
  induction k with
  | zero=>exact wG0 0
  | succ k ih =>
   have:=zxH (A k) k
   simp only [big,wI0]
   omega
 exact this h
theorem Ok.tks (K:Ok c h A W ms v):ms.countP tkn≤sm (fun l=>s4 (tkB (A l))) h∧sm (fun l=>s4 (tkB (A l))) h≤4:=by
 constructor
 ·rw [K.perm.countP_eq]
  have:∀ k,k≤h→(big A k).countP tkn≤sm (fun l=>s4 (tkB (A l))) k:=fun k=>by
   induction k with
   | zero=>intro _;exact wG0 0
   | succ k ih =>
    intro hk
    have:=ih (by omega)
    have:=zxt (l:=k) (K.lv k (by omega)).iv
    simp only [big,sm,List.countP_append]
    omega
  exact this h (wG0 h)
 ·have e:∀ k,sm (fun l=>s4 (tkB (A l))) k=sm (fun l=>tkB (A l) 0) k + sm (fun l=>tkB (A l) 1) k + sm (fun l=>tkB (A l) 2) k + sm (fun l=>tkB (A l) 3) k:=fun k=>by
   induction k with
   | zero=>rfl
   | succ k ih =>
    simp only [sm,ih]
    unfold s4
    omega
  have o:∀ n,sm (fun l=>tkB (A l) n) h≤1:=fun n=>zwZ (fun k _=>by unfold tkB;split<;>omega) fun i j hi hj p q=>by
   have nz:∀ i,tkB (A i) n≠0→(A i).wk n≠0:=fun i r s=>r (if_pos s)
   have p':=nz i p
   have q':=nz j q
   have hn:n<c:=by
    apply Classical.byContradiction
    intro r
    exact p' ((K.lv i hi).iv.rg n (by omega)).2.1
   have a:=(K.busy hn hi).1 p'
   have b:=(K.busy hn hj).1 q'
   omega
  rw [e]
  have:=o 0;have:=o 1;have:=o 2;have:=o 3
  omega
theorem zy0 {A:AL}{c:Nat}{v:Int}(i:Iv c A v):phi A≤13 * s4 (tkB A) + 12:=by
 have t:∀ n,twt (A.tk n)≤13 * tkB A n:=fun n=>by
  unfold tkB twt
  by_cases q:A.wk n=0
  ·rw [if_pos q,if_pos (i.t0 n q)];omega
  ·rw [if_neg q];split<;>(try split)<;>omega
 have p:=zpB A.ph
 have t0:=t 0;have t1:=t 1;have t2:=t 2;have t3:=t 3
 have d0:=zkG (A.pd 0);have d1:=zkG (A.pd 1);have d2:=zkG (A.pd 2);have d3:=zkG (A.pd 3)
 unfold phi s4
 dsimp only
 omega
def Phi (A:Nat→AL) (h:Nat):Nat:=sm (fun l=>phi (A l)) h
theorem Ok.pbd (K:Ok c h A W ms v):Phi A h≤52 + 12 * h:=by
 have a:=zvR (f:=fun l=>phi (A l)) (g:=fun l=>13 * s4 (tkB (A l)) + 12) (h:=h) fun k hk=>zy0 (K.lv k hk).iv
 have b:∀ k,sm (fun l=>13 * s4 (tkB (A l)) + 12) k=13 * sm (fun l=>s4 (tkB (A l))) k + 12 * k:=fun k=>by
  induction k with
  | zero=>rfl
  | succ k ih=>simp only [sm,ih];omega
 have:=K.tks.2
 rw [b] at a
 unfold Phi
 omega
theorem zyp {l:Nat}(hl:l<h) (B:AL):Phi (up A l B) h + phi (A l)=Phi A h + phi B:=by
 have s:=(zvU (f:=fun j=>phi (A j)) (g:=fun j=>phi (up A l B j)) (l:=l) (fun k hk=>by rw [zbL hk]) (h:=h)).1 hl
 rw [zah] at s
 exact s
def jx (ms:List Msg):Nat:=if ms.all tkn=true then (ms.takeWhile nkn).length else (ms.takeWhile tkn).length
theorem ztK {p:Msg→Bool}:∀ {l:List Msg},(l.takeWhile p).length≤l.countP p
 | []=>wG0 0
 | a::l=>by
  have:=ztK (p:=p) (l:=l)
  by_cases q:p a=true
  ·rw [List.takeWhile_cons_of_pos q,List.countP_cons_of_pos q,vX0];omega
  ·rw [List.takeWhile_cons_of_neg q];exact Nat.zero_le _
theorem zyA (K:Ok c h A W ms v):jx ms≤4:=by
 have a:=K.tks
 unfold jx
 split
 ·have b:=ztK (p:=nkn) (l:=ms)
  have d:ms.countP nkn≤ms.countP tkn:=List.countP_mono_left fun x _ hx=>by
   unfold tkn
   unfold nkn at hx
   rw [hx]
   simp
  omega
 ·have b:=ztK (p:=tkn) (l:=ms)
  omega
theorem ztC {p:Msg→Bool}{y:Msg}:∀ {l:List Msg},(l.all p=false∨p y=false)→((l++[y]).takeWhile p).length=(l.takeWhile p).length
 | [],q=>by
  rcases q with q|q
  ·cases q
  ·show ([y].takeWhile p).length=0
   rw [List.takeWhile_cons_of_neg (by rw [q];decide)];rfl
 | a::l,q=>by
  rw [List.cons_append]
  by_cases r:p a=true
  ·rw [List.takeWhile_cons_of_pos r,List.takeWhile_cons_of_pos r,vX0,vX0,ztC]
   rcases q with q|q
   ·left
    rw [List.all_cons,r,vB1] at q
    exact q
   ·exact .inr q
  ·rw [List.takeWhile_cons_of_neg r,List.takeWhile_cons_of_neg r]
theorem zk4 {m:Msg}(q:zAL m):tkn m=true∧nkn m=false:=by
 unfold tkn nkn
 rcases q with q|q|q<;>rw [q]<;>decide
theorem zxS {m y:Msg}{r:List Msg}(q:zAL m∧r.all tkn=false∧Msg.Kind y=10∨Msg.Kind m=10∧zAL y):jx (r++[y])<jx (m::r):=by
 have ty:tkn y=true:=by
  rcases q with q|q
  ·unfold tkn;rw [q.2.2];rfl
  ·exact (zk4 q.2).1
 have tm:tkn m=true:=by
  rcases q with q|q
  ·exact (zk4 q.1).1
  ·unfold tkn;rw [q.1];rfl
 have ea:(r++[y]).all tkn=r.all tkn:=by rw [List.all_append,List.all_cons,List.all_nil,ty];simp
 have eb:(m::r).all tkn=r.all tkn:=by rw [List.all_cons,tm,vB1]
 unfold jx
 rw [ea,eb]
 by_cases z:r.all tkn=true
 ·rw [if_pos z,if_pos z]
  rcases q with q|q
  ·rw [q.2.1] at z;cases z
  ·rw [ztC (.inr (zk4 q.2).2),List.takeWhile_cons_of_pos (by unfold nkn;rw [q.1];rfl),vX0]
   omega
 ·rw [if_neg z,if_neg z,ztC (.inl (Bool.eq_false_iff.2 z)),List.takeWhile_cons_of_pos tm,vX0]
  omega
theorem zxB (K:Ok c h A W ms v) {l:Nat}(hl:l<h) (hb:(A l).bu≠0):ms.all tkn=false:=by
 have L:=K.lv l hl
 have i:=L.iv
 have bz:=i.bz
 have on:∀ m,0<cA (A l) l m→Msg.Line m=(l:Int)→tkn m=false→ms.all tkn=false:=fun m h1 h2 h3=>by
  rw [← K.ct l hl m h2] at h1
  have h4:=List.count_pos_iff.1 h1
  cases r:ms.all tkn
  ·rfl
  ·have:=List.all_eq_true.1 r m h4
   rw [h3] at this
   cases this
 have io1:∀ m,io (some m) m=1:=fun m=>if_pos rfl
 by_cases h4:(A l).ph=4
 ·have hp:=L.pc h4
  have hc:=i.ct hb (by omega)
  have:np (A l).pd≠0:=by omega
  have:∃ n,n<4∧(A l).pd n≠0:=by
   apply Classical.byContradiction
   intro q
   have z:∀ n,n<4→(A l).pd n=0:=fun n hn=>by
    apply Classical.byContradiction
    intro r
    exact q ⟨n,hn,r⟩
   apply this
   unfold np z1
   rw [z 0 (by omega),z 1 (by omega),z 2 (by omega),z 3 (by omega)]
   rfl
  obtain ⟨n,hn,h0⟩:=this
  obtain ⟨m,hm⟩:∃ m,pdS (A l) l n=some m:=by
   by_cases q:(A l).pd n=1
   ·exact ⟨_,zwb q⟩
   ·have:=(i.s4 n).2.2.2
    exact ⟨_,zwo (show (A l).pd n=2 by omega)⟩
  obtain ⟨g1,g2⟩:=zfv hm
  refine on m ?_ g1 g2
  have s:=ztA (f:=fun _=>0) (g:=fun k=>if k=n then io (pdS (A l) l k) m else 0) hn fun k q=>if_neg q
  rw [if_pos rfl,hm,io1] at s
  have t:s4 (fun k=>if k=n then io (pdS (A l) l k) m else 0)≤s4 (fun k=>io (pdS (A l) l k) m):=by
   have:∀ k,(if k=n then io (pdS (A l) l k) m else 0)≤io (pdS (A l) l k) m:=fun k=>by split<;>omega
   have a0:=this 0;have a1:=this 1;have a2:=this 2;have a3:=this 3
   unfold s4
   dsimp only
   omega
  unfold cA
  omega
 ·obtain ⟨m,hm⟩:∃ m,phS (A l) l=some m:=by
   unfold phS
   by_cases q1:(A l).ph=1
   ·rw [if_pos q1];exact ⟨_,rfl⟩
   rw [if_neg q1]
   by_cases q2:(A l).ph=2
   ·rw [if_pos q2];exact ⟨_,rfl⟩
   rw [if_neg q2]
   by_cases q3:(A l).ph=3
   ·rw [if_pos q3];exact ⟨_,rfl⟩
   rw [if_neg q3,if_pos (show (A l).ph=5 by omega)]
   exact ⟨_,rfl⟩
  obtain ⟨g1,g2⟩:=zkP hm
  refine on m ?_ g1 g2
  unfold cA
  rw [hm,io1]
  omega
theorem less (K:Ok c h A W ms v) (h4:h≤6) (hk:0<ms.length):∃ l B W' ms',l<h∧Ev c (A l) B∧zax (pr c h A W ms) (0:Int)=some (pr c h (up A l B) W' ms',0)∧Ok c h (up A l B) W' ms' v∧5 * Phi (up A l B) h + jx ms'<5 * Phi A h + jx ms:=by
 have c4:=K.c4
 have hln:=K.len
 obtain ⟨l,B,W',new,hl,ev,d,ok,q⟩:=step K hk (by omega)
 refine ⟨l,B,W',_,hl,ev,d,ok,?_⟩
 have P:=zyp (A:=A) hl B
 have hp:phi (A l)≤Phi A h:=by
  have s:=zvR (f:=fun j=>if j=l then phi (A j) else 0) (g:=fun j=>phi (A j)) (h:=h) fun k _=>by split<;>omega
  have t:=(zvU (f:=fun _=>0) (g:=fun j=>if j=l then phi (A j) else 0) (l:=l) (fun k hk=>if_neg hk) (h:=h)).1 hl
  rw [if_pos rfl] at t
  unfold Phi
  omega
 rcases q with q|⟨q,y,e,r⟩
 ·have:=zyA ok
  omega
 ·obtain ⟨m,r0,hm⟩:∃ m r0,ms=m::r0:=by
   cases ms with
   | nil=>simp at hk
   | cons m r0=>exact ⟨m,r0,rfl⟩
  subst hm
  subst e
  have hj:jx (r0++[y])<jx (m::r0):=zxS (by
   rcases r with ⟨r1,r2,r3⟩|r
   ·left
    refine ⟨r1,?_,r3⟩
    have:=zxB K hl r2
    have t:=(zk4 r1).1
    have t':tkn m=true:=t
    rw [List.all_cons,t',vB1] at this
    exact this
   ·exact .inr r)
  show 5 * Phi (up A l B) h + jx (r0++[y])<_
  omega
end
end Go.Proofs.Ytlgjbfdojbmmgaa
