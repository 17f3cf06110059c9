/- The law WatchHolds on typed data. No condition. -/
import Derived.Test.YtlgjbfdojbmmgaaS3
set_option linter.unusedSimpArgs false
set_option linter.unusedVariables false
set_option maxRecDepth 100000
namespace Go.Proofs.Ytlgjbfdojbmmgaa
open Go.SX
def zzO (f:Nat→Bool):Nat→List Int
 | 0=>[]
 | k + 1=>zzO f k++if f k=true then [(k:Int)] else []
theorem zkV {f:Nat→Bool}:∀ n,(zzO f n).length≤n
 | 0=>wG0 0
 | n + 1=>by
  have:=zkV (f:=f) n
  simp only [zzO]
  split<;>simp only [wI0,vX0,List.length_nil]<;>omega
theorem zoe {f:Nat→Bool}{x:Int}:∀ {n},x∈zzO f n→∃ k,k<n∧x=(k:Int)∧f k=true
 | 0,h=>by cases h
 | n + 1,h=>by
  simp only [zzO] at h
  rcases List.mem_append.1 h with q|q
  ·obtain ⟨k,a,b⟩:=zoe q
   exact ⟨k,by omega,b⟩
  ·split at q
   ·rename_i r
    exact ⟨n,by omega,List.mem_singleton.1 q,r⟩
   ·cases q
theorem zst {f:Nat→Bool}{k:Nat}:∀ {n},(∀ i,i<n→f i=true→i=k)→(zzO f n).length≤1∧(n≤k→(zzO f n).length=0)
 | 0,_=>⟨Nat.zero_le 1,fun _=>rfl⟩
 | n + 1,h=>by
  have ih:=zst (f:=f) (k:=k) (n:=n) fun i hi=>h i (by omega)
  simp only [zzO]
  by_cases q:f n=true
  ·have e:=h n (by omega) q
   have:=ih.2 (by omega)
   rw [if_pos q]
   constructor
   ·simp only [wI0,vX0,List.length_nil];omega
   ·intro r;omega
  ·rw [if_neg q,vN0]
   exact ⟨ih.1,fun r=>ih.2 (by omega)⟩
section
variable {c h:Nat} {A:Nat→AL} {W:Nat→Wait} {ms:List Msg} {v:Nat→Int}
def zzP (A:Nat→AL) (W:Nat→Wait) (l:Nat) (w:Bool) (n:Nat):Bool:=zz1 (fun n l=>((A l).st n:Int)) W n l w
theorem zwO (K:Ok c h A W ms v) {n l:Nat}(hn:n<c) (hl:l<h) (w:Bool):zfe (pr c h A W ms) (n:Int) (l:Int) w=some (zzP A W l w n):=zxk (V:=fun n l=>(A l).va n) (H:=fun l=>(A l).ho) K.fit hn hl w
theorem zk6 (K:Ok c h A W ms v):za4 (pr c h A W ms)=some true:=zjr (V:=fun n l=>(A l).va n) (H:=fun l=>(A l).ho) K.fit
theorem zru (K:Ok c h A W ms v) {l:Nat}(hl:l<h):zcB (pr c h A W ms) (l:Int)=some true:=by
 unfold zcB
 simp only [zk6 K,wC0,if_true,zou,za6,show (0:Int)≤(l:Int) by omega,show (l:Int)<(h:Int) by omega,vE0]
theorem zza (K:Ok c h A W ms v) {l:Nat}(hl:l<h):zgs (pr c h A W ms) (l:Int)=some (zzO (zzP A W l false) c):=by
 have c4:=K.c4
 have lp:=zaF (f:=zdh (pr c h A W ms) (l:Int) (c:Int)) (n:=c) (e:=zzO (zzP A W l false) c) (fun i=>((i:Int),zzO (zzP A W l false) i)) (fun i hi=>by
  have hlw:=zkV (f:=zzP A W l false) i
  have ha:zzN 8 (zzO (zzP A W l false) i) [(i:Int)]=some (zzO (zzP A W l false) i++[(i:Int)]):=zcP (by rw [List.length_singleton];omega) (by omega)
  unfold zdh
  simp only [show (i:Int)<(c:Int) by omega,vE0,if_true,zwO K hi hl,wC0,ha,zaw (show i<4611686018427387904 by omega),zzO]
  cases zzP A W l false i
  ·simp only [wA0,if_false,wC0,vN0]
  ·simp only [if_true,wC0]) (by
  unfold zdh
  simp only [show ¬ (c:Int)<(c:Int) by omega,vF0,wA0,if_false])
 unfold zgs
 simp only [zq2,za6,show zae (zdh (pr c h A W ms) (l:Int) (c:Int)) ((0:Int),([]:List Int))=_ from lp,wC0]
theorem zxN (K:Ok c h A W ms v) {l:Nat}(hl:l<h):zfl (pr c h A W ms) (l:Int)=some true:=by
 have c4:=K.c4
 have hlen:=zkV (f:=zzP A W l false) c
 unfold zfl
 simp only [zru K hl,zza K hl,wC0,wH0,wA0,if_false]
 by_cases q:((zzO (zzP A W l false) c).length:Int)<2
 ·simp only [q,vE0,if_true,wC0]
 simp only [q,vF0,wA0,if_false]
 have no:∀ i,i<c→zzP A W l true i=false:=fun i hi=>by
  cases r:zzP A W l true i
  ·rfl
  ·have:=(zst (f:=zzP A W l false) (k:=i) (n:=c) fun j hj s=>zxY K hi hj hl r s).1
   omega
 have lp:=zaF (f:=zb1 (pr c h A W ms) (l:Int) (zzO (zzP A W l false) c) ((zzO (zzP A W l false) c).length:Int)) (n:=(zzO (zzP A W l false) c).length) (e:=(Sum.inl ():Unit⊕Int)) (fun i=>(i:Int)) (fun i hi=>by
  obtain ⟨k,k1,k2,k3⟩:=zoe (List.getElem_mem hi)
  unfold zb1
  simp only [show (i:Int)<((zzO (zzP A W l false) c).length:Int) by omega,vE0,if_true,zbd hi,k2,zwO K k1 hl,no k k1,wC0,wA0,if_false,zaw (show i<4611686018427387904 by omega)]) (by
  unfold zb1
  simp only [show ¬ ((zzO (zzP A W l false) c).length:Int)<((zzO (zzP A W l false) c).length:Int) by omega,vF0,wA0,if_false])
 simp only [show zae (zb1 (pr c h A W ms) (l:Int) (zzO (zzP A W l false) c) ((zzO (zzP A W l false) c).length:Int)) (0:Int)=_ from lp,zaG,wC0]
 rfl
theorem zx3 (K:Ok c h A W ms v) {l:Nat}(hl:l<h):zfA (pr c h A W ms) (l:Int)=some true:=by
 have c4:=K.c4
 have hlen:=zkV (f:=zzP A W l false) c
 have pv1:Proto.Val (pr c h A W ms)=tb c h fun n l=>(A l).va n:=rfl
 have va:∀ i (hi:i<(zzO (zzP A W l false) c).length),∃ k:Nat,k<c∧(zzO (zzP A W l false) c)[i]=(k:Int)∧(A l).va k=v l:=fun i hi=>by
  obtain ⟨k,k1,k2,k3⟩:=zoe (List.getElem_mem hi)
  exact ⟨k,k1,k2,zxX K k1 hl k3⟩
 have lp:=zaF (f:=zbX (pr c h A W ms) (l:Int) (zzO (zzP A W l false) c) ((zzO (zzP A W l false) c).length:Int)) (n:=(zzO (zzP A W l false) c).length) (e:=(Sum.inl ():Unit⊕Int)) (fun i=>(i:Int)) (fun i hi=>by
  obtain ⟨k,k1,k2,k3⟩:=va i hi
  obtain ⟨j,j1,j2,j3⟩:=va 0 (by omega)
  have g0:zzG (zzO (zzP A W l false) c) (0:Int)=some (j:Int):=by
   rw [← j2]
   exact zbd (i:=0) (by omega)
  unfold zbX
  simp only [show (i:Int)<((zzO (zzP A W l false) c).length:Int) by omega,vE0,if_true,zbd hi,k2,pv1,zbC k1,zar hl,g0,zbC j1,k3,j3,wC0,wH0,wA0,if_false,zaw (show i<4611686018427387904 by omega)]) (by
  unfold zbX
  simp only [show ¬ ((zzO (zzP A W l false) c).length:Int)<((zzO (zzP A W l false) c).length:Int) by omega,vF0,wA0,if_false])
 unfold zfA
 simp only [zru K hl,zza K hl,wC0,wH0,wA0,if_false,show zae (zbX (pr c h A W ms) (l:Int) (zzO (zzP A W l false) c) ((zzO (zzP A W l false) c).length:Int)) (0:Int)=_ from lp,zaG]
 rfl
theorem zwG (K:Ok c h A W [] v):zcA (pr c h A W [])=some true:=by
 have c4:=K.c4
 have h16:=K.h16
 have l2:=zaF (f:=zco (ls c W) (c:Int)) (n:=c) (e:=(Sum.inl ():Unit⊕Int)) (fun i=>(i:Int)) (fun i hi=>by
  unfold zco
  simp only [show (i:Int)<(c:Int) by omega,vE0,if_true,zar hi,wC0,K.rest hi,show zgT w00=false from rfl,wA0,if_false,zaw (show i<4611686018427387904 by omega)]) (by
  unfold zco
  simp only [show ¬ (c:Int)<(c:Int) by omega,vF0,wA0,if_false])
 have l1:=zaF (f:=zcp (ls h fun l=>((A l).bu:Int)) (h:Int)) (n:=h) (e:=(Sum.inl ():Unit⊕Int)) (fun i=>(i:Int)) (fun i hi=>by
  unfold zcp
  simp only [show (i:Int)<(h:Int) by omega,vE0,if_true,zar hi,wC0,(K.qu hi).bu,show zgm ((0:Nat):Int)=false from rfl,wA0,if_false,zaw (show i<4611686018427387904 by omega)]) (by
  unfold zcp
  simp only [show ¬ (h:Int)<(h:Int) by omega,vF0,wA0,if_false])
 have pb1:Proto.Busy (pr c h A W [])=ls h fun l=>((A l).bu:Int):=rfl
 unfold zcA
 simp only [zk6 K,wC0,wH0,wA0,if_false,zms,zep,List.length_nil,show ¬ (0:Int)<((0:Nat):Int) by omega,vF0,zq2,pb1,za6,show zae (zco (ls c W) (c:Int)) (0:Int)=_ from l2,show zae (zcp (ls h fun l=>((A l).bu:Int)) (h:Int)) (0:Int)=_ from l1,zaG,show ¬ (0:Int)≤-1 by omega,vH0,if_true]
theorem zyy (K:Ok c h A W [] v) {n l:Nat}(hn:n<c) (hl:l<h):zg9 (pr c h A W []) (n:Int) (l:Int)=some true:=by
 have c4:=K.c4
 have Q:=K.qu hl
 have i:=(K.lv l hl).iv
 have bu:=Q.bu
 have ph:=Q.ph
 have tk:=Q.tk n
 have pd0:=Q.pd n
 have pd1:Proto.Dir (pr c h A W [])=ls h fun l=>Entry.mk ((A l).ow:Int) (ls c (A l).sh):=rfl
 have ps1:Proto.State (pr c h A W [])=tb c h fun n l=>((A l).st n:Int):=rfl
 have pv1:Proto.Val (pr c h A W [])=tb c h fun n l=>(A l).va n:=rfl
 have s4:=(i.s4 n).1
 have o1:=i.o1 n
 have o2:=i.o2 n
 have s1:=i.s1 n
 have vv:=i.vv n
 have ev:=i.ev n
 have hv:=i.hv
 unfold zg9
 simp only [pd1,ps1,pv1,zou,zar hl,zbC hn,zar hn,wC0,w1 (show n≤300 by omega),show ∀ a b,Entry.Owner (Entry.mk a b)=a from fun _ _=>rfl,show ∀ a b,Entry.Share (Entry.mk a b)=b from fun _ _=>rfl]
 by_cases q0:(A l).st n=0
 ·simp only [q0,show decide (((0:Nat):Int)=0)=true from rfl,if_true]
  rw [vD0 (by omega)]
  rfl
 simp only [show ¬ ((A l).st n:Int)=0 by omega,vF0,wA0,if_false]
 by_cases q1:(A l).st n=1
 ·have sh:(A l).sh n=true:=by
   rcases s1 q1 with r|r|r
   ·exact r
   ·omega
   ·omega
  simp only [q1,show decide (((1:Nat):Int)=1)=true from rfl,if_true,show ¬ ((A l).ow:Int)=(n:Int) + 1 by omega,vF0,vH0,sh]
  by_cases r:(0:Int)<((A l).ow:Int)
  ·simp only [r,vE0,if_true,wC0]
  ·simp only [r,vF0,wA0,if_false,wC0]
   rw [hv (by omega),vv (by omega) (by omega),vC0 rfl]
 simp only [show ¬ ((A l).st n:Int)=1 by omega,vF0,wA0,if_false]
 have ow:((A l).ow:Int)=(n:Int) + 1:=by
  rcases o2 (by omega) with r|r|r
  ·omega
  ·omega
  ·omega
 by_cases q2:(A l).st n=2
 ·simp only [q2,show decide (((2:Nat):Int)=2)=true from rfl,if_true,ow,vE0,vB1]
  rw [ev q2 (by omega),vv (by omega) (by omega),vC0 rfl]
 ·simp only [show ¬ ((A l).st n:Int)=2 by omega,vF0,wA0,if_false,ow,vE0]
theorem zxF (K:Ok c h A W ms v) {l:Nat}(hl:l<h):zfW (pr c h A W ms) (l:Int)=some true:=by
 have c4:=K.c4
 unfold zfW
 simp only [zru K hl,wC0,wH0,wA0,if_false]
 by_cases q:0<ms.length
 ·have:zcA (pr c h A W ms)=some false:=by
   unfold zcA
   simp only [zk6 K,wC0,wH0,wA0,if_false,zms,zep,show (0:Int)<(ms.length:Int) by omega,vE0,if_true]
  simp only [this,wC0,vH0,if_true]
 have e:ms=[]:=by
  cases ms with
  | nil=>rfl
  | cons m r=>simp at q
 subst e
 have ps1:Proto.State (pr c h A W [])=tb c h fun n l=>((A l).st n:Int):=rfl
 have lp:=zaF (f:=zbV (pr c h A W []) (l:Int) (c:Int)) (n:=c) (e:=(Sum.inl ():Unit⊕Bool)) (fun i=>(i:Int)) (fun i hi=>by
  unfold zbV
  simp only [show (i:Int)<(c:Int) by omega,vE0,if_true,zyy K hi hl,wC0,wH0,wA0,if_false,zaw (show i<4611686018427387904 by omega)]) (by
  unfold zbV
  simp only [show ¬ (c:Int)<(c:Int) by omega,vF0,wA0,if_false])
 simp only [zwG K,wC0,wH0,wA0,if_false,ps1,zur,show zae (zbV (pr c h A W []) (l:Int) (c:Int)) (0:Int)=_ from lp,zaG]
theorem zyi (K:Ok c h A W ms v):zfa (pr c h A W ms)=some true:=by
 have h16:=K.h16
 have lp:=zaF (f:=zdg (pr c h A W ms) (h:Int)) (n:=h) (e:=(Sum.inl ():Unit⊕Bool)) (fun i=>(i:Int)) (fun i hi=>by
  unfold zdg
  simp only [show (i:Int)<(h:Int) by omega,vE0,if_true,zxN K hi,zx3 K hi,zxF K hi,wC0,wH0,wA0,if_false,zaw (show i<4611686018427387904 by omega)]) (by
  unfold zdg
  simp only [show ¬ (h:Int)<(h:Int) by omega,vF0,wA0,if_false])
 unfold zfa
 simp only [zou,za6,show zae (zdg (pr c h A W ms) (h:Int)) (0:Int)=_ from lp,zaG,zk6 K,wC0]
theorem zzk (K:Ok c h A W ms v) {l:List l10_Act}(hl:∀ a∈l,zxE a) {i:Nat}(hi:i<l.length) (hm:i<120):∃ A' W' ms' v',zaZ l ((i:Int),pr c h A W ms)=some (Sum.inl (((i + 1:Nat):Int),pr c h A' W' ms'))∧Ok c h A' W' ms' v':=by
 obtain ⟨o1,o2,o3,o4,o5⟩:=hl _ (List.getElem_mem hi)
 obtain ⟨n,n1,n2,n3⟩:=zA5 o2.1 o2.2 (show 0<c from K.c1)
 obtain ⟨k,l1,l2,l3⟩:=zA5 o3.1 o3.2 (show 0<h from K.h1)
 have r3:=(zq1 (a:=l10_Act.Kind l[i]) (n:=8) o1.1 (by omega)).1
 have c4:=K.c4
 have fin:∀ {A':Nat→AL} {W':Nat→Wait} {ms':List Msg} {v':Nat→Int},Ok c h A' W' ms' v'→(zfa (pr c h A' W' ms')).bind (fun v33=>if (!v33)=true then some (Sum.inr (Sum.inr false)) else some (Sum.inl (((i + 1:Nat):Int),pr c h A' W' ms')))=(some (Sum.inl (((i + 1:Nat):Int),pr c h A' W' ms')):Option ((Int×Proto)⊕Proto⊕Bool)):=fun ok=>by
  rw [zyi ok];rfl
 unfold zaZ
 simp only [show (i:Int)<(List.length l:Int) by omega,show (i:Int)<120 by omega,vE0,Bool.and_self,if_true,zbd hi,zq2,zou,zms,za6,n3,l3,r3,zep,wC0,zaw (show i<4611686018427387904 by omega)]
 by_cases k0:(bif decide (l10_Act.Kind l[i] % 8=0) then decide (l10_Act.Kind l[i] % 8=0) else decide (l10_Act.Kind l[i] % 8=1))=true
 ·simp only [k0,if_true]
  rcases zx6 K n1 l1 (l10_Act.Write l[i]) with ⟨e,_⟩|⟨e,_⟩|⟨m,e,ok,_⟩
  ·exact ⟨A,W,ms,v,by simp only [e,wC0];exact fin K,K⟩
  ·exact ⟨A,W,ms,v,by simp only [e,wC0];exact fin K,K⟩
  ·exact ⟨_,_,_,v,by simp only [e,wC0];exact fin ok,ok⟩
 simp only [k0,if_false]
 by_cases k2:l10_Act.Kind l[i] % 8=2
 ·simp only [k2,vE0,if_true]
  rcases zvM K n1 l1 with ⟨x,e,_⟩|⟨e,ok,_⟩|⟨m,e,ok,_⟩
  ·exact ⟨A,W,ms,v,by simp only [e,wC0];exact fin K,K⟩
  ·exact ⟨_,_,_,v,by simp only [e,wC0];exact fin ok,ok⟩
  ·exact ⟨_,_,_,v,by simp only [e,wC0];exact fin ok,ok⟩
 simp only [k2,vF0,wA0,if_false]
 by_cases k3:l10_Act.Kind l[i] % 8=3
 ·simp only [k3,vE0,if_true]
  rcases zyZ K n1 l1 o5 with e|⟨e,ok⟩
  ·exact ⟨A,W,ms,v,by simp only [e,wC0];exact fin K,K⟩
  ·exact ⟨_,_,_,_,by simp only [e,wC0];exact fin ok,ok⟩
 simp only [k3,vF0,wA0,if_false]
 by_cases q:(0:Int)<(ms.length:Int)
 ·obtain ⟨j,j1,j2,j3⟩:=zA5 o4.1 o4.2 (n:=ms.length) (by omega)
  obtain ⟨A',W',ms',e,d,ok⟩:=zsU K (.inl j1)
  exact ⟨A',W',ms',v,by simp only [q,vE0,if_true,j3,d,wC0];exact fin ok,ok⟩
 ·exact ⟨A,W,ms,v,by simp only [q,vF0,wA0,if_false,wC0];exact fin K,K⟩
end
section
variable {c h:Nat}
theorem zwV {l:List l10_Act}(hl:∀ a∈l,zxE a):∀ (d i:Nat) {A:Nat→AL}{W:Nat→Wait}{ms:List Msg}{v:Nat→Int},Ok c h A W ms v→i + d=min l.length 120→∃ A' W' ms' v',zae (zaZ l) ((i:Int),pr c h A W ms)=some (Sum.inl (pr c h A' W' ms'))∧Ok c h A' W' ms' v'
 | 0,i,A,W,ms,v,K,e=>by
  refine ⟨A,W,ms,v,zdy ?_,K⟩
  unfold zaZ
  rw [if_neg (by simp only [wD0,vG0];omega)]
 | d + 1,i,A,W,ms,v,K,e=>by
  obtain ⟨A',W',ms',v',st,ok⟩:=zzk K hl (i:=i) (by omega) (by omega)
  rw [zkN,st]
  exact zwV hl d (i + 1) ok (by omega)
theorem zym {v:Nat→Int}(h4:h≤6):∀ (M:Nat) {A:Nat→AL}{W:Nat→Wait}{ms:List Msg}(n:Nat),Ok c h A W ms v→5 * Phi A h + jx ms≤M→n + M<2000→∃ A' W',zae za0 ((n:Int),pr c h A W ms)=some (pr c h A' W' [])∧Ok c h A' W' [] v
 | M,A,W,ms,n,K,hm,hn=>by
  cases hs:ms with
  | nil =>
   subst hs
   refine ⟨A,W,zdy ?_,K⟩
   unfold za0
   simp only [zms,zep,List.length_nil,show ¬ (0:Int)<((0:Nat):Int) by omega,vF0,Bool.and_false,wA0,if_false]
  | cons m r =>
   have hk:0<ms.length:=by rw [hs];simp
   obtain ⟨l,B,W',ms',hl,ev,d,ok,lt⟩:=less K h4 hk
   have st:za0 ((n:Int),pr c h A W ms)=some (Sum.inl (((n + 1:Nat):Int),pr c h (up A l B) W' ms')):=by
    unfold za0
    simp only [zms,zep,show (n:Int)<2000 by omega,show (0:Int)<(ms.length:Int) by omega,vE0,Bool.and_self,if_true,d,wC0,zaw (show n<4611686018427387904 by omega)]
   rw [← hs,zkN,st]
   cases M with
   | zero=>omega
   | succ M=>exact zym h4 M (n + 1) ok (by omega) (by omega)
theorem zw2 {a:Int}(h0:0≤a) (h1:a<256):∃ k:Nat,1≤k∧k≤4∧zAj a (4:Int)=some ((k:Int) - 1)∧w64 (w64 ((k:Int) - 1) + 1)=(k:Int):=by
 have r:=zq1 (a:=a) (n:=4) h0 (by omega)
 refine ⟨(a % 4).toNat + 1,by omega,by omega,?_,?_⟩
 ·rw [r.1];exact congrArg some (by omega)
 ·rw [zcu (n:=_ - 1) (by omega) (by omega),zcu (by omega) (by omega)];omega
theorem zm0 {a b:Int}(ha:0≤a∧a<256) (hb:0≤b∧b<256) {l:List l10_Act}(hl:∀ a∈l,zxE a):zeu a b l=some true:=by
 obtain ⟨c,c1,c4,e1,e2⟩:=zw2 ha.1 ha.2
 obtain ⟨h,h1,h4,f1,f2⟩:=zw2 hb.1 hb.2
 obtain ⟨A,W,ms,v,d,K⟩:=zwV hl (min l.length 120) 0 (ok0 c1 c4 h1 (show h≤16 by omega)) (by omega)
 have b:=K.pbd
 have j:=zyA K
 obtain ⟨A',W',e,ok⟩:=zym (c:=c) (h:=h) (v:=v) (by omega) 504 0 K (by omega) (by omega)
 unfold zeu zlE
 simp only [e1,e2,f1,f2,wC0,zy4 c1 c4 h1 (show h≤16 by omega),vE0,wH0,wA0,if_false,show zae (zaZ l) ((0:Int),pr c h (fun _=>al0) (fun _=>w00) [])=_ from d,zaG,show zae za0 ((0:Int),pr c h A W ms)=_ from e,zwG ok,if_true,zyi ok]
theorem zoz (x:Ty.Tup zb5.ps) (h:OkL zb5.ps x):zb5.sem x=some true :=
 zm0 ⟨h.1.1,Int.lt_of_le_of_lt h.1.2 (by decide)⟩ ⟨h.2.1.1,Int.lt_of_le_of_lt h.2.1.2 (by decide)⟩ (fun a ha=>by
  have q:=h.2.2.2 a ha
  exact ⟨⟨q.1.1,Int.lt_of_le_of_lt q.1.2 (by decide)⟩,⟨q.2.1.1,Int.lt_of_le_of_lt q.2.1.2 (by decide)⟩,⟨q.2.2.1.1,Int.lt_of_le_of_lt q.2.2.1.2 (by decide)⟩,⟨q.2.2.2.1.1,Int.lt_of_le_of_lt q.2.2.2.1.2 (by decide)⟩,⟨q.2.2.2.2.2.1,Int.lt_of_le_of_lt q.2.2.2.2.2.2 (by decide)⟩⟩)
end
end Go.Proofs.Ytlgjbfdojbmmgaa
