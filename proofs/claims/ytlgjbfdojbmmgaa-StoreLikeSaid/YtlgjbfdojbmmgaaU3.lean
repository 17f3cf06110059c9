/- Layer 11: what Back and Trim tell, of the program and of the reference. No condition. -/
import Derived.Test.YtlgjbfdojbmmgaaU2
set_option linter.unusedSimpArgs false
set_option linter.unusedVariables false
namespace Go.Proofs.Ytlgjbfdojbmmgaa
open Go.SX
theorem zlV {l:Log}(h:∀ i,i<(Log.Lst l).length→uok l i=true):∀ (j:Nat) (hj:j<(Log.Lst l).length) (i:Nat) (hi:i<j),Undo.Span (Log.Lst l)[i]≤Undo.Span (Log.Lst l)[j]
 | 0,_,i,hi=>by omega
 | j + 1,hj,i,hi=>by
  have h1:=((ze4 hj).1 (h (j + 1) hj)).1.1
  simp only [zix,wF0 (show j<(Log.Lst l).length by omega)] at h1
  rcases Nat.lt_or_ge i j with h2|h2
  ·have:=zlV h j (by omega) i h2
   omega
  ·have:i=j:=by omega
   subst this
   exact h1
def goes (to:Int) (u:Undo):Bool:=decide (to≤Undo.Span u)
def stays (to:Int) (u:Undo):Bool:=decide (Undo.Span u<to)
theorem zib (to:Int):∀ l:List Undo,l.Pairwise (fun a b=>Undo.Span a≤Undo.Span b)→l=l.filter (stays to)++l.filter (goes to)
 | [],_=>rfl
 | x::l,h=>by
  have hp:=List.pairwise_cons.1 h
  have ih:=zib to l hp.2
  by_cases hx:Undo.Span x<to
  ·have h1:stays to x=true:=by simp [stays,hx]
   have h2:goes to x=false:=by simp [goes];omega
   rw [List.filter_cons,if_pos h1,List.filter_cons,h2]
   simpa using ih
  ·have h1:∀ y∈x::l,stays to y=false:=fun y hy=>by
    rcases List.mem_cons.1 hy with e|hy
    ·subst e;simp [stays];omega
    ·have:=hp.1 y hy
     simp [stays];omega
   have h2:∀ y∈x::l,goes to y=true:=fun y hy=>by
    have:=h1 y hy
    simp [stays] at this
    simp [goes,this]
   rw [List.filter_eq_nil_iff.2 (fun y hy=>by rw [h1 y hy];simp),List.filter_eq_self.2 h2]
   rfl
theorem zos {l:Log}(h:zaq l=true) (to:Int):Log.Lst l=(Log.Lst l).filter (stays to)++(Log.Lst l).filter (goes to):=by
 refine zib to _ ?_
 rw [List.pairwise_iff_getElem]
 intro i j hi hj hij
 exact zlV (zbg h).2 j hj i hij
def putB (u:Undo) (m:List Int):List Int:=m.set (Undo.At u).toNat (Undo.Val u)
theorem zeL (mem:List Int):∀ B:List Undo,(B.foldr putB mem).length=mem.length
 | []=>rfl
 | u::B=>by simp [putB,zeL mem B]
def restore (l:Log) (to:Int):List Int:=((Log.Lst l).filter (goes to)).foldr putB (Log.Mem l)
def zqK (l:Log) (to:Int):Log×Int:=if zaq l=true∧0≤to∧to≤Log.Span l then (Log.mk (restore l to) to ((Log.Lst l).filter (stays to)),0) else (l,1)
theorem zu6 {l:Log}(h:zaq l=true) {u:Undo}(hu:u∈Log.Lst l):0≤Undo.At u∧Undo.At u<((Log.Mem l).length:Int):=by
 obtain ⟨i,hi,rfl⟩:=List.getElem_of_mem hu
 have:=((ze4 hi).1 ((zbg h).2 i hi)).1
 exact ⟨this.2.2.1,this.2.2.2⟩
theorem znU (l:Log) (h:zh1 l) (to:Int):zeS l to=some (zqK l to):=by
 unfold zeS zqK
 rw [zcV l h.2]
 simp only [wC0,zfo h]
 by_cases hok:zaq l=true∧0≤to∧to≤Log.Span l
 ·obtain ⟨hr,h0,ha⟩:=hok
  have hw:(if zaq l=true then some (zaJ to (Log.Span l)) else some false)=some true:=by simp [hr,zaJ,h0,ha]
  rw [hw,if_pos (show zaq l=true∧0≤to∧to≤Log.Span l from ⟨hr,h0,ha⟩)]
  have hsp:=zos hr to
  have hsz:=(zbg hr).1
  unfold zbO at hsz
  generalize hA:(Log.Lst l).filter (stays to)=A at hsp
  generalize hB:(Log.Lst l).filter (goes to)=B at hsp
  have hmemB:∀ u∈B,0≤Undo.At u∧Undo.At u<((Log.Mem l).length:Int):=fun u hu=>zu6 hr (by rw [hsp];exact List.mem_append_right _ hu)
  have hgo:∀ u∈B,to≤Undo.Span u:=fun u hu=>by
   rw [← hB] at hu
   have:=(List.mem_filter.1 hu).2
   simpa [goes] using this
  have hst:∀ u∈A,Undo.Span u<to:=fun u hu=>by
   rw [← hA] at hu
   have:=(List.mem_filter.1 hu).2
   simpa [stays] using this
  have hlen:(Log.Lst l).length=A.length + B.length:=by rw [hsp,wI0]
  have hl2:=h.2
  have lp:=za0 (f:=zdz to (Log.Lst l)) (n:=B.length) (e:=((A.length:Int),restore l to)) (fun j=>((((A.length + B.length - j:Nat)):Int),(((A.length + B.length - j:Nat)):Int),(B.drop (B.length - j)).foldr putB (Log.Mem l))) (fun j hj=>by
   have hib:B.length - j - 1<B.length:=by omega
   have hil:A.length + B.length - j - 1<(Log.Lst l).length:=by omega
   have hpos:(0:Int)<((A.length + B.length - j:Nat):Int):=by omega
   have hw:w64 (((A.length + B.length - j:Nat):Int) - 1)=((A.length + B.length - j - 1:Nat):Int):=by rw [zdB (by omega) (by omega)];omega
   have hix:zoa 0 ((A.length + B.length - j:Nat):Int) ((A.length + B.length - j - 1:Nat):Int)=some ((A.length + B.length - j - 1:Nat):Int):=by
    unfold zoa
    rw [if_pos (by omega),Int.zero_add]
   have hrv:znp (List.length (Log.Lst l):Int) 0 0 ((A.length + B.length - j - 1:Nat):Int)=some ((A.length + B.length - j - 1:Nat):Int):=by
    unfold znp
    rw [if_pos (by omega),Int.zero_add]
   have hx:(Log.Lst l)[A.length + B.length - j - 1]=B[B.length - j - 1]:=by
    have e:(Log.Lst l)[A.length + B.length - j - 1]?=(A++B)[A.length + B.length - j - 1]?:=by rw [← hsp]
    rw [List.getElem?_append_right (by omega),show A.length + B.length - j - 1 - A.length=B.length - j - 1 by omega,wF0 hil,wF0 hib] at e
    exact Option.some.inj e
   have hmb:=hmemB _ (List.getElem_mem hib)
   have hgb:=hgo _ (List.getElem_mem hib)
   have hfl:=zeL (Log.Mem l) (B.drop (B.length - j))
   have hidx:idxO (List.length ((B.drop (B.length - j)).foldr putB (Log.Mem l)):Int) (Undo.At B[B.length - j - 1])=some (Undo.At B[B.length - j - 1]):=zsY hmb.1 (by rw [hfl];exact hmb.2)
   have hset:setO ((B.drop (B.length - j)).foldr putB (Log.Mem l)) (Undo.At B[B.length - j - 1]) (Undo.Val B[B.length - j - 1])=some (putB B[B.length - j - 1] ((B.drop (B.length - j)).foldr putB (Log.Mem l))):=zsS hmb.1 (by rw [hfl];exact hmb.2)
   have hdrop:B.drop (B.length - (j + 1))=B[B.length - j - 1]::B.drop (B.length - j):=by
    rw [show B.length - (j + 1)=B.length - j - 1 by omega,List.drop_eq_getElem_cons hib,show B.length - j - 1 + 1=B.length - j by omega]
   unfold zdz
   simp only [hpos,decide_true,if_true,hw,hix,zar hil,hx,wC0,hgb,hrv,hidx,hset]
   rw [hdrop,List.foldr_cons,show A.length + B.length - (j + 1)=A.length + B.length - j - 1 by omega]) (by
   have hd0:B.drop (B.length - B.length)=B:=by rw [Nat.sub_self,List.drop_zero]
   rw [show A.length + B.length - B.length=A.length by omega]
   unfold zdz
   rw [hd0]
   have hres:restore l to=B.foldr putB (Log.Mem l):=by unfold restore;rw [hB]
   rw [hres]
   rcases Nat.eq_zero_or_pos A.length with ha0|ha0
   ·simp [ha0]
   ·have hil:A.length - 1<(Log.Lst l).length:=by omega
    have hpos:(0:Int)<(A.length:Int):=by omega
    have hw:w64 ((A.length:Int) - 1)=((A.length - 1:Nat):Int):=by rw [zdB (by omega) (by omega)];omega
    have hix:zoa 0 (A.length:Int) ((A.length - 1:Nat):Int)=some ((A.length - 1:Nat):Int):=by
     unfold zoa
     rw [if_pos (by omega),Int.zero_add]
    have hx:(Log.Lst l)[A.length - 1]=A[A.length - 1]:=by
     have e:(Log.Lst l)[A.length - 1]?=(A++B)[A.length - 1]?:=by rw [← hsp]
     rw [List.getElem?_append_left (by omega),wF0 hil,wF0 (show A.length - 1<A.length by omega)] at e
     exact Option.some.inj e
    have hsa:=hst _ (List.getElem_mem (show A.length - 1<A.length by omega))
    have hna:¬ to≤Undo.Span A[A.length - 1]:=by omega
    simp only [hpos,decide_true,if_true,hw,hix,zar hil,hx,wC0,hna,decide_false,wA0,if_false])
  have h00:B.drop (B.length - 0)=[]:=by rw [Nat.sub_zero,List.drop_length]
  rw [h00,Nat.sub_zero,← hlen] at lp
  simp only [List.foldr_nil] at lp
  have hsub:subO (Log.Lst l) (0:Int) (A.length:Int)=some A:=by
   have:=zf1 (l:=Log.Lst l) (i:=0) (j:=A.length) (by omega) (by omega)
   rw [List.drop_zero] at this
   refine Eq.trans this ?_
   rw [hsp,List.take_left']
   rfl
  simp [lp,hsub]
 ·rw [if_neg hok]
  have hw:(if zaq l=true then some (zaJ to (Log.Span l)) else some false)=some false:=by
   cases hr:zaq l with
   | false=>simp
   | true =>
    simp only [zaJ,if_true]
    congr 1
    rw [Bool.and_eq_false_iff,decide_eq_false_iff_not,decide_eq_false_iff_not]
    by_cases h0:0≤to
    ·right;intro e;exact hok ⟨hr,h0,e⟩
    ·left;exact h0
  rw [hw]
  simp
def trimS (l:Log) (fr:Int):Log×Int:=if zaq l=true∧0≤fr∧fr≤Log.Span l then (Log.mk (Log.Mem l) (Log.Span l) ((Log.Lst l).filter (goes fr)),0) else (l,1)
theorem zm1 (l:Log) (h:zh1 l) (to:Int):zfa l to=some (trimS l to):=by
 unfold zfa trimS
 rw [zcV l h.2]
 simp only [wC0,zfo h]
 by_cases hok:zaq l=true∧0≤to∧to≤Log.Span l
 ·obtain ⟨hr,h0,ha⟩:=hok
  have hw:(if zaq l=true then some (zaJ to (Log.Span l)) else some false)=some true:=by simp [hr,zaJ,h0,ha]
  rw [hw,if_pos (show zaq l=true∧0≤to∧to≤Log.Span l from ⟨hr,h0,ha⟩)]
  have hl2:=h.2
  have lp:=zd5 (f:=zdA to (Log.Lst l) (List.length (Log.Lst l):Int)) (n:=(Log.Lst l).length) (fun i=>(i:Int)) (fun i=>optT (goes to) (Log.Lst l)[i]?) (e:=.inl ()) (r:=fun i=>.inr (i:Int)) (fun i hi _=>by
   have hlt:(i:Int)<(List.length (Log.Lst l):Int):=by omega
   unfold zdA
   simp only [hlt,decide_true,if_true,zcl hi,zar hi,wC0,zau (show i<4611686018427387904 by omega),zbt hi]
   by_cases e1:Undo.Span (Log.Lst l)[i]<to
   ·have:¬ to≤Undo.Span (Log.Lst l)[i]:=by omega
    simp [e1,goes,this]
   ·have:to≤Undo.Span (Log.Lst l)[i]:=by omega
    simp [e1,goes,this]) (fun _=>by
   unfold zdA
   simp)
  rw [show ((0:Nat):Int)=0 from rfl] at lp
  rcases lp with ⟨hall,hlp⟩|⟨k,hk,hbad,hpre,hlp⟩
  ·have hself:(Log.Lst l).filter (goes to)=Log.Lst l:=by
    rw [List.filter_eq_self]
    intro u hu
    obtain ⟨i,hi,rfl⟩:=List.getElem_of_mem hu
    have:=hall i hi
    rwa [zbt hi] at this
   have hsub:subO (Log.Lst l) (0:Int) (List.length (Log.Lst l):Int)=some (Log.Lst l):=by
    have:=zf1 (l:=Log.Lst l) (i:=0) (j:=(Log.Lst l).length) (by omega) (by omega)
    rw [List.drop_zero,List.take_length] at this
    exact this
   simp [hlp,hself,hsub]
  ·rw [zbt hk] at hbad
   obtain ⟨i,m,hlo,him,hml,htk⟩:=zqh (f:=zdC to) (l:=Log.Lst l) (keep:=goes to) (fun i j m hj hij hm=>by
    have hlt:(j:Int)<(List.length m:Int):=by omega
    unfold zdC
    simp only [hlt,decide_true,if_true,zcl hj,zar hj,wC0,zau (show j<4611686018427387904 by omega)]
    have him:i<m.length:=by omega
    by_cases e1:Undo.Span m[j]<to
    ·have:¬ to≤Undo.Span m[j]:=by omega
     simp [e1,goes,this]
    ·have:to≤Undo.Span m[j]:=by omega
     simp [e1,goes,this,zcl him,zfd him,zau (show i<4611686018427387904 by omega)]) (fun i m hm=>by
    unfold zdC
    simp) hk (fun i hi hik=>by
    have:=hpre i hik
    rwa [zbt hi] at this) hbad
   have hk1:¬ (k:Int)=-1:=by omega
   have hsub:subO (m.take i++List.replicate (m.length - i) (Undo.mk 0 0 0)) (0:Int) (i:Int)=some (m.take i):=by
    have hl:(m.take i++List.replicate (m.length - i) (Undo.mk 0 0 0)).length=m.length:=by simp;omega
    have:=zf1 (l:=m.take i++List.replicate (m.length - i) (Undo.mk 0 0 0)) (i:=0) (j:=i) (by omega) (by omega)
    rw [List.drop_zero,zqE him] at this
    exact this
   simp only [hlp,zec,wC0,hk1,decide_false,wA0,if_false,wH0,zau (show k<4611686018427387904 by omega),hlo]
   rw [zqD him]
   simp only [wC0,hsub]
   rw [htk]
 ·rw [if_neg hok]
  have hw:(if zaq l=true then some (zaJ to (Log.Span l)) else some false)=some false:=by
   cases hr:zaq l with
   | false=>simp
   | true =>
    simp only [zaJ,if_true]
    congr 1
    rw [Bool.and_eq_false_iff,decide_eq_false_iff_not,decide_eq_false_iff_not]
    by_cases h0:0≤to
    ·right;intro e;exact hok ⟨hr,h0,e⟩
    ·left;exact h0
  rw [hw]
  simp
end Go.Proofs.Ytlgjbfdojbmmgaa
