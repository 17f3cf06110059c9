/- Layer 11: what Back and Trim tell, of the program and of the reference. No condition. -/
import Derived.Test.YtlgjbfdojbmmgaaU2
set_option linter.unusedSimpArgs false
set_option linter.unusedVariables false
namespace Go.Proofs.Ytlgjbfdojbmmgaa
open Go.SX
theorem zlN {l:Log}(h:∀ i,i<(Log.Lst l).length→uok l i=true):∀ (j:Nat) (hj:j<(Log.Lst l).length) (i:Nat) (hi:i<j),Undo.Span (Log.Lst l)[i]≤Undo.Span (Log.Lst l)[j]
 | 0,_,i,hi=>by omega
 | j + 1,hj,i,hi=>by
  have h1:=((zff hj).1 (h (j + 1) hj)).1.1
  simp only [zix,wF0 (show j<(Log.Lst l).length by omega)] at h1
  rcases Nat.lt_or_ge i j with h2|h2
  ·have:=zlN h j (by omega) i h2
   omega
  ·have:i=j:=by omega
   subst this
   exact h1
def goes (to:Int) (u:Undo):Bool:=decide (to≤Undo.Span u)
def stays (to:Int) (u:Undo):Bool:=decide (Undo.Span u<to)
theorem zio (to:Int):∀ l:List Undo,l.Pairwise (fun a b=>Undo.Span a≤Undo.Span b)→l=l.filter (stays to)++l.filter (goes to)
 | [],_=>rfl
 | x::l,h=>by
  have hp:=List.pairwise_cons.1 h
  have ih:=zio to l hp.2
  by_cases hx:Undo.Span x<to
  ·have h1:stays to x=true:=by simp [stays,hx]
   have h2:goes to x=false:=by simp [goes];omega
   rw [List.filter_cons,if_pos h1,List.filter_cons,h2]
   simpa using ih
  ·have h1:∀ y∈x::l,stays to y=false:=fun y hy=>by
    rcases List.mem_cons.1 hy with e|hy
    ·subst e;simp [stays];omega
    ·have:=hp.1 y hy
     simp [stays];omega
   have h2:∀ y∈x::l,goes to y=true:=fun y hy=>by
    have:=h1 y hy
    simp [stays] at this
    simp [goes,this]
   rw [List.filter_eq_nil_iff.2 (fun y hy=>by rw [h1 y hy];simp),List.filter_eq_self.2 h2]
   rfl
theorem znT {l:Log}(h:zaq l=true) (to:Int):Log.Lst l=(Log.Lst l).filter (stays to)++(Log.Lst l).filter (goes to):=by
 refine zio to _ ?_
 rw [List.pairwise_iff_getElem]
 intro i j hi hj hij
 exact zlN (zbp h).2 j hj i hij
def putB (u:Undo) (m:List Int):List Int:=m.set (Undo.At u).toNat (Undo.Val u)
theorem ze4 (mem:List Int):∀ B:List Undo,(B.foldr putB mem).length=mem.length
 | []=>rfl
 | u::B=>by simp [putB,ze4 mem B]
def restore (l:Log) (to:Int):List Int:=((Log.Lst l).filter (goes to)).foldr putB (Log.Mem l)
def zrb (l:Log) (to:Int):Log×Int:=if zaq l=true∧0≤to∧to≤Log.Span l then (Log.mk (restore l to) to ((Log.Lst l).filter (stays to)),0) else (l,1)
theorem zu7 {l:Log}(h:zaq l=true) {u:Undo}(hu:u∈Log.Lst l):0≤Undo.At u∧Undo.At u<((Log.Mem l).length:Int):=by
 obtain ⟨i,hi,rfl⟩:=List.getElem_of_mem hu
 have:=((zff hi).1 ((zbp h).2 i hi)).1
 exact ⟨this.2.2.1,this.2.2.2⟩
theorem zm2 (l:Log) (h:zij l) (to:Int):zfj l to=some (zrb l to):=by
 unfold zfj zrb
 rw [zcV l h.2]
 simp only [wC0,zfE h]
 by_cases hok:zaq l=true∧0≤to∧to≤Log.Span l
 ·obtain ⟨hr,h0,ha⟩:=hok
  have hw:(if zaq l=true then some (zaK to (Log.Span l)) else some false)=some true:=by simp [hr,zaK,h0,ha]
  rw [hw,if_pos (show zaq l=true∧0≤to∧to≤Log.Span l from ⟨hr,h0,ha⟩)]
  have hsp:=znT hr to
  have hsz:=(zbp hr).1
  unfold zbL at hsz
  generalize hA:(Log.Lst l).filter (stays to)=A at hsp
  generalize hB:(Log.Lst l).filter (goes to)=B at hsp
  have hmemB:∀ u∈B,0≤Undo.At u∧Undo.At u<((Log.Mem l).length:Int):=fun u hu=>zu7 hr (by rw [hsp];exact List.mem_append_right _ hu)
  have hgo:∀ u∈B,to≤Undo.Span u:=fun u hu=>by
   rw [← hB] at hu
   have:=(List.mem_filter.1 hu).2
   simpa [goes] using this
  have hst:∀ u∈A,Undo.Span u<to:=fun u hu=>by
   rw [← hA] at hu
   have:=(List.mem_filter.1 hu).2
   simpa [stays] using this
  have hlen:(Log.Lst l).length=A.length + B.length:=by rw [hsp,wI0]
  have hl2:=h.2
  have lp:=za5 (f:=zdu to (Log.Lst l)) (n:=B.length) (e:=((A.length:Int),restore l to)) (fun j=>((((A.length + B.length - j:Nat)):Int),(((A.length + B.length - j:Nat)):Int),(B.drop (B.length - j)).foldr putB (Log.Mem l))) (fun j hj=>by
   have hib:B.length - j - 1<B.length:=by omega
   have hil:A.length + B.length - j - 1<(Log.Lst l).length:=by omega
   have hpos:(0:Int)<((A.length + B.length - j:Nat):Int):=by omega
   have hw:w64 (((A.length + B.length - j:Nat):Int) - 1)=((A.length + B.length - j - 1:Nat):Int):=by rw [zdE (by omega) (by omega)];omega
   have hix:zm6 0 ((A.length + B.length - j:Nat):Int) ((A.length + B.length - j - 1:Nat):Int)=some ((A.length + B.length - j - 1:Nat):Int):=by
    unfold zm6
    rw [if_pos (by omega),Int.zero_add]
   have hrv:zmO (List.length (Log.Lst l):Int) 0 0 ((A.length + B.length - j - 1:Nat):Int)=some ((A.length + B.length - j - 1:Nat):Int):=by
    unfold zmO
    rw [if_pos (by omega),Int.zero_add]
   have hx:(Log.Lst l)[A.length + B.length - j - 1]=B[B.length - j - 1]:=by
    have e:(Log.Lst l)[A.length + B.length - j - 1]?=(A++B)[A.length + B.length - j - 1]?:=by rw [← hsp]
    rw [List.getElem?_append_right (by omega),show A.length + B.length - j - 1 - A.length=B.length - j - 1 by omega,wF0 hil,wF0 hib] at e
    exact Option.some.inj e
   have hmb:=hmemB _ (List.getElem_mem hib)
   have hgb:=hgo _ (List.getElem_mem hib)
   have hfl:=ze4 (Log.Mem l) (B.drop (B.length - j))
   have hidx:idxO (List.length ((B.drop (B.length - j)).foldr putB (Log.Mem l)):Int) (Undo.At B[B.length - j - 1])=some (Undo.At B[B.length - j - 1]):=zsf hmb.1 (by rw [hfl];exact hmb.2)
   have hset:setO ((B.drop (B.length - j)).foldr putB (Log.Mem l)) (Undo.At B[B.length - j - 1]) (Undo.Val B[B.length - j - 1])=some (putB B[B.length - j - 1] ((B.drop (B.length - j)).foldr putB (Log.Mem l))):=zr0 hmb.1 (by rw [hfl];exact hmb.2)
   have hdrop:B.drop (B.length - (j + 1))=B[B.length - j - 1]::B.drop (B.length - j):=by
    rw [show B.length - (j + 1)=B.length - j - 1 by omega,List.drop_eq_getElem_cons hib,show B.length - j - 1 + 1=B.length - j by omega]
   unfold zdu
   simp only [hpos,decide_true,if_true,hw,hix,zat hil,hx,wC0,hgb,hrv,hidx,hset]
   rw [hdrop,List.foldr_cons,show A.length + B.length - (j + 1)=A.length + B.length - j - 1 by omega]) (by
   have hd0:B.drop (B.length - B.length)=B:=by rw [Nat.sub_self,List.drop_zero]
   rw [show A.length + B.length - B.length=A.length by omega]
   unfold zdu
   rw [hd0]
   have hres:restore l to=B.foldr putB (Log.Mem l):=by unfold restore;rw [hB]
   rw [hres]
   rcases Nat.eq_zero_or_pos A.length with ha0|ha0
   ·simp [ha0]
   ·have hil:A.length - 1<(Log.Lst l).length:=by omega
    have hpos:(0:Int)<(A.length:Int):=by omega
    have hw:w64 ((A.length:Int) - 1)=((A.length - 1:Nat):Int):=by rw [zdE (by omega) (by omega)];omega
    have hix:zm6 0 (A.length:Int) ((A.length - 1:Nat):Int)=some ((A.length - 1:Nat):Int):=by
     unfold zm6
     rw [if_pos (by omega),Int.zero_add]
    have hx:(Log.Lst l)[A.length - 1]=A[A.length - 1]:=by
     have e:(Log.Lst l)[A.length - 1]?=(A++B)[A.length - 1]?:=by rw [← hsp]
     rw [List.getElem?_append_left (by omega),wF0 hil,wF0 (show A.length - 1<A.length by omega)] at e
     exact Option.some.inj e
    have hsa:=hst _ (List.getElem_mem (show A.length - 1<A.length by omega))
    have hna:¬ to≤Undo.Span A[A.length - 1]:=by omega
    simp only [hpos,decide_true,if_true,hw,hix,zat hil,hx,wC0,hna,decide_false,wA0,if_false])
  have h00:B.drop (B.length - 0)=[]:=by rw [Nat.sub_zero,List.drop_length]
  rw [h00,Nat.sub_zero,← hlen] at lp
  simp only [List.foldr_nil] at lp
  have hsub:subO (Log.Lst l) (0:Int) (A.length:Int)=some A:=by
   have:=zgh (l:=Log.Lst l) (i:=0) (j:=A.length) (by omega) (by omega)
   rw [List.drop_zero] at this
   refine Eq.trans this ?_
   rw [hsp,List.take_left']
   rfl
  simp [lp,hsub]
 ·rw [if_neg hok]
  have hw:(if zaq l=true then some (zaK to (Log.Span l)) else some false)=some false:=by
   cases hr:zaq l with
   | false=>simp
   | true =>
    simp only [zaK,if_true]
    congr 1
    rw [Bool.and_eq_false_iff,decide_eq_false_iff_not,decide_eq_false_iff_not]
    by_cases h0:0≤to
    ·right;intro e;exact hok ⟨hr,h0,e⟩
    ·left;exact h0
  rw [hw]
  simp
def trimS (l:Log) (fr:Int):Log×Int:=if zaq l=true∧0≤fr∧fr≤Log.Span l then (Log.mk (Log.Mem l) (Log.Span l) ((Log.Lst l).filter (goes fr)),0) else (l,1)
theorem znc (l:Log) (h:zij l) (to:Int):zeT l to=some (trimS l to):=by
 unfold zeT trimS
 rw [zcV l h.2]
 simp only [wC0,zfE h]
 by_cases hok:zaq l=true∧0≤to∧to≤Log.Span l
 ·obtain ⟨hr,h0,ha⟩:=hok
  have hw:(if zaq l=true then some (zaK to (Log.Span l)) else some false)=some true:=by simp [hr,zaK,h0,ha]
  rw [hw,if_pos (show zaq l=true∧0≤to∧to≤Log.Span l from ⟨hr,h0,ha⟩)]
  have hl2:=h.2
  have lp:=zec (f:=zdy to (Log.Lst l) (List.length (Log.Lst l):Int)) (n:=(Log.Lst l).length) (fun i=>(i:Int)) (fun i=>optT (goes to) (Log.Lst l)[i]?) (e:=.inl ()) (r:=fun i=>.inr (i:Int)) (fun i hi _=>by
   have hlt:(i:Int)<(List.length (Log.Lst l):Int):=by omega
   unfold zdy
   simp only [hlt,decide_true,if_true,zci hi,zat hi,wC0,zav (show i<4611686018427387904 by omega),zbv hi]
   by_cases e1:Undo.Span (Log.Lst l)[i]<to
   ·have:¬ to≤Undo.Span (Log.Lst l)[i]:=by omega
    simp [e1,goes,this]
   ·have:to≤Undo.Span (Log.Lst l)[i]:=by omega
    simp [e1,goes,this]) (fun _=>by
   unfold zdy
   simp)
  rw [show ((0:Nat):Int)=0 from rfl] at lp
  rcases lp with ⟨hall,hlp⟩|⟨k,hk,hbad,hpre,hlp⟩
  ·have hself:(Log.Lst l).filter (goes to)=Log.Lst l:=by
    rw [List.filter_eq_self]
    intro u hu
    obtain ⟨i,hi,rfl⟩:=List.getElem_of_mem hu
    have:=hall i hi
    rwa [zbv hi] at this
   have hsub:subO (Log.Lst l) (0:Int) (List.length (Log.Lst l):Int)=some (Log.Lst l):=by
    have:=zgh (l:=Log.Lst l) (i:=0) (j:=(Log.Lst l).length) (by omega) (by omega)
    rw [List.drop_zero,List.take_length] at this
    exact this
   simp [hlp,hself,hsub]
  ·rw [zbv hk] at hbad
   obtain ⟨i,m,hlo,him,hml,htk⟩:=zqm (f:=zdv to) (l:=Log.Lst l) (keep:=goes to) (fun i j m hj hij hm=>by
    have hlt:(j:Int)<(List.length m:Int):=by omega
    unfold zdv
    simp only [hlt,decide_true,if_true,zci hj,zat hj,wC0,zav (show j<4611686018427387904 by omega)]
    have him:i<m.length:=by omega
    by_cases e1:Undo.Span m[j]<to
    ·have:¬ to≤Undo.Span m[j]:=by omega
     simp [e1,goes,this]
    ·have:to≤Undo.Span m[j]:=by omega
     simp [e1,goes,this,zci him,zeL him,zav (show i<4611686018427387904 by omega)]) (fun i m hm=>by
    unfold zdv
    simp) hk (fun i hi hik=>by
    have:=hpre i hik
    rwa [zbv hi] at this) hbad
   have hk1:¬ (k:Int)=-1:=by omega
   have hsub:subO (m.take i++List.replicate (m.length - i) (Undo.mk 0 0 0)) (0:Int) (i:Int)=some (m.take i):=by
    have hl:(m.take i++List.replicate (m.length - i) (Undo.mk 0 0 0)).length=m.length:=by simp;omega
    have:=zgh (l:=m.take i++List.replicate (m.length - i) (Undo.mk 0 0 0)) (i:=0) (j:=i) (by omega) (by omega)
    rw [List.drop_zero,zqt him] at this
    exact this
   simp only [hlp,zdP,wC0,hk1,decide_false,wA0,if_false,wH0,zav (show k<4611686018427387904 by omega),hlo]
   rw [zpI him]
   simp only [wC0,hsub]
   rw [htk]
 ·rw [if_neg hok]
  have hw:(if zaq l=true then some (zaK to (Log.Span l)) else some false)=some false:=by
   cases hr:zaq l with
   | false=>simp
   | true =>
    simp only [zaK,if_true]
    congr 1
    rw [Bool.and_eq_false_iff,decide_eq_false_iff_not,decide_eq_false_iff_not]
    by_cases h0:0≤to
    ·right;intro e;exact hok ⟨hr,h0,e⟩
    ·left;exact h0
  rw [hw]
  simp
end Go.Proofs.Ytlgjbfdojbmmgaa
