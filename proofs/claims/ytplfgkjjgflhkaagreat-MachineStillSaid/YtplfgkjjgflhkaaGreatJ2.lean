/- What neither retires nor goes back leaves a machine as it was. No condition. -/
import Derived.Test.YtplfgkjjgflhkaaGreatJ1
set_option linter.unusedSimpArgs false
set_option linter.unusedVariables false
set_option maxRecDepth 100000
namespace Go.Proofs.YtplfgkjjgflhkaaGreat.V
open Go.SX
def toV (s:za4) (t:Int):Prop:=rightV s=true∧0≤t∧t≤zaD s
theorem zBR {s a}(h:toV s a):(rightV s&&(decide (0≤a)&&decide (a≤zaD s)))=true:=by
 simp only [wD0,vG0]
 exact h
theorem zxH {s a}(h:¬ toV s a):(rightV s&&(decide (0≤a)&&decide (a≤zaD s)))=false:=by
 rw [Bool.eq_false_iff]
 intro e
 simp only [wD0,vG0] at e
 exact h e
noncomputable def zkj (s:za4) (to:Int):zcn:=((zak s).filter (goes to)).foldr (putV (bN (zae s))) (zae s)
noncomputable def backV (s:za4) (to:Int):za4×Int :=
 if (rightV s&&(decide (0≤to)&&decide (to≤zaD s)))=true then
  if 0<zaq (zae s) then (s,8)
  else (zaX (zkj s to) (zaj s) to ((zak s).filter (stays to)),0)
 else (s,1)
theorem at_V {s}(hs:VOk s) (h:rightV s=true) {u}(hu:u∈zak s):0≤zaZ u∧(zaZ u).toNat<(zj7 s).length∧(zaZ u).toNat<bN (zae s) * bM (zae s)∧wd (ze4 u):=by
 obtain ⟨l1,l2,l3⟩:=words_le h
 have:=zJV (zs4 h) (u:=u) hu
 unfold logV at this
 rw [Log.Mem_mk] at this
 exact ⟨this.1,by omega,by omega,hs.v u hu⟩
theorem zsu {s to u}(h:u∈(zak s).filter (goes to)):u∈zak s:=(List.mem_filter.1 h).1
theorem zAG {s}(hs:VOk s) (h:rightV s=true) (hl:zaq (zae s)=0) (to):Good (bN (zae s)) (bM (zae s)) (zkj s to)∧allB (zkj s to)=restore (logV s) to++(allB (zae s)).drop (zaj s).toNat:=by
 obtain ⟨h1,h2⟩:=zut (zyj hs h hl) ((zak s).filter (goes to)) fun u hu=>⟨(at_V hs h (zsu hu)).2.2.1,(at_V hs h (zsu hu)).2.2.2⟩
 refine ⟨h1,?_⟩
 unfold zkj
 rw [h2,zyD s,zyC _ _ _ fun u hu=>(at_V hs h (zsu hu)).2.1]
 rw [← zyD]
 rfl
theorem zES {s}(hs:VOk s) (h:rightV s=true) (hl:zaq (zae s)=0) (to) :
  zaQ (zeP to (zaj s) (zaD s) (zak s) (zak s)) (w64 ((List.length (zak s):Int) - (1:Int)),zac (zae s),zat (zae s),zaq (zae s),(List.length (zak s):Int)) =
   some (zac (zkj s to),zat (zkj s to),zaq (zkj s to),(((zak s).filter (stays to)).length:Int)) ∧
  subO (zak s) (0:Int) (((zak s).filter (stays to)).length:Int)=some ((zak s).filter (stays to)):=by
 have hsp:zak s=(zak s).filter (stays to)++(zak s).filter (goes to):=zF7 (zs4 h) to
 have hB0:zkj s to=((zak s).filter (goes to)).foldr (putV (bN (zae s))) (zae s):=rfl
 have hat:∀ u∈(zak s).filter (goes to),u∈zak s:=fun u hu=>zsu hu
 generalize hA:(zak s).filter (stays to)=A at hsp ⊢
 generalize hB:(zak s).filter (goes to)=B at hsp hB0 hat
 have hgo:∀ u∈B,to≤zaJ u:=fun u hu=>by
  rw [← hB] at hu
  have:=(List.mem_filter.1 hu).2
  simpa [goes] using this
 have hst:∀ u∈A,zaJ u<to:=fun u hu=>by
  rw [← hA] at hu
  have:=(List.mem_filter.1 hu).2
  simpa [stays] using this
 have hlen:(zak s).length=A.length + B.length:=by
  have:=congrArg List.length hsp
  rwa [wI0] at this
 have hl2:=hs.l
 have g:=zyj hs h hl
 obtain ⟨l1,l2,l3⟩:=words_le h
 have hsub:∀ k:Nat,k≤(zak s).length→subO (zak s) (0:Int) (k:Int)=some ((zak s).take k):=fun k hk=>by
  have:=zej (l:=zak s) (i:=0) (j:=k) (by omega) hk
  rw [List.drop_zero] at this
  exact this
 have lp:=zbn (f:=zeP to (zaj s) (zaD s) (zak s) (zak s)) (n:=B.length) (e:=(zac (zkj s to),zat (zkj s to),zaq (zkj s to),(A.length:Int)))
  (fun j=>(((A.length + B.length - j:Nat):Int) - 1,zac ((B.drop (B.length - j)).foldr (putV (bN (zae s))) (zae s)),zat ((B.drop (B.length - j)).foldr (putV (bN (zae s))) (zae s)),zaq ((B.drop (B.length - j)).foldr (putV (bN (zae s))) (zae s)),((A.length + B.length - j:Nat):Int))) (fun j hj=>by
  have hib:B.length - j - 1<B.length:=by omega
  have hil:A.length + B.length - j - 1<(zak s).length:=by omega
  have hix:((A.length + B.length - j:Nat):Int) - 1=((A.length + B.length - j - 1:Nat):Int):=by omega
  have hx:(zak s)[A.length + B.length - j - 1]=B[B.length - j - 1]:=by
   have e:(zak s)[A.length + B.length - j - 1]?=(A++B)[A.length + B.length - j - 1]?:=by rw [← hsp]
   rw [List.getElem?_append_right (by omega),show A.length + B.length - j - 1 - A.length=B.length - j - 1 by omega,wF0 hil,wF0 hib] at e
   exact Option.some.inj e
  have hgb:=hgo _ (List.getElem_mem hib)
  obtain ⟨a1,a2,a3,a4⟩:=at_V hs h (hat _ (List.getElem_mem hib))
  have hdrop:B.drop (B.length - (j + 1))=B[B.length - j - 1]::B.drop (B.length - j):=by
   rw [show B.length - (j + 1)=B.length - j - 1 by omega,List.drop_eq_getElem_cons hib,show B.length - j - 1 + 1=B.length - j by omega]
  obtain ⟨gj,_⟩:=zut g (B.drop (B.length - j)) fun u hu=>⟨(at_V hs h (hat _ (List.mem_of_mem_drop hu))).2.2.1,(at_V hs h (hat _ (List.mem_of_mem_drop hu))).2.2.2⟩
  rw [hdrop,List.foldr_cons]
  generalize (B.drop (B.length - j)).foldr (putV (bN (zae s))) (zae s)=bj at gj
  generalize B[B.length - j - 1]=u at *
  obtain ⟨p,hp⟩:∃ p:Nat,zaZ u=(p:Int):=⟨(zaZ u).toNat,by omega⟩
  rw [hp,Int.toNat_natCast] at a2 a3
  have hn:0<bN (zae s):=Nat.pos_of_ne_zero fun e=>by rw [e] at a3;omega
  have hbn:bN bj=bN (zae s):=gj.rl
  have hpl:∀ L,zda (zaX bj (zaj s) (zaD s) L) (p:Int)=some (((p % bN (zae s):Nat):Int),((p / bN (zae s):Nat):Int)):=fun L=>by
   have:=zsw (zaX bj (zaj s) (zaD s) L) p (by rw [zhs,hbn];exact hn) (by omega)
   rwa [zhs,hbn] at this
  have hwr:=zvk gj (Nat.mod_lt p hn) (show p / bN (zae s)<bM (zae s) by rw [Nat.div_lt_iff_lt_mul hn,Nat.mul_comm];exact a3) (ze4 u)
  have hsb:=hsub (A.length + B.length - j) (by omega)
  have hw1:w64 ((((A.length + B.length - j:Nat):Int) - 0) - 1)=((A.length + B.length - j - 1:Nat):Int):=by rw [zbT (by omega) (by omega)];omega
  have hrv:zzy (List.length (zak s):Int) 0 0 ((A.length + B.length - j - 1:Nat):Int)=some ((A.length + B.length - j - 1:Nat):Int):=by
   unfold zzy
   rw [if_pos (by omega),Int.zero_add]
  have hw2:w64 (((A.length + B.length - j - 1:Nat):Int) - 1)=((A.length + B.length - (j + 1):Nat):Int) - 1:=by rw [zbT (by omega) (by omega)];omega
  unfold zeP
  simp only [hix,show ¬ ((A.length + B.length - j - 1:Nat):Int)<0 by omega,vF0,wA0,if_false,zaA hil,hx,wC0,show ¬ zaJ u<to by omega,hsb,zcs,hp,hpl,hwr,hw1,hrv,hw2]
  unfold putV
  rw [hp,Int.toNat_natCast,show A.length + B.length - (j + 1)=A.length + B.length - j - 1 by omega]) (by
  have hd0:B.drop (B.length - B.length)=B:=by rw [Nat.sub_self,List.drop_zero]
  rw [show A.length + B.length - B.length=A.length by omega,hd0,← hB0]
  unfold zeP
  rcases Nat.eq_zero_or_pos A.length with ha0|ha0
  ·simp [ha0]
  ·have hil:A.length - 1<(zak s).length:=by omega
   have hix:(A.length:Int) - 1=((A.length - 1:Nat):Int):=by omega
   have hx:(zak s)[A.length - 1]=A[A.length - 1]:=by
    have e:(zak s)[A.length - 1]?=(A++B)[A.length - 1]?:=by rw [← hsp]
    rw [List.getElem?_append_left (by omega),wF0 hil,wF0 (show A.length - 1<A.length by omega)] at e
    exact Option.some.inj e
   have hsa:=hst _ (List.getElem_mem (show A.length - 1<A.length by omega))
   simp only [hix,show ¬ ((A.length - 1:Nat):Int)<0 by omega,vF0,wA0,if_false,zaA hil,hx,wC0,hsa,vE0,if_true])
 have h00:B.drop (B.length - 0)=[]:=by rw [Nat.sub_zero,List.drop_length]
 rw [h00,Nat.sub_zero,← hlen] at lp
 simp only [List.foldr_nil] at lp
 refine ⟨?_,?_⟩
 ·rw [zbT (by omega) (by omega)]
  exact lp
 ·rw [hsub A.length (by omega)]
  have:(A++B).take A.length=A:=List.take_left' rfl
  rw [← hsp] at this
  rw [this]
theorem store_Back_eq {s}(hs:VOk s) (to):zet s to=some (backV s to):=by
 unfold zet backV
 have hc:=zlY hs
 rw [show zdT=za8 from rfl,hc,zz2 hs]
 by_cases h:toV s to
 ·rw [zBR h]
  simp only [wC0,wH0,wA0,if_false,if_true,zcs,zdl]
  by_cases hl:0<zaq (zae s)
  ·simp only [hl,vE0,if_true]
  have hl0:zaq (zae s)=0:=by have:=zw4 h.1;omega
  obtain ⟨b1,b2⟩:=zES hs h.1 hl0 to
  simp only [hl,vF0,wA0,if_false,b1,b2,wC0,zcs]
 ·rw [zxH h]
  simp only [wC0,vH0,if_true,zcs,zdl,wA0,if_false]
noncomputable def trimV (s:za4) (fr:Int):za4×Int :=
 if (rightV s&&(decide (0≤fr)&&decide (fr≤zaD s)))=true then (zaX (zae s) (zaj s) (zaD s) ((zak s).filter (goes fr)),0) else (s,1)
theorem store_Trim_eq {s}(hs:VOk s) (to):zlC s to=some (trimV s to):=by
 unfold zlC trimV
 have hc:=zlY hs
 rw [show zdT=za8 from rfl,hc,zz2 hs]
 by_cases h:toV s to
 ·rw [zBR h]
  simp only [wC0,wH0,wA0,if_false,if_true,zcs,zdl]
  have hl2:=hs.l
  have lp:=zlB (f:=zgM to (zak s) (List.length (zak s):Int)) (n:=(zak s).length) (fun i=>(i:Int)) (fun i=>optT (goes to) (zak s)[i]?) (e:=.inl ()) (r:=fun i=>.inr (i:Int)) (fun i hi _=>by
   have hlt:(i:Int)<(List.length (zak s):Int):=by omega
   unfold zgM
   simp only [hlt,vE0,if_true,za3 hi,zaA hi,wC0,zaP (show i<4611686018427387904 by omega),zbl hi]
   by_cases e1:zaJ (zak s)[i]<to
   ·have:¬ to≤zaJ (zak s)[i]:=by omega
    simp [e1,goes,this]
   ·have:to≤zaJ (zak s)[i]:=by omega
    simp [e1,goes,this]) (fun _=>by
   unfold zgM
   simp)
  rw [show ((0:Nat):Int)=0 from rfl] at lp
  rcases lp with ⟨hall,hlp⟩|⟨k,hk,hbad,hpre,hlp⟩
  ·have hself:(zak s).filter (goes to)=zak s:=by
    rw [List.filter_eq_self]
    intro u hu
    obtain ⟨i,hi,rfl⟩:=List.getElem_of_mem hu
    have:=hall i hi
    rwa [zbl hi] at this
   have hsub:subO (zak s) (0:Int) (List.length (zak s):Int)=some (zak s):=by
    have:=zej (l:=zak s) (i:=0) (j:=(zak s).length) (by omega) (by omega)
    rw [List.drop_zero,List.take_length] at this
    exact this
   simp [hlp,hself,hsub]
  ·rw [zbl hk] at hbad
   obtain ⟨i,m,hlo,him,hml,htk⟩:=zHt (f:=zgx to) (l:=zak s) (keep:=goes to) (fun i j m hj hij hm=>by
    have hlt:(j:Int)<(List.length m:Int):=by omega
    unfold zgx
    simp only [hlt,vE0,if_true,za3 hj,zaA hj,wC0,zaP (show j<4611686018427387904 by omega)]
    have him:i<m.length:=by omega
    by_cases e1:zaJ m[j]<to
    ·have:¬ to≤zaJ m[j]:=by omega
     simp [e1,goes,this]
    ·have:to≤zaJ m[j]:=by omega
     simp [e1,goes,this,za3 him,zbb him,zaP (show i<4611686018427387904 by omega)]) (fun i m hm=>by
    unfold zgx
    simp) hk (fun i hi hik=>by
    have:=hpre i hik
    rwa [zbl hi] at this) hbad
   have hk1:¬ (k:Int)=-1:=by omega
   have hsub:subO (m.take i++List.replicate (m.length - i) (zdS 0 0 0)) (0:Int) (i:Int)=some (m.take i):=by
    have hl:(m.take i++List.replicate (m.length - i) (zdS 0 0 0)).length=m.length:=by simp;omega
    have:=zej (l:=m.take i++List.replicate (m.length - i) (zdS 0 0 0)) (i:=0) (j:=i) (by omega) (by omega)
    rw [List.drop_zero,zGF him] at this
    exact this
   simp only [hlp,zb8,wC0,hk1,vF0,wA0,if_false,wH0,zaP (show k<4611686018427387904 by omega),hlo]
   rw [zHE him]
   simp only [wC0,hsub]
   rw [htk]
 ·rw [zxH h]
  simp only [wC0,vH0,if_true,zcs,zdl,wA0,if_false]
def zBm (w n:Int):Bool:=decide (1≤w∧w≤64∧1≤n∧n≤8)
noncomputable def newV (w n:Int):za4×Int :=
 if zBm w n=true then (zaX (newB n.toNat ((w.toNat + n.toNat - 1) / n.toNat)) w 0 [],0) else (zaX (zaY [] [] 0) 0 0 [],1)
theorem zFP (w n):((decide (w<(1:Int)))||((decide ((64:Int)<w))||((decide (n<(1:Int)))||(decide ((8:Int)<n)))))=!zBm w n:=by
 unfold zBm
 by_cases h:1≤w∧w≤64∧1≤n∧n≤8
 ·rw [vC0 h]
  simp only [wH0,Bool.or_eq_false_iff,decide_eq_false_iff_not]
  omega
 ·rw [vD0 h]
  simp only [vH0,Bool.or_eq_true,vG0]
  omega
theorem zFc {w n}(hn:1≤n) (hw:1≤w) (hw2:w≤64):1≤(w + n - 1) / n∧(w + n - 1) / n≤64∧w≤(w + n - 1) / n * n∧((w + n - 1) / n - 1) * n<w:=by
 have h1:1≤(w + n - 1) / n:=by
  rw [Nat.le_div_iff_mul_le (by omega)]
  omega
 have h2:=(zCV (w:=w) (n:=n) (m:=(w + n - 1) / n) (by omega) (by omega) h1).1 rfl
 refine ⟨h1,?_,h2.1,h2.2⟩
 have h3:(w + n - 1) / n - 1<w:=Nat.lt_of_le_of_lt (Nat.le_mul_of_pos_right _ (by omega)) h2.2
 omega
noncomputable def nextV (s:za4):za4×Int:=if rightV s=true∧zaD s<1099511627776 then (zaX (zae s) (zaj s) (zaD s + 1) (zak s),0) else (s,1)
theorem zIJ {s}(h:rightV s=true):0≤zaD s∧zaD s≤1099511627776:=by
 have:=(zhF (zce h).2.2).1
 unfold zj8 at this
 exact ⟨this.2.2.1,this.2.2.2.1⟩
theorem store_Next_eq {s}(hs:VOk s):zl4 s=some (nextV s):=by
 unfold zl4 nextV
 have hc:=zlY hs
 rw [show zgJ=za8 from rfl,hc,store_Right_eq hs]
 cases hr:rightV s
 ·simp only [wC0,vH0,if_true,zcs,zdl,wA0,false_and,if_false]
 ·have:=zIJ hr
  by_cases h:zaD s=1099511627776
  ·simp only [wC0,wH0,wA0,if_false,h,vE0,if_true,Int.lt_irrefl,and_false,zcs]
   rw [← h,zdl]
  ·have h2:zaD s<1099511627776:=by omega
   simp only [wC0,wH0,wA0,if_false,h,vF0,h2,and_self,if_true,zcs]
   rw [zbT (by omega) (by omega)]
noncomputable def zHf (s:za4) (k:Int):za4×Int:=if rightV s=true then (zaX (zDT (zae s) k).1 (zaj s) (zaD s) (zak s),(zDT (zae s) k).2) else (s,1)
theorem store_Lose_eq {s}(hs:VOk s) (k):zlX s k=some (zHf s k):=by
 unfold zlX zHf
 have hc:=zlY hs
 rw [show zdT=za8 from rfl,hc,store_Right_eq hs]
 cases hr:rightV s
 ·simp only [wC0,vH0,if_true,zcs,zdl,wA0,if_false]
 ·simp only [wC0,wH0,wA0,if_false,zvu hs.b,if_true]
noncomputable def rebuildV (s:za4):za4×Int:=if rightV s=true then (zaX (zl7 (zae s)).1 (zaj s) (zaD s) (zak s),(zl7 (zae s)).2) else (s,1)
theorem store_Rebuild_eq {s}(hs:VOk s):zgp s=some (rebuildV s):=by
 unfold zgp rebuildV
 have hc:=zlY hs
 rw [show zgJ=za8 from rfl,hc,store_Right_eq hs]
 cases hr:rightV s
 ·simp only [wC0,vH0,if_true,zcs,zdl,wA0,if_false]
 ·simp only [wC0,wH0,wA0,if_false,zp7 hs.b,if_true]
theorem writeV_ok {s}(hs:VOk s) (a) {w}(hw:wd w):VOk (zB7 s a w).1:=by
 unfold zB7
 by_cases h:inV s a
 ·obtain ⟨k,rfl,hk,hk2⟩:=zEK h
  obtain ⟨p1,p2,p3⟩:=znO h.1 hk
  rw [zxz h,if_pos rfl]
  have hsz:=(zhF (zs4 h.1)).1
  unfold zj8 at hsz
  have hlen:(zak s).length≤256:=hsz.2.2.2.2
  split
  ·exact hs
  ·rename_i hl
   have hl0:zaq (zae s)=0:=by have:=zw4 h.1;omega
   have hb:BOk (zeO (zae s) (k % bN (zae s)) (k / bN (zae s)) w):=zzC hs.b p2 hw
   split
   ·exact ⟨hb,hs.l,hs.v⟩
   ·split
    ·exact hs
    ·rename_i h256
     refine ⟨hb,?_,?_⟩
     ·show (zak s++[_]).length≤300
      rw [wI0]
      simp
      omega
     ·intro u hu
      rcases List.mem_append.1 (show u∈zak s++[zdS (zaD s) (k:Int) (zyH (logV s) (k:Int))] from hu) with q|q
      ·exact hs.v u q
      ·rw [List.mem_singleton] at q
       subst q
       show wd (zyH (logV s) (k:Int))
       unfold zyH
       cases e:(Log.Mem (logV s))[(k:Int).toNat]? with
       | none=>exact wd0
       | some x=>exact words_wd hs x (List.mem_of_getElem? e)
 ·rw [zxh h]
  exact hs
theorem backV_ok {s}(hs:VOk s) (to):VOk (backV s to).1:=by
 unfold backV
 by_cases h:toV s to
 ·rw [zBR h,if_pos rfl]
  split
  ·exact hs
  ·rename_i hl
   have hl0:zaq (zae s)=0:=by have:=zw4 h.1;omega
   exact ⟨(zAG hs h.1 hl0 to).1.ok,Nat.le_trans (List.length_filter_le _ _) hs.l,fun u hu=>hs.v u (List.mem_filter.1 hu).1⟩
 ·rw [zxH h]
  exact hs
theorem trimV_ok {s}(hs:VOk s) (to):VOk (trimV s to).1:=by
 unfold trimV
 split
 ·exact ⟨hs.b,Nat.le_trans (List.length_filter_le _ _) hs.l,fun u hu=>hs.v u (List.mem_filter.1 hu).1⟩
 ·exact hs
theorem newV_ok (w n):VOk (newV w n).1:=by
 unfold newV
 cases h:zBm w n
 ·exact ⟨⟨by simp,by simp,by simp,fun r hr=>by simp at hr,by simp⟩,by simp,by simp⟩
 ·rw [if_pos rfl]
  unfold zBm at h
  rw [vG0] at h
  obtain ⟨e1,e2,e3,e4⟩:=zFc (w:=w.toNat) (n:=n.toNat) (by omega) (by omega) (by omega)
  exact ⟨zI3 (by omega) e2,by simp,by simp⟩
theorem nextV_ok {s}(hs:VOk s):VOk (nextV s).1:=by
 unfold nextV
 split
 ·exact ⟨hs.b,hs.l,hs.v⟩
 ·exact hs
theorem loseV_ok {s}(hs:VOk s) (k):VOk (zHf s k).1:=by
 unfold zHf
 split
 ·exact ⟨zGV hs.b k,hs.l,hs.v⟩
 ·exact hs
theorem rebuildV_ok {s}(hs:VOk s):VOk (rebuildV s).1:=by
 unfold rebuildV
 split
 ·exact ⟨zA7 hs.b,hs.l,hs.v⟩
 ·exact hs
theorem zGT {n m:Nat}(hn:n≤1000) (hm:m≤1000):zaQ (zf7 (n:Int) (m:Int)) ((0:Int),([]:List (List Int)))=some (List.replicate n (List.replicate m 0)):=by
 have lp:=zbn (f:=zf7 (n:Int) (m:Int)) (n:=n) (e:=List.replicate n (List.replicate m (0:Int))) (fun i=>((i:Int),List.replicate i (List.replicate m (0:Int)))) (fun i hi=>by
  have hlt:(i:Int)<(n:Int):=by omega
  have r1:=zc1 (z:=(0:Int)) (b:=4) (n:=m) (by omega) (by omega)
  have a1:appO 24 (List.replicate i (List.replicate m (0:Int))) [List.replicate m (0:Int)]=some (List.replicate (i + 1) (List.replicate m (0:Int))):=by
   rw [zbP (by simp;omega) (by omega),← List.replicate_succ']
  unfold zf7
  simp only [hlt,vE0,if_true,r1,a1,wC0,zaP (show i<4611686018427387904 by omega)]) (by
  unfold zf7
  simp only [show ¬ (n:Int)<(n:Int) by omega,vF0,wA0,if_false])
 simpa using lp
theorem store_New_eq (w n):zoz w n=some (newV w n):=by
 unfold zoz newV
 rw [zFP]
 cases h:zBm w n
 ·rfl
 unfold zBm at h
 rw [vG0] at h
 obtain ⟨a,rfl⟩:∃ a:Nat,w=(a:Int):=⟨w.toNat,by omega⟩
 obtain ⟨b,rfl⟩:∃ b:Nat,n=(b:Int):=⟨n.toNat,by omega⟩
 obtain ⟨e1,e2,e3,e4⟩:=zFc (w:=a) (n:=b) (by omega) (by omega) (by omega)
 simp only [wH0,wA0,if_false,if_true,zGu (w:=a) (n:=b) (by omega) (by omega) (by omega),wC0,Int.toNat_natCast]
 generalize (a + b - 1) / b=m at e1 e2
 have hc:((decide ((b:Int)<(1:Int)))||((decide ((8:Int)<(b:Int)))||((decide ((m:Int)<(1:Int)))||(decide ((64:Int)<(m:Int))))))=false:=by
  simp only [Bool.or_eq_false_iff,decide_eq_false_iff_not]
  omega
 rw [hc,if_neg (by simp),zc1 (by omega) (by omega),wC0,zGT (by omega) (by omega)]
 rfl
end Go.Proofs.YtplfgkjjgflhkaaGreat.V
namespace Go.Proofs.YtplfgkjjgflhkaaGreat
open Go.SX
structure PO (progs:List (List Ins)):Prop where
 n:progs.length≤6
 l:∀ p∈progs,p.length≤80
 k:∀ p∈progs,∀ x∈p,U32 (zmQ x)
structure Wk (N:Nat) (m:Machine):Prop where
 pr:Ok10 False (zah m)
 sh:zg9 (zah m)
 st:V.VOk (zar m)
 ck:zdX (zaC m)
 gt:zf1 N (zaz m)
 co:(zaw m).length≤1000∧∀ c∈zaw m,zgm c
 si:(zaI m).length≤1000
structure RF (progs:List (List Ins)) (m:Machine):Prop where
 pg:1≤progs.length∧progs.length≤4
 pr:zbJ (zah m)=true
 sr:V.rightV (zar m)=true
 cl:1≤(zao (zaC m)).length
 hl:(zas (zaz m)).length≤64
 co:(zaw m).length=progs.length
 wt:(zab (zah m)).length=progs.length
 si:(zaI m).length=progs.length
 ho:((zad (zah m)).length:Int)=zaj (zar m)
 nw:0≤zaN m∧zaN m≤1099511627776
theorem zsD {f n}(hn:n≤1000) (ok) (step:∀ i:Nat,i<n→i<1000→f (i:Int)=some (if ok i=true then .inl ((i + 1:Nat):Int) else .inr (.inr false))) (out:f (n:Int)=some (.inr (.inl ()))) :
  zbm (zaQ f (0:Int)) (fun _=>some true)=some ((List.range n).all ok):=by
 have:=zlb (f:=f) (n:=n) (g:=fun _=>some true) (fun i=>(i:Int)) ok (fun i hi _=>step i hi (by omega)) (fun _=>out)
 rw [show (((0:Nat):Int))=0 from rfl] at this
 rw [this]
 cases (List.range n).all ok<;>rfl
theorem zwz {progs}(P:PO progs) {l}(hl:l.length≤1000):∃ b,zde progs l=some b∧(b=true→l.length=progs.length):=by
 unfold zde
 by_cases h:(List.length l:Int)=(List.length progs:Int)
 rotate_left
 ·simp only [h,vF0,vH0,if_true];exact ⟨false,rfl,fun q=>by cases q⟩
 simp only [h,vE0,wH0,wA0,if_false]
 have hll:l.length=progs.length:=by omega
 have key:∀ i (hi:i<progs.length) (hi2:i<l.length),∃ b,zeu progs[i] l[i]=some b:=fun i hi hi2=>by
  obtain ⟨b,h1,_⟩:=zvi (P.l _ (List.getElem_mem hi)) l[i]
  exact ⟨b,h1⟩
 have:=zsD (f:=zeb progs l (List.length progs:Int)) (n:=progs.length) (by have:=P.n;omega) (fun i=>optT (fun p=>optT (fun c=>(zeu p c).getD false) l[i]?) progs[i]?) (fun i hi h1=>by
  have hi2:i<l.length:=by omega
  obtain ⟨b,k1⟩:=key i hi hi2
  unfold zeb
  rw [zbl hi,zbl hi2]
  simp only [show (i:Int)<(List.length progs:Int) by omega,vE0,if_true,zaA hi,zaA hi2,wC0,k1,Option.getD_some,zaP (show i<4611686018427387904 by omega)]
  cases b<;>rfl) (by
  unfold zeb
  simp only [Int.lt_irrefl,vF0,wA0,if_false])
 exact ⟨_,this,fun _=>hll⟩
theorem zEw {progs}(P:PO progs) {N m}(W:Wk N m):∃ b,zgF progs m=some b∧(b=true→RF progs m):=by
 obtain ⟨ba,a1,a2⟩:=zGb (l:=progs) (by have:=P.n;omega) P.l
 obtain ⟨bk,k1,k2⟩:=zl2 W.ck
 obtain ⟨bg,g1,g2⟩:=zoC W.gt
 obtain ⟨bc,c1,c2⟩:=zwz P W.co.1
 have p1:=zfE W.sh
 have s1:=V.store_Right_eq W.st
 unfold zgF zjc
 simp only [a1,p1,s1,k1,g1,c1,wC0]
 have no:∀ {b:Bool},b=false→(b=true→RF progs m):=fun h q=>by rw [h] at q;cases q
 cases ba
 ·exact ⟨false,rfl,no rfl⟩
 cases hp:zbJ (zah m)
 ·exact ⟨false,rfl,no rfl⟩
 cases hs:V.rightV (zar m)
 ·exact ⟨false,rfl,no rfl⟩
 cases bk
 ·exact ⟨false,rfl,no rfl⟩
 cases bg
 ·exact ⟨false,rfl,no rfl⟩
 cases bc
 ·exact ⟨false,rfl,no rfl⟩
 simp only [if_true,wC0,wH0,wA0,if_false]
 by_cases w1:(List.length (zab (zah m)):Int)=(List.length progs:Int)
 rotate_left
 ·simp only [w1,vF0,vH0,if_true,wC0];exact ⟨false,rfl,no rfl⟩
 by_cases w2:(List.length (zaI m):Int)=(List.length progs:Int)
 rotate_left
 ·simp only [w1,w2,vE0,vF0,vH0,wH0,wA0,if_false,if_true,wC0];exact ⟨false,rfl,no rfl⟩
 by_cases w3:(List.length (zad (zah m)):Int)=zaj (zar m)
 rotate_left
 ·simp only [w1,w2,w3,vE0,vF0,vH0,wH0,wA0,if_false,if_true,wC0];exact ⟨false,rfl,no rfl⟩
 simp only [w1,w2,w3,vE0,wH0,wA0,if_false,wC0]
 cases ht:zfT (zaN m)
 ·simp only [vH0,if_true,wC0];exact ⟨false,rfl,no rfl⟩
 obtain ⟨v1,e1,_⟩:=zeI (f:=zd9 (zaI m) (List.length progs:Int)) (n:=(zaI m).length) W.si (fun i=>optT (fun x=>!(zeY x)) (zaI m)[i]?) (fun i hi h1=>by
  unfold zd9
  rw [zbl hi]
  simp only [show (i:Int)<(List.length progs:Int) by omega,vE0,if_true,zaA hi,wC0,zaP (show i<4611686018427387904 by omega)]
  cases zeY (zaI m)[i]<;>rfl) (by
  unfold zd9
  simp only [w2,Int.lt_irrefl,vF0,wA0,if_false])
 simp only [wH0,wA0,if_false,e1,wC0]
 cases decide ((0:Int)≤v1)
 rotate_left
 ·exact ⟨false,rfl,no rfl⟩
 have key:∀ i (hi:i<(zao (zaC m)).length),∃ b,zde progs (za9 (zao (zaC m))[i])=some b:=fun i hi=>by
  obtain ⟨b,h1,_⟩:=zwz P (l:=za9 (zao (zaC m))[i]) (W.ck.2 _ (List.getElem_mem hi)).1
  exact ⟨b,h1⟩
 obtain ⟨v2,e2,_⟩:=zeI (f:=zed progs m (zao (zaC m)) (List.length (zao (zaC m)):Int)) (n:=(zao (zaC m)).length) W.ck.1 (fun i=>optT (fun x=>(zde progs (za9 x)).getD false&&!decide (zaD (zar m)<zaU x)) (zao (zaC m))[i]?) (fun i hi h1=>by
  obtain ⟨b,kb⟩:=key i hi
  unfold zed
  rw [zbl hi]
  simp only [show (i:Int)<(List.length (zao (zaC m)):Int) by omega,vE0,if_true,zaA hi,wC0,kb,Option.getD_some,zaP (show i<4611686018427387904 by omega)]
  cases b
  ·rfl
  ·cases decide (zaD (zar m)<zaU (zao (zaC m))[i])<;>rfl) (by
  unfold zed
  simp only [Int.lt_irrefl,vF0,wA0,if_false])
 simp only [wA0,if_false,e2,wC0]
 cases decide ((0:Int)≤v2)
 rotate_left
 ·exact ⟨false,rfl,no rfl⟩
 obtain ⟨v3,e3,_⟩:=zeI (f:=zec m (zas (zaz m)) (List.length (zas (zaz m)):Int)) (n:=(zas (zaz m)).length) W.gt.1 (fun i=>optT (fun x=>!decide (zaD (zar m)<zcu x)) (zas (zaz m))[i]?) (fun i hi h1=>by
  unfold zec
  rw [zbl hi]
  simp only [show (i:Int)<(List.length (zas (zaz m)):Int) by omega,vE0,if_true,zaA hi,wC0,zaP (show i<4611686018427387904 by omega)]
  cases decide (zaD (zar m)<zcu (zas (zaz m))[i])<;>rfl) (by
  unfold zec
  simp only [Int.lt_irrefl,vF0,wA0,if_false])
 simp only [wA0,if_false,e3,wC0]
 have hA:=a2 rfl
 have hT:0≤zaN m∧zaN m≤1099511627776:=by
  unfold zfT at ht
  simpa using ht
 exact ⟨_,rfl,fun _=>⟨⟨hA.1,hA.2.1⟩,hp,hs,(k2 rfl).1,g2 rfl,c2 rfl,by omega,by omega,w3,hT⟩⟩
theorem zsz {p}(hs:(zai p).length≤1000) {l}(hl:∀ n (h:n<(zai p).length),l<(zai p)[n].length):∃ v,zbw p (l:Int)=some v∧((v=-1∧∀ n,n<(zai p).length→((zby p n)[l]?).getD 0<2)∨∃ n:Nat,n<(zai p).length∧v=(n:Int)∧2≤((zby p n)[l]?).getD 0∧∀ j,j<n→((zby p j)[l]?).getD 0<2):=by
 have hst:∀ n (h:n<(zai p).length),((zby p n)[l]?).getD 0=(zai p)[n][l]'(hl n h):=fun n h=>by
  unfold zby
  rw [wF0 h,Option.getD_some,wF0 (hl n h),Option.getD_some]
 obtain ⟨v,e1,hv⟩:=zeI (f:=zee (l:Int) (zai p) (List.length (zai p):Int)) (n:=(zai p).length) hs (fun i=>!decide (2≤((zby p i)[l]?).getD 0)) (fun i hi h1=>by
  unfold zee
  rw [hst i hi]
  simp only [show (i:Int)<(List.length (zai p):Int) by omega,vE0,if_true,zaA hi,zaA (hl i hi),wC0,zaP (show i<4611686018427387904 by omega)]
  cases decide ((2:Int)≤(zai p)[i][l]'(hl i hi))<;>rfl) (by
  unfold zee
  simp only [Int.lt_irrefl,vF0,wA0,if_false])
 refine ⟨v,?_,?_⟩
 ·unfold zbw
  simp only [e1,wC0]
 ·rcases hv with ⟨rfl,h⟩|⟨k,hk,rfl,h0,hp⟩
  ·refine .inl ⟨rfl,fun n hn=>?_⟩
   have:=h n hn
   simp only [Bool.not_eq_true',decide_eq_false_iff_not] at this
   omega
  ·refine .inr ⟨k,hk,rfl,?_,fun j hj=>?_⟩
   ·simpa using h0
   ·have:=hp j hj
    simp only [Bool.not_eq_true',decide_eq_false_iff_not] at this
    omega
noncomputable def zge (p:zbe) (l:Nat):Int:=match zbw p (l:Int) with
 | some v=>if 0≤v then ((zvV p v.toNat)[l]?).getD 0 else ((zad p)[l]?).getD 0
 | none=>0
theorem zCJ {p q}(h:zai q=zai p) (l):zbw q l=zbw p l:=by
 unfold zbw
 rw [h]
noncomputable def memM (p:zbe):List Int:=(List.range (zad p).length).map (zge p)
theorem zIe {m}(hs:zg9 (zah m)):zcO m=some (if zbJ (zah m)=true then memM (zah m) else []):=by
 unfold zcO
 rw [zfE hs]
 cases hr:zbJ (zah m)
 ·rfl
 have R:=zcx hr
 have h16:=R.h16
 have lp:=zbn (f:=zc3 m (zad (zah m)) (List.length (zad (zah m)):Int)) (n:=(zad (zah m)).length) (e:=memM (zah m)) (fun i=>((i:Int),(List.range i).map (zge (zah m)))) (fun i hi=>by
  obtain ⟨v,o1,o2⟩:=zsz (p:=zah m) (l:=i) (by have:=R.st;have:=R.c4;omega) (fun n h=>by rw [R.sr n h];exact hi)
  have hw:(if decide ((0:Int)≤v)=true then (getO (zam (zah m)) v).bind fun v16=>(getO v16 (i:Int)).bind fun v17=>some v17 else some (zad (zah m))[i])=some (zge (zah m) i):=by
   unfold zge
   rw [o1]
   rcases o2 with ⟨rfl,_⟩|⟨n,hn,rfl,_,_⟩
   ·show some _=some _
    rw [wF0 hi]
    rfl
   ·have hnv:n<(zam (zah m)).length:=by rw [R.va,← R.st];exact hn
    have hiv:i<(zam (zah m))[n].length:=by rw [R.vr n hnv];exact hi
    rw [if_pos (vC0 (by omega)),zaA hnv,wC0,zaA hiv]
    show some _=some (if (0:Int)≤(n:Int) then _ else _)
    rw [if_pos (by omega),Int.toNat_natCast]
    unfold zvV
    rw [wF0 hnv,Option.getD_some,wF0 hiv]
    rfl
  have ha:appO 4 ((List.range i).map (zge (zah m))) ([zge (zah m) i]:List Int)=some ((List.range i).map (zge (zah m))++[zge (zah m) i]):=zbP (by simp;omega) (by omega)
  unfold zc3
  simp only [show (i:Int)<(List.length (zad (zah m)):Int) by omega,vE0,if_true,zaA hi,o1,wC0,hw,ha,zaP (show i<4611686018427387904 by omega)]
  rw [List.range_succ,List.map_append]
  rfl) (by
  unfold zc3
  simp only [Int.lt_irrefl,vF0,wA0,if_false]
  rfl)
 simp only [wC0,wH0,wA0,if_false,if_true]
 have lp':zaQ (zc3 m (zad (zah m)) (List.length (zad (zah m)):Int)) ((0:Int),([]:List Int))=_:=lp
 rw [lp']
 rfl
def znv (p:zbe):Prop:=(∀ w∈zab p,zaK w=0)∧zaf (zax p)=[]
theorem zCn {p}(h:Ok10 False p):∃ b,zpy p=some b∧(b=true→znv p):=by
 have hw:=h.wa
 have hb:=h.bu
 have e2:=zsD (f:=zem p) (n:=(zab p).length) hw (fun i=>optT (fun w=>decide (zaK w=0)) (zab p)[i]?) (fun i hi h1=>by
  unfold zem
  rw [zbl hi]
  simp only [show (i:Int)<(List.length (zab p):Int) by omega,vE0,if_true,zaA hi,wC0,zaP (show i<4611686018427387904 by omega)]
  cases decide (zaK (zab p)[i]=0)<;>rfl) (by
  unfold zem
  simp only [Int.lt_irrefl,vF0,wA0,if_false])
 have e1:=zsD (f:=zei p) (n:=(zal p).length) hb (fun i=>optT (fun w=>decide (w=0)) (zal p)[i]?) (fun i hi h1=>by
  unfold zei
  rw [zbl hi]
  simp only [show (i:Int)<(List.length (zal p):Int) by omega,vE0,if_true,zaA hi,wC0,zaP (show i<4611686018427387904 by omega)]
  cases decide ((zal p)[i]=0)<;>rfl) (by
  unfold zei
  simp only [Int.lt_irrefl,vF0,wA0,if_false])
 rw [← zd0] at e1 e2
 have cases2:∀ {o:Option (Unit⊕Bool)} {b:Bool},zbm o (fun _=>some true)=some b→(o=some (.inl ())∧b=true)∨o=some (.inr b):=fun {o b} h=>by
  cases o with
  | none=>cases h
  | some r=>cases r with
   | inl u=>cases u;exact .inl ⟨rfl,by injection h with h;exact h.symm⟩
   | inr c=>injection h with h;rw [h];exact .inr rfl
 unfold zpy
 have frames:∀ {n:Nat},n=(zaf (zax p)).length→decide ((n:Int)=0)=true→zaf (zax p)=[]:=fun hn q=>by
  have:=of_decide_eq_true q
  exact List.length_eq_zero_iff.1 (by omega)
 rcases cases2 e2 with ⟨q2,b2⟩|q2
 ·rw [q2,zaR]
  rcases cases2 e1 with ⟨q1,b1⟩|q1
  ·rw [q1,zaR]
   refine ⟨_,rfl,fun q=>⟨fun w hw=>?_,frames rfl q⟩⟩
   rw [List.all_eq_true] at b2
   exact of_decide_eq_true (b2 w hw)
  ·rw [q1,zb8]
   have hf:((zal p).all fun w=>decide (w=0))=false:=by
    cases hb1:(zal p).all fun w=>decide (w=0)
    ·rfl
    ·exfalso
     rw [hb1] at q1
     have lp:=zbn (f:=zei p) (n:=(zal p).length) (e:=(.inl ():Unit⊕Bool)) (fun i=>(i:Int)) (fun i hi=>by
      have hz:(zal p)[i]=0:=by
       rw [List.all_eq_true] at hb1
       exact of_decide_eq_true (hb1 _ (List.getElem_mem hi))
      unfold zei
      simp only [show (i:Int)<(List.length (zal p):Int) by omega,vE0,if_true,zaA hi,wC0,hz,wH0,wA0,if_false,zaP (show i<4611686018427387904 by omega)]) (by
      unfold zei
      simp only [Int.lt_irrefl,vF0,wA0,if_false])
     rw [show (((0:Nat):Int))=0 from rfl,q1] at lp
     cases lp
   exact ⟨_,rfl,fun q=>by rw [hf] at q;cases q⟩
 ·rw [q2,zb8]
  have hf:((zab p).all fun w=>decide (zaK w=0))=false:=by
   cases hb1:(zab p).all fun w=>decide (zaK w=0)
   ·rfl
   ·exfalso
    rw [hb1] at q2
    have lp:=zbn (f:=zem p) (n:=(zab p).length) (e:=(.inl ():Unit⊕Bool)) (fun i=>(i:Int)) (fun i hi=>by
     have hz:zaK (zab p)[i]=0:=by
      rw [List.all_eq_true] at hb1
      exact of_decide_eq_true (hb1 _ (List.getElem_mem hi))
     unfold zem
     simp only [show (i:Int)<(List.length (zab p):Int) by omega,vE0,if_true,zaA hi,wC0,hz,wH0,wA0,if_false,zaP (show i<4611686018427387904 by omega)]) (by
     unfold zem
     simp only [Int.lt_irrefl,vF0,wA0,if_false])
    rw [show (((0:Nat):Int))=0 from rfl,q2] at lp
    cases lp
  exact ⟨_,rfl,fun q=>by rw [hf] at q;cases q⟩
theorem zyq {p}(h:Ok10 False p):∃ b,zfX p=some b:=by
 obtain ⟨v1,e1,_⟩:=zeI (f:=zeF (zab p) (List.length (zab p):Int)) (n:=(zab p).length) h.wa (fun i=>optT (fun x=>!(zfM x)) (zab p)[i]?) (fun i hi h1=>by
  unfold zeF
  rw [zbl hi]
  simp only [show (i:Int)<(List.length (zab p):Int) by omega,vE0,if_true,zaA hi,wC0,zaP (show i<4611686018427387904 by omega)]
  cases zfM (zab p)[i]<;>rfl) (by
  unfold zeF
  simp only [Int.lt_irrefl,vF0,wA0,if_false])
 obtain ⟨v2,e2,_⟩:=zeI (f:=ze5 (zal p) (List.length (zal p):Int)) (n:=(zal p).length) h.bu (fun i=>optT (fun x=>!(zfy x)) (zal p)[i]?) (fun i hi h1=>by
  unfold ze5
  rw [zbl hi]
  simp only [show (i:Int)<(List.length (zal p):Int) by omega,vE0,if_true,zaA hi,wC0,zaP (show i<4611686018427387904 by omega)]
  cases zfy (zal p)[i]<;>rfl) (by
  unfold ze5
  simp only [Int.lt_irrefl,vF0,wA0,if_false])
 unfold zfX
 simp only [e1,e2,wC0]
 cases decide ((List.length (zaf (zax p)):Int)=0)
 ·exact ⟨_,rfl⟩
 ·cases decide ((0:Int)≤v1)<;>exact ⟨_,rfl⟩
theorem zG1 {p}(hp:znM p) (hr:zfV p=true) (n):∃ q e,zeB p n=some (q,e)∧znM q∧zfV q=true∧(zaf p=[]→e≠0):=by
 have hh:=zjD p hp.1 n
 rw [hr,if_pos rfl] at hh
 have hsp:=zlH hp
 have heta:za5 (zaf p)=p:=rfl
 by_cases hn:n<0∨((zaf p).length:Int)≤n
 ·rw [if_pos hn] at hh
  have hcp:=zf0 (f:=zhD (zaf p) (List.length (zaf p):Int)) (fr:=zaf p) (fun s=>rfl) hsp.1 hsp.2
  have hsub:subO (zaf p) (0:Int) (List.length (zaf p):Int)=some (zaf p):=by
   have:=zej (l:=zaf p) (i:=0) (j:=(zaf p).length) (by omega) (wG0 _)
   rw [List.drop_zero,List.take_length] at this
   exact this
  refine ⟨p,7,?_,hp,hr,fun _=>by decide⟩
  unfold zeB
  simp only [hh,hcp,wC0,show ¬ (7:Int)=0 by decide,vF0,wA0,if_false,hsub,heta]
 ·obtain ⟨k,rfl⟩:∃ k:Nat,n=(k:Int):=⟨n.toNat,by omega⟩
  have h2:k<(zaf p).length:=by omega
  refine ⟨_,0,zqN p hr k h2,zwr hp k,?_,fun q=>by rw [q] at h2;simp at h2⟩
  have hi:=zcy.1 hr
  refine zcy.2 ⟨?_,fun b hb=>hi.2 b (List.mem_of_mem_eraseIdx hb)⟩
  show ((zaf p).eraseIdx k).length≤64
  rw [List.length_eraseIdx,if_pos h2]
  omega
theorem wrap_u8 (n):0≤IntKind.wrap .u8 n∧IntKind.wrap .u8 n<256:=by
 unfold IntKind.wrap
 simp only [IntKind.signed,IntKind.bits,vX0,wA0,if_false]
 omega
theorem zFl {p}(hp:znM p) (hr:zfV p=true) (n b):∃ q e,zlR p n b=some (q,e)∧znM q∧zfV q=true∧(zaf p=[]→e≠0):=by
 have hh:=zjD p hp.1 n
 rw [hr,if_pos rfl] at hh
 have hsp:=zlH hp
 have heta:za5 (zaf p)=p:=rfl
 have hcp:=zf0 (f:=zpg (zaf p) (List.length (zaf p):Int)) (fr:=zaf p) (fun s=>rfl) hsp.1 hsp.2
 unfold zlR
 by_cases hn:n<0∨((zaf p).length:Int)≤n
 ·rw [if_pos hn] at hh
  refine ⟨p,7,?_,hp,hr,fun _=>by decide⟩
  simp only [hh,hcp,wC0,show ¬ (7:Int)=0 by decide,vF0,vX0,cond_false,wA0,if_false,heta]
 rw [if_neg hn] at hh
 obtain ⟨k,rfl⟩:∃ k:Nat,n=(k:Int):=⟨n.toNat,by omega⟩
 have h2:k<(zaf p).length:=by omega
 have hne:zaf p≠[]:=fun q=>by rw [q] at h2;simp at h2
 by_cases hb:b<0∨152≤b
 ·have hc:(decide (b<0)||decide (152≤b))=true:=by simpa using hb
  refine ⟨p,1,?_,hp,hr,fun q=>absurd q hne⟩
  simp only [hh,hcp,wC0,vE0,vW0,hc,cond_true,show ¬ (1:Int)=0 by decide,vF0,wA0,if_false,heta]
 have hc:(decide (b<0)||decide (152≤b))=false:=by simpa using hb
 obtain ⟨t,rfl⟩:∃ t:Nat,b=(t:Int):=⟨b.toNat,by omega⟩
 have hi:=zcy.1 hr
 have h19:=hi.2 _ (List.getElem_mem h2)
 have ht:t / 8<(zaf p)[k].length:=by rw [h19];omega
 have q1:quoO .i64 (t:Int) (8:Int)=some ((t / 8:Nat):Int):=V.quo_nat (n:=8) (by omega) (by omega)
 have r1:remO (t:Int) (8:Int)=some ((t % 8:Nat):Int):=V.rem_nat (n:=8) (by omega)
 have s1:∃ z,shlO .u8 (1:Int) ((t % 8:Nat):Int)=some z:=by
  unfold shlO
  rw [if_neg (by omega)]
  exact ⟨_,rfl⟩
 obtain ⟨z,hz⟩:=s1
 simp only [hh,hcp,wC0,vE0,vW0,hc,cond_false,if_true,za3 h2,q1,r1,hz,zaA h2,za3 ht,zaA ht,zbb ht,zbb h2]
 refine ⟨_,_,rfl,⟨?_,?_⟩,zcy.2 ⟨?_,?_⟩,fun q=>absurd q hne⟩
 ·show ((zaf p).set k _).length≤1000
  rw [vN0];exact hp.1
 ·intro r hrm
  rcases List.mem_or_eq_of_mem_set (show r∈(zaf p).set k _ from hrm) with q|q
  ·exact hp.2 r q
  ·rw [q]
   refine ⟨by rw [vN0];omega,fun x hx=>?_⟩
   rcases List.mem_or_eq_of_mem_set hx with q2|q2
   ·exact (hp.2 _ (List.getElem_mem h2)).2 x q2
   ·rw [q2];exact wrap_u8 _
 ·show ((zaf p).set k _).length≤64
  rw [vN0];exact hi.1
 ·intro r hrm
  rcases List.mem_or_eq_of_mem_set (show r∈(zaf p).set k _ from hrm) with q|q
  ·exact hi.2 r q
  ·rw [q,vN0];exact h19
theorem zll {F p}(h:Ok10 F p):Ok10 False p:={ h with rt:=fun f=>f.elim }
theorem zz4 {p}(h:Ok10 False p) (hr:zbJ p=true):Ok10 True p:={ h with rt:=fun _=>zcx hr }
theorem zxu {p}(h:Ok10 True p):zg9 p:=by
 have R:=h.rt trivial
 have h1:=R.c4
 have h2:=R.h16
 exact ⟨by rw [R.st];omega,by rw [R.va];omega,by omega,by omega,by have:=(zcy.1 R.po).1;omega⟩
def zzl:Core:=zjs ([(0:Int),(0:Int),(0:Int),(0:Int),(0:Int),(0:Int),(0:Int),(0:Int)]:List Int) (0:Int) false
theorem zGW:zgm zzl:=⟨rfl,fun x hx=>by
 have:x∈List.replicate 8 (0:Int):=hx
 rw [List.eq_of_mem_replicate this]
 exact u0⟩
theorem zHS {progs}(P:PO progs) (w b t):∃ m e,zji progs w b t=some (m,e)∧(e=0→Wk 0 m):=by
 have hn:=P.n
 obtain ⟨ba,a1,_⟩:=zGb (l:=progs) (by omega) P.l
 have hc:repO zzl 48 (progs.length:Int) (progs.length:Int)=some (List.replicate progs.length zzl):=zc1 (by omega) (by omega)
 have hs:repO (0:Int) 8 (progs.length:Int) (progs.length:Int)=some (List.replicate progs.length 0):=zc1 (by omega) (by omega)
 have hl:(List.replicate progs.length zzl).length≤1000∧∀ x∈List.replicate progs.length zzl,zgm x:=⟨by simp;omega,fun x hx=>by rw [List.eq_of_mem_replicate hx];exact zGW⟩
 obtain ⟨ck,ce,k1,k2⟩:=zDU t hl
 have v1:=V.store_New_eq w b
 have v2:=V.newV_ok w b
 unfold zji
 rw [show zjs ([(0:Int),(0:Int),(0:Int),(0:Int),(0:Int),(0:Int),(0:Int),(0:Int)]:List Int) (0:Int) false=zzl from rfl]
 rcases zEY (progs.length:Int) w with h|⟨c',h',q1,q2,q3,q4,h⟩
 ·simp only [h,v1,hc,k1,a1,hs,wC0]
  cases ba
  ·exact ⟨_,_,rfl,fun q=>absurd q (by decide)⟩
  ·exact ⟨_,_,rfl,fun q=>absurd q (by decide)⟩
 have hk:=zH3 q1 q2 q3 q4
 have W:Wk 0 (zbj (List.replicate progs.length zzl) (new0 c' h') (V.newV w b).1 ck (zdg ([]:List Held) ([]:List Told)) (0:Int) (List.replicate progs.length 0)):=⟨zll hk,zxu hk,v2,k2,⟨Nat.zero_le _,Nat.zero_le _⟩,hl,by show (List.replicate progs.length (0:Int)).length≤1000;simp;omega⟩
 simp only [h,v1,hc,k1,a1,hs,wC0]
 have fin:∀ c:Bool,∃ m e,(if c=true then some (((zbj ([]:List Core) (zaB ([]:List (List Int)) ([]:List (List Int)) ([]:List Wait) ([]:List Int) ([]:List Entry) ([]:List Int) (za5 ([]:List (List Int)))) (zaX (zaY ([]:List (List Int)) ([]:List Int) (0:Int)) (0:Int) (0:Int) ([]:List Undo)) (zbQ ([]:List Mark) (0:Int)) (zdg ([]:List Held) ([]:List Told)) (0:Int) ([]:List Int)),(1:Int))) else some ((zbj (List.replicate progs.length zzl) (new0 c' h') (V.newV w b).1 ck (zdg ([]:List Held) ([]:List Told)) (0:Int) (List.replicate progs.length 0),(0:Int))))=some (m,e)∧(e=0→Wk 0 m):=fun c=>by
  cases c
  ·exact ⟨_,_,rfl,fun _=>W⟩
  ·exact ⟨_,_,rfl,fun q=>absurd q (by decide)⟩
 cases ba
 ·exact fin true
 simp only [vE0,wH0,wA0,if_false]
 cases decide ((V.newV w b).2=0)
 ·exact fin true
 ·exact fin (!decide (ce=0))
theorem zxs {α:Type}{f:Int→Option (Int⊕Unit⊕Bool)}{l:List α}(hl:l.length≤200000) (step:∀ i:Nat,i<l.length→i<200000→f (i:Int)=some (.inl ((i + 1:Nat):Int))) (out:f (l.length:Int)=some (.inr (.inl ()))):zaQ f (0:Int)=some (Sum.inl ()):=by
 have lp:=zbn (f:=f) (n:=l.length) (e:=(Sum.inl ():Unit⊕Bool)) (fun i=>(i:Int)) (fun i hi=>step i hi (by omega)) out
 exact lp
theorem zDs {l}(hl:l.length≤200000):zpk l l=some true:=by
 unfold zpk
 rw [zxs (f:=zhB l l) hl (fun i hi h1=>by
  unfold zhB
  simp only [show (i:Int)<(List.length l:Int) by omega,vE0,if_true,zaA hi,wC0,wH0,wA0,if_false,zaP (show i<4611686018427387904 by omega)]) (by
  unfold zhB
  simp only [Int.lt_irrefl,vF0,wA0,if_false])]
 simp only [vE0,wH0,wA0,if_false,zaR]
theorem zFw {l}(hl:l.length≤200000):zsr l l=some true:=by
 unfold zsr
 rw [zxs (f:=zjq l l) hl (fun i hi h1=>by
  unfold zjq
  simp only [show (i:Int)<(List.length l:Int) by omega,vE0,if_true,zaA hi,wC0,wH0,wA0,if_false,zaP (show i<4611686018427387904 by omega)]) (by
  unfold zjq
  simp only [Int.lt_irrefl,vF0,wA0,if_false])]
 simp only [vE0,wH0,wA0,if_false,zaR]
theorem zDy {l}(hl:l.length≤200000):zoi l l=some true:=by
 unfold zoi
 rw [zxs (f:=zh2 l l) hl (fun i hi h1=>by
  unfold zh2
  simp only [show (i:Int)<(List.length l:Int) by omega,vE0,if_true,zaA hi,wC0,wH0,wA0,if_false,zaP (show i<4611686018427387904 by omega)]) (by
  unfold zh2
  simp only [Int.lt_irrefl,vF0,wA0,if_false])]
 simp only [vE0,wH0,wA0,if_false,zaR]
theorem zBb {p}(h:Ok10 False p) {l}(hl:l.length≤1000) (hw:∀ x∈l,U32 x):Ok10 False (zaB (zai p) (zam p) (zab p) l (zay p) (zal p) (zax p)) :=
 { h with ho:=hl,hw:=hw,rt:=fun f=>f.elim }
theorem zDt {p}(R:R10 p) {l}(e:l.length=(zad p).length):R10 (zaB (zai p) (zam p) (zab p) l (zay p) (zal p) (zax p)) :=
 {R with
  h1:=by show 1≤l.length;rw [e];exact R.h1
  h16:=by show l.length≤16;rw [e];exact R.h16
  di:=R.di.trans e.symm
  bu:=R.bu.trans e.symm
  sr:=fun i hi=>(R.sr i hi).trans e.symm
  vr:=fun i hi=>(R.vr i hi).trans e.symm
  wt:=fun i hi=>by show zhr l.length (zab p)[i]=true;rw [e];exact R.wt i hi }
theorem zFm {s}(hs:V.VOk s) (hw:zaj s≤16):∃ l,zc9 s=some l∧l.length≤16∧∀ x∈l,U32 x:=by
 refine ⟨_,V.store_Words_eq hs,?_,?_⟩
 ·split
  ·rename_i h
   have:=V.words_le h
   omega
  ·simp
 ·split
  ·exact V.words_wd hs
  ·intro x hx;cases hx
theorem zDQ (s) (to):zaj (V.backV s to).1=zaj s:=by
 unfold V.backV
 split
 ·split<;>rfl
 ·rfl
theorem zGY {progs}(P:PO progs) {N}(hN:N≤90000) {m}(W:Wk N m) (hw:zaj (zar m)≤16) (now) :
  ∃ c mk e s es g eg p ep h z,zes (zaC m) now=some (c,mk,e)∧zet (zar m) (zaU mk)=some (s,es)∧zdD (zaz m) (zaU mk)=some (g,eg) ∧
   zdZ (progs.length:Int) (zaj (zar m))=some (p,ep)∧zc9 s=some h∧repO (0:Int) 8 (progs.length:Int) (progs.length:Int)=some z ∧
   ∀ now',Wk N (zbj (za9 mk) (zaB (zai p) (zam p) (zab p) h (zay p) (zal p) (zax p)) s c g now' z):=by
 obtain ⟨c,mk,e,c1,c2,c3⟩:=zDI W.ck now
 have s1:=V.store_Back_eq W.st (zaU mk)
 have s2:=V.backV_ok W.st (zaU mk)
 obtain ⟨g,eg,g1,g2⟩:=zFz (by omega) W.gt (zaU mk)
 obtain ⟨h,h1,h2,h3⟩:=zFm s2 (by rw [zDQ];exact hw)
 have hn:=P.n
 have hz:repO (0:Int) 8 (progs.length:Int) (progs.length:Int)=some (List.replicate progs.length 0):=zc1 (by omega) (by omega)
 have zl:(List.replicate progs.length (0:Int)).length≤1000:=by simp;omega
 rcases zEY (progs.length:Int) (zaj (zar m)) with p1|⟨c',h',q1,q2,q3,q4,p1⟩
 ·have n0:Ok10 False none0:=⟨⟨Nat.zero_le _,fun r hr=>by cases hr⟩,⟨Nat.zero_le _,fun r hr=>by cases hr⟩,fun r hr=>(by cases hr),Nat.zero_le _,fun r hr=>(by cases hr),Nat.zero_le _,fun r hr=>(by cases hr),⟨Nat.zero_le _,fun r hr=>by cases hr⟩,Nat.zero_le _,⟨Nat.zero_le _,fun r hr=>by cases hr⟩,fun f=>f.elim⟩
  exact ⟨c,mk,e,_,_,g,eg,none0,1,h,_,c1,s1,g1,p1,h1,hz,fun now'=>⟨zBb n0 (by omega) h3,⟨Nat.zero_le _,Nat.zero_le _,Nat.zero_le _,by show h.length≤20;omega,Nat.zero_le _⟩,s2,c2,g2,c3,zl⟩⟩
 ·have hk:=zH3 q1 q2 q3 q4
  have hs:=zxu hk
  exact ⟨c,mk,e,_,_,g,eg,_,0,h,_,c1,s1,g1,p1,h1,hz,fun now'=>⟨zBb (zll hk) (by omega) h3,⟨hs.state,hs.val,hs.wait,by show h.length≤20;omega,hs.frames⟩,s2,c2,g2,c3,zl⟩⟩
theorem zwy {s}(hs:V.VOk s) (l v) (hv:U32 v):∃ w e,ze9 s l=some (w,e)∧∃ t f,zfj s l v=some (t,f)∧V.VOk t :=
 ⟨_,_,V.store_Read_eq hs l,_,_,V.store_Write_eq hs l v,V.writeV_ok hs l hv⟩
theorem zDJ {was ho}(hl:ho.length=was.length) (h16:ho.length≤1000) (hw:∀ x∈ho,U32 x) {mw:za4→zaG}(h1:∀ s,zar (zaa (mw s))=s) (h2:∀ s,zad (zah (zaa (mw s)))=ho) (h3:∀ s t,zau (mw s) (zbN (zaa (mw s)) t)=mw t) {s0}(hs:V.VOk s0) :
  ∃ r,zaQ (zdx was ho (List.length ho:Int)) ((0:Int),mw s0)=some r∧((∃ s,V.VOk s∧r=.inl (mw s))∨∃ t,r=.inr t∧t.1≠0):=by
 exact zf4 (f:=zdx was ho (List.length ho:Int)) (fun x=>∃ (i:Nat) (s:za4),x=((i:Int),mw s)∧i≤ho.length∧V.VOk s) (fun x=>ho.length - x.1.toNat) (fun r=>(∃ s,V.VOk s∧r=.inl (mw s))∨∃ t,r=.inr t∧t.1≠0) (fun x hx=>by
  obtain ⟨i,s,rfl,hi,hv⟩:=hx
  unfold zdx
  dsimp only
  by_cases hil:i<ho.length
  ·have hiw:i<was.length:=by omega
   obtain ⟨w,e,w1,t,f,w2,w3⟩:=zwy hv (i:Int) ho[i] (hw _ (List.getElem_mem hil))
   simp only [show (i:Int)<(List.length ho:Int) by omega,vE0,if_true,zaA hil,zaA hiw,wC0,h1,h2,w1,w2,h3]
   by_cases c1:ho[i]=was[i]
   ·simp only [c1,vE0,if_true,zaR,zaP (show i<4611686018427387904 by omega)]
    exact .inl ⟨_,rfl,⟨i + 1,s,rfl,by omega,hv⟩,by simp only [Int.toNat_natCast];omega⟩
   simp only [c1,vF0,wA0,if_false]
   by_cases c2:w=ho[i]
   ·simp only [c2,vE0,if_true,wH0,wA0,if_false,wC0,zaR,zaP (show i<4611686018427387904 by omega)]
    exact .inl ⟨_,rfl,⟨i + 1,s,rfl,by omega,hv⟩,by simp only [Int.toNat_natCast];omega⟩
   simp only [c2,vF0,wA0,if_false,wC0]
   by_cases c3:f=0
   ·simp only [c3,vE0,wH0,wA0,if_false,zaR,zaP (show i<4611686018427387904 by omega)]
    exact .inl ⟨_,rfl,⟨i + 1,t,rfl,by omega,w3⟩,by simp only [Int.toNat_natCast];omega⟩
   ·simp only [c3,vF0,vH0,if_true,zb8]
    exact .inr ⟨_,rfl,.inr ⟨_,rfl,c3⟩⟩
  ·simp only [show ¬ (i:Int)<(List.length ho:Int) by omega,vF0,wA0,if_false]
   exact .inr ⟨_,rfl,.inl ⟨s,hv,rfl⟩⟩) ⟨0,s0,rfl,Nat.zero_le _,hs⟩
theorem zDE {wa l}(hl:wa.length≤l.length) (h:wa.length≤1000):∃ r,zaQ (zdB wa (List.length wa:Int)) ((0:Int),l)=some r∧r.length=l.length:=by
 exact zf4 (f:=zdB wa (List.length wa:Int)) (fun x=>∃ i:Nat,x.1=(i:Int)∧i≤wa.length∧x.2.length=l.length) (fun x=>wa.length - x.1.toNat) (fun r=>r.length=l.length) (fun x hx=>by
  obtain ⟨j,y⟩:=x
  obtain ⟨i,rfl,hi,hy⟩:=hx
  simp only at hy
  unfold zdB
  dsimp only
  by_cases hil:i<wa.length
  ·have hiy:i<y.length:=by omega
   simp only [show (i:Int)<(List.length wa:Int) by omega,vE0,if_true,zaA hil,wC0,za3 hiy,zbb hiy,zaP (show i<4611686018427387904 by omega)]
   by_cases c:zaK wa[i]=0
   ·simp only [c,vE0,if_true,wC0]
    exact .inl ⟨_,rfl,⟨i + 1,rfl,by omega,by rw [vN0];exact hy⟩,by simp only [Int.toNat_natCast];omega⟩
   ·simp only [c,vF0,wA0,if_false,wC0]
    exact .inl ⟨_,rfl,⟨i + 1,rfl,by omega,hy⟩,by simp only [Int.toNat_natCast];omega⟩
  ·simp only [show ¬ (i:Int)<(List.length wa:Int) by omega,vF0,wA0,if_false]
   exact .inr ⟨_,rfl,hy⟩) ⟨0,rfl,Nat.zero_le _,rfl⟩
theorem zoU (p):(memM p).length=(zad p).length:=by simp [memM]
theorem zCH {p l}(h:l<(zad p).length):(memM p)[l]?=some (zge p l):=by
 unfold memM
 rw [List.getElem?_map,List.getElem?_range h]
 rfl
theorem zFe {p}(h:Ok10 False p) (l):U32 (zge p l):=by
 unfold zge
 have z:∀ (o:Option Int),(∀ x,o=some x→U32 x)→U32 (o.getD 0):=fun o ho=>by
  cases o with
  | none=>exact u0
  | some x=>exact ho x rfl
 split
 ·split
  ·refine z _ fun x hx=>?_
   unfold zvV at hx
   cases e:(zam p)[Int.toNat _]? with
   | none=>rw [e] at hx;simp at hx
   | some r=>rw [e] at hx;exact h.vw r (List.mem_of_getElem? e) x (List.mem_of_getElem? hx)
  ·exact z _ fun x hx=>h.hw x (List.mem_of_getElem? hx)
 ·exact u0
theorem zD0 {p}(h:Ok10 False p) (R:R10 p) {did co ck g now si s0}(hs:V.VOk s0) :
  ∃ r,zaQ (zeU did co ck g now si (zai p) (zam p) (zab p) (zay p) (zal p) (zax p) (List.length (zad p):Int)) ((0:Int),s0,zad p)=some r∧((∃ s,V.VOk s∧r=.inl (s,memM p))∨∃ t,r=.inr t∧t.1≠0):=by
 have h16:=R.h16
 have ml:=zoU p
 exact zf4 (f:=zeU did co ck g now si (zai p) (zam p) (zab p) (zay p) (zal p) (zax p) (List.length (zad p):Int)) (fun x=>∃ (i:Nat) (s:za4),x=((i:Int),s,(memM p).take i++(zad p).drop i)∧i≤(zad p).length∧V.VOk s) (fun x=>(zad p).length - x.1.toNat) (fun r=>(∃ s,V.VOk s∧r=.inl (s,memM p))∨∃ t,r=.inr t∧t.1≠0) (fun x hx=>by
  obtain ⟨i,s,rfl,hi,hv⟩:=hx
  unfold zeU
  dsimp only
  by_cases hil:i<(zad p).length
  ·obtain ⟨v,o1,o2⟩:=zsz (p:=p) (l:=i) (by have:=R.st;have:=R.c4;omega) (fun n hn=>by rw [R.sr n hn];exact hil)
   have o1':zbw (zaB (zai p) (zam p) (zab p) ((memM p).take i++(zad p).drop i) (zay p) (zal p) (zax p)) (i:Int)=some v:=(zCJ (p:=p) rfl _).trans o1
   have hlen:((memM p).take i++(zad p).drop i).length=(zad p).length:=by simp only [wI0,wE0,vP0];omega
   have hidx:i<((memM p).take i++(zad p).drop i).length:=by omega
   have him:i<(memM p).length:=by omega
   have hwm:(memM p)[i]=zge p i:=by
    have:=zCH hil
    rw [wF0 him] at this
    exact Option.some.inj this
   have hset:∀ y,((memM p).take i++(zad p).drop i).set i y=(memM p).take i++y::(zad p).drop (i + 1):=fun y=>by
    rw [List.set_append_right _ _ (by rw [wE0];omega),wE0,vV0 (by omega),Nat.sub_self,List.drop_eq_getElem_cons hil]
    rfl
   have hnext:(memM p).take (i + 1)++(zad p).drop (i + 1)=(memM p).take i++zge p i::(zad p).drop (i + 1):=by
    rw [zbi him,hwm,vB0]
    rfl
   simp only [show (i:Int)<(List.length (zad p):Int) by omega,vE0,if_true,o1',wC0]
   rcases o2 with ⟨rfl,_⟩|⟨n,hn,rfl,_,_⟩
   ·have hw0:zge p i=(zad p)[i]:=by
     unfold zge
     rw [o1]
     show ((zad p)[i]?).getD 0=_
     rw [wF0 hil]
     rfl
    simp only [show ((-1:Int)<0) by omega,vE0,if_true,zaR,zaP (show i<4611686018427387904 by omega)]
    refine .inl ⟨_,rfl,⟨i + 1,s,?_,by omega,hv⟩,by simp only [Int.toNat_natCast];omega⟩
    rw [hnext,hw0,List.drop_eq_getElem_cons hil]
   ·have hnv:n<(zam p).length:=by rw [R.va,← R.st];exact hn
    have hiv:i<(zam p)[n].length:=by rw [R.vr n hnv];exact hil
    have hw1:zge p i=(zam p)[n][i]:=by
     unfold zge
     rw [o1]
     show (if (0:Int)≤(n:Int) then _ else _)=_
     rw [if_pos (by omega),Int.toNat_natCast]
     unfold zvV
     rw [wF0 hnv,Option.getD_some,wF0 hiv]
     rfl
    have hsi:i<(((memM p).take i++(zad p).drop i).set i (zam p)[n][i]).length:=by rw [vN0];exact hidx
    obtain ⟨w,e,w1,t,f,w2,w3⟩:=zwy hv (i:Int) (zam p)[n][i] (h.vw _ (List.getElem_mem hnv) _ (List.getElem_mem hiv))
    simp only [show ¬ ((n:Int)<0) by omega,vF0,wA0,if_false,zaA hnv,zaA hiv,za3 hidx,zbb hidx,za3 hsi,zaA hsi,List.getElem_set_self,wC0,w1,w2]
    have goon:∀ s':za4,V.VOk s'→(∃ s'',(some (Sum.inl (((i + 1:Nat):Int),s',((memM p).take i++(zad p).drop i).set i (zam p)[n][i])):Option ((Int×za4×List Int)⊕(za4×List Int)⊕(Int×(List Core)×(List (List Int))×(List (List Int))×(List Wait)×(List Int)×(List Entry)×(List Int)×Pool×za4×Clock×Gate×Int×(List Int)×Did)))=some (.inl s'')∧(∃ (i_1:Nat) (s_1:za4),s''=((i_1:Int),s_1,(memM p).take i_1++(zad p).drop i_1)∧i_1≤(zad p).length∧V.VOk s_1)∧(zad p).length - s''.1.toNat<(zad p).length - (i:Int).toNat):=fun s' hv'=>by
     refine ⟨_,rfl,⟨i + 1,s',?_,by omega,hv'⟩,by simp only [Int.toNat_natCast];omega⟩
     rw [hset,hnext,hw1]
    by_cases c2:w=(zam p)[n][i]
    ·simp only [c2,vE0,if_true,wH0,wA0,if_false,wC0,zaR,zaP (show i<4611686018427387904 by omega)]
     exact .inl (goon s hv)
    simp only [c2,vF0,wA0,if_false,wC0]
    by_cases c3:f=0
    ·simp only [c3,vE0,wH0,wA0,if_false,zaR,zaP (show i<4611686018427387904 by omega)]
     exact .inl (goon t w3)
    ·simp only [c3,vF0,vH0,if_true,zb8]
     exact .inr ⟨_,rfl,.inr ⟨_,rfl,c3⟩⟩
  ·have hie:i=(zad p).length:=by omega
   simp only [show ¬ (i:Int)<(List.length (zad p):Int) by omega,vF0,wA0,if_false]
   refine .inr ⟨_,rfl,.inl ⟨s,hv,?_⟩⟩
   rw [hie,List.drop_length,vL0,← ml,List.take_length]) ⟨0,s0,by simp,Nat.zero_le _,hs⟩
noncomputable def memW (p:zbe):List Int:=if zbJ p=true then memM p else []
abbrev did0:Did:=zeZ false false (0:Int)
structure zgV (N:Nat) (m:Machine) (e:Event) (r:Machine×Did×Int):Prop where
 wk:Wk (N + 64) r.1
 ret:zc6 r.2.1=true→zaO e=1
 bck:zeN r.2.1=true→zaO e=2∨zaO e=4∨zaO e=9
 err:r.2.2≠0→r.2.1=did0
 still:r.2.2=0→zeN r.2.1=false→zc6 r.2.1=false→zaw r.1=zaw m∧allG (zaz r.1)=allG (zaz m)∧(znv (zah m)→znv (zah r.1)→memW (zah r.1)=memW (zah m))
theorem Wk.mono {N M}(h:N≤M) {m}(W:Wk N m):Wk M m:={ W with gt:=⟨W.gt.1,Nat.le_trans W.gt.2 h⟩ }
theorem zHZ {N m}(W:Wk N m) (e) {x}(hx:x≠0):zgV N m e (m,did0,x):=⟨W.mono (by omega),fun q=>(by cases q),fun q=>(by cases q),fun _=>rfl,fun q=>absurd q hx⟩
abbrev R9:Type:=Int×(List Core)×zbe×za4×Clock×Gate×Int×(List Int)×Did
def m9 (v:R9):Machine:=zbj v.2.1 v.2.2.1 v.2.2.2.1 v.2.2.2.2.1 v.2.2.2.2.2.1 v.2.2.2.2.2.2.1 v.2.2.2.2.2.2.2.1
def ok9 (N:Nat) (m:Machine) (e:Event) (v:R9):Prop:=v.1=0→zgV N m e (m9 v,v.2.2.2.2.2.2.2.2,0)
theorem bind_ok {α β:Type}{X k}(I:α→Prop) {Q:β→Prop}(h1:∃ v,X=some v∧I v) (h2:∀ v,I v→∃ r,k v=some r∧Q r):∃ r,X.bind k=some r∧Q r:=by
 obtain ⟨v,rfl,hv⟩:=h1
 exact h2 v hv
theorem zJm {progs}(P:PO progs) {m N}(W:Wk N m) {n}(h1) (h2:n<(zaw m).length) {was}(hw:U32 was):∃ c,zfY progs[n] (zaw m)[n] was=some c∧(((zaw m).set n c).length≤1000∧∀ x∈(zaw m).set n c,zgm x)∧(zbu (zaw m)[n]=true→(zaw m).set n c=zaw m):=by
 obtain ⟨c,c1,c2,c3⟩:=zHh (P.l _ (List.getElem_mem h1)) (W.co.2 _ (List.getElem_mem h2)) hw (P.k _ (List.getElem_mem h1))
 refine ⟨c,c1,⟨by rw [vN0];exact W.co.1,fun x hx=>?_⟩,fun hh=>by rw [c3 hh,List.set_getElem_self]⟩
 rcases List.mem_or_eq_of_mem_set hx with q|q
 ·exact W.co.2 x q
 ·rw [q];exact c2
theorem znL {N co pr st ck gt nw si}(h1:Ok10 True pr) (h2:V.VOk st) (h3:zdX ck) (h4:zf1 N gt) (h5:co.length≤1000∧∀ c∈co,zgm c) (h6:si.length≤1000):Wk N (zbj co pr st ck gt nw si):=⟨zll h1,zxu h1,h2,h3,h4,h5,h6⟩
theorem zy0 {N M}(h:N≤M) {g}(G:zf1 N g):zf1 M g:=⟨G.1,Nat.le_trans G.2 h⟩
theorem zET {p L l}(h:(L[l]?).getD 0=zge p l):zge (zaB (zai p) (zam p) (zab p) L (zay p) (zal p) (zax p)) l=zge p l:=by
 have e:zbw (zaB (zai p) (zam p) (zab p) L (zay p) (zal p) (zax p)) (l:Int)=zbw p (l:Int):=zCJ (p:=p) rfl _
 show (match zbw (zaB (zai p) (zam p) (zab p) L (zay p) (zal p) (zax p)) (l:Int) with|some v=>if 0≤v then ((zvV p v.toNat)[l]?).getD 0 else (L[l]?).getD 0|none=>0)=zge p l
 rw [e,h]
 cases ho:zbw p (l:Int) with
 | none=>unfold zge;rw [ho]
 | some v =>
  by_cases hv:0≤v
  ·unfold zge
   rw [ho]
   simp only [hv,if_true]
  ·simp only [hv,if_false]
theorem zGO {p}:memM (zaB (zai p) (zam p) (zab p) (memM p) (zay p) (zal p) (zax p))=memM p:=by
 have h1:(zad (zaB (zai p) (zam p) (zab p) (memM p) (zay p) (zal p) (zax p))).length=(zad p).length:=zoU p
 show (List.range (zad (zaB (zai p) (zam p) (zab p) (memM p) (zay p) (zal p) (zax p))).length).map _=(List.range (zad p).length).map (zge p)
 rw [h1]
 refine List.map_congr_left fun l hl=>zET ?_
 rw [zCH (List.mem_range.1 hl)]
 rfl
theorem zCM {p a}(ha:a<(zai p).length) (b) (wa) (po) (n l:Nat) (h1:(zby p a)[b]?=some 1) :
  2≤((zby (zaB ((zai p).set a ((zby p a).set b 0)) (zam p) wa (zad p) (zay p) (zal p) po) n)[l]?).getD 0↔2≤((zby p n)[l]?).getD 0:=by
 show 2≤(((((zai p).set a ((zby p a).set b 0))[n]?).getD [])[l]?).getD 0↔_
 by_cases hn:a=n
 ·subst hn
  rw [List.getElem?_set_self ha,Option.getD_some]
  by_cases hl:b=l
  ·subst hl
   have hb:b<(zby p a).length:=by
    rcases vS0 b (zby p a).length with q|q
    ·exact q
    ·rw [vO0 q] at h1;cases h1
   rw [List.getElem?_set_self hb,h1]
   simp
  ·rw [vU0 hl]
 ·rw [vU0 hn]
  rfl
theorem zGe {p}(R:R10 p) {a b}(ha:a<(zai p).length) (wa) (po) (h1:(zby p a)[b]?=some 1):memM (zaB ((zai p).set a ((zby p a).set b 0)) (zam p) wa (zad p) (zay p) (zal p) po)=memM p:=by
 have hs:(zai p).length≤1000:=by have:=R.st;have:=R.c4;omega
 have ln:(zai (zaB ((zai p).set a ((zby p a).set b 0)) (zam p) wa (zad p) (zay p) (zal p) po)).length=(zai p).length:=vN0
 have hsa:zby p a=(zai p)[a]:=by unfold zby;rw [wF0 ha];rfl
 unfold memM
 refine List.map_congr_left fun l hl=>?_
 have hl':l<(zad p).length:=List.mem_range.1 hl
 obtain ⟨v,o1,o2⟩:=zsz (p:=p) (l:=l) hs fun n h=>by rw [R.sr n h];exact hl'
 obtain ⟨u,q1,q2⟩:=zsz (p:=zaB ((zai p).set a ((zby p a).set b 0)) (zam p) wa (zad p) (zay p) (zal p) po) (l:=l) (by rw [ln];exact hs) fun n h=>by
  have h':n<(zai p).length:=by rw [← ln];exact h
  have key:∀ h2:n<((zai p).set a ((zby p a).set b 0)).length,l<(((zai p).set a ((zby p a).set b 0))[n]'h2).length:=fun h2=>by
   rw [List.getElem_set]
   split
   ·rw [vN0,hsa,R.sr a ha];exact hl'
   ·rw [R.sr n h'];exact hl'
  exact key h
 have huv:u=v:=by
  rcases o2 with ⟨rfl,z⟩|⟨n,n1,rfl,n2,n3⟩<;>rcases q2 with ⟨rfl,z'⟩|⟨k,k1,rfl,k2,k3⟩
  ·rfl
  ·exfalso
   rw [ln] at k1
   have:=z k k1
   have:=(zCM ha b wa po k l h1).1 k2
   omega
  ·exfalso
   have:=z' n (by rw [ln];exact n1)
   have:=(zCM ha b wa po n l h1).2 n2
   omega
  ·rcases Nat.lt_trichotomy n k with g|g|g
   ·exfalso
    have:=k3 n g
    have:=(zCM ha b wa po n l h1).2 n2
    omega
   ·rw [g]
   ·exfalso
    have:=n3 k g
    have:=(zCM ha b wa po k l h1).1 k2
    omega
 unfold zge
 rw [o1,q1,huv]
 rfl
theorem ifn {p} [Decidable p] {α:Type}{a b:α}(h:¬ p):(if decide p=true then a else b)=b:=by simp [h]
theorem ifp {p} [Decidable p] {α:Type}{a b:α}(h:p):(if decide p=true then a else b)=a:=by simp [h]
abbrev R15:Type:=Int×(List Core)×(List (List Int))×(List (List Int))×(List Wait)×(List Int)×(List Entry)×(List Int)×Pool×za4×Clock×Gate×Int×(List Int)×Did
def m15 (v:R15):Machine:=zbj v.2.1 (zaB v.2.2.1 v.2.2.2.1 v.2.2.2.2.1 v.2.2.2.2.2.1 v.2.2.2.2.2.2.1 v.2.2.2.2.2.2.2.1 v.2.2.2.2.2.2.2.2.1) v.2.2.2.2.2.2.2.2.2.1 v.2.2.2.2.2.2.2.2.2.2.1 v.2.2.2.2.2.2.2.2.2.2.2.1 v.2.2.2.2.2.2.2.2.2.2.2.2.1 v.2.2.2.2.2.2.2.2.2.2.2.2.2.1
def ok15 (N:Nat) (m:Machine) (e:Event) (v:R15):Prop:=v.1=0→zgV N m e (m15 v,v.2.2.2.2.2.2.2.2.2.2.2.2.2.2,0)
theorem zHQ {N m e v}(h:v.1≠0):ok15 N m e v:=fun q=>absurd q h
theorem bad9 {N m e v}(h:v.1≠0):ok9 N m e v:=fun q=>absurd q h
theorem zj0 {c}{α:Type}{a b}{I:α→Prop}(h1:c=true→∃ v,a=some v∧I v) (h2:c=false→∃ v,b=some v∧I v):∃ v,(if c=true then a else b)=some v∧I v:=by
 cases c
 ·exact h2 rfl
 ·exact h1 rfl
theorem zHb {p q}{M:Prop}(h:zaf (zax p)≠[]):znv p→znv q→M:=fun c=>absurd c.2 h
theorem zAt {p q}{M:Prop}{n w}(hn:n<(zab p).length) (hw:zaK w≠0) (hq:zab q=(zab p).set n w):znv p→znv q→M:=fun _ c=>absurd (c.1 w (by rw [hq];exact List.mem_iff_getElem.2 ⟨n,by rw [vN0];exact hn,by rw [List.getElem_set_self]⟩)) hw
theorem n1:(1:Int)≠0:=by decide
theorem n8:(8:Int)≠0:=by decide
theorem ze2 {N m m' e}(h1:Wk (N + 64) m') (h2:zaw m'=zaw m∧allG (zaz m')=allG (zaz m)∧(znv (zah m)→znv (zah m')→memW (zah m')=memW (zah m))):zgV N m e (m',did0,0):=⟨h1,fun q=>(by cases q),fun q=>(by cases q),fun q=>absurd rfl q,fun _ _ _=>h2⟩
theorem zBZ {N m m' e t}(h1:Wk (N + 64) m') (h2:zaO e=2∨zaO e=4∨zaO e=9):zgV N m e (m',zeZ false true t,0):=⟨h1,fun q=>(by cases q),fun _=>h2,fun q=>absurd rfl q,fun _ q=>(by cases q)⟩
theorem zue {N m m' e d}(h1:Wk (N + 64) m') (k:zaO e=1) (h2:d=false→zaw m'=zaw m∧allG (zaz m')=allG (zaz m)∧(znv (zah m)→znv (zah m')→memW (zah m')=memW (zah m))):zgV N m e (m',zeZ d false 0,0):=⟨h1,fun _=>k,fun q=>(by cases q),fun q=>absurd rfl q,fun _ _ q=>h2 q⟩
theorem zJq {p q}(h1:R10 p) (h2:R10 q) (h:memM q=memM p):memW q=memW p:=by
 unfold memW
 rw [zxR h1,zxR h2,if_pos rfl,if_pos rfl,h]
theorem zAL {progs}(P:PO progs) {N}(hN:N≤90000) {pr st ck gt}(h1:Ok10 True pr) (h2:V.VOk st) (h3:zdX ck) (h4:zf1 N gt) (hw:zaj st≤16) (now) :
  ∃ c mk e s es g eg p ep h z,zes ck now=some (c,mk,e)∧zet st (zaU mk)=some (s,es)∧zdD gt (zaU mk)=some (g,eg) ∧
   zdZ (progs.length:Int) (zaj st)=some (p,ep)∧zc9 s=some h∧repO (0:Int) 8 (progs.length:Int) (progs.length:Int)=some z ∧
   ∀ now',Wk N (zbj (za9 mk) (zaB (zai p) (zam p) (zab p) h (zay p) (zal p) (zax p)) s c g now' z) :=
 zGY P hN (znL (co:=[]) (si:=[]) (nw:=0) h1 h2 h3 h4 ⟨Nat.zero_le _,fun c h=>by cases h⟩ (Nat.zero_le _)) hw now
theorem zHu {progs}(P:PO progs) {N}(hN:N≤80000) {m}(W:Wk N m) (e):∃ r,zhI progs m e=some r∧zgV N m e r:=by
 obtain ⟨b,hb,hR⟩:=zEw P W
 unfold zhI
 rw [hb]
 refine bind_ok (fun c=>c=false→RF progs m∧1≤zaO e∧zaO e≤9) ?_ fun c hc=>?_
 ·cases b
  ·exact ⟨true,rfl,fun q=>by cases q⟩
  ·show ∃ v,(if decide (zaO e<1)=true then some true else some (decide (9<zaO e)))=some v∧_
   by_cases k1:zaO e<1
   ·rw [ifp k1];exact ⟨true,rfl,fun q=>by cases q⟩
   ·rw [ifn k1]
    refine ⟨_,rfl,fun q=>⟨hR rfl,by omega,?_⟩⟩
    have:=of_decide_eq_false q
    omega
 cases c
 rotate_left
 ·exact ⟨_,rfl,zHZ W e (by decide)⟩
 obtain ⟨R,hk1,hk9⟩:=hc rfl
 obtain ⟨co,pr,st,ck,gt,nw,si⟩:=m
 have hpr:Ok10 True pr:=zz4 W.pr R.pr
 have hsh:zg9 pr:=W.sh
 have hst:V.VOk st:=W.st
 have hck:zdX ck:=W.ck
 have hgt:zf1 N gt:=W.gt
 have hco:co.length≤1000∧∀ c∈co,zgm c:=W.co
 have hcn:co.length=progs.length:=R.co
 have hsn:si.length=progs.length:=R.si
 have hwn:(zab pr).length=progs.length:=R.wt
 have hF:R10 pr:=zcx R.pr
 have hho:((zad pr).length:Int)=zaj st:=R.ho
 have h4:=R.pg
 have h16:=hF.h16
 have h1':=hF.h1
 have hs1:si.length≤1000:=by omega
 have hs2:∀ n v,(si.set n v).length≤1000:=fun n v=>by rw [vN0];exact hs1
 have hgm:zf1 (N + 64) gt:=zy0 (by omega) hgt
 rw [if_neg Bool.false_ne_true]
 dsimp only [zci,zaa,za0,zaE,zau,zcQ,zaw,zah,zar,zaC,zaz,zaN,zaI,zdU,zbs,zbN,zdQ,zcE,zkH]
 refine bind_ok (fun v:R15=>ok15 N (co,pr,st,ck,gt,nw,si) e v) ?_ fun v hv=>?_
 rotate_left
 ·by_cases hz:v.1=0
  ·simp only [hz,vE0,wH0,wA0,if_false]
   exact ⟨_,rfl,hv hz⟩
  ·simp only [hz,vF0,vH0,if_true]
   exact ⟨_,rfl,zHZ W e hz⟩
 refine zj0 (fun _=>⟨_,rfl,zHQ n8⟩) fun hcl=>?_
 by_cases k1:zaO e=1
 ·rw [ifp k1]
  refine bind_ok (fun v:R9=>ok9 N (co,pr,st,ck,gt,nw,si) e v) ?_ fun v hv=>⟨_,rfl,fun hz=>hv hz⟩
  refine zj0 (fun _=>⟨_,rfl,bad9 n1⟩) fun hn=>?_
  have hn:¬ zbd e<0∧¬ (co.length:Int)≤zbd e:=by
   rw [Bool.or_eq_false_iff] at hn
   exact ⟨of_decide_eq_false hn.1,of_decide_eq_false hn.2⟩
  obtain ⟨n,hne⟩:∃ n:Nat,zbd e=(n:Int):=⟨(zbd e).toNat,by omega⟩
  have hnc:n<co.length:=by omega
  have hnp:n<progs.length:=by omega
  have hns:n<si.length:=by omega
  obtain ⟨w,w1,w2,w3⟩:=zFg (P.l _ (List.getElem_mem hnp)) (hco.2 _ (List.getElem_mem hnc)) (words:=zaj st) (by omega)
  have hon:∀ {was:Int},U32 was→∃ c,zfY progs[n] co[n] was=some c∧((co.set n c).length≤1000∧∀ x∈co.set n c,zgm x)∧(zbu co[n]=true→co.set n c=co):=fun hw=>zJm P W hnp hnc hw
  have hcc:zaS 48 co=some co:=zbc (by omega) (by omega)
  have hcs:zaS 8 si=some si:=zbc (by omega) (by omega)
  rw [hne,zaA hnp,wC0,zaA hnc,wC0,w1,wC0]
  obtain ⟨c0,c1,c2,c3⟩:=hon u0
  refine bind_ok (fun v=>zgV N (co,pr,st,ck,gt,nw,si) e ((v.1,v.2.1,v.2.2.1,v.2.2.2.1,v.2.2.2.2.1,v.2.2.2.2.2.1,v.2.2.2.2.2.2.1),v.2.2.2.2.2.2.2,0)) ?_ fun v hv=>⟨_,rfl,fun _=>hv⟩
  refine zj0 (fun _=>?_) fun hk=>?_
  ·simp only [hcc,c1,wC0,za3 hnc,zaA hnc,zaA hnp,zbb hnc]
   exact ⟨_,rfl,zue (znL hpr hst hck hgm c2 hs1) k1 fun q=>⟨c3 (by simpa using q),rfl,fun _ _=>rfl⟩⟩
  have hk5:zbu co[n]=false:=by
   cases hh:zbu co[n]
   ·rfl
   ·have:=w3 hh
    rw [this] at hk
    exact absurd hk (by decide)
  refine bind_ok (fun v=>zgV N (co,pr,st,ck,gt,nw,si) e ((v.1,v.2.1,v.2.2.1,v.2.2.2.1,v.2.2.2.2.1,v.2.2.2.2.2.1,v.2.2.2.2.2.2.1),v.2.2.2.2.2.2.2,0)) ?_ fun v hv=>⟨_,rfl,hv⟩
  refine zj0 (fun _=>?_) fun _=>?_
  ·obtain ⟨g,eg,g1,g2⟩:=zG3 (by omega:N≤100000) hgt (zaD st) (zoE (n:Int) (zhg w))
   rw [g1,wC0]
   refine bind_ok (fun v=>zgV N (co,pr,st,ck,gt,nw,si) e ((v.1,v.2.1,v.2.2.1,v.2.2.2.1,v.2.2.2.2.1,v.2.2.2.2.2.1,v.2.2.2.2.2.2.1),v.2.2.2.2.2.2.2,0)) ?_ fun v hv=>⟨_,rfl,hv⟩
   refine zj0 (fun _=>?_) fun _=>?_
   ·simp only [hcc,c1,wC0,za3 hnc,zaA hnc,zaA hnp,zbb hnc]
    exact ⟨_,rfl,zue (znL hpr hst hck (zy0 (by omega) g2) c2 hs1) k1 fun q=>by rw [hk5] at q;cases q⟩
   ·exact ⟨_,rfl,ze2 (znL hpr hst hck hgm hco hs1) ⟨rfl,rfl,fun _ _=>rfl⟩⟩
  obtain ⟨hb,hb1,_⟩:=zI8 hsh (n:Int) (zfH w) (!decide (zcU w=1))
  rw [hb1,wC0]
  refine bind_ok (fun v=>zgV N (co,pr,st,ck,gt,nw,si) e ((v.1,v.2.1,v.2.2.1,v.2.2.2.1,v.2.2.2.2.1,v.2.2.2.2.2.1,v.2.2.2.2.2.2.1),v.2.2.2.2.2.2.2,0)) ?_ fun v hv=>⟨_,rfl,hv⟩
  refine zj0 (fun _=>?_) fun _=>?_
  ·obtain ⟨was,ew,e1,e2⟩:=zIv hsh hpr.vw (n:Int) (zfH w)
   obtain ⟨q,eq,q1,q2⟩:=zJb hpr hsh (n:Int) (zfH w) (zhg w) w2
   obtain ⟨c0,c1,c2,c3⟩:=hon e2
   rw [e1,wC0]
   refine bind_ok (fun v=>zgV N (co,pr,st,ck,gt,nw,si) e ((v.2.2.2.2.2.2.2,v.1,v.2.1,v.2.2.1,v.2.2.2.1,v.2.2.2.2.1,v.2.2.2.2.2.1),v.2.2.2.2.2.2.1,0)) ?_ fun v hv=>⟨_,rfl,hv⟩
   refine bind_ok (fun v=>∃ q,Ok10 True q∧v=((co,q,st,ck,gt,nw,si),progs,zeZ false false 0)) ?_ fun v hv=>?_
   ·refine zj0 (fun _=>?_) fun _=>⟨_,rfl,pr,hpr,rfl⟩
    rw [q1]
    exact ⟨_,rfl,q,q2,rfl⟩
   obtain ⟨q',hq',rfl⟩:=hv
   dsimp only
   simp only [hcc,c1,wC0,za3 hnc,zaA hnc,zaA hnp,zbb hnc]
   exact ⟨_,rfl,zue (znL hq' hst hck hgm c2 hs1) k1 fun q=>by rw [hk5] at q;cases q⟩
  ·obtain ⟨q,x,q1,q2,q3⟩:=zHv hpr hsh (n:Int) (zfH w) (!decide (zcU w=1))
   rw [q1,wC0]
   refine bind_ok (fun v=>zgV N (co,pr,st,ck,gt,nw,si) e ((v.1,v.2.1,v.2.2.1,v.2.2.2.1,v.2.2.2.2.1,v.2.2.2.2.2.1,v.2.2.2.2.2.2.1),v.2.2.2.2.2.2.2,0)) ?_ fun v hv=>⟨_,rfl,hv⟩
   refine bind_ok (fun v=>zgV N (co,pr,st,ck,gt,nw,si) e ((v.1,v.2.1,v.2.2.1,v.2.2.2.1,v.2.2.2.2.1,v.2.2.2.2.2.1,v.2.2.2.2.2.2.1),v.2.2.2.2.2.2.2,0)) ?_ fun v hv=>⟨_,rfl,hv⟩
   rcases q3 with ⟨hx,rfl⟩|⟨hx,th,w',po,z1,rfl⟩
   ·rw [ifn hx]
    exact ⟨_,rfl,ze2 (znL hpr hst hck hgm hco hs1) ⟨rfl,rfl,fun _ _=>rfl⟩⟩
   ·rw [ifp hx]
    obtain ⟨_,a,b,ha,hb,ha2,hb2⟩:=ziR th
    have hna:a=n:=by omega
    subst hna
    simp only [hcs,wC0,za3 hns,zbb hns]
    exact ⟨_,rfl,ze2 (znL q2 hst hck hgm hco (hs2 _ _)) ⟨rfl,rfl,zAt ha2 (by rw [z1];omega) rfl⟩⟩
 rw [ifn k1]
 by_cases k2:zaO e=2
 ·rw [ifp k2]
  obtain ⟨q,x,d1,d2,d3,d4,d5⟩:=zAM hpr hsh (zfw e)
  refine bind_ok (fun v:R9=>ok9 N (co,pr,st,ck,gt,nw,si) e v) ?_ fun v hv=>⟨_,rfl,fun hz=>hv hz⟩
  rw [d1,wC0]
  dsimp only
  refine zj0 (fun _=>?_) fun _=>?_
  ·obtain ⟨c,mk,e1,s,es,g,eg,p,ep,hh,z,b1,b2,b3,b4,b5,b6,b7⟩:=zAL P (by omega:N≤90000) hpr hst hck hgt (by omega) nw
   simp only [b1,b2,b3,b4,b5,b6,wC0]
   exact ⟨_,rfl,fun _=>zBZ ((b7 nw).mono (by omega)) (.inl k2)⟩
  by_cases hx:x=0
  ·rw [ifp hx]
   obtain ⟨r,l1,l2⟩:=zDJ (was:=zad pr) (ho:=zad q) (by omega) (by omega) d2.hw (mw:=fun s=>zci (zbj co q s ck gt nw si) progs did0) (fun _=>rfl) (fun _=>rfl) (fun _ _=>rfl) hst
   have l1':zaQ (zdx (zad pr) (zad q) (List.length (zad q):Int)) ((0:Int),((co,q,st,ck,gt,nw,si),progs,zeZ false false 0))=some r:=l1
   rw [l1']
   rcases l2 with ⟨s,s1,rfl⟩|⟨t,rfl,t1⟩
   ·rw [zaR]
    obtain ⟨r,y1,y2⟩:=zDE (wa:=zab q) (l:=si) (by omega) (by omega)
    have hc:zaS 8 si=some si:=zbc (by omega) (by omega)
    show ∃ v,((zaS 8 si).bind fun v28=>(zaQ (zdB (zab q) (List.length (zab q):Int)) ((0:Int),v28)).bind fun v31=>some ((0:Int),co,q,s,ck,gt,nw,v31,did0))=some v∧_
    rw [hc,wC0,y1]
    exact ⟨_,rfl,fun _=>ze2 (znL d2 s1 hck hgm hco (Nat.le_trans (Nat.le_of_eq y2) hs1)) ⟨rfl,rfl,zHb (d5 (.inl hx))⟩⟩
   ·rw [zb8]
    exact ⟨_,rfl,bad9 t1⟩
  ·rw [ifn hx]
   exact ⟨_,rfl,bad9 hx⟩
 rw [ifn k2]
 by_cases k3:zaO e=3
 ·rw [ifp k3]
  obtain ⟨q,x,d1,d2,d3⟩:=zFu hpr hsh (zbd e) (zfw e)
  refine bind_ok (fun v:R9=>ok9 N (co,pr,st,ck,gt,nw,si) e v) ?_ fun v hv=>⟨_,rfl,fun hz=>hv hz⟩
  rw [d1,wC0]
  dsimp only
  rcases d3 with ⟨hx,rfl⟩|⟨hx,a,b,ha,hb,ha2,hb2,d4⟩
  ·simp only [hx,vF0,vH0,if_true]
   exact ⟨_,rfl,bad9 hx⟩
  simp only [hx,vE0,wH0,wA0,if_false]
  have hw:(zab q).length=(zab pr).length:=by
   rcases d4 with ⟨_,rfl⟩|⟨w',po,_,rfl⟩
   ·rfl
   ·exact vN0
  have hm:znv pr→znv q→memW q=memW pr:=by
   rcases d4 with ⟨z1,rfl⟩|⟨w',po,z1,rfl⟩
   ·exact fun _ _=>zJq hF (d2.rt trivial) (zGe hF (by rw [hF.st];exact ha2) _ _ z1)
   ·exact zAt ha2 (by rw [z1];omega) rfl
  have haq:a<(zab q).length:=by omega
  have hc:zaS 8 si=some si:=zbc (by omega) (by omega)
  have has:a<si.length:=by omega
  rw [ha,zaA haq,wC0]
  by_cases hl:0<zaK (zab q)[a]
  ·rw [ifp hl]
   simp only [hc,wC0,za3 has,zbb has]
   exact ⟨_,rfl,fun _=>ze2 (znL d2 hst hck hgm hco (hs2 _ _)) ⟨rfl,rfl,hm⟩⟩
  ·rw [ifn hl]
   exact ⟨_,rfl,fun _=>ze2 (znL d2 hst hck hgm hco hs1) ⟨rfl,rfl,hm⟩⟩
 rw [ifn k3]
 by_cases k4:zaO e=4
 ·rw [ifp k4]
  refine bind_ok (fun v:R9=>ok9 N (co,pr,st,ck,gt,nw,si) e v) ?_ fun v hv=>⟨_,rfl,fun hz=>hv hz⟩
  refine zj0 (fun _=>⟨_,rfl,bad9 n1⟩) fun _=>?_
  obtain ⟨mk,e1,s1⟩:=zGZ hck (w64 (nw + 1))
  obtain ⟨g,eg,g1,g2,g3⟩:=zEk (by omega:N≤100000) hgt (zaU mk)
  rw [s1,wC0]
  dsimp only
  rw [g1,wC0]
  dsimp only
  obtain ⟨v1,f1,_⟩:=zeI (f:=zeC ((co,pr,st,ck,g,w64 (nw + 1),si),progs,zeZ false false 0) si (List.length si:Int)) (n:=si.length) (by omega) (fun i=>optT (fun x=>!(decide (0<x)&&decide (zbA ck<w64 (w64 (w64 (nw + 1) + 1) - x)))) si[i]?) (fun i hi h1=>by
   unfold zeC
   rw [zbl hi]
   simp only [show (i:Int)<(List.length si:Int) by omega,vE0,if_true,zaA hi,wC0,zaP (show i<4611686018427387904 by omega)]
   show (if (decide (0<si[i])&&decide (zbA ck<w64 (w64 (w64 (nw + 1) + 1) - si[i])))=true then _ else _)=_
   cases (decide (0<si[i])&&decide (zbA ck<w64 (w64 (w64 (nw + 1) + 1) - si[i])))<;>rfl) (by
   unfold zeC
   simp only [Int.lt_irrefl,vF0,wA0,if_false])
  obtain ⟨b2,hb2⟩:=zyq (zll hpr)
  simp only [f1,hb2,wC0]
  refine bind_ok (fun _=>True) ?_ fun bb _=>?_
  ·exact zj0 (fun _=>⟨_,rfl,trivial⟩) fun _=>⟨_,rfl,trivial⟩
  refine bind_ok (fun v=>zgV N (co,pr,st,ck,gt,nw,si) e ((v.1,v.2.1,v.2.2.1,v.2.2.2.1,v.2.2.2.2.1,v.2.2.2.2.2.1,v.2.2.2.2.2.2.1),v.2.2.2.2.2.2.2,0)) ?_ fun v hv=>⟨_,rfl,fun _=>hv⟩
  refine zj0 (fun _=>?_) fun _=>?_
  ·obtain ⟨c,mk,e1,s,es,g,eg,p,ep,hh,z,b1,b2,b3,b4,b5,b6,b7⟩:=zAL P (by omega:N + 64≤90000) hpr hst hck g2 (by omega) (w64 (nw + 1))
   simp only [b1,b2,b3,b4,b5,b6,wC0]
   exact ⟨_,rfl,zBZ (b7 _) (.inr (.inl k4))⟩
  ·exact ⟨_,rfl,ze2 (znL hpr hst hck g2 hco hs1) ⟨rfl,g3,fun _ _=>rfl⟩⟩
 rw [ifn k4]
 by_cases k5:zaO e=5
 ·rw [ifp k5]
  refine bind_ok (fun v:R15=>ok15 N (co,pr,st,ck,gt,nw,si) e v) ?_ fun v hv=>⟨_,rfl,fun hz=>hv hz⟩
  obtain ⟨b1,hb1⟩:=zyq (zll hpr)
  rw [hb1,wC0]
  refine zj0 (fun _=>⟨_,rfl,zHQ n8⟩) fun _=>?_
  have hc:zaS 4 (zad pr)=some (zad pr):=zbc (by omega) (by omega)
  rw [hc,wC0]
  obtain ⟨r,l1,l2⟩:=zD0 (did:=zeZ false false 0) (co:=co) (ck:=ck) (g:=gt) (now:=nw) (si:=si) (zll hpr) hF hst
  rw [l1]
  rcases l2 with ⟨s,s1,rfl⟩|⟨t,rfl,t1⟩
  rotate_left
  ·rw [zb8]
   exact ⟨_,rfl,zHQ t1⟩
  rw [zaR]
  obtain ⟨c,ec,c1,c2,c3⟩:=zGU hck nw
  rw [c1,wC0]
  dsimp only
  have h0:0<(zao c).length:=c3 R.cl
  have g0:getO (zao c) (0:Int)=some (zao c)[0]:=zaA (i:=0) h0
  rw [g0,wC0,V.store_Trim_eq s1,wC0,V.store_Next_eq (V.trimV_ok s1 _),wC0]
  by_cases hx:(V.nextV (V.trimV s (zaU (zao c)[0])).1).2=0
  rotate_left
  ·simp only [hx,vF0,vH0,if_true]
   exact ⟨_,rfl,zHQ hx⟩
  simp only [hx,vE0,wH0,wA0,if_false]
  obtain ⟨d,ed,t1,t2⟩:=zHN c2 (zaD (V.nextV (V.trimV s (zaU (zao c)[0])).1).1) nw hco
  rw [t1]
  have hr:=zDt hF (zoU pr)
  have hu:∀ x∈memM pr,U32 x:=fun x hx=>by
   obtain ⟨l,_,rfl⟩:=List.mem_map.1 hx
   exact zFe (zll hpr) l
  have hk:=zBb (zll hpr) (by rw [zoU];omega) hu
  have hk':=zz4 hk (zxR hr)
  exact ⟨_,rfl,fun _=>ze2 (znL hk' (V.nextV_ok (V.trimV_ok s1 _)) t2 hgm hco hs1) ⟨rfl,rfl,fun _ _=>zJq hF hr zGO⟩⟩
 rw [ifn k5]
 by_cases k6:zaO e=6
 ·rw [ifp k6]
  obtain ⟨q,x,d1,d2,d3,d4⟩:=zG1 hpr.po hF.po (zfw e)
  rw [d1]
  exact ⟨_,rfl,fun hz=>ze2 (znL (zcL hpr ⟨d2,fun _=>d3⟩) hst hck hgm hco hs1) ⟨rfl,rfl,fun c _=>absurd hz (d4 c.2)⟩⟩
 rw [ifn k6]
 by_cases k7:zaO e=7
 ·rw [ifp k7]
  obtain ⟨q,x,d1,d2,d3,d4⟩:=zFl hpr.po hF.po (zfw e) (zbd e)
  rw [d1]
  exact ⟨_,rfl,fun hz=>ze2 (znL (zcL hpr ⟨d2,fun _=>d3⟩) hst hck hgm hco hs1) ⟨rfl,rfl,fun c _=>absurd hz (d4 c.2)⟩⟩
 rw [ifn k7]
 by_cases k8:zaO e=8
 ·rw [ifp k8,V.store_Lose_eq hst]
  exact ⟨_,rfl,fun hz=>ze2 (znL hpr (V.loseV_ok hst (zbd e)) hck hgm hco hs1) ⟨rfl,rfl,fun _ _=>rfl⟩⟩
 rw [ifn k8]
 rw [V.store_Rebuild_eq hst]
 refine bind_ok (fun v:R9=>ok9 N (co,pr,st,ck,gt,nw,si) e v) ?_ fun v hv=>⟨_,rfl,fun hz=>hv hz⟩
 rw [wC0]
 by_cases hz:(V.rebuildV st).2=0
 ·rw [ifp hz]
  have hw':zaj (V.rebuildV st).1=zaj st:=by
   unfold V.rebuildV
   split<;>rfl
  obtain ⟨c,mk,e1,s,es,g,eg,p,ep,hh,z,b1,b2,b3,b4,b5,b6,b7⟩:=zAL P (by omega:N≤90000) hpr (V.rebuildV_ok hst) hck hgt (by rw [hw'];omega) nw
  simp only [b1,b2,b3,b4,b5,b6,wC0]
  exact ⟨_,rfl,fun _=>zBZ ((b7 nw).mono (by omega)) (.inr (.inr (by omega)))⟩
 ·rw [ifn hz]
  exact ⟨_,rfl,bad9 hz⟩
theorem zGm (progs):∃ b,zpl progs=some b∧(b=true→progs.length≤6∧∀ p∈progs,p.length≤80):=by
 unfold zpl
 by_cases h:(6:Int)<(List.length progs:Int)
 ·rw [ifp h];exact ⟨false,rfl,fun q=>by cases q⟩
 rw [ifn h,zsD (f:=zh3 progs) (n:=progs.length) (by omega) (fun i=>optT (fun p:List Ins=>decide (p.length≤80)) progs[i]?) (fun i hi h1=>by
  unfold zh3
  rw [zbl hi]
  simp only [show (i:Int)<(List.length progs:Int) by omega,vE0,if_true,zaA hi,wC0,zaP (show i<4611686018427387904 by omega)]
  by_cases q:progs[i].length≤80
  ·simp only [q,show ¬ (80:Int)<(progs[i].length:Int) by omega,vE0,vF0,if_true,wA0,if_false]
  ·simp only [q,show (80:Int)<(progs[i].length:Int) by omega,vE0,vF0,if_true,wA0,if_false]) (by
  unfold zh3
  simp only [Int.lt_irrefl,vF0,wA0,if_false])]
 refine ⟨_,rfl,fun q=>⟨by omega,?_⟩⟩
 rw [← zd0,List.all_eq_true] at q
 exact fun p hp=>of_decide_eq_true (q p hp)
theorem zDV {progs}(P:PO progs) {evs}(hl:evs.length≤120) {m0}(W0:Wk 0 m0):zaQ (zcA progs evs) ((0:Int),m0)=some (.inl ()):=by
 have hh:∃ r,zaQ (zcA progs evs) ((0:Int),m0)=some r∧r=.inl ():=zf4 (f:=zcA progs evs) (fun x=>∃ i:Nat,x.1=(i:Int)∧i≤evs.length∧Wk (64 * i) x.2) (fun x=>evs.length - x.1.toNat) (fun r=>r=.inl ()) (fun x hx=>by
  obtain ⟨j,m⟩:=x
  obtain ⟨i,rfl,hi,W⟩:=hx
  simp only at W
  unfold zcA
  dsimp only
  by_cases hil:i<evs.length
  rotate_left
  ·simp only [show ¬ (i:Int)<(List.length evs:Int) by omega,vF0,wA0,if_false]
   exact .inr ⟨_,rfl,rfl⟩
  obtain ⟨⟨m',d,x⟩,s1,S⟩:=zHu P (by omega:64 * i≤80000) W evs[i]
  simp only [show (i:Int)<(List.length evs:Int) by omega,vE0,if_true,zaA hil,wC0,s1,zaP (show i<4611686018427387904 by omega)]
  obtain ⟨M,hM,hW,hS⟩:∃ M,(bif !decide (x=0) then m else m')=M∧Wk (64 * i + 64) M∧(zeN d=false→zc6 d=false→zaw M=zaw m∧allG (zaz M)=allG (zaz m)∧(znv (zah m)→znv (zah M)→memW (zah M)=memW (zah m))):=by
   by_cases hx:x=0
   ·refine ⟨m',?_,S.wk,S.still hx⟩
    rw [hx];rfl
   ·refine ⟨m,?_,W.mono (by omega),fun _ _=>⟨rfl,rfl,fun _ _=>rfl⟩⟩
    simp only [hx,vF0,vH0,cond_true]
  rw [hM]
  have hret:=S.ret
  have hbck:=S.bck
  obtain ⟨b1,c1,c2⟩:=zCn W.pr
  obtain ⟨b2,e1,e2⟩:=zCn hW.pr
  have g1:=zFA (by omega:64 * i≤100000) W.gt
  have g2:=zFA (by omega:64 * i + 64≤100000) hW.gt
  have k1:zcO m=some (memW (zah m)):=zIe W.sh
  have k2:zcO M=some (memW (zah M)):=zIe hW.sh
  have hg:(allG (zaz m)).length≤200000:=by
   unfold allG
   rw [wI0,List.length_map]
   have:=W.gt.1
   have:=W.gt.2
   omega
  have hc:(zaw m).length≤200000:=by have:=W.co.1;omega
  have hm:(memW (zah m)).length≤200000:=by
   unfold memW
   split
   ·rw [zoU];have:=W.pr.ho;omega
   ·exact Nat.zero_le _
  have next:∃ s',(some (Sum.inl (((i + 1:Nat):Int),M)):Option ((Int×Machine)⊕Unit⊕Bool))=some (.inl s')∧(∃ k:Nat,s'.1=(k:Int)∧k≤evs.length∧Wk (64 * k) s'.2)∧evs.length - s'.1.toNat<evs.length - (i:Int).toNat :=
   ⟨_,rfl,⟨i + 1,rfl,by omega,hW.mono (by omega)⟩,by simp only [Int.toNat_natCast];omega⟩
  generalize zeN d=bk at *
  generalize zc6 d=rt at *
  cases bk<;>cases rt
  ·obtain ⟨q1,q2,q3⟩:=hS rfl rfl
   simp only [vH0,Bool.and_self,if_true,q1,g1,g2,q2,zDs hc,zFw hg,c1,e1,wC0,wH0,wA0,if_false,k1,k2]
   cases b1
   ·simp only [wA0,if_false,wC0,zaR]
    exact .inl next
   cases b2
   ·simp only [wA0,if_false,if_true,wC0,zaR]
    exact .inl next
   simp only [if_true,wC0,q3 (c2 rfl) (e2 rfl),zDy hm,wH0,wA0,if_false,zaR]
   exact .inl next
  ·have q:=hret rfl
   simp only [vH0,wH0,Bool.and_false,wA0,if_false,if_true,zaR,q,vE0,wC0]
   exact .inl next
  ·rcases hbck rfl with q|q|q
   all_goals
    simp only [vH0,wH0,Bool.and_true,wA0,if_false,if_true,zaR,q,vE0,vF0,wC0,show ¬ (4:Int)=2 by decide,show ¬ (9:Int)=2 by decide,show ¬ (9:Int)=4 by decide]
    exact .inl next
  ·have q0:=hret rfl
   rcases hbck rfl with q|q|q<;>exact absurd (q0.symm.trans q) (by decide)) ⟨0,rfl,Nat.zero_le _,W0.mono (Nat.zero_le _)⟩
 obtain ⟨r,h1,h2⟩:=hh
 rw [h1,h2]
theorem zsj (progs) (hK:∀ p∈progs,∀ x∈p,U32 (zmQ x)) (a b c) (evs):zgj progs a b c evs=some true:=by
 unfold zgj
 obtain ⟨s,s1,s2⟩:=zGm progs
 simp only [zvc,wH0,wA0,if_false,s1,wC0]
 cases s
 ·rfl
 obtain ⟨n6,l80⟩:=s2 rfl
 simp only [wH0,wA0,if_false,wC0]
 by_cases hl:(120:Int)<(List.length evs:Int)
 ·rw [ifp hl]
 rw [ifn hl]
 have P:PO progs:=⟨n6,l80,hK⟩
 have r1:∀ x y:Int,¬ y=0→∃ z,remO x y=some z:=fun x y hy=>by
  unfold remO
  rw [if_neg hy]
  exact ⟨_,rfl⟩
 obtain ⟨z1,h1⟩:=r1 a 16 (by decide)
 obtain ⟨z2,h2⟩:=r1 b 8 (by decide)
 obtain ⟨z3,h3⟩:=r1 c 20 (by decide)
 obtain ⟨m,x,k1,k2⟩:=zHS P (w64 ((w64 z1) + (1:Int))) (w64 ((w64 z2) + (1:Int))) (w64 ((w64 z3) + (1:Int)))
 simp only [h1,h2,h3,k1,wC0]
 by_cases hx:x=0
 ·simp only [hx,vE0,wH0,wA0,if_false,zDV P (evs:=evs) (by omega) (k2 hx),zaR]
 ·simp only [hx,vF0,vH0,if_true]
theorem zsL (x) (h:OkL zeE.ps x):zeE.sem x=some true :=
 zsj x.1 (fun p hp i hi=>by
  have:=(h.1.2 p hp).2 i hi
  exact ⟨this.2.2.2.2.1,Int.lt_of_le_of_lt this.2.2.2.2.2 (by decide)⟩) _ _ _ _
end Go.Proofs.YtplfgkjjgflhkaaGreat
