/- Layer 14: a store is trimmed, begun, goes on, loses a bank and is rebuilt. -/
import Derived.Test.YtlgjbfdojbmmgaaV4
set_option linter.unusedSimpArgs false
set_option linter.unusedVariables false
namespace Go.Proofs.Ytlgjbfdojbmmgaa
open Go.SX
noncomputable def ztP (s:Vault) (fr:Int):Vault×Int :=
 if (zam s&&(decide (0≤fr)&&decide (fr≤Vault.Span s)))=true then (Vault.mk (Vault.Banks s) (Vault.Words s) (Vault.Span s) ((Vault.Lst s).filter (goes fr)),0) else (s,1)
theorem znU {s:Vault}(hs:VOk s) (to:Int):zgm s to=some (ztP s to):=by
 unfold zgm ztP
 have hc:=zgf hs
 rw [show zbJ=zae from rfl,hc,zpm hs]
 by_cases h:toV s to
 ·rw [zop h]
  simp only [wC0,wH0,wA0,if_false,if_true,Banks.eta,Vault.eta]
  have hl2:=hs.l
  have lp:=zjd (f:=zdc to (Vault.Lst s) (List.length (Vault.Lst s):Int)) (n:=(Vault.Lst s).length) (fun i=>(i:Int)) (fun i=>optT (goes to) (Vault.Lst s)[i]?) (e:=.inl ()) (r:=fun i=>.inr (i:Int)) (fun i hi _=>by
   have hlt:(i:Int)<(List.length (Vault.Lst s):Int):=by omega
   unfold zdc
   simp only [hlt,decide_true,if_true,zcm hi,zab hi,wC0,zah (show i<4611686018427387904 by omega),zce hi]
   by_cases e1:Undo.Span (Vault.Lst s)[i]<to
   ·have:¬ to≤Undo.Span (Vault.Lst s)[i]:=by omega
    simp [e1,goes,this]
   ·have:to≤Undo.Span (Vault.Lst s)[i]:=by omega
    simp [e1,goes,this]) (fun _=>by
   unfold zdc
   simp)
  rw [show ((0:Nat):Int)=0 from rfl] at lp
  rcases lp with ⟨hall,hlp⟩|⟨k,hk,hbad,hpre,hlp⟩
  ·have hself:(Vault.Lst s).filter (goes to)=Vault.Lst s:=by
    rw [List.filter_eq_self]
    intro u hu
    obtain ⟨i,hi,rfl⟩:=List.getElem_of_mem hu
    have:=hall i hi
    rwa [zce hi] at this
   have hsub:subO (Vault.Lst s) (0:Int) (List.length (Vault.Lst s):Int)=some (Vault.Lst s):=by
    have:=zn8 (l:=Vault.Lst s) (i:=0) (j:=(Vault.Lst s).length) (by omega) (by omega)
    rw [List.drop_zero,List.take_length] at this
    exact this
   simp [hlp,hself,hsub]
  ·rw [zce hk] at hbad
   obtain ⟨i,m,hlo,him,hml,htk⟩:=zwz (f:=zdh to) (l:=Vault.Lst s) (keep:=goes to) (fun i j m hj hij hm=>by
    have hlt:(j:Int)<(List.length m:Int):=by omega
    unfold zdh
    simp only [hlt,decide_true,if_true,zcm hj,zab hj,wC0,zah (show j<4611686018427387904 by omega)]
    have him:i<m.length:=by omega
    by_cases e1:Undo.Span m[j]<to
    ·have:¬ to≤Undo.Span m[j]:=by omega
     simp [e1,goes,this]
    ·have:to≤Undo.Span m[j]:=by omega
     simp [e1,goes,this,zcm him,zcZ him,zah (show i<4611686018427387904 by omega)]) (fun i m hm=>by
    unfold zdh
    simp) hk (fun i hi hik=>by
    have:=hpre i hik
    rwa [zce hi] at this) hbad
   have hk1:¬ (k:Int)=-1:=by omega
   have hsub:subO (m.take i++List.replicate (m.length - i) (Undo.mk 0 0 0)) (0:Int) (i:Int)=some (m.take i):=by
    have hl:(m.take i++List.replicate (m.length - i) (Undo.mk 0 0 0)).length=m.length:=by simp;omega
    have:=zn8 (l:=m.take i++List.replicate (m.length - i) (Undo.mk 0 0 0)) (i:=0) (j:=i) (by omega) (by omega)
    rw [List.drop_zero,zwn him] at this
    exact this
   simp only [hlp,zgu,wC0,hk1,decide_false,wA0,if_false,wH0,zah (show k<4611686018427387904 by omega),hlo]
   rw [zv4 him]
   simp only [wC0,hsub]
   rw [htk]
 ·rw [zkd h]
  simp only [wC0,Bool.not_false,if_true,Banks.eta,Vault.eta,wA0,if_false]
theorem zrq {s:Vault}(hs:VOk s) (to:Int):zkv s to=some (ztP s to):=by
 unfold zkv ztP
 rw [zb7 hs]
 cases hr:zam s
 ·simp only [wC0,Bool.not_false,if_true,Bool.false_and,wA0,if_false]
 obtain ⟨l1,l2,l3⟩:=zdT hr
 have hf:=(zau hr).2.1
 unfold fitV at hf
 have e:Vault.Words s=(((Vault.Words s).toNat:Nat):Int):=by omega
 have hrep:repO (0:Int) 4 (Vault.Words s) (Vault.Words s)=some (List.replicate (Vault.Words s).toNat 0):=by
  have:=zb9 (z:=(0:Int)) (b:=4) (n:=(Vault.Words s).toNat) (by omega) (by omega)
  rwa [← e] at this
 have hz:Log.mk (List.replicate (Vault.Words s).toNat 0) (Vault.Span s) (Vault.Lst s)=zlog s:=rfl
 have hl:=hs.l
 simp only [wC0,wH0,wA0,if_false,hrep,hz,Bool.true_and]
 rw [zrd _ ⟨by unfold zlog;simp only [Log.Mem_mk,List.length_replicate];omega,by unfold zlog;simp only [Log.Lst_mk];omega⟩,wC0]
 unfold trimS
 have hsp:Log.Span (zlog s)=Vault.Span s:=rfl
 by_cases h:0≤to∧to≤Vault.Span s
 ·have hc:(decide (0≤to)&&decide (to≤Vault.Span s))=true:=by simpa using h
  rw [hsp,if_pos ⟨(zau hr).2.2,h⟩,if_pos hc]
  rfl
 ·have hc:¬ (decide (0≤to)&&decide (to≤Vault.Span s))=true:=by simpa using h
  rw [hsp,if_neg (fun q=>h q.2),if_neg hc]
  exact congrArg (fun v=>some (v,(1:Int))) (Vault.eta s)
def zoA (w n:Int):Bool:=decide (1≤w∧w≤64∧1≤n∧n≤8)
noncomputable def newV (w n:Int):Vault×Int :=
 if zoA w n=true then (Vault.mk (newB n.toNat ((w.toNat + n.toNat - 1) / n.toNat)) w 0 [],0) else (Vault.mk (Banks.mk [] [] 0) 0 0 [],1)
theorem zp3 (w n:Int):((decide (w<(1:Int)))||((decide ((64:Int)<w))||((decide (n<(1:Int)))||(decide ((8:Int)<n)))))=!zoA w n:=by
 unfold zoA
 by_cases h:1≤w∧w≤64∧1≤n∧n≤8
 ·rw [decide_eq_true h]
  simp only [wH0,Bool.or_eq_false_iff,decide_eq_false_iff_not]
  omega
 ·rw [decide_eq_false h]
  simp only [Bool.not_false,Bool.or_eq_true,decide_eq_true_eq]
  omega
theorem zrw {w n:Nat}(hn:1≤n) (hw:1≤w) (hw2:w≤64):1≤(w + n - 1) / n∧(w + n - 1) / n≤64∧w≤(w + n - 1) / n * n∧((w + n - 1) / n - 1) * n<w:=by
 have h1:1≤(w + n - 1) / n:=by
  rw [Nat.le_div_iff_mul_le (by omega)]
  omega
 have h2:=(zke (w:=w) (n:=n) (m:=(w + n - 1) / n) (by omega) (by omega) h1).1 rfl
 refine ⟨h1,?_,h2.1,h2.2⟩
 have h3:(w + n - 1) / n - 1<w:=Nat.lt_of_le_of_lt (Nat.le_mul_of_pos_right _ (by omega)) h2.2
 omega
theorem zo0 (w n:Int):zhU w n=some (newV w n):=by
 unfold zhU newV
 rw [zp3]
 cases h:zoA w n
 ·rfl
 unfold zoA at h
 rw [decide_eq_true_eq] at h
 obtain ⟨a,rfl⟩:∃ a:Nat,w=(a:Int):=⟨w.toNat,by omega⟩
 obtain ⟨b,rfl⟩:∃ b:Nat,n=(b:Int):=⟨n.toNat,by omega⟩
 obtain ⟨e1,e2,e3,e4⟩:=zrw (w:=a) (n:=b) (by omega) (by omega) (by omega)
 simp only [wH0,wA0,if_false,if_true,zvL (w:=a) (n:=b) (by omega) (by omega) (by omega),wC0,Int.toNat_natCast]
 generalize (a + b - 1) / b=m at e1 e2
 have hc:((decide ((b:Int)<(1:Int)))||((decide ((8:Int)<(b:Int)))||((decide ((m:Int)<(1:Int)))||(decide ((64:Int)<(m:Int))))))=false:=by
  simp only [Bool.or_eq_false_iff,decide_eq_false_iff_not]
  omega
 rw [hc,if_neg (by simp),zb9 (by omega) (by omega),wC0,show zjy=zdk from rfl,zsF (by omega) (by omega)]
 rfl
theorem ztz (w n:Int):zoy w n=some (newV w n):=by
 unfold zoy newV
 rw [zp3]
 cases h:zoA w n
 ·rfl
 unfold zoA at h
 rw [decide_eq_true_eq] at h
 obtain ⟨a,rfl⟩:∃ a:Nat,w=(a:Int):=⟨w.toNat,by omega⟩
 obtain ⟨b,rfl⟩:∃ b:Nat,n=(b:Int):=⟨n.toNat,by omega⟩
 obtain ⟨e1,e2,e3,e4⟩:=zrw (w:=a) (n:=b) (by omega) (by omega) (by omega)
 have hb:0<b:=by omega
 have d1:=Nat.div_add_mod a b
 have d2:=Nat.mod_lt a hb
 have d3:a / b≤a:=Nat.div_le_self a b
 have d4:a / b * b≤a:=Nat.div_mul_le_self a b
 have d5:a / b * b=b * (a / b):=Nat.mul_comm _ _
 have hm:(bif decide (w64 ((((a / b:Nat):Int)) * (b:Int))<(a:Int)) then w64 (((a / b:Nat):Int) + 1) else ((a / b:Nat):Int))=(((a + b - 1) / b:Nat):Int):=by
  rw [zr9,zoe (i:=a / b * b) (by omega),zah (i:=a / b) (by omega)]
  by_cases hlt:a / b * b<a
  ·have:((a / b * b:Nat):Int)<(a:Int):=by omega
   rw [decide_eq_true this,cond_true]
   congr 1
   refine (zke hb (by omega) (Nat.le_add_left 1 _)).2 ⟨?_,?_⟩
   ·rw [Nat.add_mul,Nat.one_mul]
    omega
   ·rw [Nat.add_sub_cancel]
    exact hlt
  ·have:¬ ((a / b * b:Nat):Int)<(a:Int):=by omega
   rw [decide_eq_false this,cond_false]
   congr 1
   have hd:1≤a / b:=Nat.pos_of_ne_zero fun e=>by
    rw [e,Nat.zero_mul] at hlt
    omega
   refine (zke hb (by omega) hd).2 ⟨by omega,?_⟩
   have:(a / b - 1) * b + b=a / b * b:=by
    obtain ⟨k,hk⟩:∃ k,a / b=k + 1:=⟨a / b - 1,by omega⟩
    rw [hk,Nat.add_sub_cancel,Nat.add_mul,Nat.one_mul]
   omega
 simp only [wH0,wA0,if_false,if_true,zix hb (show a≤1000000 by omega),wC0,hm,ztO,Int.toNat_natCast]
 have hp:newP (b:Int) (((a + b - 1) / b:Nat):Int)=true:=by
  unfold newP
  rw [decide_eq_true_eq]
  omega
 rw [if_pos hp]
noncomputable def zmy (s:Vault):Vault×Int:=if zam s=true∧Vault.Span s<1099511627776 then (Vault.mk (Vault.Banks s) (Vault.Words s) (Vault.Span s + 1) (Vault.Lst s),0) else (s,1)
theorem zve {s:Vault}(h:zam s=true):0≤Vault.Span s∧Vault.Span s≤1099511627776:=by
 have:=(zcT (zau h).2.2).1
 unfold zd8 at this
 exact ⟨this.2.2.1,this.2.2.2.1⟩
theorem zoz {s:Vault}(hs:VOk s):zgx s=some (zmy s):=by
 unfold zgx zmy
 have hc:=zgf hs
 rw [show zc8=zae from rfl,hc,za4 hs]
 cases hr:zam s
 ·simp only [wC0,Bool.not_false,if_true,Banks.eta,Vault.eta,wA0,false_and,if_false]
 ·have:=zve hr
  by_cases h:Vault.Span s=1099511627776
  ·simp only [wC0,wH0,wA0,if_false,h,decide_true,if_true,Int.lt_irrefl,and_false,Banks.eta]
   rw [← h,Vault.eta]
  ·have h2:Vault.Span s<1099511627776:=by omega
   simp only [wC0,wH0,wA0,if_false,h,decide_false,h2,and_self,if_true,Banks.eta]
   rw [zdO (by omega) (by omega)]
noncomputable def ztn (s:Vault) (k:Int):Vault×Int:=if zam s=true then (Vault.mk (zmx (Vault.Banks s) k).1 (Vault.Words s) (Vault.Span s) (Vault.Lst s),(zmx (Vault.Banks s) k).2) else (s,1)
theorem zox {s:Vault}(hs:VOk s) (k:Int):zgo s k=some (ztn s k):=by
 unfold zgo ztn
 have hc:=zgf hs
 rw [show zbJ=zae from rfl,hc,za4 hs]
 cases hr:zam s
 ·simp only [wC0,Bool.not_false,if_true,Banks.eta,Vault.eta,wA0,if_false]
 ·simp only [wC0,wH0,wA0,if_false,zmb hs.b,if_true]
noncomputable def zgd (s:Vault):Vault×Int:=if zam s=true then (Vault.mk (zcL (Vault.Banks s)).1 (Vault.Words s) (Vault.Span s) (Vault.Lst s),(zcL (Vault.Banks s)).2) else (s,1)
theorem zjX {s:Vault}(hs:VOk s):zc4 s=some (zgd s):=by
 unfold zc4 zgd
 have hc:=zgf hs
 rw [show zc8=zae from rfl,hc,za4 hs]
 cases hr:zam s
 ·simp only [wC0,Bool.not_false,if_true,Banks.eta,Vault.eta,wA0,if_false]
 ·simp only [wC0,wH0,wA0,if_false,ziK hs.b,if_true]
theorem zvB {s:Vault}(hs:VOk s) (a:Int) {w:Int}(hw:wd w):VOk (zmY s a w).1:=by
 unfold zmY
 by_cases h:inV s a
 ·obtain ⟨k,rfl,hk,hk2⟩:=zpn h
  obtain ⟨p1,p2,p3⟩:=zd1 h.1 hk
  rw [ziM h,if_pos rfl]
  have hsz:=(zcT (zfx h.1)).1
  unfold zd8 at hsz
  have hlen:(Vault.Lst s).length≤256:=hsz.2.2.2.2
  split
  ·exact hs
  ·rename_i hl
   have hl0:Banks.Lost (Vault.Banks s)=0:=by have:=ziY h.1;omega
   have hb:BOk (zbj (Vault.Banks s) (k % bN (Vault.Banks s)) (k / bN (Vault.Banks s)) w):=zo4 hs.b p2 hw
   split
   ·exact ⟨hb,hs.l,hs.v⟩
   ·split
    ·exact hs
    ·rename_i h256
     refine ⟨hb,?_,?_⟩
     ·show (Vault.Lst s++[_]).length≤300
      rw [wI0]
      simp
      omega
     ·intro u hu
      rcases List.mem_append.1 (show u∈Vault.Lst s++[Undo.mk (Vault.Span s) (k:Int) (zlp (logV s) (k:Int))] from hu) with q|q
      ·exact hs.v u q
      ·rw [List.mem_singleton] at q
       subst q
       show wd (zlp (logV s) (k:Int))
       unfold zlp
       cases e:(Log.Mem (logV s))[(k:Int).toNat]? with
       | none=>exact wd0
       | some x=>exact zku hs x (List.mem_of_getElem? e)
 ·rw [zhy h]
  exact hs
theorem zwl {s:Vault}(hs:VOk s) (to:Int):VOk (ztl s to).1:=by
 unfold ztl
 by_cases h:toV s to
 ·rw [zop h,if_pos rfl]
  split
  ·exact hs
  ·rename_i hl
   have hl0:Banks.Lost (Vault.Banks s)=0:=by have:=ziY h.1;omega
   exact ⟨(zkx hs h.1 hl0 to).1.ok,Nat.le_trans (List.length_filter_le _ _) hs.l,fun u hu=>hs.v u (List.mem_filter.1 hu).1⟩
 ·rw [zkd h]
  exact hs
theorem zwx {s:Vault}(hs:VOk s) (to:Int):VOk (ztP s to).1:=by
 unfold ztP
 split
 ·exact ⟨hs.b,Nat.le_trans (List.length_filter_le _ _) hs.l,fun u hu=>hs.v u (List.mem_filter.1 hu).1⟩
 ·exact hs
theorem zxy (w n:Int):VOk (newV w n).1:=by
 unfold newV
 cases h:zoA w n
 ·exact ⟨⟨by simp,by simp,by simp,fun r hr=>by simp at hr,by simp⟩,by simp,by simp⟩
 ·rw [if_pos rfl]
  unfold zoA at h
  rw [decide_eq_true_eq] at h
  obtain ⟨e1,e2,e3,e4⟩:=zrw (w:=w.toNat) (n:=n.toNat) (by omega) (by omega) (by omega)
  exact ⟨zxm (by omega) e2,by simp,by simp⟩
theorem zwj {s:Vault}(hs:VOk s):VOk (zmy s).1:=by
 unfold zmy
 split
 ·exact ⟨hs.b,hs.l,hs.v⟩
 ·exact hs
end Go.Proofs.Ytlgjbfdojbmmgaa
