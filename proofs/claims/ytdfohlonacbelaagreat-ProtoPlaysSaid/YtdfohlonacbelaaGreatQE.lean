import Derived.Test.YtdfohlonacbelaaGreatQD
set_option linter.unusedSimpArgs false
set_option linter.unusedVariables false
set_option maxRecDepth 100000
namespace Go.Proofs.YtdfohlonacbelaaGreat
open Go.SX
theorem zjo {α:Type}{b i:Nat}{x:α}(hi:i≤1000) (hb:b≤10000):zAK b (List.replicate i x) [x]=some (List.replicate (i + 1) x):=by
 rw [za2 (by simp;omega) hb,List.replicate_succ']
theorem zxQ {c:Nat}(h1:1≤c) (h4:c≤4):zj3 (c:Int)=some (Entry.mk 0 (List.replicate c false),0):=by
 unfold zj3
 have hc:¬ (decide ((c:Int)<1)||decide (4<(c:Int)))=true:=by
  simp only [Bool.or_eq_true,vG0];omega
 rw [if_neg hc,zhJ (by omega) (by omega)]
 rfl
theorem zz4 {c:Nat}(h1:1≤c) (h4:c≤4):zto (c:Int)=some (Entry.mk 0 (List.replicate c false),0):=zxQ h1 h4
theorem zkE {α:Type}(P:α→Prop) {c:Nat}{x:α}(hx:P x):∀ i (hi:i<(List.replicate c x).length),P (List.replicate c x)[i]:=fun i hi=>by
 rw [List.getElem_replicate];exact hx
def zA8 (c h:Nat):Proto:=Proto.mk (List.replicate c (List.replicate h 0)) (List.replicate c (List.replicate h 0)) (List.replicate c w00) (List.replicate h 0) (List.replicate h (Entry.mk 0 (List.replicate c false))) (List.replicate h 0) (Pool.mk [])
def none0:Proto:=Proto.mk [] [] [] [] [] [] (Pool.mk [])
theorem zAp {c h:Nat}(h1:1≤c) (h4:c≤4) (h1':1≤h) (h16:h≤16):zAM True (zA8 c h) where
 st:=⟨by show (List.replicate c _).length≤1000;simp;omega,fun r hr=>by rw [List.eq_of_mem_replicate hr];simp;omega⟩
 va:=⟨by show (List.replicate c _).length≤1000;simp;omega,fun r hr=>by rw [List.eq_of_mem_replicate hr];simp;omega⟩
 vw:=fun r hr x hx=>by rw [List.eq_of_mem_replicate hr] at hx;rw [List.eq_of_mem_replicate hx];exact u0
 wa:=by show (List.replicate c _).length≤1000;simp;omega
 ww:=fun w hw=>by rw [List.eq_of_mem_replicate hw];exact u0
 ho:=by show (List.replicate h _).length≤1000;simp;omega
 hw:=fun x hx=>by rw [List.eq_of_mem_replicate hx];exact u0
 di:=⟨by show (List.replicate h _).length≤1000;simp;omega,fun e he=>by rw [List.eq_of_mem_replicate he];show (List.replicate c false).length≤1000;simp;omega⟩
 bu:=by show (List.replicate h _).length≤1000;simp;omega
 po:=⟨by show ([]:List (List Int)).length≤1000;simp,fun b hb=>absurd hb (List.not_mem_nil)⟩
 rt:=fun _ =>
  {c1:=by show 1≤(List.replicate c _).length;simpa using h1
   c4:=by show (List.replicate c _).length≤4;simpa using h4
   h1:=by show 1≤(List.replicate h _).length;simpa using h1'
   h16:=by show (List.replicate h _).length≤16;simpa using h16
   st:=by show (List.replicate c _).length=(List.replicate c _).length;simp
   va:=by show (List.replicate c _).length=(List.replicate c _).length;simp
   di:=by show (List.replicate h _).length=(List.replicate h _).length;simp
   bu:=by show (List.replicate h _).length=(List.replicate h _).length;simp
   sr:=zkE (fun r:List Int=>r.length=(List.replicate h (0:Int)).length) (c:=c) (x:=List.replicate h 0) rfl
   vr:=zkE (fun r:List Int=>r.length=(List.replicate h (0:Int)).length) (c:=c) (x:=List.replicate h 0) rfl
   po:=rfl
   wt:=zkE (fun w=>zdC (List.replicate h (0:Int)).length w=true) (c:=c) (x:=w00) (zqO _)
   sb:=zkE (fun r:List Int=>r.all stB=true) (c:=c) (x:=List.replicate h 0) (by
    rw [List.all_eq_true]
    intro x hx
    rw [List.eq_of_mem_replicate hx];rfl)
   dm:=zkE (fun e=>zAP e ((List.replicate c w00).length:Int)=true) (c:=h) (x:=Entry.mk 0 (List.replicate c false)) (zbM.2 ⟨⟨by simp;omega,by simp;omega,by show ((List.replicate c false).length:Int)=((List.replicate c w00).length:Int);simp,by show (0:Int)≤0;omega,by show (0:Int)≤((List.replicate c w00).length:Int);omega⟩,.inl rfl⟩)
   bb:=zkE (fun x:Int=>0≤x∧x≤((List.replicate c w00).length:Int)) (c:=h) (x:=0) ⟨by omega,by omega⟩ }
theorem zyN (c h:Int):(zhg c h=some (none0,1)∧znB c h=some (none0,1))∨∃ c' h':Nat,1≤c'∧c'≤4∧1≤h'∧h'≤16∧zhg c h=some (zA8 c' h',0)∧znB c h=some (zA8 c' h',0):=by
 unfold zhg znB
 by_cases hc:((decide (c<(1:Int)))||((decide ((4:Int)<c))||((decide (h<(1:Int)))||(decide ((16:Int)<h)))))=true
 ·rw [if_pos hc,if_pos hc];exact .inl ⟨rfl,rfl⟩
 rw [if_neg hc,if_neg hc]
 simp only [Bool.or_eq_true,vG0] at hc
 obtain ⟨n,rfl⟩:∃ n:Nat,c=(n:Int):=⟨c.toNat,by omega⟩
 obtain ⟨k,rfl⟩:∃ k:Nat,h=(k:Int):=⟨h.toNat,by omega⟩
 have r1:zA2 (Wait.mk (0:Int) false false false false false (0:Int) (0:Int) (0:Int)) 40 (n:Int) (n:Int)=some (List.replicate n w00):=zhJ (by omega) (by omega)
 have r2:zA2 (0:Int) 4 (k:Int) (k:Int)=some (List.replicate k 0):=zhJ (by omega) (by omega)
 have r3:zA2 (0:Int) 8 (k:Int) (k:Int)=some (List.replicate k 0):=zhJ (by omega) (by omega)
 have l1:=zaF (f:=zdp (n:Int) (k:Int)) (n:=n) (e:=(List.replicate n (List.replicate k 0),List.replicate n (List.replicate k 0))) (fun i=>((i:Int),List.replicate i (List.replicate k 0),List.replicate i (List.replicate k 0))) (fun i hi=>by
  unfold zdp
  simp only [show (i:Int)<(n:Int) by omega,vE0,if_true,r2,r3,wC0,zjo (b:=24) (show i≤1000 by omega) (by omega),zas (show i<4611686018427387904 by omega)]) (by
  unfold zdp
  simp only [show ¬ (n:Int)<(n:Int) by omega,vF0,wA0,if_false])
 have l2:=zaF (f:=zdg (n:Int) (k:Int)) (n:=k) (e:=List.replicate k (Entry.mk 0 (List.replicate n false))) (fun i=>((i:Int),List.replicate i (Entry.mk 0 (List.replicate n false)))) (fun i hi=>by
  unfold zdg
  simp only [show (i:Int)<(k:Int) by omega,vE0,if_true,zxQ (show 1≤n by omega) (by omega),wC0,zjo (b:=32) (show i≤1000 by omega) (by omega),zas (show i<4611686018427387904 by omega)]) (by
  unfold zdg
  simp only [show ¬ (k:Int)<(k:Int) by omega,vF0,wA0,if_false])
 have l3:=zaF (f:=zfn (n:Int) (k:Int)) (n:=n) (e:=(List.replicate n (List.replicate k 0),List.replicate n (List.replicate k 0),List.replicate n w00)) (fun i=>((i:Int),List.replicate i (List.replicate k 0),List.replicate i (List.replicate k 0),List.replicate i w00)) (fun i hi=>by
  unfold zfn
  rw [show Wait.mk (0:Int) false false false false false (0:Int) (0:Int) (0:Int)=w00 from rfl]
  simp only [show (i:Int)<(n:Int) by omega,vE0,if_true,r2,r3,wC0,zjo (b:=24) (show i≤1000 by omega) (by omega),zjo (b:=40) (show i≤1000 by omega) (by omega),zas (show i<4611686018427387904 by omega)]) (by
  unfold zfn
  simp only [show ¬ (n:Int)<(n:Int) by omega,vF0,wA0,if_false])
 have l4:=zaF (f:=zfh (n:Int) (k:Int)) (n:=k) (e:=(List.replicate k 0,List.replicate k (Entry.mk 0 (List.replicate n false)),List.replicate k 0)) (fun i=>((i:Int),List.replicate i 0,List.replicate i (Entry.mk 0 (List.replicate n false)),List.replicate i 0)) (fun i hi=>by
  unfold zfh
  simp only [show (i:Int)<(k:Int) by omega,vE0,if_true,zz4 (show 1≤n by omega) (by omega),wC0,zjo (b:=32) (show i≤1000 by omega) (by omega),zjo (b:=4) (show i≤1000 by omega) (by omega),zjo (b:=8) (show i≤1000 by omega) (by omega),zas (show i<4611686018427387904 by omega)]) (by
  unfold zfh
  simp only [show ¬ (k:Int)<(k:Int) by omega,vF0,wA0,if_false])
 refine .inr ⟨n,k,by omega,by omega,by omega,by omega,?_,?_⟩
 ·simp only [r1,r2,r3,wC0]
  rw [show (zaf (zdp (n:Int) (k:Int)) ((0:Int),([]:List (List Int)),([]:List (List Int))))=_ from l1]
  simp only [wC0]
  rw [show (zaf (zdg (n:Int) (k:Int)) ((0:Int),([]:List Entry)))=_ from l2]
  rfl
 ·rw [show (zaf (zfn (n:Int) (k:Int)) ((0:Int),([]:List (List Int)),([]:List (List Int)),([]:List Wait)))=_ from l3]
  simp only [wC0]
  rw [show (zaf (zfh (n:Int) (k:Int)) ((0:Int),([]:List Int),([]:List Entry),([]:List Int)))=_ from l4]
  rfl
end Go.Proofs.YtdfohlonacbelaaGreat
