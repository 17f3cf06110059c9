import Derived.Test.YtdfohlonacbelaaGreatQE
set_option linter.unusedSimpArgs false
set_option linter.unusedVariables false
set_option maxRecDepth 100000
namespace Go.Proofs.YtdfohlonacbelaaGreat
open Go.SX
theorem zm2 {p:Proto}(R:R10 p):zff p where
 state:=by have:=R.st;have:=R.c4;omega
 val:=by have:=R.va;have:=R.c4;omega
 wait:=by have:=R.c4;omega
 home:=by have:=R.h16;omega
 frames:=by have:=(zbK.1 R.po).1;omega
def zAg (a:l10_Act):Prop:=(0≤l10_Act.Kind a∧l10_Act.Kind a<256)∧(0≤l10_Act.N a∧l10_Act.N a<256)∧(0≤l10_Act.Line a∧l10_Act.Line a<256)∧(0≤l10_Act.At a∧l10_Act.At a<256)∧U32 (l10_Act.Val a)
theorem zyq {p:Proto}(h:zAM True p) {a:l10_Act}(A:zAg a):∃ q e,zqh p a=some (q,e)∧zjD p a=some (q,e)∧zAM True q:=by
 have R:=h.rt trivial
 have hs:=zm2 R
 have c1:=R.c1
 have h1:=R.h1
 obtain ⟨a1,a2,a3,a4,a5⟩:=A
 have r1:=(zrk (a:=l10_Act.N a) (n:=((Proto.Wait p).length:Int)) a2.1 (by omega)).1
 have r2:=(zrk (a:=l10_Act.Line a) (n:=((Proto.Home p).length:Int)) a3.1 (by omega)).1
 have r3:=(zrk (a:=l10_Act.Kind a) (n:=8) a1.1 (by omega)).1
 have w1:w64 (l10_Act.N a)=l10_Act.N a:=zaV (by omega) (by omega)
 have w2:w64 (l10_Act.Line a)=l10_Act.Line a:=zaV (by omega) (by omega)
 have w3:w64 (l10_Act.At a)=l10_Act.At a:=zaV (by omega) (by omega)
 unfold zqh zjD
 simp only [w1,w2,w3,r1,r2,r3,wC0]
 by_cases k0:(bif decide (l10_Act.Kind a % 8=0) then decide (l10_Act.Kind a % 8=0) else decide (l10_Act.Kind a % 8=1))=true
 ·simp only [k0,if_true]
  obtain ⟨q,e,q1,q2,q3⟩:=zyf h hs (l10_Act.N a % ((Proto.Wait p).length:Int)) (l10_Act.Line a % ((Proto.Home p).length:Int)) (l10_Act.Write a)
  exact ⟨q,e,by rw [q1];rfl,by rw [q2];rfl,q3⟩
 simp only [k0,if_false]
 by_cases k2:l10_Act.Kind a % 8=2
 ·simp only [k2,vE0,if_true]
  obtain ⟨q,e,q1,q2,q3⟩:=zwm h hs (l10_Act.N a % ((Proto.Wait p).length:Int)) (l10_Act.Line a % ((Proto.Home p).length:Int))
  exact ⟨q,e,by rw [q1];rfl,by rw [q2];rfl,q3⟩
 simp only [k2,vF0,wA0,if_false]
 by_cases k3:l10_Act.Kind a % 8=3
 ·simp only [k3,vE0,if_true]
  obtain ⟨q,e,q1,q2,q3⟩:=zyl h hs (l10_Act.N a % ((Proto.Wait p).length:Int)) (l10_Act.Line a % ((Proto.Home p).length:Int)) (l10_Act.Val a) a5
  exact ⟨q,e,by rw [q1];rfl,by rw [q2];rfl,q3⟩
 simp only [k3,vF0,wA0,if_false]
 obtain ⟨i,hi⟩:∃ i,(if decide ((0:Int)<(List.length (Pool.Frames (Proto.Pool p)):Int))=true then (zAX (l10_Act.At a) (List.length (Pool.Frames (Proto.Pool p)):Int)).bind fun v27=>some v27 else some (0:Int))=some i:=by
  by_cases k:(0:Int)<(List.length (Pool.Frames (Proto.Pool p)):Int)
  ·rw [if_pos (vC0 k),(zrk a4.1 k).1];exact ⟨_,rfl⟩
  ·rw [if_neg (by rw [vG0];exact k)];exact ⟨_,rfl⟩
 obtain ⟨q,e,q1,q2,q3⟩:=zsJ h hs i
 exact ⟨q,e,by rw [hi];simp only [wC0,q1],by rw [hi];simp only [wC0,q2],q3⟩
end Go.Proofs.YtdfohlonacbelaaGreat
