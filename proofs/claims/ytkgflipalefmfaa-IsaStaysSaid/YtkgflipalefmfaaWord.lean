/- The words of layer 1: what each function of the cut tells, said in numbers. -/
import Derived.Test.YtkgflipalefmfaaTrees
namespace Go.Proofs.Ytkgflipalefmfaa
open Go.SX

def noC : FuncId → List D → Option (List D) := fun _ _ => none
theorem noC_ok : CallsOk cx noC := fun _ _ _ _ _ _ _ h => by cases h
noncomputable abbrev EV : Tree → List D → Option Res := evL cx 12 noC
noncomputable abbrev CA : FuncId → List D → Option (List D) := callL cx 12 noC
theorem call_of {f : FuncId} {t : Tree} {ds : List D} (ht : treeOf cx 12 f = some t) : CA f ds = match EV t ds with
    | some (.jmp _ _ rs) => some rs
    | _ => none := callL_eq cx 12 noC ht rfl
theorem call_now {f : FuncId} {ds rs : List D} (k d : Nat) (h : callF cx k 12 noC d f ds = some rs) : CA f ds = some rs := (callL_some cx 12 noC).2 ⟨k, d, h⟩

theorem awake1 : CA 10 [] = some [.bool true] := call_now 60 10 (by kernel_rfl)

def u32 (n : Int) : Int := n % 4294967296
theorem wrap32 (n : Int) : IntKind.wrap .u32 n = u32 n := by simp [IntKind.wrap, IntKind.signed, IntKind.bits, u32]
theorem wrap64 (n : Int) : IntKind.wrap .u64 n = n % 18446744073709551616 := by simp [IntKind.wrap, IntKind.signed, IntKind.bits]
theorem wrap8 (n : Int) : IntKind.wrap .u8 n = n % 256 := by simp [IntKind.wrap, IntKind.signed, IntKind.bits]

theorem do_add (b c : Int) : CA 11 [.int .i64 2, .int .u32 b, .int .u32 c] = some [.int .u32 (u32 (b + c)), .bool true] := by
  rw [call_of t11]
  simp [T11, evL_prim, evL_ite, evL_jmp, gets, At.get, Prim.run, binD, binI, wrap32]
theorem do_mul (b c : Int) : CA 11 [.int .i64 4, .int .u32 b, .int .u32 c] = some [.int .u32 (u32 (b * c)), .bool true] := by
  rw [call_of t11]
  simp [T11, evL_prim, evL_ite, evL_jmp, gets, At.get, Prim.run, binD, binI, wrap32]
theorem sums (a b c : Int) : CA 6 [.int .u32 a, .int .u32 b, .int .u32 c] = some [.bool true] := by
  rw [call_of t6]
  have e1 : u32 (u32 (a + b) * c) = u32 (u32 (a * c) + u32 (b * c)) := by
    unfold u32
    rw [← Int.add_emod, ← Int.add_mul, Int.mul_emod, Int.emod_emod_of_dvd _ (Int.dvd_refl _), ← Int.mul_emod]
  have e2 : u32 (b + a) = u32 (a + b) := by rw [Int.add_comm]
  have e3 : u32 (c * a) = u32 (a * c) := by rw [Int.mul_comm]
  simp [T6, evL_prim, evL_ite, evL_jmp, evL_call, evL_sub, gets, At.get, Prim.run, binD, binI, unD, awake1, do_add, do_mul, e1, e2, e3]

end Go.Proofs.Ytkgflipalefmfaa
