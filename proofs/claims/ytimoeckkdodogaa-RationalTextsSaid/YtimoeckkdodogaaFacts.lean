/- Closed facts about the types of the program. -/
import Derived.Test.YtimoeckkdodogaaOps2
import Derived.Test.YtimoeckkdodogaaProg
import Derived.KernelRfl
import Derived.Laws.Externs
namespace Go.Proofs.Ytimoeckkdodogaa
open Bk Go
theorem info4 : Try.prog.info? 4 = some Try.t4 := by kernel_rfl
theorem info5 : Try.prog.info? 5 = some Try.t5 := by kernel_rfl
theorem info22 : Try.prog.info? 22 = some Try.t22 := by kernel_rfl
theorem info24 : Try.prog.info? 24 = some Try.t24 := by kernel_rfl
theorem info27 : Try.prog.info? 27 = some Try.t27 := by kernel_rfl
theorem info61 : Try.prog.info? 61 = some Try.t61 := by kernel_rfl
theorem size4 : (Try.prog.info? 4).map (·.size) = some 1 := by rw [info4]; rfl
theorem size5 : (Try.prog.info? 5).map (·.size) = some 1 := by rw [info5]; rfl
theorem size22 : (Try.prog.info? 22).map (·.size) = some 1 := by rw [info22]; rfl
theorem size24 : (Try.prog.info? 24).map (·.size) = some 3 := by rw [info24]; rfl
theorem places24 {fs : Array Go.Field} (hu : Try.prog.underlying 24 = some (.struct fs)) (w : Go.World) : (fs.mapM fun (f : Go.Field) => do pure (f.offset, ← Go.sizeOf f.type)).run Try.prog w = .ok #[(0, 1), (1, 1), (2, 1)] w := by
  rw [Try.underlying24] at hu
  cases hu
  simp [Try.sizeOf4, Try.sizeOf22, Try.sizeOf22]
theorem size27 : (Try.prog.info? 27).map (·.size) = some 3 := by rw [info27]; rfl
theorem places27 {fs : Array Go.Field} (hu : Try.prog.underlying 27 = some (.struct fs)) (w : Go.World) : (fs.mapM fun (f : Go.Field) => do pure (f.offset, ← Go.sizeOf f.type)).run Try.prog w = .ok #[(0, 1), (1, 1), (2, 1)] w := by
  rw [Try.underlying27] at hu
  cases hu
  simp [Try.sizeOf4, Try.sizeOf22, Try.sizeOf22]
theorem size61 : (Try.prog.info? 61).map (·.size) = some 1 := by rw [info61]; rfl
theorem add64_fn : Try.prog.funcs[123]? = some (Try.prog.funcs[123]!) := by kernel_rfl
theorem add64 (x y : Nat) (w : World) : (callFunc 123 #[vU .u64 x, vU .u64 y, vU .u64 0]).run Try.prog w = .ok (.value (.tuple #[vU .u64 ((x + y) % 18446744073709551616), vU .u64 ((x + y) / 18446744073709551616)])) w := by
  unfold vU
  rw [run_callFunc_extern add64_fn (by kernel_rfl) (by kernel_rfl) (by kernel_rfl) (e := add64Entry) (by kernel_rfl), run_add64 x y (0 : Nat) (by omega) (by omega) (by omega) (by omega)]
  simp only [Result.andThen]
  congr 5 <;> omega
theorem mixed : Try.prog.follows .mixedOrders = true := by kernel_rfl
end Go.Proofs.Ytimoeckkdodogaa
