/- Slice types of chapter 03. -/
import Derived.Test.YtgodliookpgliaaDoorProg
import Derived.Test.YtgodliookpgliaaDoorWk7
import Derived.KernelRfl
namespace Go.Proofs.YtgodliookpgliaaDoor
open Go.RowKit

variable {S S' : Nat → Prop}

theorem El22 : El Tryd.prog 22 5 (.int .u8 0) 1 1 := ⟨Tryd.underlying22, by kernel_rfl, rfl, by decide⟩
theorem El30 : El Tryd.prog 30 26 (.agg #[(.int .u8 0), (.int .u8 0), (.int .u8 0), (.int .u8 0), (.int .u8 0), (.int .u8 0), (.int .u8 0), (.int .u8 0), (.int .u8 0), (.int .u8 0), (.int .u8 0), (.int .u8 0), (.int .u8 0), (.int .u8 0), (.int .u8 0), (.int .u8 0), (.int .u8 0), (.int .u8 0), (.int .u8 0), (.int .u8 0), (.int .u8 0), (.int .u8 0), (.int .u8 0), (.int .u8 0), (.int .u8 0), (.int .u8 0), (.int .u8 0), (.int .u8 0), (.int .u8 0), (.int .u8 0), (.int .u8 0), (.int .u8 0)]) 32 32 := ⟨Tryd.underlying30, by kernel_rfl, rfl, by decide⟩
theorem El33 : El Tryd.prog 33 3 (.int .i64 0) 1 8 := ⟨Tryd.underlying33, by kernel_rfl, rfl, by decide⟩
theorem El60 : El Tryd.prog 60 4 (.bool false) 1 1 := ⟨Tryd.underlying60, by kernel_rfl, rfl, by decide⟩
end Go.Proofs.YtgodliookpgliaaDoor
