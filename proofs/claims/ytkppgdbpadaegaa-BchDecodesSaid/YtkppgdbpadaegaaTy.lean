import Derived.Test.YtkppgdbpadaegaaProg
import Derived.KernelRfl
namespace Go.Proofs.YtkppgdbpadaegaaF
open Go
theorem s_ti3 : (Try.prog.info? 3).map (fun i => (i.size, i.bytes, i.zero)) = some (1, 8, some (Value.int .i64 0)) := by kernel_rfl
theorem s_ti5 : (Try.prog.info? 5).map (fun i => (i.size, i.bytes, i.zero)) = some (1, 1, some (Value.int .u8 0)) := by kernel_rfl
theorem s_ti22 : (Try.prog.info? 22).map (fun i => (i.size, i.bytes, i.zero)) = some (1, 24, some (Value.slice none 0 0)) := by kernel_rfl
theorem s_ti47 : (Try.prog.info? 47).map (fun i => (i.size, i.bytes, i.zero)) = some (1, 24, some (Value.agg #[(Value.slice none 0 0)])) := by kernel_rfl
theorem s_ti53 : (Try.prog.info? 53).map (fun i => (i.size, i.bytes, i.zero)) = some (255, 255, some (.agg (List.replicate 255 (Value.int .u8 0)).toArray)) := by kernel_rfl
theorem s_ti72 : (Try.prog.info? 72).map (fun i => (i.size, i.bytes, i.zero)) = some (1, 24, some (Value.agg #[(Value.slice none 0 0)])) := by kernel_rfl
theorem s_ti76 : (Try.prog.info? 76).map (fun i => (i.size, i.bytes, i.zero)) = some (256, 2048, some (.agg (List.replicate 256 (Value.int .i64 0)).toArray)) := by kernel_rfl
end Go.Proofs.YtkppgdbpadaegaaF
