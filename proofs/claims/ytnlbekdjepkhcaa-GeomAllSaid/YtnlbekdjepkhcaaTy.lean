import Derived.Test.YtnlbekdjepkhcaaProg
import Derived.KernelRfl
namespace Go.Proofs.YtnlbekdjepkhcaaF
open Go
theorem s_ti3 : (Try.prog.info? 3).map (fun i => (i.size, i.bytes, i.zero)) = some (1, 8, some (Value.int .i64 0)) := by kernel_rfl
theorem s_ti4 : (Try.prog.info? 4).map (fun i => (i.size, i.bytes, i.zero)) = some (1, 1, some (Value.bool false)) := by kernel_rfl
theorem s_ti5 : (Try.prog.info? 5).map (fun i => (i.size, i.bytes, i.zero)) = some (1, 1, some (Value.int .u8 0)) := by kernel_rfl
theorem s_ti25 : (Try.prog.info? 25).map (fun i => (i.size, i.bytes, i.zero)) = some (3, 24, some (Value.agg #[(Value.int .i64 0), (Value.int .i64 0), (Value.int .i64 0)])) := by kernel_rfl
theorem s_ti29 : (Try.prog.info? 29).map (fun i => (i.size, i.bytes, i.zero)) = some (1, 24, some (Value.slice none 0 0)) := by kernel_rfl
theorem s_ti42 : (Try.prog.info? 42).map (fun i => (i.size, i.bytes, i.zero)) = some (1, 24, some (Value.slice none 0 0)) := by kernel_rfl
theorem s_ti53 : (Try.prog.info? 53).map (fun i => (i.size, i.bytes, i.zero)) = some (2, 16, some (Value.agg #[(Value.int .i64 0), (Value.int .i64 0)])) := by kernel_rfl
theorem s_ti56 : (Try.prog.info? 56).map (fun i => (i.size, i.bytes, i.zero)) = some (12, 12, some (Value.agg #[(Value.bool false), (Value.bool false), (Value.bool false), (Value.bool false), (Value.bool false), (Value.bool false), (Value.bool false), (Value.bool false), (Value.bool false), (Value.bool false), (Value.bool false), (Value.bool false)])) := by kernel_rfl
end Go.Proofs.YtnlbekdjepkhcaaF
