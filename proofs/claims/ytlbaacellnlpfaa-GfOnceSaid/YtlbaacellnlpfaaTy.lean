import Derived.Test.YtlbaacellnlpfaaProg
import Derived.KernelRfl
namespace Go.Proofs.YtlbaacellnlpfaaF
open Go
theorem s_ti3 : (Try.prog.info? 3).map (fun i => (i.size, i.bytes, i.zero)) = some (1, 8, some (Value.int .i64 0)) := by kernel_rfl
theorem s_ti5 : (Try.prog.info? 5).map (fun i => (i.size, i.bytes, i.zero)) = some (1, 1, some (Value.int .u8 0)) := by kernel_rfl
theorem s_ti36 : (Try.prog.info? 36).map (fun i => (i.size, i.bytes, i.zero)) = some (256, 2048, some (.agg (List.replicate 256 (Value.int .i64 0)).toArray)) := by kernel_rfl
end Go.Proofs.YtlbaacellnlpfaaF
