import Derived.Test.YtgalehapmdabeaaProg
import Derived.KernelRfl
namespace Go.Proofs.YtgalehapmdabeaaF
open Go
theorem s_ti3 : (Try.prog.info? 3).map (fun i => (i.size, i.bytes, i.zero)) = some (1, 8, some (Value.int .i64 0)) := by kernel_rfl
theorem s_ti5 : (Try.prog.info? 5).map (fun i => (i.size, i.bytes, i.zero)) = some (1, 1, some (Value.int .u8 0)) := by kernel_rfl
theorem s_ti22 : (Try.prog.info? 22).map (fun i => (i.size, i.bytes, i.zero)) = some (1, 24, some (Value.slice none 0 0)) := by kernel_rfl
theorem s_ti23 : (Try.prog.info? 23).map (fun i => (i.size, i.bytes, i.zero)) = some (1, 24, some (Value.slice none 0 0)) := by kernel_rfl
theorem s_ti32 : (Try.prog.info? 32).map (fun i => (i.size, i.bytes, i.zero)) = some (2, 32, some (Value.agg #[(Value.int .i64 0), (Value.slice none 0 0)])) := by kernel_rfl
theorem s_ti83 : (Try.prog.info? 83).map (fun i => (i.size, i.bytes, i.zero)) = some (1, 24, some (Value.slice none 0 0)) := by kernel_rfl
theorem s_ti84 : (Try.prog.info? 84).map (fun i => (i.size, i.bytes, i.zero)) = some (2, 16, some (Value.agg #[(Value.int .i64 0), (Value.int .i64 0)])) := by kernel_rfl
theorem s_ti87 : (Try.prog.info? 87).map (fun i => (i.size, i.bytes, i.zero)) = some (3, 24, some (Value.agg #[(Value.int .i64 0), (Value.int .i64 0), (Value.bool false)])) := by kernel_rfl
theorem s_ti101 : (Try.prog.info? 101).map (fun i => (i.size, i.bytes, i.zero)) = some (1, 24, some (Value.agg #[(Value.slice none 0 0)])) := by kernel_rfl
theorem s_ti132 : (Try.prog.info? 132).map (fun i => (i.size, i.bytes, i.zero)) = some (255, 255, some (.agg (List.replicate 255 (Value.int .u8 0)).toArray)) := by kernel_rfl
theorem s_ti134 : (Try.prog.info? 134).map (fun i => (i.size, i.bytes, i.zero)) = some (256, 2048, some (.agg (List.replicate 256 (Value.int .i64 0)).toArray)) := by kernel_rfl
theorem s_ti141 : (Try.prog.info? 141).map (fun i => (i.size, i.bytes, i.zero)) = some (1, 24, some (Value.agg #[(Value.slice none 0 0)])) := by kernel_rfl
end Go.Proofs.YtgalehapmdabeaaF
