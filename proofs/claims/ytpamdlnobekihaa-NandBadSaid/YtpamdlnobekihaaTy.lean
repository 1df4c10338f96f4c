import Derived.Test.YtpamdlnobekihaaProg
import Derived.KernelRfl
namespace Go.Proofs.YtpamdlnobekihaaF
open Go
theorem s_ti3 : (Try.prog.info? 3).map (fun i => (i.size, i.bytes, i.zero)) = some (1, 8, some (Value.int .i64 0)) := by kernel_rfl
theorem s_ti4 : (Try.prog.info? 4).map (fun i => (i.size, i.bytes, i.zero)) = some (1, 1, some (Value.bool false)) := by kernel_rfl
theorem s_ti5 : (Try.prog.info? 5).map (fun i => (i.size, i.bytes, i.zero)) = some (1, 1, some (Value.int .u8 0)) := by kernel_rfl
theorem s_ti23 : (Try.prog.info? 23).map (fun i => (i.size, i.bytes, i.zero)) = some (3, 24, some (Value.agg #[(Value.int .i64 0), (Value.int .i64 0), (Value.int .i64 0)])) := by kernel_rfl
theorem s_ti36 : (Try.prog.info? 36).map (fun i => (i.size, i.bytes, i.zero)) = some (1, 24, some (Value.slice none 0 0)) := by kernel_rfl
theorem s_ti37 : (Try.prog.info? 37).map (fun i => (i.size, i.bytes, i.zero)) = some (1, 24, some (Value.slice none 0 0)) := by kernel_rfl
theorem s_ti51 : (Try.prog.info? 51).map (fun i => (i.size, i.bytes, i.zero)) = some (2, 16, some (Value.agg #[(Value.int .i64 0), (Value.int .i64 0)])) := by kernel_rfl
theorem s_ti59 : (Try.prog.info? 59).map (fun i => (i.size, i.bytes, i.zero)) = some (7, 88, some (Value.agg #[(Value.int .i64 0), (Value.int .i64 0), (Value.int .i64 0), (Value.int .i64 0), (Value.int .i64 0), (Value.slice none 0 0), (Value.slice none 0 0)])) := by kernel_rfl
theorem s_ti63 : (Try.prog.info? 63).map (fun i => (i.size, i.bytes, i.zero)) = some (1, 24, some (Value.slice none 0 0)) := by kernel_rfl
theorem s_ti65 : (Try.prog.info? 65).map (fun i => (i.size, i.bytes, i.zero)) = some (4, 48, some (Value.agg #[(Value.int .i64 0), (Value.int .i64 0), (Value.int .i64 0), (Value.slice none 0 0)])) := by kernel_rfl
theorem s_ti67 : (Try.prog.info? 67).map (fun i => (i.size, i.bytes, i.zero)) = some (1, 24, some (Value.slice none 0 0)) := by kernel_rfl
theorem s_ti69 : (Try.prog.info? 69).map (fun i => (i.size, i.bytes, i.zero)) = some (4, 48, some (Value.agg #[(Value.int .i64 0), (Value.int .i64 0), (Value.int .i64 0), (Value.slice none 0 0)])) := by kernel_rfl
theorem s_ti71 : (Try.prog.info? 71).map (fun i => (i.size, i.bytes, i.zero)) = some (1, 24, some (Value.slice none 0 0)) := by kernel_rfl
theorem s_ti73 : (Try.prog.info? 73).map (fun i => (i.size, i.bytes, i.zero)) = some (17, 200, some (Value.agg #[(Value.int .i64 0), (Value.int .i64 0), (Value.int .i64 0), (Value.int .i64 0), (Value.int .i64 0), (Value.int .i64 0), (Value.slice none 0 0), (Value.int .i64 0), (Value.int .i64 0), (Value.int .i64 0), (Value.slice none 0 0), (Value.slice none 0 0), (Value.int .i64 0), (Value.slice none 0 0), (Value.bool false), (Value.int .i64 0), (Value.int .i64 0)])) := by kernel_rfl
theorem s_ti75 : (Try.prog.info? 75).map (fun i => (i.size, i.bytes, i.zero)) = some (1, 24, some (Value.slice none 0 0)) := by kernel_rfl
theorem s_ti77 : (Try.prog.info? 77).map (fun i => (i.size, i.bytes, i.zero)) = some (3, 24, some (Value.agg #[(Value.int .i64 0), (Value.int .i64 0), (Value.bool false)])) := by kernel_rfl
theorem s_ti82 : (Try.prog.info? 82).map (fun i => (i.size, i.bytes, i.zero)) = some (1, 24, some (Value.slice none 0 0)) := by kernel_rfl
theorem s_ti83 : (Try.prog.info? 83).map (fun i => (i.size, i.bytes, i.zero)) = some (1, 24, some (Value.slice none 0 0)) := by kernel_rfl
theorem s_ti85 : (Try.prog.info? 85).map (fun i => (i.size, i.bytes, i.zero)) = some (4, 48, some (Value.agg #[(Value.slice none 0 0), (Value.int .i64 0), (Value.int .i64 0), (Value.bool false)])) := by kernel_rfl
end Go.Proofs.YtpamdlnobekihaaF
