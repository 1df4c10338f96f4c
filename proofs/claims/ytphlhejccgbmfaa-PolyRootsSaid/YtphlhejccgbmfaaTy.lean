import Derived.Test.YtphlhejccgbmfaaProg
import Derived.KernelRfl
namespace Go.Proofs.YtphlhejccgbmfaaF
open Go
theorem s_ti3 : (Try.prog.info? 3).map (fun i => (i.size, i.bytes, i.zero)) = some (1, 8, some (Value.int .i64 0)) := by kernel_rfl
theorem s_ti4 : (Try.prog.info? 4).map (fun i => (i.size, i.bytes, i.zero)) = some (1, 1, some (Value.bool false)) := by kernel_rfl
theorem s_ti5 : (Try.prog.info? 5).map (fun i => (i.size, i.bytes, i.zero)) = some (1, 1, some (Value.int .u8 0)) := by kernel_rfl
theorem s_ti23 : (Try.prog.info? 23).map (fun i => (i.size, i.bytes, i.zero)) = some (1, 24, some (Value.slice none 0 0)) := by kernel_rfl
theorem s_ti38 : (Try.prog.info? 38).map (fun i => (i.size, i.bytes, i.zero)) = some (256, 256, some (.agg (List.replicate 256 (Value.bool false)).toArray)) := by kernel_rfl
theorem s_ti45 : (Try.prog.info? 45).map (fun i => (i.size, i.bytes, i.zero)) = some (1, 24, some (Value.agg #[(Value.slice none 0 0)])) := by kernel_rfl
end Go.Proofs.YtphlhejccgbmfaaF
