import Derived.Test.YtphlhejccgbmfaaProg
import Derived.KernelRfl
namespace Go.Proofs.YtphlhejccgbmfaaF
open Go
theorem s_ti3 : (Try.prog.info? 3).map (fun i => (i.size, i.bytes, i.zero)) = some (1, 8, some (.int .i64 0)) := by kernel_rfl
theorem s_ti5 : (Try.prog.info? 5).map (fun i => (i.size, i.bytes, i.zero)) = some (1, 1, some (.int .u8 0)) := by kernel_rfl
theorem s_ti23 : (Try.prog.info? 23).map (fun i => (i.size, i.bytes, i.zero)) = some (1, 24, some (.slice none 0 0)) := by kernel_rfl
theorem s_ti45 : (Try.prog.info? 45).map (fun i => (i.size, i.bytes, i.zero)) = some (1, 24, some (.agg #[(.slice none 0 0)])) := by kernel_rfl
end Go.Proofs.YtphlhejccgbmfaaF
