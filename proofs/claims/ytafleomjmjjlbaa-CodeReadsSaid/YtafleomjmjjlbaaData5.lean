/- The message of the answers. -/
import Derived.Test.YtafleomjmjjlbaaAw15
namespace Go.Aw
open Go
def ansMsg : MsgD := ⟨2, 7, 0, zMod, 0, zHead, []⟩
set_option maxRecDepth 100000 in
theorem encode_ans : encode ansMsg = some [2, 0, 0, 0, 7] := by decide +kernel
set_option maxRecDepth 100000 in
theorem decode_ans (s : Sl) : decode s [2, 0, 0, 0, 7] = (ansMsg, 0) := by rfl
theorem ansMsg_ok (m : Snap) : MsgOk m ansMsg zSl zSl [] := ⟨fzA_nil _, fun _ => rfl, fzR_nil _, rfl⟩
theorem strA : ((strB [2, 0, 0, 0, 7]).toList == ({ data := #[2, 0, 0, 0, 7] } : ByteArray).toList) = true := by decide +kernel
end Go.Aw
