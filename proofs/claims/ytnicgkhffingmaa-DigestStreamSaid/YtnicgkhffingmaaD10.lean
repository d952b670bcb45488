/- Digest: the reference's digests, with a key and without. -/
import Derived.Test.YtnicgkhffingmaaD9
set_option linter.unusedVariables false
set_option linter.unusedSimpArgs false
namespace Go.Proofs.Ytnicgkhffingmaa
open Go Av
set_option maxRecDepth 20000
theorem app_list (l : List UInt8) (d : ByteArray) : ((⟨l.toArray⟩ : ByteArray) ++ d).data.toList = l ++ d.data.toList := by
  rw [ByteArray.data_append, Array.toList_append]
theorem app_size (l : List UInt8) (d : ByteArray) : ((⟨l.toArray⟩ : ByteArray) ++ d).size = l.length + d.size := by
  rw [ByteArray.size_append]; rfl
end Go.Proofs.Ytnicgkhffingmaa
