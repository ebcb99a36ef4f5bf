
/- Strings as lists of bytes. No condition. -/
import Derived.Test.YtpjncojljamacaaGreatAD
set_option linter.unusedVariables false
set_option linter.unusedSimpArgs false
namespace Go.Proofs.YtpjncojljamacaaGreat.AM
open Go Go.RowKit

def bs (l : List UInt8) : ByteArray := ⟨l.toArray⟩
theorem bs_of (s : ByteArray) : s = bs s.data.toList := by cases s; simp [bs]
theorem bs_inj {a b : List UInt8} (h : bs a = bs b) : a = b := by
  have := congrArg (fun s : ByteArray => s.data.toList) h
  simpa [bs] using this
@[go_sem] theorem bs_mk (l : List UInt8) : ByteArray.mk (List.toArray l) = bs l := rfl
@[go_sem] theorem bs_size (l : List UInt8) : (bs l).size = l.length := by simp [bs, ByteArray.size]
@[go_sem] theorem bs_data (l : List UInt8) : (bs l).data.toList = l := by simp [bs]
@[go_sem] theorem bs_toList (l : List UInt8) : (bs l).toList = l := by rw [ByteArray.toList_eq, bs_data]
@[go_sem] theorem beq_str (a b : List UInt8) : (a == b) = decide (a = b) := Bool.eq_iff_iff.2 (by simp)
@[go_sem] theorem bs_extract (l : List UInt8) (a b : Nat) : (bs l).extract a b = bs ((l.drop a).take (b - a)) := by
  have : ((bs l).extract a b).data.toList = (l.drop a).take (b - a) := by
    rw [ByteArray.data_extract]
    simp [bs, List.extract_eq_take_drop]
  rw [bs_of ((bs l).extract a b), this]
@[go_sem] theorem bs_app (a b : List UInt8) : bs a ++ bs b = bs (a ++ b) := by
  rw [bs_of (bs a ++ bs b)]
  congr 1
  all_goals simp [bs]
@[go_sem high] theorem str_add (a b : List UInt8) : strBin .add (bs a) (bs b) = if a.length + b.length ≤ 9223372036854775807 then some (.str (bs (a ++ b))) else none := by
  have : bs a ++ bs b = bs (a ++ b) := by
    rw [bs_of (bs a ++ bs b)]
    congr 1
    all_goals simp [bs]
  simp only [strBin, bs_size, this]
@[go_sem high] theorem str_eql (a b : List UInt8) : strBin .eql (bs a) (bs b) = some (.bool (decide (a = b))) := by
  simp only [strBin, bs_toList]
  rw [show (a == b) = decide (a = b) from Bool.eq_iff_iff.2 (by simp)]
@[go_sem high] theorem str_neq (a b : List UInt8) : strBin .neq (bs a) (bs b) = some (.bool (!decide (a = b))) := by
  simp only [strBin, bs_toList]
  rw [show (a == b) = decide (a = b) from Bool.eq_iff_iff.2 (by simp)]
@[go_sem high] theorem str_lss (a b : List UInt8) : strBin .lss (bs a) (bs b) = some (.bool (Op.bytesLess a b)) := by simp only [strBin, bs_toList]
@[go_sem high] theorem str_gtr (a b : List UInt8) : strBin .gtr (bs a) (bs b) = some (.bool (!(Op.bytesLess a b || decide (a = b)))) := by
  simp only [strBin, bs_toList]
  rw [show (a == b) = decide (a = b) from Bool.eq_iff_iff.2 (by simp)]
@[go_sem] theorem bytesOf_nil : bytesOf? [] = some [] := rfl
@[go_sem] theorem bytesOf_cons (n : Int) (l : List IV) : bytesOf? (.int .u8 n :: l) = (bytesOf? l).map fun q => UInt8.ofNat n.toNat :: q := rfl
attribute [go_sem] isU8
end Go.Proofs.YtpjncojljamacaaGreat.AM
