/- The plain words of chapter 3, writing: what Text and List answer. -/
import Derived.Test.YtfifcanpdjdhcaaPkTake
import Derived.Test.YtfifcanpdjdhcaaJoin
namespace Go.Proofs.Ytfifcanpdjdhcaa.Pk
open Go.RowKit Go.IntWalk Go.Proofs.YtfifcanpdjdhcaaW.PrintWords Go.Proofs.YtfifcanpdjdhcaaW.PrintMore

/-- The form of a text. -/
def item (s : ByteArray) : List UInt8 := enc s.size ++ s.data.toList
def text (s : ByteArray) : ByteArray × Int := if s.size > 2000 then (⟨#[]⟩, 2) else (⟨(enc s.size ++ s.data.toList).toArray⟩, 0)
theorem text_long {s : ByteArray} (h : s.size > 2000) : text s = (⟨#[]⟩, 2) := by rw [text, if_pos h]
theorem text_ok {s : ByteArray} (h : ¬ s.size > 2000) : text s = (⟨(item s).toArray⟩, 0) := by rw [text, if_neg h]; rfl
theorem item_len {s : ByteArray} (h : s.size ≤ 2000) : (item s).length ≤ 2008 := by
  have hl := enc_len8 (n := s.size) (by omega)
  have hs : s.data.toList.length = s.size := by simp
  rw [item, List.length_append, hs]
  omega
theorem two_len {s : ByteArray} (hl : (enc s.size).length ≤ 8) (h : ¬ s.size > 2000) : ((⟨(enc s.size).toArray⟩ : ByteArray).data.toList ++ s.data.toList).length ≤ 140737488355328 := by
  have hs : s.data.toList.length = s.size := by simp
  rw [List.length_append, hs]
  show (enc s.size).toArray.toList.length + _ ≤ _
  rw [List.toList_toArray]
  omega
theorem cat_two (a s : ByteArray) : Joins.cat [a, s] = a.data.toList ++ s.data.toList := by simp [Joins.cat]
theorem cat_snoc (l : List ByteArray) (a : ByteArray) : Joins.cat (l ++ [a]) = Joins.cat l ++ a.data.toList := by simp [Joins.cat]
theorem mk_append (l : List UInt8) (s : ByteArray) : (⟨l.toArray⟩ : ByteArray) ++ s = ⟨(l ++ s.data.toList).toArray⟩ := by
  apply ByteArray.ext
  rw [ByteArray.data_append]
  apply Array.ext'
  simp

/-- The forms of some texts, one behind the other; none: one is too long. -/
def texts : List ByteArray → Option (List UInt8)
  | [] => some []
  | s :: l => if s.size > 2000 then none else match texts l with | none => none | some t => some (item s ++ t)
/-- What List answers. -/
def list (l : List ByteArray) : ByteArray × Int := if l.length > 4000 then (⟨#[]⟩, 2) else match texts l with | none => (⟨#[]⟩, 2) | some t => (⟨(enc l.length ++ t).toArray⟩, 0)
end Go.Proofs.Ytfifcanpdjdhcaa.Pk
