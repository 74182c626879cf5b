/- Plain lemmas on texts as lists of octets; no condition. -/
import Derived.Test.YtjfjmniegceejaaDoorPx0
import Derived.Test.YtjfjmniegceejaaDoorWWords
import Derived.Laws.Strings
namespace Go.Proofs.YtjfjmniegceejaaDoor.L
open Go Go.RowKit Go.Proofs.YtjfjmniegceejaaDoorW.PrintWords

/-- A text's octets. -/
abbrev os (s : ByteArray) : List UInt8 := s.data.toList

theorem toList_os (s : ByteArray) : s.toList = os s := ByteArray.toList_eq s
theorem size_os (s : ByteArray) : s.size = (os s).length := (Array.length_toList (xs := s.data)).symm
theorem os_inj {s t : ByteArray} (h : os s = os t) : s = t := by
  cases s with | mk a => cases t with | mk b =>
  have : a = b := Array.toList_inj.1 h
  rw [this]
theorem os_iff {s t : ByteArray} : os s = os t ↔ s = t := ⟨os_inj, fun h => by rw [h]⟩
theorem os_mk (l : List UInt8) : os (⟨l.toArray⟩ : ByteArray) = l := rfl
theorem os_append (s t : ByteArray) : os (s ++ t) = os s ++ os t := by
  simp [os, ByteArray.data_append]
theorem os_extract (s : ByteArray) (a b : Nat) : os (s.extract a b) = ((os s).drop a).take (b - a) := by
  simp [os, ByteArray.data_extract, Array.toList_extract, List.extract]
theorem bt_os (s : ByteArray) (i : Nat) : bt s (i : Int) = (((os s)[i]?.getD 0).toNat : Int) := by
  unfold bt
  have hs := size_os s
  by_cases h : ((i : Nat) : Int).toNat < s.size
  · rw [dif_pos h]
    have h' : i < (os s).length := by simp at h; omega
    rw [List.getElem?_eq_getElem h']
    rfl
  · rw [dif_neg h]
    have h' : (os s).length ≤ i := by simp at h; omega
    rw [List.getElem?_eq_none h']
    rfl
theorem bt_os' (s : ByteArray) {i : Int} (h : 0 ≤ i) : bt s i = (((os s)[i.toNat]?.getD 0).toNat : Int) := by
  have := bt_os s i.toNat
  rwa [Int.toNat_of_nonneg h] at this
theorem wrap64_id {x : Int} (h1 : -9223372036854775808 ≤ x) (h2 : x ≤ 9223372036854775807) : wrap64 x = x := by unfold wrap64; omega
end Go.Proofs.YtjfjmniegceejaaDoor.L
