import Derived.Test.YtjdkeicjhmdcfaaWi3
import Derived.WalkSpells
import Derived.Lib.Bytes
set_option linter.unusedSimpArgs false
set_option linter.unusedVariables false
namespace Go.Proofs.Ytjdkeicjhmdcfaa.Wi
open Go.RowKit Go.Proofs.YtjdkeicjhmdcfaaW.PrintWords Go.Proofs.YtjdkeicjhmdcfaaW.PrintLast Go.Proofs.YtjdkeicjhmdcfaaW.PrintMore Go.Proofs.Ytjdkeicjhmdcfaa.Wk

/-! The definition's wire: Put, Take. -/
theorem rput_shut (s t : ByteArray) (w : World) : Calls Try.prog 21 #[.agg #[.string s, .bool true], .string t] w fun e w' => e = .returned (.tuple #[.agg #[.string s, .bool true], .int .i64 190]) ∧ Below w.heap.size w w' := by
  have hu36 := Try.underlying36
  go_enter Try.func21, Try.ntmps21
  go_wp2
  exact bodyPost_ret (v := .tuple #[.agg #[.string s, .bool true], .int .i64 190]) (by simp [results, Try.results21, go_sem]) rfl ⟨rfl, below_alloc (below_alloc (Below.refl _ _) _) _⟩
theorem rput_full (s t : ByteArray) (w : World) (hs : s.size ≤ 131072) (h : 131072 < s.size + t.size) (ht : t.size ≤ 9223372036854775807) : Calls Try.prog 21 #[.agg #[.string s, .bool false], .string t] w fun e w' => e = .returned (.tuple #[.agg #[.string s, .bool false], .int .i64 3]) ∧ Below w.heap.size w w' := by
  have hu36 := Try.underlying36
  have d1 : 131072 - (s.size : Int) < (t.size : Int) := by omega
  have d2 : (s.size : Int) ≤ 131072 := by omega
  go_enter Try.func21, Try.ntmps21
  go_wp2
  exact bodyPost_ret (v := .tuple #[.agg #[.string s, .bool false], .int .i64 3]) (by simp [results, Try.results21, go_sem]) rfl ⟨rfl, below_alloc (below_alloc (Below.refl _ _) _) _⟩
theorem rput_ok (s t : ByteArray) (w : World) (h : s.size + t.size ≤ 131072) : Calls Try.prog 21 #[.agg #[.string s, .bool false], .string t] w fun e w' => e = .returned (.tuple #[.agg #[.string (s ++ t), .bool false], .int .i64 0]) ∧ Below w.heap.size w w' := by
  have hu36 := Try.underlying36
  have d1 : ¬ 131072 - (s.size : Int) < (t.size : Int) := by omega
  have d2 : (s.size : Int) ≤ 131072 := by omega
  go_enter Try.func21, Try.ntmps21
  go_wp2
  exact bodyPost_ret (v := .tuple #[.agg #[.string (s ++ t), .bool false], .int .i64 0]) (by simp [results, Try.results21, go_sem]) rfl ⟨rfl, below_alloc (below_alloc (Below.refl _ _) _) _⟩

theorem extract_take (xs : List Int) (m : Nat) : (strOfNums xs).extract 0 m = strOfNums (xs.take m) := by
  apply ByteArray.ext
  rw [ByteArray.data_extract]
  simp [strOfNums]
theorem extract_drop (xs : List Int) (m : Nat) : (strOfNums xs).extract m (strOfNums xs).size = strOfNums (xs.drop m) := by
  apply ByteArray.ext
  rw [ByteArray.data_extract, strOfNums_size]
  apply Array.ext'
  rw [Array.toList_extract]
  simp [strOfNums, List.map_drop, List.extract_eq_drop_take']
  rw [List.take_of_length_le (by simp)]
theorem rtake_neg (s : ByteArray) (b : Bool) (most : Int) (w : World) (hn : s.size ≤ 131072) (h : most < 0) : Calls Try.prog 22 #[.agg #[.string s, .bool b], .int .i64 most] w fun e w' => e = .returned (.tuple #[.agg #[.string (s.extract 0 s.size), .bool b], .string ByteArray.empty]) ∧ Below w.heap.size w w' := by
  have hu36 := Try.underlying36
  go_enter Try.func22, Try.ntmps22
  go_wp2
  exact bodyPost_ret (v := .tuple #[.agg #[.string (s.extract 0 s.size), .bool b], .string ByteArray.empty]) (by simp [results, Try.results22, go_sem]) rfl ⟨rfl, below_alloc (below_alloc (Below.refl _ _) _) _⟩
theorem rtake_all (s : ByteArray) (b : Bool) (most : Int) (w : World) (hn : s.size ≤ 131072) (h : ¬ most < 0) (h2 : (s.size : Int) < most) : Calls Try.prog 22 #[.agg #[.string s, .bool b], .int .i64 most] w fun e w' => e = .returned (.tuple #[.agg #[.string ByteArray.empty, .bool b], .string s]) ∧ Below w.heap.size w w' := by
  have hu36 := Try.underlying36
  go_enter Try.func22, Try.ntmps22
  go_wp2
  exact bodyPost_ret (v := .tuple #[.agg #[.string ByteArray.empty, .bool b], .string s]) (by simp [results, Try.results22, go_sem]) rfl ⟨rfl, below_alloc (below_alloc (Below.refl _ _) _) _⟩
theorem rtake_some (s : ByteArray) (b : Bool) (m : Nat) (w : World) (hn : s.size ≤ 131072) (h2 : m ≤ s.size) : Calls Try.prog 22 #[.agg #[.string s, .bool b], .int .i64 (m : Int)] w fun e w' => e = .returned (.tuple #[.agg #[.string (s.extract m s.size), .bool b], .string (s.extract 0 m)]) ∧ Below w.heap.size w w' := by
  have hu36 := Try.underlying36
  have d1 : ¬ (m : Int) < 0 := by omega
  have d2 : ¬ (s.size : Int) < (m : Int) := by omega
  go_enter Try.func22, Try.ntmps22
  go_wp2
  exact bodyPost_ret (v := .tuple #[.agg #[.string (s.extract m s.size), .bool b], .string (s.extract 0 m)]) (by simp [results, Try.results22, go_sem]) rfl ⟨rfl, below_alloc (below_alloc (Below.refl _ _) _) _⟩
theorem rtake_any (xs : List Int) (b : Bool) (most : Int) (w : World) (hn : xs.length ≤ 131072) : Calls Try.prog 22 #[.agg #[.string (strOfNums xs), .bool b], .int .i64 most] w fun e w' =>
    e = .returned (.tuple #[.agg #[.string (strOfNums (xs.drop (came most xs.length))), .bool b], .string (strOfNums (xs.take (came most xs.length)))]) ∧ Below w.heap.size w w' := by
  have hsz := strOfNums_size xs
  have hd := fun m => extract_drop xs m
  have ht := fun m => extract_take xs m
  by_cases h1 : most < 0
  · have h := rtake_neg (strOfNums xs) b most w (by omega) h1
    have e : came most xs.length = 0 := by unfold came; split <;> omega
    rw [hd 0] at h
    rw [e]
    exact h
  · by_cases h2 : (xs.length : Int) < most
    · have h := rtake_all (strOfNums xs) b most w (by omega) h1 (by omega)
      have e : came most xs.length = xs.length := by unfold came; rw [if_pos h2]
      have e2 : strOfNums (xs.drop xs.length) = ByteArray.empty := by rw [List.drop_length]; rfl
      rw [e, e2, List.take_length]
      exact h
    · obtain ⟨m, rfl⟩ : ∃ m : Nat, most = (m : Int) := ⟨most.toNat, by omega⟩
      have h := rtake_some (strOfNums xs) b m w (by omega) (by omega)
      have e : came (m : Int) xs.length = m := by unfold came; rw [if_neg h2]; omega
      rw [hd, ht] at h
      rw [e]
      exact h
theorem rput_okx (xs p : List Int) (w : World) (h : xs.length + p.length ≤ 131072) : Calls Try.prog 21 #[.agg #[.string (strOfNums xs), .bool false], .string (strOfNums p)] w fun e w' => e = .returned (.tuple #[.agg #[.string (strOfNums (xs ++ p)), .bool false], .int .i64 0]) ∧ Below w.heap.size w w' := by
  rw [← str_add xs p]
  exact rput_ok _ _ w (by rw [strOfNums_size, strOfNums_size]; exact h)
theorem str_none (xs : List Int) : (strOfNums xs).toList.isEmpty = (xs.length == 0) := by
  rw [Lib.strOfNums_toList]
  cases xs <;> rfl
theorem ended_shutx (g : Nat) (A : Option Addr) (n c : Nat) (b : Bool) (w : World) (hw : Wire w g (.slice A n c) true) (hb : (n == 0) = b) : Calls Try.prog 20 #[.pointer (some ⟨g, 0, none⟩)] w fun e w' => e = .returned (.bool b) ∧ w = w' := by
  subst hb
  exact ended_shut g A n c w hw
end Go.Proofs.Ytjdkeicjhmdcfaa.Wi
