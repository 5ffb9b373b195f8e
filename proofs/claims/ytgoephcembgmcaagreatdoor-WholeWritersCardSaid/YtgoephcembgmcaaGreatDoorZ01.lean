/- Texts of the proof, merged: Pa1 Pa2 Pa3 Pa4 Pa5 Lo1 Lo2 Lo3 Lo4 Lo5. -/
import Derived.Test.YtgoephcembgmcaaGreatDoorWWords
import Derived.Test.YtgoephcembgmcaaGreatDoorWLast
import Derived.Test.YtgoephcembgmcaaGreatDoorWApart
import Derived.Test.YtgoephcembgmcaaGreatDoorWGuard
import Derived.Test.YtgoephcembgmcaaGreatDoorShelf
import Derived.Lib.SplitLaws
import Derived.Maps.Views
import Derived.Maps.StringElems
import Derived.Maps.RangeWalk
import Derived.Maps.OwnSet
import Derived.Carry
import Derived.ArgAppend
import Derived.Deep.Upon
import Derived.Test.YtgoephcembgmcaaGreatDoorWTab
set_option linter.unusedSimpArgs false
set_option linter.unusedVariables false
namespace Go.Proofs.YtgoephcembgmcaaGreatDoor.G
open Go.RowKit Go.Maps Go.Proofs.YtgoephcembgmcaaGreatDoorW.PrintWords Go.Proofs.YtgoephcembgmcaaGreatDoorW.PrintLast
/-! Package path: sign, Clash; strings.Split. -/
abbrev D1 := DataW Unit
theorem hide {p : Prop} (h : p) : Hid p := h
theorem unhide {p : Prop} (h : Hid p) : p := h
theorem w64 (n : Int) (h0 : -9223372036854775808 ≤ n) (h1 : n ≤ 9223372036854775807) : wrap64 n = n := by unfold wrap64; omega
theorem add_add (ad : Addr) (i j : Nat) : (ad.add i).add j = ad.add (i + j) := by
  unfold Addr.add
  by_cases h1 : i = 0 <;> by_cases h2 : j = 0 <;> simp [h1, h2, Nat.add_assoc]
theorem bytes_inj {a b : ByteArray} (h : a.data.toList = b.data.toList) : a = b := by
  cases a; cases b
  simp only [ByteArray.mk.injEq]
  exact Array.toList_inj.1 h
theorem str_eq {a b : ByteArray} (h : a = b) : (a.toList == b.toList) = true := by rw [h]; simp
theorem str_ne {a b : ByteArray} (h : ¬a = b) : (a.toList == b.toList) = false := by
  rw [ByteArray.toList_eq, ByteArray.toList_eq]
  cases hs : a.data.toList == b.data.toList
  · rfl
  · exact absurd (bytes_inj (by simpa using hs)) h
theorem empty_size (s : ByteArray) (h : s.toList.isEmpty = true) : s.size = 0 := by
  rw [ByteArray.toList_eq] at h
  have h2 := List.isEmpty_iff.1 h
  rw [← data_length, h2]
  rfl
theorem size_of (s : ByteArray) (h : s.toList.isEmpty = false) : s.size ≠ 0 := by
  intro e
  rw [ByteArray.toList_eq] at h
  rw [← data_length] at e
  rw [List.length_eq_zero_iff.1 e] at h
  cases h
theorem byte_at (s : ByteArray) (pos : Nat) (h : pos < s.size) : (bytesOf s)[pos]? = some (((s[pos]'h).toNat : Nat) : Int) := by
  unfold bytesOf
  rw [List.getElem?_map]
  have h2 : pos < s.data.toList.length := by rw [data_length]; exact h
  rw [List.getElem?_eq_getElem h2]
  rfl
/-- The package variable that the library reads. -/
def Glob (w : World) : Prop := ∃ m, w.cell? ⟨0, 0, none⟩ = some (.int .i64 m)
theorem Glob.below {w w1 : World} (h : Glob w) (hb : Below w.heap.size w w1) : Glob w1 := by
  obtain ⟨m, h⟩ := h
  exact ⟨m, pw_cell_below hb h⟩
theorem Glob.max {w : World} (h : Glob w) : ∃ m, w.cell? ⟨0, 0, none⟩ = some (.int .i64 m) := h
def signOK (c : Int) : Bool := (decide (97 ≤ c) && decide (c ≤ 122)) || (decide (48 ≤ c) && decide (c ≤ 57)) || decide (c = 95) || decide (c = 45) || decide (c = 46)
set_option maxHeartbeats 1000000 in
set_option maxRecDepth 100000 in
theorem sign_ok (c : Int) (w : World) : Calls Tryz.prog 40 #[.int .u8 c] w fun e w' => e = .returned (.bool (signOK c)) ∧ w' = w := by
  go_enter Tryz.func40, Tryz.ntmps40
  rcases (by omega : (c ≤ 44) ∨ (c = 45) ∨ (c = 46) ∨ (c = 47) ∨ (48 ≤ c ∧ c ≤ 57) ∨ (58 ≤ c ∧ c ≤ 94) ∨ (c = 95) ∨ (c = 96) ∨ (97 ≤ c ∧ c ≤ 122) ∨ (123 ≤ c)) with h | h | h | h | h | h | h | h | h | h
  · have f0 : ¬ 97 ≤ c := by omega
    have f1 : ¬ 48 ≤ c := by omega
    have f2 : c ≤ 122 := by omega
    have f3 : c ≤ 57 := by omega
    have f4 : ¬ c = 95 := by omega
    have f5 : ¬ c = 45 := by omega
    have f6 : ¬ c = 46 := by omega
    have HA : Hid (signOK c = false) := by show _ = _; unfold signOK; simp [f0, f1, f2, f3, f4, f5, f6]
    go_wp2_with fail
    go_ret
    refine ⟨?_, rfl⟩
    show Ending.returned (.bool false) = _
    rw [unhide HA]
  · have f0 : ¬ 97 ≤ c := by omega
    have f1 : ¬ 48 ≤ c := by omega
    have f2 : c ≤ 122 := by omega
    have f3 : c ≤ 57 := by omega
    have f4 : ¬ c = 95 := by omega
    have f5 : c = 45 := by omega
    have f6 : ¬ c = 46 := by omega
    have HA : Hid (signOK c = true) := by show _ = _; unfold signOK; simp [f0, f1, f2, f3, f4, f5, f6]
    subst h
    go_wp2_with fail
    go_ret
    refine ⟨?_, rfl⟩
    show Ending.returned (.bool true) = _
    rw [unhide HA]
  · have f0 : ¬ 97 ≤ c := by omega
    have f1 : ¬ 48 ≤ c := by omega
    have f2 : c ≤ 122 := by omega
    have f3 : c ≤ 57 := by omega
    have f4 : ¬ c = 95 := by omega
    have f5 : ¬ c = 45 := by omega
    have f6 : c = 46 := by omega
    have HA : Hid (signOK c = true) := by show _ = _; unfold signOK; simp [f0, f1, f2, f3, f4, f5, f6]
    subst h
    go_wp2_with fail
    go_ret
    refine ⟨?_, rfl⟩
    show Ending.returned (.bool true) = _
    rw [unhide HA]
  · have f0 : ¬ 97 ≤ c := by omega
    have f1 : ¬ 48 ≤ c := by omega
    have f2 : c ≤ 122 := by omega
    have f3 : c ≤ 57 := by omega
    have f4 : ¬ c = 95 := by omega
    have f5 : ¬ c = 45 := by omega
    have f6 : ¬ c = 46 := by omega
    have HA : Hid (signOK c = false) := by show _ = _; unfold signOK; simp [f0, f1, f2, f3, f4, f5, f6]
    subst h
    go_wp2_with fail
    go_ret
    refine ⟨?_, rfl⟩
    show Ending.returned (.bool false) = _
    rw [unhide HA]
  · have f0 : ¬ 97 ≤ c := by omega
    have f1 : 48 ≤ c := by omega
    have f2 : c ≤ 122 := by omega
    have f3 : c ≤ 57 := by omega
    have f4 : ¬ c = 95 := by omega
    have f5 : ¬ c = 45 := by omega
    have f6 : ¬ c = 46 := by omega
    have HA : Hid (signOK c = true) := by show _ = _; unfold signOK; simp [f0, f1, f2, f3, f4, f5, f6]
    go_wp2_with fail
    go_ret
    refine ⟨?_, rfl⟩
    show Ending.returned (.bool true) = _
    rw [unhide HA]
  · have f0 : ¬ 97 ≤ c := by omega
    have f1 : 48 ≤ c := by omega
    have f2 : c ≤ 122 := by omega
    have f3 : ¬ c ≤ 57 := by omega
    have f4 : ¬ c = 95 := by omega
    have f5 : ¬ c = 45 := by omega
    have f6 : ¬ c = 46 := by omega
    have HA : Hid (signOK c = false) := by show _ = _; unfold signOK; simp [f0, f1, f2, f3, f4, f5, f6]
    go_wp2_with fail
    go_ret
    refine ⟨?_, rfl⟩
    show Ending.returned (.bool false) = _
    rw [unhide HA]
  · have f0 : ¬ 97 ≤ c := by omega
    have f1 : 48 ≤ c := by omega
    have f2 : c ≤ 122 := by omega
    have f3 : ¬ c ≤ 57 := by omega
    have f4 : c = 95 := by omega
    have f5 : ¬ c = 45 := by omega
    have f6 : ¬ c = 46 := by omega
    have HA : Hid (signOK c = true) := by show _ = _; unfold signOK; simp [f0, f1, f2, f3, f4, f5, f6]
    subst h
    go_wp2_with fail
    go_ret
    refine ⟨?_, rfl⟩
    show Ending.returned (.bool true) = _
    rw [unhide HA]
  · have f0 : ¬ 97 ≤ c := by omega
    have f1 : 48 ≤ c := by omega
    have f2 : c ≤ 122 := by omega
    have f3 : ¬ c ≤ 57 := by omega
    have f4 : ¬ c = 95 := by omega
    have f5 : ¬ c = 45 := by omega
    have f6 : ¬ c = 46 := by omega
    have HA : Hid (signOK c = false) := by show _ = _; unfold signOK; simp [f0, f1, f2, f3, f4, f5, f6]
    subst h
    go_wp2_with fail
    go_ret
    refine ⟨?_, rfl⟩
    show Ending.returned (.bool false) = _
    rw [unhide HA]
  · have f0 : 97 ≤ c := by omega
    have f1 : 48 ≤ c := by omega
    have f2 : c ≤ 122 := by omega
    have f3 : ¬ c ≤ 57 := by omega
    have f4 : ¬ c = 95 := by omega
    have f5 : ¬ c = 45 := by omega
    have f6 : ¬ c = 46 := by omega
    have HA : Hid (signOK c = true) := by show _ = _; unfold signOK; simp [f0, f1, f2, f3, f4, f5, f6]
    go_wp2_with fail
    go_ret
    refine ⟨?_, rfl⟩
    show Ending.returned (.bool true) = _
    rw [unhide HA]
  · have f0 : 97 ≤ c := by omega
    have f1 : 48 ≤ c := by omega
    have f2 : ¬ c ≤ 122 := by omega
    have f3 : ¬ c ≤ 57 := by omega
    have f4 : ¬ c = 95 := by omega
    have f5 : ¬ c = 45 := by omega
    have f6 : ¬ c = 46 := by omega
    have HA : Hid (signOK c = false) := by show _ = _; unfold signOK; simp [f0, f1, f2, f3, f4, f5, f6]
    go_wp2_with fail
    go_ret
    refine ⟨?_, rfl⟩
    show Ending.returned (.bool false) = _
    rw [unhide HA]
def parts (s sep : ByteArray) : List ByteArray := Lib.splitB sep 0 (Lib.countB s sep) s
theorem parts_len (s sep : ByteArray) (h1 : 1 ≤ sep.size) : (parts s sep).length = Lib.countB s sep + 1 := Lib.splitB_all sep h1 0 _ s rfl
theorem parts_row (w : World) (ps : List ByteArray) (hp : ps.length ≤ 1000000) : Kd.string.C (w.alloc (.cells (ps.map Value.string).toArray 9)) (some ⟨w.heap.size, 0, none⟩) ps.length ps := by
  refine ⟨rfl, by omega, fun _ => ⟨_, rfl, fun j p hj => ⟨[.string p], rfl, rfl, fun i u hu => ?_⟩⟩⟩
  have hi : i = 0 := by
    rcases i with _ | i
    · rfl
    · simp at hu
  subst hi
  simp only [List.getElem?_cons_zero, Option.some.injEq] at hu
  subst hu
  rw [add_plain]
  refine (blk_cell (blk_new w (.cells (ps.map Value.string).toArray 9)) _).trans ?_
  have e : j * Kd.string.sz + 0 = j := by show j * 1 + 0 = j; omega
  rw [e]
  simp [hj]
theorem split_ok (s sep : ByteArray) (w : World) (hG : Glob w) (hs : s.size ≤ 100000) (h1 : 1 ≤ sep.size) (hp : (parts s sep).length ≤ 1000000) :
    Calls Tryz.prog 39 #[.string s, .string sep] w fun e w' => e = .returned (.slice (some ⟨w.heap.size, 0, none⟩) (parts s sep).length (parts s sep).length) ∧ Kd.string.C w' (some ⟨w.heap.size, 0, none⟩) (parts s sep).length (parts s sep) ∧ Below w.heap.size w w' := by
  obtain ⟨m, hm⟩ := hG.max
  refine (Tryz.strings_Split s sep m w (by omega) hm h1).mono ?_
  rintro e w' ⟨rfl, rfl⟩
  refine ⟨?_, parts_row w (parts s sep) hp, below_alloc (Below.refl _ _) _⟩
  rw [parts_len s sep h1]
/-- Can two paths not be both? -/
def clash (a b : ByteArray) : Bool := Lib.hasPrefix a.data.toList (b.data.toList ++ [47]) || Lib.hasPrefix b.data.toList (a.data.toList ++ [47])
theorem cat_data (a b : ByteArray) : (a ++ b).data.toList = a.data.toList ++ b.data.toList := by simp
set_option maxHeartbeats 1000000 in
set_option maxRecDepth 100000 in
theorem clash_ok (a b : ByteArray) (w : World) (ha : a.size ≤ 10000) (hb : b.size ≤ 10000) :
    Calls Tryz.prog 27 #[.string a, .string b] w fun e w' => e = .returned (.bool (clash a b)) ∧ w' = w := by
  have hu9 := Tryz.underlying9
  obtain ⟨c, hc⟩ : ∃ z, z = clash a b := ⟨_, rfl⟩
  rw [← hc]
  have HC := hide hc
  clear hc
  go_enter Tryz.func27, Tryz.ntmps27
  go_wp2_with fail
  refine (Tryz.strings_HasPrefix _ _ _).mono ?_
  rintro e w1 ⟨rfl, rfl⟩
  cases h1 : Lib.hasPrefix a.data.toList (b ++ ⟨#[47]⟩ : ByteArray).data.toList with
  | true =>
    have H1 := hide h1
    clear h1
    go_wp2_with fail
    go_ret
    refine ⟨?_, rfl⟩
    have h1 := unhide H1
    rw [cat_data] at h1
    rw [unhide HC]
    unfold clash
    rw [show Lib.hasPrefix a.data.toList (b.data.toList ++ [47]) = true from h1]
    rfl
  | false =>
    have H1 := hide h1
    clear h1
    go_wp2_with fail
    refine (Tryz.strings_HasPrefix _ _ _).mono ?_
    rintro e w1 ⟨rfl, rfl⟩
    go_wp2_with fail
    go_ret
    refine ⟨?_, rfl⟩
    have h1 := unhide H1
    rw [cat_data] at h1
    show Ending.returned (.bool (Lib.hasPrefix b.data.toList (a.data.toList ++ [47]))) = _
    rw [unhide HC]
    unfold clash
    rw [show Lib.hasPrefix a.data.toList (b.data.toList ++ [47]) = false from h1]
    rfl
end Go.Proofs.YtgoephcembgmcaaGreatDoor.G
namespace Go.Proofs.YtgoephcembgmcaaGreatDoor.G
open Go.RowKit Go.Maps Go.Proofs.YtgoephcembgmcaaGreatDoorW.PrintWords Go.Proofs.YtgoephcembgmcaaGreatDoorW.PrintLast
/-! path.Check, exact. -/
def segOK (p : ByteArray) : Bool := !p.toList.isEmpty && !(p.toList == [46]) && !(p.toList == [46, 46]) && decide (p.size ≤ 16) && (bytesOf p).all signOK
def pathOK (s : ByteArray) : Bool := !s.toList.isEmpty && decide (s.size ≤ 64) && decide ((parts s ⟨#[47]⟩).length ≤ 6) && (parts s ⟨#[47]⟩).all segOK
/-- How path.Check answers. -/
def Told (b : Bool) (v : Value) : Prop := if b = true then v = .nilIface else ∃ g, v = .iface 76 (.pointer (some ⟨g, 0, none⟩))
theorem told_no {g : Nat} {b : Bool} (h : b = false) : Told b (.iface 76 (.pointer (some ⟨g, 0, none⟩))) := by rw [h]; exact ⟨g, rfl⟩
theorem seg_no {s p : ByteArray} {j : Nat} (h : (parts s ⟨#[47]⟩)[j]? = some p) (hp : segOK p = false) : pathOK s = false := by
  unfold pathOK
  have : (parts s ⟨#[47]⟩).all segOK = false := by
    rw [List.all_eq_false]
    exact ⟨p, List.mem_of_getElem? h, by simp [hp]⟩
  rw [this, Bool.and_false]
theorem path_size {s : ByteArray} (h : pathOK s = true) : s.size ≤ 64 := by
  unfold pathOK at h
  simp only [Bool.and_eq_true, decide_eq_true_eq] at h
  exact h.1.1.2
set_option maxHeartbeats 4000000 in
set_option maxRecDepth 100000 in
theorem pathcheck_ok (s : ByteArray) (w : World) (hG : Glob w) (hs : s.size ≤ 10000) :
    Calls Tryz.prog 24 #[.string s] w fun e w' => ∃ v, e = .returned v ∧ Told (pathOK s) v ∧ Below w.heap.size w w' := by
  have HG := hide hG
  have HSZ := hide hs
  clear hG hs
  go_enter Tryz.func24, Tryz.ntmps24
  cases hq : s.toList.isEmpty with
  | true =>
    have HQ := hide hq
    go_wp2_with fail
    go_ret
    exact ⟨_, rfl, told_no (by unfold pathOK; rw [unhide HQ]; rfl), below_alloc (Below.refl _ _) _⟩
  | false =>
    by_cases h64 : 64 < s.size
    · have d1 : 64 < (s.size : Int) := by omega
      have H64 := hide h64
      go_wp2_with fail
      go_ret
      refine ⟨_, rfl, told_no ?_, below_alloc (Below.refl _ _) _⟩
      unfold pathOK
      rw [show decide (s.size ≤ 64) = false from decide_eq_false (by have := unhide H64; omega)]
      simp
    · have d1 : ¬ 64 < (s.size : Int) := by omega
      have HQ := hide hq
      have H64 := hide h64
      go_wp2_with fail
      have hc : (parts s ⟨#[47]⟩).length ≤ 1000000 := by
        rw [parts_len _ _ (by decide)]
        have := Lib.countB_le ⟨#[47]⟩ (by decide) s.size s (Nat.le_refl _)
        omega
      refine (split_ok s ⟨#[47]⟩ w (unhide HG) (by have := unhide HSZ; omega) (by decide) hc).mono ?_
      rintro e w1 ⟨rfl, hC, hb⟩
      obtain ⟨ps, hps⟩ : ∃ z, z = parts s ⟨#[47]⟩ := ⟨_, rfl⟩
      rw [← hps] at hc hC ⊢
      have HPS := hide hps
      have HC := hide hC
      have HB := hide hb
      have HCN := hide hc
      clear hps hC hb hc
      go_wp2_with fail
      obtain ⟨n, hn⟩ : ∃ z, z = ps.length := ⟨_, rfl⟩
      rw [← hn] at HC ⊢
      have HN := hide hn
      clear hn
      go_loopg [3, 23] n (fun gk1 v3 v23 wr => ∃ (j : Nat) (x : Int), v23 = .int .i64 (j : Int) ∧ v3 = .int .i64 x ∧ Hid (j + gk1 = n) ∧ Hid (Below w.heap.size w wr) ∧ Hid (Below w1.heap.size w1 wr) ∧ Hid (∀ q ∈ ps.take j, segOK q = true) ∧ Hid (j ≤ 6))
      case atStart => exact ⟨0, 0, rfl, rfl, Nat.zero_add _, HB, Below.refl _ _, (fun q hq => by simp at hq), Nat.zero_le _⟩
      case round =>
        obtain ⟨j, x, rfl, rfl, HI, HB2, HB3, HSEG, HJ6⟩ := hrel
        by_cases hlt : j < n
        · have d2 : (j : Int) < (n : Int) := by omega
          obtain ⟨ad, had, hcell⟩ := Kd.at_string (Kd.C_below (unhide HC) (unhide HB3)) (j : Int) (by omega) d2
          obtain rfl := Option.some.inj had
          rw [Int.toNat_natCast, add_plain] at hcell
          obtain ⟨p, hp⟩ : ∃ z, z = rdOf ByteArray.empty ps (j : Int) := ⟨_, rfl⟩
          rw [← hp] at hcell
          have hpj : ps[j]? = some p := by
            have hj : j < ps.length := by rw [← unhide HN]; exact hlt
            rw [hp]
            unfold rdOf
            rw [Int.toNat_natCast, List.getD_eq_getElem?_getD, List.getElem?_eq_getElem hj]
            rfl
          have HPJ := hide hpj
          have HLT := hide hlt
          have HPP : Hid ((parts s ⟨#[47]⟩)[j]? = some p) := by show _ = _; rw [← unhide HPS]; exact hpj
          clear hp had hlt hpj
          by_cases h6 : j = 6
          · subst h6
            go_wp2_with fail
            go_ret
            refine ⟨_, rfl, told_no ?_, below_alloc (unhide HB2) _⟩
            unfold pathOK
            rw [show decide ((parts s ⟨#[47]⟩).length ≤ 6) = false from decide_eq_false (by rw [← unhide HPS, ← unhide HN]; have := unhide HLT; omega)]
            simp
          · have d3 : ((j : Int) == 6) = false := by simpa using (by omega : ¬ (j : Int) = 6)
            have H6 := hide h6
            cases hp : p.toList.isEmpty with
            | true =>
              have HX := hide hp
              go_wp2_with fail
              go_ret
              exact ⟨_, rfl, told_no (seg_no (unhide HPP) (by unfold segOK; rw [unhide HX]; rfl)), below_alloc (unhide HB2) _⟩
            | false =>
              have HX := hide hp
              cases h46 : (p.toList == [46]) with
              | true =>
                have HY := hide h46
                go_wp2_with fail
                go_ret
                exact ⟨_, rfl, told_no (seg_no (unhide HPP) (by unfold segOK; rw [unhide HY]; simp)), below_alloc (unhide HB2) _⟩
              | false =>
                have HY := hide h46
                cases h4646 : (p.toList == [46, 46]) with
                | true =>
                  have HZ := hide h4646
                  go_wp2_with fail
                  go_ret
                  exact ⟨_, rfl, told_no (seg_no (unhide HPP) (by unfold segOK; rw [unhide HZ]; simp)), below_alloc (unhide HB2) _⟩
                | false =>
                  have HZ := hide h4646
                  by_cases h16 : 16 < p.size
                  · have d5 : 16 < (p.size : Int) := by omega
                    have H16 := hide h16
                    go_wp2_with fail
                    go_ret
                    exact ⟨_, rfl, told_no (seg_no (unhide HPP) (by unfold segOK; rw [show decide (p.size ≤ 16) = false from decide_eq_false (by have := unhide H16; omega)]; simp)), below_alloc (unhide HB2) _⟩
                  · have d5 : ¬ 16 < (p.size : Int) := by omega
                    go_wp2_with fail
                    have HP := hide d5
                    obtain ⟨gk1, hk1⟩ : ∃ z, z = gk := ⟨_, rfl⟩
                    have HK1 := hide hk1
                    clear hk1
                    clear d5 h46 h4646 hp d3 h6 hcell d2
                    go_loopg [52] p.size (fun kp v52 wp => ∃ (i : Nat), v52 = .int .i64 (i : Int) ∧ Hid (i + kp = p.size) ∧ wp = wr ∧ Hid (((bytesOf p).take i).all signOK = true))
                    case atStart => exact ⟨0, rfl, Nat.zero_add _, rfl, rfl⟩
                    case round =>
                      obtain ⟨i, rfl, HI2, rfl, HA⟩ := hrel
                      by_cases hi : i < p.size
                      · have d6 : (i : Int) < (p.size : Int) := by omega
                        have HI3 := hide hi
                        have HBY : Hid ((bytesOf p)[i]? = some (((p[i]'hi).toNat : Nat) : Int)) := byte_at p i hi
                        go_wp2_with fail
                        refine (sign_ok _ _).mono ?_
                        rintro e w5 ⟨rfl, rfl⟩
                        cases hsg : signOK (((p[i]'hi).toNat : Nat) : Int) with
                        | false =>
                          have HSG := hide hsg
                          go_wp2_with fail
                          go_ret
                          refine ⟨_, rfl, told_no (seg_no (unhide HPP) ?_), below_alloc (unhide HB2) _⟩
                          unfold segOK
                          rw [show (bytesOf p).all signOK = false by rw [List.all_eq_false]; exact ⟨_, List.mem_of_getElem? (unhide HBY), by rw [unhide HSG]; simp⟩]
                          simp
                        | true =>
                          have HSG := hide hsg
                          go_wp2_with fail
                          go_roundg (gk - 1)
                          case measure => have := unhide HI2; have := unhide HI3; omega
                          case rel =>
                            refine ⟨i + 1, congrArg (Value.int .i64) (by have := unhide HP; have := unhide HI3; (try unfold wrap64); omega), by have := unhide HI2; have := unhide HI3; show _ = _; omega, rfl, ?_⟩
                            show _ = _
                            rw [List.take_add_one, unhide HBY, List.all_append, unhide HA]
                            simp [unhide HSG]
                      · have d6 : ¬ (i : Int) < (p.size : Int) := by omega
                        have HALL : Hid (segOK p = true) := by
                          show _ = _
                          have h1 := unhide HA
                          rw [List.take_of_length_le (by rw [bytesOf_length]; omega)] at h1
                          unfold segOK
                          rw [unhide HX, unhide HY, unhide HZ, h1, decide_eq_true (by have := unhide HP; omega)]
                          rfl
                        go_wp2_with fail
                        go_roundg (gk1 - 1)
                        case measure => have := unhide HI; have := unhide HLT; have := unhide HK1; omega
                        case rel =>
                          refine ⟨j + 1, _, congrArg (Value.int .i64) (by have := unhide HLT; have := unhide HCN; have := unhide HN; (try unfold wrap64); omega), rfl, by have := unhide HI; have := unhide HLT; have := unhide HK1; show _ = _; omega, HB2, HB3, ?_, by have := unhide HJ6; have := unhide H6; show _ ≤ _; omega⟩
                          intro q hq
                          rw [List.take_add_one, unhide HPJ] at hq
                          rcases List.mem_append.1 hq with hq | hq
                          · exact unhide HSEG q hq
                          · have : q = p := by simpa using hq
                            rw [this]
                            exact unhide HALL
        · have d2 : ¬ (j : Int) < (n : Int) := by omega
          have HGE := hide hlt
          go_wp2_with fail
          go_ret
          refine ⟨_, rfl, ?_, unhide HB2⟩
          have hok : pathOK s = true := by
            unfold pathOK
            have hn := unhide HN
            have hge := unhide HGE
            have h6 := unhide HJ6
            have hi := unhide HI
            have hall := unhide HSEG
            rw [List.take_of_length_le (by omega)] at hall
            rw [unhide HQ, decide_eq_true (by have := unhide H64; omega), ← unhide HPS, decide_eq_true (by omega), List.all_eq_true.2 hall]
            rfl
          rw [hok]
          exact rfl
end Go.Proofs.YtgoephcembgmcaaGreatDoor.G
namespace Go.Proofs.YtgoephcembgmcaaGreatDoor.G
open Go.RowKit Go.Maps Go.Proofs.YtgoephcembgmcaaGreatDoorW.PrintWords Go.Proofs.YtgoephcembgmcaaGreatDoorW.PrintLast
/-! A string put into a row at a place: append(out[:at:at], append([]string{s}, out[at:]...)...). -/
theorem info9 : (Tryz.prog.info? 9).map (fun i => (i.zero, i.size, i.bytes)) = some (some (.string ⟨#[]⟩), 1, 16) := by kernel_rfl
theorem str_cells {W : World} {ad : Addr} {l : List ByteArray} (hC : Kd.string.C W (some ad) l.length l) : ∀ j u, (l.map Value.string)[j]? = some u → W.cell? (ad.add j) = some u := fun j u hj => by
  have hj2 : j < l.length := by
    have := (List.getElem?_eq_some_iff.1 hj).1
    rwa [List.length_map] at this
  obtain ⟨ad', ha, hc⟩ := Kd.at_string hC (j : Int) (by omega) (by omega)
  cases ha
  rw [Int.toNat_natCast] at hc
  rw [hc]
  rw [List.getElem?_map, List.getElem?_eq_getElem hj2] at hj
  rw [← Option.some.inj hj]
  unfold rdOf
  rw [Int.toNat_natCast, List.getD_eq_getElem?_getD, List.getElem?_eq_getElem hj2]
  rfl
theorem str_R {W : World} {base : Nat} {v : Value} {xs : List ByteArray} (h : W.ownsRow base 9 1 v xs.length (xs.map Value.string)) : Kd.string.R 9 W base (fun _ => True) v xs :=
  Kd.R_of_own (enc := Value.string) (xs := xs) h (fun _ _ => trivial)
theorem cut_at (a : Option Addr) (n c k : Nat) (hk : k ≤ c) (W : World) : (Instr.slice 36 (.slice a n c) none (some (.int .i64 (k : Int))) (some (.int .i64 (k : Int)))).run Tryz.prog W = .ok (.slice a k k) W := by
  obtain ⟨i0, hi, hz, hsz, hby⟩ := info_parts info9
  have ha : (a.map fun x => x.add 0) = a := by cases a <;> simp [Addr.add]
  have hel : Tryz.prog.elem 36 = 9 := by simp [Program.elem, Tryz.underlying36]
  have hu : Tryz.prog.underlying 36 = some (.slice (Tryz.prog.elem 36)) := by rw [hel]; exact Tryz.underlying36
  rw [run_slice_hm W 36 a n c hu .i64 .i64 (k : Int) (k : Int) (by omega) (Int.le_refl _) (by omega), hel]
  simp [sizeOf, typeInfo, hi, hsz, sliced, Result.andThen, ha]
/-- Behind a string of its own, what is left of a row. -/
theorem behind_run (W : World) (A2 : Option Addr) (m c : Nat) (rs : List ByteArray) (hm : m = rs.length) (hC : Kd.string.C W A2 rs.length rs) (hl : m ≤ 10000) (s : ByteArray) :
    ∃ a1 c1 w1, (Builtin.append_ #[36, 36] 36 #[.slice (some ⟨W.heap.size, 0, none⟩) 1 1, .slice A2 m c]).run Tryz.prog (W.alloc (.cells #[.string s] 9)) = .ok (.slice (some a1) (m + 1) c1) w1 ∧ Below W.heap.size W w1 ∧
      W.heap.size < w1.heap.size ∧ ∀ j u, ((s :: rs).map Value.string)[j]? = some u → w1.cell? (a1.add j) = some u := by
  obtain ⟨i0, hi, hz, hsz, hby⟩ := info_parts info9
  have h36 := Tryz.underlying36
  have hB : Below W.heap.size W (W.alloc (.cells #[.string s] 9)) := below_alloc (Below.refl _ _) _
  have hone : ∀ j u, ([s].map Value.string)[j]? = some u → (W.alloc (.cells #[.string s] 9)).cell? ((⟨W.heap.size, 0, none⟩ : Addr).add j) = some u := by
    intro j u hj
    rw [add_plain, blk_cell (blk_new W _)]
    simpa using hj
  have hCB : Kd.string.C (W.alloc (.cells #[.string s] 9)) A2 rs.length rs := Kd.C_alloc hC _
  cases A2 with
  | none =>
    have h0 : rs.length = 0 := by
      rcases Nat.eq_zero_or_pos rs.length with h0 | h0
      · exact h0
      · obtain ⟨ad', h, _⟩ := hC.2.2 h0
        cases h
    obtain rfl : rs = [] := List.eq_nil_of_length_eq_zero h0
    obtain rfl : m = 0 := hm
    refine ⟨⟨W.heap.size, 0, none⟩, 1, _, ?_, hB, by rw [World.size_alloc]; omega, hone⟩
    simp [Builtin.append_, run_underlying h36, sizeOf, typeInfo, hi, Builtin.lenOf, Builtin.firstCells, storeCells]
  | some a =>
    by_cases h0 : rs = []
    · subst h0
      obtain rfl : m = 0 := hm
      refine ⟨⟨W.heap.size, 0, none⟩, 1, _, ?_, hB, by rw [World.size_alloc]; omega, hone⟩
      simp [Builtin.append_, run_underlying h36, sizeOf, typeInfo, hi, Builtin.lenOf, Builtin.firstCells, loadCells, loadCellsFrom, storeCells]
    · have hp := List.length_pos_iff.2 h0
      obtain ⟨v1, w1, hr1, ho, hg⟩ := run_append_arg_grows (P := Tryz.prog) (w := W.alloc (.cells #[.string s] 9)) 36 36 9 i0 (.string ⟨#[]⟩) 1 16 h36 hi hz hsz hby rfl (by decide) ⟨W.heap.size, 0, none⟩ 1 1 ([s].map Value.string) rfl hone
        a m c (rs.map Value.string) (by rw [List.length_map, Nat.mul_one, hm]) (str_cells hCB) (by omega) (by simp only [maxLen]; omega) (by omega)
      have h3 : Kd.string.R 9 w1 (W.alloc (.cells #[.string s] 9)).heap.size (fun _ => True) v1 (s :: rs) := str_R (by rw [List.length_cons, ← hm, Nat.add_comm]; simpa using ho)
      obtain ⟨g, cap, rfl, hg1, hg2, _⟩ := Kd.R_form h3 (by simp)
      obtain ⟨h4, h5, h6⟩ := Kd.R_reads' h3
      refine ⟨⟨g, 0, none⟩, cap, w1, ?_, hB.trans ⟨hg.os, hg.tape, hg.output, hg.size, fun k hk => hg.block k (by rw [World.size_alloc]; omega) (by simp)⟩, ?_, str_cells h6⟩
      · rw [List.length_cons, ← hm] at hr1
        exact hr1
      · rw [World.size_alloc] at hg1
        omega
theorem ins_runs (W : World) (A : Option Addr) (n c : Nat) (qs : List ByteArray) (base : Nat) (hR : Kd.string.R 9 W base (fun _ => True) (.slice A n c) qs) (hl : n ≤ 10000) (s : ByteArray) (k : Nat) (hk : k ≤ n) :
    ∃ A2 : Option Addr, (∀ V : World, (Instr.slice 36 (.slice A n c) (some (.int .i64 (k : Int))) none none).run Tryz.prog V = .ok (.slice A2 (n - k) (c - k)) V) ∧ k ≤ c ∧
      ∃ v1 w1, (Builtin.append_ #[36, 36] 36 #[.slice (some ⟨W.heap.size, 0, none⟩) 1 1, .slice A2 (n - k) (c - k)]).run Tryz.prog (W.alloc (.cells #[.string s] 9)) = .ok v1 w1 ∧ Below W.heap.size W w1 ∧
      ∃ v2 w2, (Builtin.append_ #[36, 36] 36 #[.slice A k k, v1]).run Tryz.prog w1 = .ok v2 w2 ∧ Below W.heap.size W w2 ∧ Kd.string.R 9 w2 W.heap.size (fun _ => True) v2 (qs.take k ++ s :: qs.drop k) := by
  obtain ⟨i0, hi, hz, hsz, hby⟩ := info_parts info9
  have h36 := Tryz.underlying36
  obtain ⟨hn, hnc, hC⟩ := Kd.R_reads' hR
  obtain ⟨A2, hs1, hs2, hs3⟩ := print_drop_of (P := Tryz.prog) Value.string ByteArray.empty 36 9 .i64 h36 hi hsz A c qs (k : Int) (by omega) (by omega) (by omega)
  rw [Int.toNat_natCast] at hs1 hs2 hs3
  have hdl : (qs.drop k).length = n - k := by rw [List.length_drop, hn]
  rw [hdl, ← hn] at hs1
  have hC2 : Kd.string.C W A2 (qs.drop k).length (qs.drop k) := Kd.C_of_reads (h1 := fun _ => rfl) (hs2 W (Kd.reads_of_C hC))
  obtain ⟨a1, c1, w1, hr1, hB1, hlt1, hc1⟩ := behind_run W A2 (n - k) (c - k) (qs.drop k) hdl.symm hC2 (by omega) s
  refine ⟨A2, hs1, by omega, _, w1, hr1, hB1, ?_⟩
  have hlen : ((s :: qs.drop k).map Value.string).length = (n - k + 1) * 1 := by rw [List.length_map, List.length_cons, hdl, Nat.mul_one]
  cases A with
  | none =>
    have h0 : qs.length = 0 := by
      rcases Nat.eq_zero_or_pos qs.length with h0 | h0
      · exact h0
      · obtain ⟨ad', h, _⟩ := hC.2.2 h0
        cases h
    obtain rfl : qs = [] := List.eq_nil_of_length_eq_zero h0
    have hk0 : k = 0 := by simp at hn; omega
    subst hk0
    obtain ⟨v2, w2, hr2, ho2, hg2, _⟩ := run_append_own (P := Tryz.prog) (w := w1) W.heap.size 36 36 9 i0 (.string ⟨#[]⟩) 1 16 h36 hi hz hsz hby rfl (by decide) (.slice none 0 0) 0 [] (own_nil _ _ _ _) a1 (n - 0 + 1) c1 ((s :: ([] : List ByteArray).drop 0).map Value.string) hlen hc1
      (fun u hu => by obtain ⟨x, _, rfl⟩ := List.mem_map.1 hu; rfl) (by simp only [maxLen]; omega) (by omega) (by omega)
    refine ⟨v2, w2, hr2, hB1.trans ⟨hg2.os, hg2.tape, hg2.output, hg2.size, fun q hq => hg2.block q (by omega) (by simp [Value.ownBlock])⟩, ?_⟩
    have hn0 : n = 0 := by simpa using hn
    subst hn0
    exact str_R ho2
  | some a =>
    have holds : ∀ j u, ((qs.take k).map Value.string)[j]? = some u → w1.cell? (a.add j) = some u := by
      intro j u hj
      have h1 : (qs.map Value.string)[j]? = some u := by
        rw [List.getElem?_map, List.getElem?_take] at hj
        rw [List.getElem?_map]
        split at hj
        · exact hj
        · simp at hj
      exact pw_cell_below hB1 (str_cells hC j u h1)
    obtain ⟨v2, w2, hr2, ho2, hg2⟩ := run_append_arg_grows (P := Tryz.prog) (w := w1) 36 36 9 i0 (.string ⟨#[]⟩) 1 16 h36 hi hz hsz hby rfl (by decide) a k k ((qs.take k).map Value.string) (by rw [List.length_map, List.length_take, Nat.mul_one]; omega) holds
      a1 (n - k + 1) c1 ((s :: qs.drop k).map Value.string) hlen hc1 (by omega) (by simp only [maxLen]; omega) (by omega)
    refine ⟨v2, w2, hr2, hB1.trans ⟨hg2.os, hg2.tape, hg2.output, hg2.size, fun q hq => hg2.block q (by omega) (by simp)⟩, ?_⟩
    refine Kd.R_lower (str_R ?_) (Nat.le_of_lt hlt1)
    have e : (qs.take k ++ s :: qs.drop k).length = k + (n - k + 1) := by
      rw [List.length_append, List.length_take, List.length_cons, hdl]
      omega
    rw [e, List.map_append]
    exact ho2
end Go.Proofs.YtgoephcembgmcaaGreatDoor.G
namespace Go.Proofs.YtgoephcembgmcaaGreatDoor.G
open Go.RowKit Go.Maps Go.Proofs.YtgoephcembgmcaaGreatDoorW.PrintWords Go.Proofs.YtgoephcembgmcaaGreatDoorW.PrintLast
/-! errors.Join of two errors. -/
abbrev Er := Nat × Addr
def erv (x : Er) : Value := .iface x.1 (.pointer (some x.2))
def KE : Kd Er := Kd.scalar erv (fun _ => rfl)
theorem info29 : (Tryz.prog.info? 29).map (fun i => (i.zero, i.size, i.bytes)) = some (some .nilIface, 1, 16) := by kernel_rfl
theorem mk2 (W : World) : (Instr.makeSlice 107 (.int .i64 0) (.int .i64 2)).run Tryz.prog W = .ok (.slice (some ⟨W.heap.size, 0, none⟩) 0 2) (W.alloc (.cells #[.nilIface, .nilIface] 29)) := by kernel_rfl
set_option maxHeartbeats 1000000 in
set_option maxRecDepth 100000 in
theorem join_ok (g : Nat) (x0 x1 : Er) (w : World) (c0 : w.cell? ⟨g, 0, none⟩ = some (erv x0)) (c1 : w.cell? ⟨g, 1, none⟩ = some (erv x1)) :
    Calls Tryz.prog 34 #[.slice (some ⟨g, 0, none⟩) 2 2] w fun e w' => ∃ p, e = .returned (.iface 108 (.pointer (some p))) ∧ Below w.heap.size w w' := by
  have HC0 := hide c0
  have HC1 := hide c1
  have cell : Hid (∀ i : Nat, i < 2 → ∃ x : Er, w.cell? ⟨g, i, none⟩ = some (.iface x.1 (.pointer (some x.2)))) := by
    intro i hi
    rcases i with _ | _ | i
    · exact ⟨x0, c0⟩
    · exact ⟨x1, c1⟩
    · omega
  clear c0 c1
  go_enter Tryz.func34, Tryz.ntmps34
  go_wp2_with fail
  go_loopg [3, 11] 2 (fun kq v3 v11 wr => ∃ (i : Nat), v11 = .int .i64 (i : Int) ∧ v3 = .int .i64 (i : Int) ∧ Hid (i + kq = 2) ∧ wr = w)
  case atStart => exact ⟨0, rfl, rfl, rfl, rfl⟩
  case round =>
    obtain ⟨i, rfl, rfl, HI, rfl⟩ := hrel
    by_cases hlt : i < 2
    · have d1 : (i : Int) < 2 := by omega
      obtain ⟨⟨t, p⟩, hc⟩ := unhide cell i hlt
      have HLT := hide hlt
      clear hlt
      go_wp2_with fail
      go_roundg (gk - 1)
      case measure => have := unhide HI; have := unhide HLT; omega
      case rel => exact ⟨i + 1, congrArg (Value.int .i64) (by have := unhide HLT; (try unfold wrap64); omega), congrArg (Value.int .i64) (by have := unhide HLT; (try unfold wrap64); omega), (by have := unhide HI; have := unhide HLT; show _ = _; omega), rfl⟩
    · have hi : i = 2 := by have := unhide HI; omega
      subst hi
      have m2 := mk2 wr
      obtain ⟨wb, hwb⟩ : ∃ z, z = (wr.alloc (.cells #[.nilIface, .nilIface] 29)).alloc (.cells #[.slice (some ⟨wr.heap.size, 0, none⟩) 0 2] 110) := ⟨_, rfl⟩
      have BB : Hid (Below wr.heap.size wr wb) := by rw [hwb]; exact below_alloc (below_alloc (Below.refl _ _) _) _
      have GB : Hid (wb.heap[wr.heap.size + 1]? = some (.cells #[.slice (some ⟨wr.heap.size, 0, none⟩) 0 2] 110 (0, 0))) := by
        have h := blk_new (wr.alloc (.cells #[.nilIface, .nilIface] 29)) (.cells #[.slice (some ⟨wr.heap.size, 0, none⟩) 0 2] 110)
        rw [World.size_alloc] at h
        rw [hwb]
        exact h
      have RB : Hid (KE.R 29 wb wr.heap.size (fun _ => True) (.slice (some ⟨wr.heap.size, 0, none⟩) 0 2) []) := by
        refine Kd.R_of_own (enc := erv) (xs := []) ⟨rfl, .inr ⟨wr.heap.size, 2, #[.nilIface, .nilIface], rfl, Nat.le_refl _, ?_, by decide, by unfold maxLen; omega, rfl, rfl⟩⟩ (fun _ _ => trivial)
        rw [hwb]
        exact blk_alloc (blk_new _ _) _
      have HWB := hide hwb
      clear hwb
      go_wp2_with fail
      rw [← unhide HWB]
      obtain ⟨gb, hgb⟩ : ∃ z, z = wr.heap.size + 1 := ⟨_, rfl⟩
      rw [← hgb] at GB ⊢
      obtain ⟨w0, rfl⟩ : ∃ z, z = wr := ⟨_, rfl⟩
      have HGB := hide hgb
      clear m2 HWB hgb
      go_loopg [28] 2 (fun kq v28 wr => ∃ (i : Nat) (A : Option Addr) (c : Nat) (es : List Er), v28 = .int .i64 (i : Int) ∧ Hid (i + kq = 2) ∧ Hid (Below w0.heap.size w0 wr) ∧ Hid (wr.heap[gb]? = some (.cells #[.slice A i c] 110 (0, 0))) ∧ Hid (KE.R 29 wr w0.heap.size (fun _ => True) (.slice A i c) es))
      case atStart => exact ⟨0, _, 2, [], rfl, rfl, BB, GB, RB⟩
      case round =>
        obtain ⟨i, A, c, es, rfl, HI, HB, GB, RB⟩ := hrel
        by_cases hlt : i < 2
        · have d1 : (i : Int) < 2 := by omega
          obtain ⟨⟨t, p⟩, hc0⟩ := unhide cell i hlt
          have hc := pw_cell_below (unhide HB) hc0
          have g0 := (blk_cell (unhide GB) 0).trans rfl
          have f0 := blk_frozen (unhide GB) 0
          have HLT := hide hlt
          have hne : some gb ≠ (Value.slice A i c).ownBlock := Kd.R_ne (unhide RB) (unhide GB) (by decide)
          have hes := (Kd.R_reads' (unhide RB)).1
          have HNE := hide hne
          have HES := hide hes
          clear hlt hc0 hne hes
          go_wp2_with (at_builtin; refine Kd.R_append KE (w0 := wr) w0.heap.size rfl (.tmp 38) (.tmp 40) 107 29 .nilIface 16 rfl Tryz.underlying107 info29 rfl (by decide) (by decide) (.slice A i c) es (t, p) [.iface t (.pointer (some p))] (fun _ => True) (fun _ => False) rfl rfl rfl (fun _ h => h.elim) (fun _ _ => trivial) (unhide RB) (Below.refl _ _) (unhide HB).size (by have := unhide HES; have := unhide HLT; omega) ?_)
          intro v5 w5 hR5 hb5 hg5 _
          obtain ⟨A5, c5, hv5⟩ := Kd.R_slice hR5
          have hl5 : (es ++ [(t, p)]).length = i + 1 := by rw [List.length_append, ← unhide HES]; rfl
          rw [hl5] at hv5
          subst hv5
          have GB5 := blk_grown (unhide GB) hg5 (unhide HNE)
          have q0 := (blk_cell GB5 0).trans rfl
          have q1 := blk_frozen GB5 0
          have HG5 := hide GB5
          have HR5 := hide hR5
          have HB5 := hide ((unhide HB).trans hb5)
          clear g0 f0 hR5 hb5 hg5 hl5 GB5
          go_wp2_with fail
          go_roundg (gk - 1)
          case measure => have := unhide HI; have := unhide HLT; omega
          case rel =>
            refine ⟨i + 1, A5, c5, es ++ [(t, p)], congrArg (Value.int .i64) (by have := unhide HLT; (try unfold wrap64); omega), (by have := unhide HI; have := unhide HLT; show _ = _; omega), (unhide HB5).setCell (by show w0.heap.size ≤ gb; have := unhide HGB; omega) _, blk_put (unhide HG5) 0 _ rfl, ?_⟩
            exact Kd.R_set (unhide HR5) (unhide HG5) (by
              intro q hq
              rcases List.mem_cons.1 hq with rfl | hq
              · decide
              · cases hq) 0 _
        · have d1 : ¬ (i : Int) < 2 := by omega
          go_wp2_with fail
          go_ret
          first | exact ⟨⟨_, rfl⟩, unhide HB⟩ | exact ⟨⟨gb, 0, none⟩, rfl, unhide HB⟩ | exact ⟨⟨gb, 0, none⟩, unhide HB⟩
end Go.Proofs.YtgoephcembgmcaaGreatDoor.G
namespace Go.Proofs.YtgoephcembgmcaaGreatDoor.G
open Go.RowKit Go.Maps Go.Proofs.YtgoephcembgmcaaGreatDoorW.PrintWords Go.Proofs.YtgoephcembgmcaaGreatDoorW.PrintLast
/-! path.Set. -/
theorem gt_str (x s : ByteArray) : ∃ g : Bool, ∀ W, (binOp .gtr 9 (.string x) (.string s)).run Tryz.prog W = .ok (.bool g) W := ⟨_, fun W => by simp [binOp, Op.stringOp] <;> rfl⟩
theorem wanted_none {o : Oper} {y : Nat → Option Bool} (h : o.guard = none) : Region.wanted o y = true := by unfold Region.wanted; rw [h]
theorem exec_append {P : Program} {ev : Operand → Value} {o : Oper} {t : TypeId} {s x : Operand} {v u v1 : Value} {W w1 : World} (ho : o.op = .call { callee := .builtin .append, args := #[s, x], argTypes := #[t, t] }) (hty : o.type = t) (hs : ev s = v) (hx : ev x = u)
    (hrun : (Builtin.append_ #[t, t] t #[v, u]).run P W = .ok v1 w1) : (execOp ev o).run P W = .ok (.value v1) w1 := by
  unfold execOp
  simp only [ho, resolve, invoke, builtin, Sem.run_bind, Sem.run_pure, Result.andThen_ok, List.map_toArray, List.map_cons, List.map_nil, hs, hx, hty, hrun]
theorem exec_slice {P : Program} {ev : Operand → Value} {o : Oper} {t : TypeId} {x : Operand} {lo hi mx : Option Operand} {v : Value} {l h m : Option Value} {r : Value} {W : World} (ho : o.op = .slice t x lo hi mx) (hx : ev x = v) (hl : lo.map ev = l) (hh : hi.map ev = h) (hm : mx.map ev = m)
    (hrun : (Instr.slice t v l h m).run P W = .ok r W) (ht : P.underlying t = some (.slice (P.elem t))) : (execOp ev o).run P W = .ok (.value r) W := by
  unfold execOp
  simp only [ho, hx, hl, hh, hm, Sem.run_map, Sem.run_bind, run_sliceAt_slice _ _ _ _ _ _ ht, hrun, Result.andThen_ok]
  rfl
theorem elem36 : Tryz.prog.elem 36 = 9 := by simp [Program.elem, Tryz.underlying36]
theorem slice36 : Tryz.prog.underlying 36 = some (.slice (Tryz.prog.elem 36)) := by rw [elem36]; exact Tryz.underlying36
theorem clash_comm (a b : ByteArray) : clash a b = clash b a := by unfold clash; exact Bool.or_comm _ _
def GoodSet (ps : List ByteArray) : Prop := (∀ p ∈ ps, pathOK p = true) ∧ ps.Pairwise (fun p q => p ≠ q ∧ clash p q = false)
theorem GoodSet.snoc {ps qs : List ByteArray} {s : ByteArray} (h : GoodSet ps) (hp : qs.Perm ps) (hs : pathOK s = true) (hx : ∀ x ∈ qs, x ≠ s ∧ clash x s = false) : GoodSet (ps ++ [s]) := by
  refine ⟨fun p hm => ?_, ?_⟩
  · rcases List.mem_append.1 hm with hm | hm
    · exact h.1 p hm
    · rw [List.mem_singleton.1 hm]; exact hs
  · rw [List.pairwise_append]
    refine ⟨h.2, by simp, fun a ha b hb => ?_⟩
    rw [List.mem_singleton.1 hb]
    exact hx a (hp.mem_iff.2 ha)
theorem put_perm {ps qs : List ByteArray} (s : ByteArray) (k : Nat) (h : qs.Perm ps) : (qs.take k ++ s :: qs.drop k).Perm (ps ++ [s]) := by
  have h1 : (qs.take k ++ s :: qs.drop k).Perm (s :: (qs.take k ++ qs.drop k)) := List.perm_middle
  rw [List.take_append_drop] at h1
  exact h1.trans ((List.Perm.cons s h).trans (List.perm_append_comm (l₁ := [s])))
theorem not_good {ps : List ByteArray} {j : Nat} {x s : ByteArray} (hx : x ∈ ps.take j) (hj : ps[j]? = some s) (h : x = s ∨ clash x s = true) : ¬ GoodSet ps := by
  intro hg
  obtain ⟨k, hk⟩ := List.mem_iff_getElem?.1 hx
  rw [List.getElem?_take] at hk
  split at hk
  · rename_i hkj
    obtain ⟨h1, e1⟩ := List.getElem?_eq_some_iff.1 hk
    obtain ⟨h2, e2⟩ := List.getElem?_eq_some_iff.1 hj
    have hp := (List.pairwise_iff_getElem.1 hg.2) k j h1 h2 hkj
    rw [e1, e2] at hp
    rcases h with h | h
    · exact hp.1 h
    · rw [hp.2] at h; cases h
  · cases hk
def SetSays (w : World) (ps : List ByteArray) (e : Ending) (w' : World) : Prop :=
  Below w.heap.size w w' ∧ ((¬ GoodSet ps ∧ ∃ te pe, e = .returned (.tuple #[.slice none 0 0, .iface te pe])) ∨
    ∃ (B : Option Addr) (m d : Nat) (qs : List ByteArray), e = .returned (.tuple #[.slice B m d, .nilIface]) ∧ Kd.string.R 9 w' w.heap.size (fun _ => True) (.slice B m d) qs ∧ qs.Perm ps ∧ GoodSet ps)
def T20_19 : Bool × List (List Nat × List Nat) := (true, [([], []), ([], []), ([], []), ([0, 1, 2], [0, 1, 2]), ([], []), ([4], [4]), ([], []), ([], []), ([6, 7], [6, 7]), ([5, 8], [5, 8]), ([3, 9, 9], [3, 9]), ([10, 10, 0, 1, 2, 3, 4, 5, 6, 7, 8, 9, 10], [0, 6, 10])])
def BT20_19 : List Nat := [0, 0, 0, 7, 0, 16, 0, 0, 192, 496, 1023, 2047]
theorem tabT20_19 : rtab .any (opsOf Tryz.f20 19) = T20_19 := by kernel_rfl
theorem bitsT20_19 : waitsOk T20_19.2 BT20_19 = true := by kernel_rfl
set_option maxHeartbeats 4000000 in
set_option maxRecDepth 100000 in
theorem set_ok (A : Option Addr) (c : Nat) (ps : List ByteArray) (w : World) (hG : Glob w) (hC : Kd.string.C w A ps.length ps) (hl : ps.length ≤ 1000) (hs : ∀ p ∈ ps, p.size ≤ 10000) :
    Calls Tryz.prog 20 #[.slice A ps.length c] w (SetSays w ps) := by
  obtain ⟨n, hn⟩ : ∃ z, z = ps.length := ⟨_, rfl⟩
  rw [← hn] at hC hl ⊢
  have HG := hide hG
  have HC := hide hC
  have HL := hide hl
  have HS := hide hs
  have HN := hide hn
  clear hG hC hl hs hn
  go_enter Tryz.func20, Tryz.ntmps20
  go_wp2_with fail
  go_loopg [4, 13] n (fun kq v4 v13 wr => ∃ (j : Nat) (B : Option Addr) (m d : Nat) (qs : List ByteArray), v13 = .int .i64 (j : Int) ∧ v4 = .slice B m d ∧ Hid (j + kq = n) ∧ Hid (Below w.heap.size w wr) ∧ Hid (Kd.string.R 9 wr w.heap.size (fun _ => True) (.slice B m d) qs) ∧ Hid (qs.Perm (ps.take j)) ∧ Hid (GoodSet (ps.take j)))
  case atStart => exact ⟨0, none, 0, 0, [], rfl, rfl, Nat.zero_add _, Below.refl _ _, Kd.R_nil _ _ _ _ _, List.Perm.refl _, ⟨(fun p hp => by cases hp), List.Pairwise.nil⟩⟩
  case round =>
    obtain ⟨j, B, m, d, qs, rfl, rfl, HI, HB, HR, HP, HGS⟩ := hrel
    by_cases hlt : j < n
    · have d1 : (j : Int) < (n : Int) := by omega
      obtain ⟨ad, rfl, hcell⟩ := Kd.at_string (Kd.C_below (unhide HC) (unhide HB)) (j : Int) (by omega) d1
      rw [Int.toNat_natCast] at hcell
      obtain ⟨s, hs⟩ : ∃ z, z = rdOf ByteArray.empty ps (j : Int) := ⟨_, rfl⟩
      rw [← hs] at hcell
      have hpj : ps[j]? = some s := by
        have hj : j < ps.length := by rw [← unhide HN]; exact hlt
        rw [hs]
        unfold rdOf
        rw [Int.toNat_natCast, List.getD_eq_getElem?_getD, List.getElem?_eq_getElem hj]
        rfl
      have hsz := unhide HS s (List.mem_of_getElem? hpj)
      have HPJ := hide hpj
      have HLT := hide hlt
      have HSZ := hide hsz
      clear hs hlt hpj hsz
      go_wp2_with fail
      refine (pathcheck_ok s wr ((unhide HG).below (unhide HB)) (unhide HSZ)).mono ?_
      rintro e w2 ⟨v, rfl, ht, hb⟩
      have HB2 := hide (below_step (unhide HB) hb)
      have HR2 := hide (Kd.R_below (unhide HR) hb)
      clear hb HR HB hcell
      unfold Told at ht
      cases hok : pathOK s with
      | false =>
        rw [hok] at ht
        obtain ⟨g, rfl⟩ := ht
        have HNK := hide hok
        clear hok
        go_wp2_with fail
        have hnew := blk_new (w2.alloc (.cells #[.int .i64 (j : Int), .int .i64 90] 78)) (.cells #[.iface 76 (.pointer (some ⟨w2.heap.size, 0, none⟩)), .iface 76 (.pointer (some ⟨g, 0, none⟩))] 29)
        rw [World.size_alloc] at hnew
        refine (join_ok _ (76, ⟨w2.heap.size, 0, none⟩) (76, ⟨g, 0, none⟩) _ ((blk_cell hnew 0).trans rfl) ((blk_cell hnew 1).trans rfl)).mono ?_
        rintro e w5 ⟨p, rfl, hb⟩
        have HB5 := hide (below_step (below_alloc (below_alloc (unhide HB2) _) _) hb)
        clear hnew hb
        go_wp2_with fail
        go_ret2
        exact ⟨unhide HB5, .inl ⟨(fun hg => by have h := hg.1 s (List.mem_of_getElem? (unhide HPJ)); rw [unhide HNK] at h; cases h), _, _, rfl⟩⟩
      | true =>
        rw [hok] at ht
        obtain rfl := ht
        have HOK := hide hok
        clear hok
        go_wp2_with fail
        obtain ⟨gk1, hk1⟩ : ∃ z, z = gk := ⟨_, rfl⟩
        have HK1 := hide hk1
        have hm := (Kd.R_reads' (unhide HR2)).1
        have HM := hide hm
        have hqn : m ≤ 1000 := by
          rw [hm, (unhide HP).length_eq, List.length_take]
          have := unhide HL
          have := unhide HN
          omega
        have HQN := hide hqn
        clear hk1 d1 hm hqn
        go_loopg [8, 33] m (fun kp v8 v33 wp => ∃ (a k : Nat), v8 = .int .i64 (a : Int) ∧ v33 = .int .i64 (k : Int) ∧ Hid (k + kp = m) ∧ Hid (a ≤ m) ∧ wp = w2 ∧ Hid (∀ x ∈ qs.take k, x ≠ s ∧ clash x s = false))
        case atStart => exact ⟨m, 0, rfl, rfl, Nat.zero_add _, Nat.le_refl _, rfl, (fun x hx => by simp at hx)⟩
        case round =>
          obtain ⟨a, k, rfl, rfl, HI2, HA, rfl, HX⟩ := hrel
          by_cases hkm : k < m
          · have d1 : (k : Int) < (m : Int) := by omega
            obtain ⟨ad2, hB2, hcell⟩ := Kd.at_string (Kd.R_reads' (unhide HR2)).2.2 (k : Int) (by omega) (by rw [← unhide HM]; exact d1)
            subst hB2
            rw [Int.toNat_natCast] at hcell
            obtain ⟨x, hx⟩ : ∃ z, z = rdOf ByteArray.empty qs (k : Int) := ⟨_, rfl⟩
            rw [← hx] at hcell
            have hqk : qs[k]? = some x := by
              have hj : k < qs.length := by rw [← unhide HM]; exact hkm
              rw [hx]
              unfold rdOf
              rw [Int.toNat_natCast, List.getD_eq_getElem?_getD, List.getElem?_eq_getElem hj]
              rfl
            have HQK := hide hqk
            have HKM := hide hkm
            have hxt : x ∈ ps.take j := (unhide HP).mem_iff.1 (List.mem_of_getElem? hqk)
            have hxm : x ∈ ps := List.mem_of_mem_take hxt
            have HXT := hide hxt
            clear hxt
            have hsx : x.size ≤ 10000 := unhide HS x hxm
            clear hx hqk hkm hxm
            by_cases hxs : x = s
            · have hq := str_eq hxs
              have hng := not_good (unhide HXT) (unhide HPJ) (.inl hxs)
              have HNG := hide hng
              clear hxs hsx hng
              go_wp2_with fail
              go_ret2
              exact ⟨below_alloc (unhide HB2) _, .inl ⟨unhide HNG, _, _, rfl⟩⟩
            · have hq := str_ne hxs
              have HXS := hide hxs
              have hcl := clash_ok x s wr hsx (unhide HSZ)
              obtain ⟨gt, hgt⟩ := gt_str x s
              have hgt := hgt wr
              clear hxs hsx
              go_wp2_with fail
              refine hcl.mono ?_
              rintro e w5 ⟨rfl, rfl⟩
              clear hcl
              cases hcl : clash x s with
              | true =>
                have hng := not_good (unhide HXT) (unhide HPJ) (.inr hcl)
                have HNG := hide hng
                clear hcl hng
                go_wp2_with fail
                go_ret2
                exact ⟨below_alloc (unhide HB2) _, .inl ⟨unhide HNG, _, _, rfl⟩⟩
              | false =>
                have HCL := hide hcl
                clear hcl
                have NX : Hid (∀ y ∈ qs.take (k + 1), y ≠ s ∧ clash y s = false) := by
                  intro y hy
                  rw [List.take_add_one, unhide HQK] at hy
                  rcases List.mem_append.1 hy with hy | hy
                  · exact unhide HX y hy
                  · have e : y = x := by simpa using hy
                    rw [e]
                    exact ⟨unhide HXS, unhide HCL⟩
                cases gt with
                | false =>
                  go_wp2_with fail
                  go_roundg (gk - 1)
                  case measure => have := unhide HI2; have := unhide HKM; omega
                  case rel => exact ⟨a, k + 1, rfl, congrArg (Value.int .i64) (by have := unhide HQN; have := unhide HKM; (try unfold wrap64); omega), (by have := unhide HI2; have := unhide HKM; show _ = _; omega), HA, rfl, NX⟩
                | true =>
                  by_cases hka : k < a
                  · have d5 : (k : Int) < (a : Int) := by omega
                    clear hka
                    go_wp2_with fail
                    go_roundg (gk - 1)
                    case measure => have := unhide HI2; have := unhide HKM; omega
                    case rel => exact ⟨k, k + 1, rfl, congrArg (Value.int .i64) (by have := unhide HQN; have := unhide HKM; (try unfold wrap64); omega), (by have := unhide HI2; have := unhide HKM; show _ = _; omega), (by have := unhide HKM; show _ ≤ _; omega), rfl, NX⟩
                  · have d5 : ¬ (k : Int) < (a : Int) := by omega
                    clear hka
                    go_wp2_with fail
                    go_roundg (gk - 1)
                    case measure => have := unhide HI2; have := unhide HKM; omega
                    case rel => exact ⟨a, k + 1, rfl, congrArg (Value.int .i64) (by have := unhide HQN; have := unhide HKM; (try unfold wrap64); omega), (by have := unhide HI2; have := unhide HKM; show _ = _; omega), HA, rfl, NX⟩
          · have d1 : ¬ (k : Int) < (m : Int) := by omega
            have hxa : ∀ x ∈ qs, x ≠ s ∧ clash x s = false := by
              have h := unhide HX
              rw [List.take_of_length_le (by rw [← unhide HM]; omega)] at h
              exact h
            have HXA := hide hxa
            clear hxa hkm
            go_wp2_with fail
            obtain ⟨A2, hs1, hac, v1, w1, hr1, hb1, v2, w2, hr2, hb2, hR2⟩ := ins_runs wr.drew B m d qs w.heap.size (Kd.R_drew (unhide HR2)) (by have := unhide HQN; omega) s a (unhide HA)
            have hs0 := fun W => cut_at B m d a hac W
            have HS1 := hide hs1
            have HS0 := hide hs0
            have HR1 := hide hr1
            have HRR := hide hr2
            have RR := hide hR2
            have BE : Hid (Below w.heap.size w w2) := below_step (below_drew (unhide HB2)) hb2
            clear hs1 hac hr1 hb1 hr2 hb2 hR2 hs0
            refine start_ (n := 12) (S := fun _ => True) (ds := []) #[false, false, false, false, false, false, false, false, false, false, false, false] (by kernel_rfl) rfl rfl trivial (fun hHeld => ?_)
            refine with_tabW tabT20_19 bitsT20_19 (fun HT_ HW_ => ?_)
            refine pure_ (i := 0) (N := some 62) (v := ?_) (a' := ?_) #[true, false, false, false, false, false, false, false, false, false, false, false] rfl rfl (any_of HT_.out (by kernel_rfl)) (fun _ _ _ h => h) (Or.inl ⟨by rfl, ?_⟩) ?_ ?_
            rotate_left
            · intro w'
              go_simp
              with_reducible rfl
            rotate_left
            · simp only [Act.put, List.setIfInBounds_toArray, List.set_cons_zero, List.set_cons_succ, i64_w, i32_w]
              rfl
            refine pure_ (i := 1) (N := some 63) (v := ?_) (a' := ?_) #[true, true, false, false, false, false, false, false, false, false, false, false] rfl rfl (any_of HT_.out (by kernel_rfl)) (fun _ _ _ h => h) (Or.inl ⟨by rfl, ?_⟩) ?_ ?_
            rotate_left
            · intro w'
              go_simp
              with_reducible rfl
            rotate_left
            · simp only [Act.put, List.setIfInBounds_toArray, List.set_cons_zero, List.set_cons_succ, i64_w, i32_w]
              rfl
            refine pure_ (i := 2) (N := some 64) (v := ?_) (a' := ?_) #[true, true, true, false, false, false, false, false, false, false, false, false] rfl rfl (any_of HT_.out (by kernel_rfl)) (fun _ _ _ h => h) (Or.inl ⟨by rfl, ?_⟩) ?_ ?_
            rotate_left
            · intro w'
              go_simp
              with_reducible rfl
            rotate_left
            · simp only [Act.put, List.setIfInBounds_toArray, List.set_cons_zero, List.set_cons_succ, i64_w, i32_w]
              rfl
            refine pure_ (i := 3) (N := some 65) (v := .slice B a a) (a' := ?_) #[true, true, true, true, false, false, false, false, false, false, false, false] rfl rfl (any_of HT_.out (by kernel_rfl)) (fun _ _ _ h => h) (Or.inl ⟨by rfl, ?_⟩) ?_ ?_
            skip
            · intro w'
              refine exec_slice (x := .tmp 62) (lo := none) (hi := some (.tmp 63)) (mx := some (.tmp 64)) ?_ ?_ ?_ ?_ ?_ (unhide HS0 _) slice36
              all_goals rfl
            rotate_left
            · simp only [Act.put, List.setIfInBounds_toArray, List.set_cons_zero, List.set_cons_succ, i64_w, i32_w]
              rfl
            refine pure_ (i := 4) (N := some 66) (v := ?_) (a' := ?_) #[true, true, true, true, true, false, false, false, false, false, false, false] rfl rfl (any_of HT_.out (by kernel_rfl)) (fun _ _ _ h => h) (Or.inl ⟨by rfl, ?_⟩) ?_ ?_
            rotate_left
            · intro w'
              go_simp
              with_reducible rfl
            rotate_left
            · simp only [Act.put, List.setIfInBounds_toArray, List.set_cons_zero, List.set_cons_succ, i64_w, i32_w]
              rfl
            refine pure_ (i := 6) (N := some 68) (v := ?_) (a' := ?_) #[true, true, true, true, true, false, true, false, false, false, false, false] rfl rfl (any_of HT_.out (by kernel_rfl)) (fun _ _ _ h => h) (Or.inl ⟨by rfl, ?_⟩) ?_ ?_
            rotate_left
            · intro w'
              go_simp
              with_reducible rfl
            rotate_left
            · simp only [Act.put, List.setIfInBounds_toArray, List.set_cons_zero, List.set_cons_succ, i64_w, i32_w]
              rfl
            refine pure_ (i := 7) (N := some 69) (v := ?_) (a' := ?_) #[true, true, true, true, true, false, true, true, false, false, false, false] rfl rfl (any_of HT_.out (by kernel_rfl)) (fun _ _ _ h => h) (Or.inl ⟨by rfl, ?_⟩) ?_ ?_
            rotate_left
            · intro w'
              go_simp
              with_reducible rfl
            rotate_left
            · simp only [Act.put, List.setIfInBounds_toArray, List.set_cons_zero, List.set_cons_succ, i64_w, i32_w]
              rfl
            refine pure_ (i := 8) (N := some 70) (v := .slice A2 (m - a) (d - a)) (a' := ?_) #[true, true, true, true, true, false, true, true, true, false, false, false] rfl rfl (any_of HT_.out (by kernel_rfl)) (fun _ _ _ h => h) (Or.inl ⟨by rfl, ?_⟩) ?_ ?_
            skip
            · intro w'
              refine exec_slice (x := .tmp 68) (lo := some (.tmp 69)) (hi := none) (mx := none) ?_ ?_ ?_ ?_ ?_ (unhide HS1 _) slice36
              all_goals rfl
            rotate_left
            · simp only [Act.put, List.setIfInBounds_toArray, List.set_cons_zero, List.set_cons_succ, i64_w, i32_w]
              rfl
            refine one_ (i := 5) (N := some 67) #[true, true, true, true, true, true, true, true, true, false, false, false] rfl rfl (one_of HT_.out (by kernel_rfl)) (by decide) (fun K hK => ?_)
            refine value_ (v := .slice (some ⟨wr.drew.heap.size, 0, none⟩) 1 1) (w1 := wr.drew.alloc (.cells #[.string s] 9)) (wanted_none rfl) rfl ?hrun ?_
            case hrun =>
              first | (go_simp; done) | (go_simp; rfl)
            clear hHeld
            refine hK.out _ _ trivial (fun hHeld => ?_)
            clear hK K
            refine norm_ (a' := ?_) ?_ ?_
            rotate_left
            · show Act.put _ (some 67) _ = _
              simp only [Act.put, List.setIfInBounds_toArray, List.set_cons_zero, List.set_cons_succ, i64_w, i32_w]
              rfl
            refine one_ (i := 9) (N := some 71) #[true, true, true, true, true, true, true, true, true, true, false, false] rfl rfl (one_of HT_.out (by kernel_rfl)) (by decide) (fun K hK => ?_)
            refine value_ (v := v1) (w1 := w1) (wanted_none rfl) rfl ?hrun ?_
            case hrun =>
              refine exec_append (s := .tmp 67) (x := .tmp 70) ?_ ?_ ?_ ?_ (unhide HR1)
              all_goals rfl
            clear hHeld
            refine hK.out _ _ trivial (fun hHeld => ?_)
            clear hK K
            refine norm_ (a' := ?_) ?_ ?_
            rotate_left
            · show Act.put _ (some 71) _ = _
              simp only [Act.put, List.setIfInBounds_toArray, List.set_cons_zero, List.set_cons_succ, i64_w, i32_w]
              rfl
            refine one_ (i := 10) (N := some 72) #[true, true, true, true, true, true, true, true, true, true, true, false] rfl rfl (one_of HT_.out (by kernel_rfl)) (by decide) (fun K hK => ?_)
            refine value_ (v := v2) (w1 := w2) (wanted_none rfl) rfl ?hrun ?_
            case hrun =>
              refine exec_append (s := .tmp 65) (x := .tmp 71) ?_ ?_ ?_ ?_ (unhide HRR)
              all_goals rfl
            clear hHeld
            refine hK.out _ _ trivial (fun hHeld => ?_)
            clear hK K
            refine norm_ (a' := ?_) ?_ ?_
            rotate_left
            · show Act.put _ (some 72) _ = _
              simp only [Act.put, List.setIfInBounds_toArray, List.set_cons_zero, List.set_cons_succ, i64_w, i32_w]
              rfl
            refine pure_ (i := 11) (N := some 4) (v := ?_) (a' := ?_) #[true, true, true, true, true, true, true, true, true, true, true, true] rfl rfl (any_of HT_.out (by kernel_rfl)) (fun _ _ _ h => h) (Or.inl ⟨by rfl, ?_⟩) ?_ ?_
            rotate_left
            · intro w'
              go_simp
              with_reducible rfl
            rotate_left
            · simp only [Act.put, List.setIfInBounds_toArray, List.set_cons_zero, List.set_cons_succ, i64_w, i32_w]
              rfl
            refine done_ (done_of HT_.out (by kernel_rfl)) ?_
            clear HT_ HW_ hHeld
            have HF := hide (unhide RR)
            obtain ⟨B5, m5, d5, hv5⟩ : ∃ (B5 : Option Addr) (m5 d5 : Nat), v2 = .slice B5 m5 d5 := by
              obtain ⟨A5, c5, h5⟩ := Kd.R_slice (unhide RR)
              exact ⟨A5, _, c5, h5⟩
            subst hv5
            go_wp2_with fail
            go_roundg (gk1 - 1)
            case measure => have := unhide HI; have := unhide HLT; have := unhide HK1; omega
            case rel =>
              have htk : ps.take (j + 1) = ps.take j ++ [s] := by rw [List.take_add_one, unhide HPJ]; rfl
              refine ⟨j + 1, B5, m5, d5, _, congrArg (Value.int .i64) (by have := unhide HL; have := unhide HLT; (try unfold wrap64); omega), rfl, (by have := unhide HI; have := unhide HLT; have := unhide HK1; show _ = _; omega), BE, Kd.R_lower (unhide RR) (unhide HB2).size, ?_, ?_⟩
              · show List.Perm _ _
                rw [htk]
                exact put_perm s a (unhide HP)
              · show GoodSet _
                rw [htk]
                exact (unhide HGS).snoc (unhide HP) (unhide HOK) (unhide HXA)
    · have d1 : ¬ (j : Int) < (n : Int) := by omega
      go_wp2_with fail
      go_ret2
      have ht : ps.take j = ps := List.take_of_length_le (by rw [← unhide HN]; omega)
      have hp := unhide HP
      have hg := unhide HGS
      rw [ht] at hp hg
      exact ⟨unhide HB, .inr ⟨B, m, d, qs, rfl, unhide HR, hp, hg⟩⟩
end Go.Proofs.YtgoephcembgmcaaGreatDoor.G
namespace Go.Proofs.YtgoephcembgmcaaGreatDoor.G
open Go.RowKit Go.Maps Go.Proofs.YtgoephcembgmcaaGreatDoorW.PrintWords Go.Proofs.YtgoephcembgmcaaGreatDoorW.PrintLast
/-! The lock list: a row of asks, their paths in rows of their own. The first ask of whom something holds. -/
abbrev Ask := Int × List ByteArray × Bool
abbrev Sc := Option Addr × Nat × Nat
def slv (s : Sc) : Value := .slice s.1 s.2.1 s.2.2
def zc (z : Ask × Sc) : List Value := [.int .i64 z.1.1, slv z.2, .bool z.1.2.2]
/-- A row of asks. -/
def LR (w : World) (base : Nat) (v : Value) (zs : List (Ask × Sc)) : Prop :=
  w.ownsRow base 69 3 v zs.length (zs.flatMap zc) ∧ ∀ z ∈ zs, Kd.string.R 9 w base (fun _ => True) (slv z.2) z.1.2.1
theorem zs_get : ∀ (zs : List (Ask × Sc)) (j : Nat) (z : Ask × Sc), zs[j]? = some z → ∀ l u, (zc z)[l]? = some u → (zs.flatMap zc)[j * 3 + l]? = some u
  | [], j, z, h, _, _, _ => by simp at h
  | y :: zs, 0, z, h, l, u, hu => by
    obtain rfl : y = z := by simpa using h
    have hl : l < 3 := (List.getElem?_eq_some_iff.1 hu).1
    rw [List.flatMap_cons, Nat.zero_mul, Nat.zero_add, List.getElem?_append_left (show l < (zc y).length from hl)]
    exact hu
  | y :: zs, j + 1, z, h, l, u, hu => by
    rw [List.flatMap_cons, List.getElem?_append_right (show (zc y).length ≤ (j + 1) * 3 + l from by show 3 ≤ _; omega)]
    rw [show (j + 1) * 3 + l - (zc y).length = j * 3 + l from by show _ - 3 = _; omega]
    exact zs_get zs j z (by simpa using h) l u hu
theorem owns_block {w w1 : World} {base e size n : Nat} {v : Value} {xs : List Value} (h : w.ownsRow base e size v n xs) (hk : ∀ k, v.ownBlock = some k → w1.heap[k]? = w.heap[k]?) : w1.ownsRow base e size v n xs := by
  obtain ⟨h1, h2⟩ := h
  refine ⟨h1, ?_⟩
  rcases h2 with h2 | ⟨g, cap, cur, rfl, hb, hg, h3⟩
  · exact .inl h2
  · exact .inr ⟨g, cap, cur, rfl, hb, (hk g rfl).trans hg, h3⟩
section
variable {w w1 : World} {base : Nat} {v : Value} {zs : List (Ask × Sc)}
/-- Only rows of asks and of strings count. -/
theorem LR.move (h : LR w base v zs) (hk : ∀ k, base ≤ k → k < w.heap.size → (∃ cells q, (q = 69 ∨ q = 9) ∧ w.heap[k]? = some (.cells cells q (0, 0))) → w1.heap[k]? = w.heap[k]?) : LR w1 base v zs := by
  refine ⟨owns_block h.1 (fun k hb => ?_), fun z hz => Kd.R_mono (Kd.R_move (Kd.R_bound (h.2 z hz)) (fun k hk2 => hk k hk2.2.1 hk2.2.2.1 ?_)) (fun _ h => h.1)⟩
  · have hl := h.1.lt k hb
    rcases h.1.2 with ⟨rfl, _⟩ | ⟨g, cap, cur, rfl, _, hg, _⟩
    · cases hb
    · obtain rfl : g = k := Option.some.inj hb
      exact hk g hl.1 hl.2 ⟨cur, 69, .inl rfl, hg⟩
  · obtain ⟨q, hq, cells, hc⟩ := hk2.2.2.2
    refine ⟨cells, q, .inr ?_, hc⟩
    rcases List.mem_cons.1 hq with rfl | hq
    · rfl
    · cases hq
theorem LR.below (h : LR w base v zs) (hb : Below w.heap.size w w1) : LR w1 base v zs := h.move (fun k _ hlt _ => hb.block k hlt)
theorem LR.slice (h : LR w base v zs) : ∃ A c, v = .slice A zs.length c ∧ (0 < zs.length → ∃ g, A = some ⟨g, 0, none⟩ ∧ base ≤ g ∧ g < w.heap.size) ∧ zs.length ≤ c := by
  rcases h.1.2 with ⟨hv, h0⟩ | ⟨g, cap, cur, rfl, hb, hg, hc, _⟩
  · refine ⟨none, 0, by rw [h0]; exact hv, fun hp => ?_, by omega⟩
    omega
  · exact ⟨_, cap, rfl, fun _ => ⟨g, rfl, hb, (Array.getElem?_eq_some_iff.1 hg).1⟩, hc⟩
theorem LR.at_ {A : Option Addr} {n c : Nat} (h : LR w base (.slice A n c) zs) (j : Nat) (z : Ask × Sc) (hz : zs[j]? = some z) :
    ∃ ad, A = some ad ∧ w.cell? (ad.add (j * 3)) = some (.int .i64 z.1.1) ∧ w.cell? ⟨(ad.add (j * 3)).block, (ad.add (j * 3)).off + 1, none⟩ = some (slv z.2) ∧ w.cell? ⟨(ad.add (j * 3)).block, (ad.add (j * 3)).off + 2, none⟩ = some (.bool z.1.2.2) := by
  have hj : j < zs.length := (List.getElem?_eq_some_iff.1 hz).1
  rcases h.1.2 with ⟨hv, h0⟩ | ⟨g, cap, cur, hv, hb, hg, hc, h5⟩
  · omega
  · cases hv
    have hcell := h.1.cells (g := g) rfl
    refine ⟨_, rfl, ?_, ?_, ?_⟩
    · have := hcell (j * 3 + 0) _ (zs_get zs j z hz 0 _ rfl)
      exact this
    · have := hcell (j * 3 + 1) _ (zs_get zs j z hz 1 _ rfl)
      rw [add_plain] at this ⊢
      exact this
    · have := hcell (j * 3 + 2) _ (zs_get zs j z hz 2 _ rfl)
      rw [add_plain] at this ⊢
      exact this
end
/-- The first place below n at which p holds, or -1. -/
def FirstAt (p : Nat → Bool) (n : Nat) (r : Int) : Prop := (r = -1 ∧ ∀ j, j < n → p j = false) ∨ ∃ k, k < n ∧ r = (k : Int) ∧ p k = true ∧ ∀ j, j < k → p j = false
set_option maxHeartbeats 2000000 in
theorem index_ok (f : Nat → Value × Value × Value) (p : Nat → Bool) (g : Nat) (lb : Array Value) (eg : ∀ args w, (callFunc g args).run Tryz.prog w = .ok (.enter g args) w) (A : Option Addr) (n c : Nat) (w : World) (hn : n ≤ 1000)
    (hc : ∀ j, j < n → ∃ ad, A = some ad ∧ ad.block < w.heap.size ∧ w.cell? (ad.add (j * 3)) = some (f j).1 ∧ w.cell? ⟨(ad.add (j * 3)).block, (ad.add (j * 3)).off + 1, none⟩ = some (f j).2.1 ∧ w.cell? ⟨(ad.add (j * 3)).block, (ad.add (j * 3)).off + 2, none⟩ = some (f j).2.2)
    (hp : ∀ j, j < n → ∀ W, Below w.heap.size w W → Calls Tryz.prog g (#[.agg #[(f j).1, (f j).2.1, (f j).2.2]] ++ lb) W fun e w' => e = .returned (.bool (p j)) ∧ Below w.heap.size w w') :
    Calls Tryz.prog 32 #[.slice A n c, .func (.func g) #[] lb] w fun e w' => (∃ r, FirstAt p n r ∧ e = .returned (.int .i64 r)) ∧ Below w.heap.size w w' := by
  have HC := hide hc
  have HP := hide hp
  have HN := hide hn
  have hu61 := Tryz.underlying61
  have hu69 := Tryz.underlying69
  clear hc hp hn
  go_enter Tryz.func32, Tryz.ntmps32
  go_wp2_with fail
  go_loopg [8] n (fun kq v8 wr => ∃ (j : Nat), v8 = .int .i64 (j : Int) ∧ Hid (j + kq = n) ∧ Hid (Below w.heap.size w wr) ∧ Hid (∀ l, l < j → p l = false))
  case atStart => exact ⟨0, rfl, Nat.zero_add _, Below.refl _ _, fun l hl => absurd hl (Nat.not_lt_zero _)⟩
  case round =>
    obtain ⟨j, rfl, HI, HB, HF⟩ := hrel
    by_cases hlt : j < n
    · obtain ⟨ad, rfl, hb, k0, k1, k2⟩ := unhide HC j hlt
      have k0 := ((unhide HB).cell (p := ad.add (j * 3)) (by rw [show (ad.add (j * 3)).block = ad.block from by unfold Addr.add; split <;> rfl]; exact hb)).trans k0
      have k1 := ((unhide HB).cell (p := ⟨(ad.add (j * 3)).block, (ad.add (j * 3)).off + 1, none⟩) (by show (ad.add (j * 3)).block < _; rw [show (ad.add (j * 3)).block = ad.block from by unfold Addr.add; split <;> rfl]; exact hb)).trans k1
      have k2 := ((unhide HB).cell (p := ⟨(ad.add (j * 3)).block, (ad.add (j * 3)).off + 2, none⟩) (by show (ad.add (j * 3)).block < _; rw [show (ad.add (j * 3)).block = ad.block from by unfold Addr.add; split <;> rfl]; exact hb)).trans k2
      have hcall := unhide HP j hlt wr (unhide HB)
      obtain ⟨x, hx⟩ : ∃ x, f j = x := ⟨_, rfl⟩
      rw [hx] at k0 k1 k2 hcall
      obtain ⟨x0, x1, x2⟩ := x
      have d1 : (j : Int) < (n : Int) := by omega
      have HLT := hide hlt
      clear hb hx hlt
      cases hq : p j with
      | true =>
        rw [hq] at hcall
        have HQ := hide hq
        clear hq
        go_wp2_with (go_at_fn g; refine hcall.mono ?_; rintro e w' ⟨rfl, hb'⟩)
        go_ret
        exact ⟨⟨_, .inr ⟨j, unhide HLT, rfl, unhide HQ, unhide HF⟩, rfl⟩, hb'⟩
      | false =>
        rw [hq] at hcall
        have HQ := hide hq
        clear hq
        go_wp2_with (go_at_fn g; refine hcall.mono ?_; rintro e w' ⟨rfl, hb'⟩)
        go_roundg (gk - 1)
        case measure => have := unhide HI; have := unhide HLT; omega
        case rel =>
          refine ⟨j + 1, congrArg (Value.int .i64) (by have := unhide HN; have := unhide HLT; unfold wrap64; omega), (by have := unhide HI; have := unhide HLT; show _ = _; omega), hb', ?_⟩
          intro l hl
          by_cases e : l = j
          · rw [e]; exact unhide HQ
          · exact unhide HF l (by omega)
    · have d1 : ¬ (j : Int) < (n : Int) := by omega
      go_wp2_with fail
      go_ret
      exact ⟨⟨_, .inl ⟨rfl, fun l hl => unhide HF l (by omega)⟩, rfl⟩, unhide HB⟩
end Go.Proofs.YtgoephcembgmcaaGreatDoor.G
namespace Go.Proofs.YtgoephcembgmcaaGreatDoor.G
open Go.RowKit Go.Maps Go.Proofs.YtgoephcembgmcaaGreatDoorW.PrintWords Go.Proofs.YtgoephcembgmcaaGreatDoorW.PrintLast
/-! Locks.find, Len. -/
theorem findcl_ok (x : Int) (v1 v2 : Value) (who : Int) (b : Nat) (w : World) (hb : w.cell? ⟨b, 0, none⟩ = some (.int .i64 who)) :
    Calls Tryz.prog 33 #[.agg #[.int .i64 x, v1, v2], .pointer (some ⟨b, 0, none⟩)] w fun e w' => e = .returned (.bool (x == who)) ∧ Below w.heap.size w w' := by
  have hu69 := Tryz.underlying69
  have hx := blk_new w (.cells #[.int .i64 x, v1, v2] 69)
  have hxc : (w.alloc (.cells #[.int .i64 x, v1, v2] 69)).cell? ⟨w.heap.size, 0, none⟩ = some (.int .i64 x) := blk_cell hx 0
  have hlt : b < w.heap.size := by
    rcases Nat.lt_or_ge b w.heap.size with h | h
    · exact h
    · simp [World.cell?, Array.getElem?_eq_none h] at hb
  have hbc : (w.alloc (.cells #[.int .i64 x, v1, v2] 69)).cell? ⟨b, 0, none⟩ = some (.int .i64 who) := ((below_alloc (Below.refl _ w) _).cell (p := ⟨b, 0, none⟩) hlt).trans hb
  have HB := hide (below_alloc (Below.refl w.heap.size w) (.cells #[.int .i64 x, v1, v2] 69))
  clear hx hlt hb
  go_enter Tryz.func33, Tryz.ntmps33
  go_wp2_with fail
  go_ret
  exact ⟨rfl, unhide HB⟩
/-- A Locks's cell. -/
def LKat (w : World) (L : Nat) (v : Value) : Prop := w.heap[L]? = some (.cells #[v] 63 (0, 0))
theorem LKat.cell {w : World} {L : Nat} {v : Value} (h : LKat w L v) : w.cell? ⟨L, 0, none⟩ = some v := blk_cell h 0
theorem LKat.lt {w : World} {L : Nat} {v : Value} (h : LKat w L v) : L < w.heap.size := (Array.getElem?_eq_some_iff.1 h).1
theorem LKat.below {w w1 : World} {L : Nat} {v : Value} (h : LKat w L v) (hb : Below w.heap.size w w1) : LKat w1 L v := (hb.block L h.lt).trans h
set_option maxHeartbeats 2000000 in
theorem find_ok (L : Nat) (v : Value) (base : Nat) (zs : List (Ask × Sc)) (who : Int) (w : World) (hL : LKat w L v) (hR : LR w base v zs) (hl : zs.length ≤ 1000) :
    Calls Tryz.prog 19 #[.pointer (some ⟨L, 0, none⟩), .int .i64 who] w fun e w' => (∃ r, FirstAt (fun j => match zs[j]? with | some z => z.1.1 == who | none => false) zs.length r ∧ e = .returned (.int .i64 r)) ∧ Below w.heap.size w w' := by
  obtain ⟨A, c, rfl, hp, _⟩ := hR.slice
  obtain ⟨n, hn⟩ : ∃ z, z = zs.length := ⟨_, rfl⟩
  obtain ⟨p, hpd⟩ : ∃ p : Nat → Bool, p = fun j => match zs[j]? with | some z => z.1.1 == who | none => false := ⟨_, rfl⟩
  have hidx := index_ok (fun j => match zs[j]? with | some z => (.int .i64 z.1.1, slv z.2, .bool z.1.2.2) | none => (.nilIface, .nilIface, .nilIface)) p 33 #[.pointer (some ⟨w.heap.size, 0, none⟩)] (fun args W => by kernel_rfl) A n c (w.alloc (.cells #[.int .i64 who] 3)) (by omega)
    (fun j hj => by
      obtain ⟨z, hz⟩ : ∃ z, zs[j]? = some z := ⟨_, List.getElem?_eq_getElem (by omega)⟩
      obtain ⟨ad, rfl, k0, k1, k2⟩ := (hR.below (below_alloc (Below.refl _ w) (.cells #[.int .i64 who] 3))).at_ j z hz
      obtain ⟨g, hg, _, hlt⟩ := hp (by omega)
      cases hg
      refine ⟨_, rfl, by rw [World.size_alloc]; show g < _; omega, ?_⟩
      rw [hz]
      exact ⟨k0, k1, k2⟩)
    (fun j hj W hB => by
      obtain ⟨z, hz⟩ : ∃ z, zs[j]? = some z := ⟨_, List.getElem?_eq_getElem (by omega)⟩
      rw [hz]
      have hc : W.cell? ⟨w.heap.size, 0, none⟩ = some (.int .i64 who) := (hB.cell (p := ⟨w.heap.size, 0, none⟩) (by rw [World.size_alloc]; exact Nat.lt_succ_self _)).trans (blk_cell (blk_new w _) 0)
      refine (findcl_ok z.1.1 (slv z.2) (.bool z.1.2.2) who w.heap.size W hc).mono ?_
      rintro e w' ⟨rfl, hb⟩
      refine ⟨?_, below_step hB hb⟩
      rw [hpd]
      show _ = Ending.returned (.bool (match zs[j]? with | some z => z.1.1 == who | none => false))
      rw [hz])
  rw [← hpd, ← hn]
  have hc : (w.alloc (.cells #[.int .i64 who] 3)).cell? ⟨L, 0, none⟩ = some (.slice A n c) := by
    rw [hn]
    exact (hL.below (below_alloc (Below.refl _ w) _)).cell
  have HB := hide (below_alloc (Below.refl w.heap.size w) (.cells #[.int .i64 who] 3))
  have hu63 := Tryz.underlying63
  clear hL hR hp hpd hl hn
  go_enter Tryz.func19, Tryz.ntmps19
  go_wp2_with fail
  refine hidx.mono ?_
  rintro e w' ⟨⟨r, hr, rfl⟩, hb'⟩
  have HR := hide hr
  have HW := hide hb'
  clear hr hb' hidx
  go_wp2_with fail
  go_ret
  exact ⟨⟨r, unhide HR, rfl⟩, below_step (unhide HB) (unhide HW)⟩
theorem len_ok (L : Nat) (A : Option Addr) (n c : Nat) (w : World) (hL : LKat w L (.slice A n c)) : Calls Tryz.prog 13 #[.pointer (some ⟨L, 0, none⟩)] w fun e w' => e = .returned (.int .i64 (n : Int)) ∧ w' = w := by
  have hc := hL.cell
  have hu63 := Tryz.underlying63
  clear hL
  go_enter Tryz.func13, Tryz.ntmps13
  go_wp2_with fail
  go_ret
  exact ⟨rfl, rfl⟩
theorem new_ok (w : World) : Calls Tryz.prog 4 #[] w fun e w' => e = .returned (.pointer (some ⟨w.heap.size, 0, none⟩)) ∧ w' = w.alloc (.cells #[.slice none 0 0] 63) := by
  have hu63 := Tryz.underlying63
  go_enter Tryz.func4, Tryz.ntmps4
  go_wp2_with fail
  go_ret
  exact ⟨rfl, rfl⟩
end Go.Proofs.YtgoephcembgmcaaGreatDoor.G
namespace Go.Proofs.YtgoephcembgmcaaGreatDoor.G
open Go.RowKit Go.Maps Go.Proofs.YtgoephcembgmcaaGreatDoorW.PrintWords Go.Proofs.YtgoephcembgmcaaGreatDoorW.PrintLast
/-! lock.meet: exact. -/
def meet1 (p : ByteArray) (qs : List ByteArray) : Bool := qs.any fun q => decide (p = q) || clash p q
def meets (ps qs : List ByteArray) : Bool := ps.any fun p => meet1 p qs
theorem any_miss {α : Type} {f : α → Bool} {l : List α} (h : ∀ (k : Nat) (x : α), l[k]? = some x → f x = false) : l.any f = false := by
  rw [List.any_eq_false]
  intro x hx
  obtain ⟨k, hk⟩ := List.mem_iff_getElem?.1 hx
  rw [h k x hk]
  exact Bool.false_ne_true
theorem rd_get {l : List ByteArray} {j : Nat} (hj : j < l.length) : l[j]? = some (rdOf ByteArray.empty l (j : Int)) := by
  unfold rdOf
  rw [Int.toNat_natCast, List.getD_eq_getElem?_getD, List.getElem?_eq_getElem hj]
  rfl
set_option maxHeartbeats 4000000 in
theorem meet_ok (x0 x2 y0 y2 : Value) (A B : Option Addr) (c d : Nat) (ps qs : List ByteArray) (w : World) (hA : Kd.string.C w A ps.length ps) (hB : Kd.string.C w B qs.length qs) (hp : ps.length ≤ 1000) (hq : qs.length ≤ 1000)
    (hps : ∀ p ∈ ps, p.size ≤ 10000) (hqs : ∀ q ∈ qs, q.size ≤ 10000) :
    Calls Tryz.prog 37 #[.agg #[x0, .slice A ps.length c, x2], .agg #[y0, .slice B qs.length d, y2]] w fun e w' => e = .returned (.bool (meets ps qs)) ∧ Below w.heap.size w w' := by
  obtain ⟨res, hres⟩ : ∃ z, z = meets ps qs := ⟨_, rfl⟩
  rw [← hres]
  have HRES := hide hres
  clear hres
  obtain ⟨n, hn⟩ : ∃ z, z = ps.length := ⟨_, rfl⟩
  obtain ⟨m, hm⟩ : ∃ z, z = qs.length := ⟨_, rfl⟩
  rw [← hn] at hA hp ⊢
  rw [← hm] at hB hq ⊢
  have HN := hide hn
  have HM := hide hm
  have HA := hide hA
  have HB := hide hB
  have HP := hide hp
  have HQ := hide hq
  have HPS := hide hps
  have HQS := hide hqs
  have hu69 := Tryz.underlying69
  have BX := hide (below_alloc (below_alloc (Below.refl w.heap.size w) (.cells #[x0, .slice A n c, x2] 69)) (.cells #[y0, .slice B m d, y2] 69))
  have k1 : ((w.alloc (.cells #[x0, .slice A n c, x2] 69)).alloc (.cells #[y0, .slice B m d, y2] 69)).cell? ⟨w.heap.size, 1, none⟩ = some (.slice A n c) := by
    have h1 := blk_new w (.cells #[x0, .slice A n c, x2] 69)
    have hlt : w.heap.size < (w.alloc (.cells #[x0, .slice A n c, x2] 69)).heap.size := by rw [World.size_alloc]; omega
    exact ((below_alloc (Below.refl _ (w.alloc (.cells #[x0, .slice A n c, x2] 69))) _).cell (p := ⟨w.heap.size, 1, none⟩) hlt).trans (blk_cell h1 1)
  have k2 : ((w.alloc (.cells #[x0, .slice A n c, x2] 69)).alloc (.cells #[y0, .slice B m d, y2] 69)).cell? ⟨w.heap.size + 1, 1, none⟩ = some (.slice B m d) := by
    have h1 := blk_new (w.alloc (.cells #[x0, .slice A n c, x2] 69)) (.cells #[y0, .slice B m d, y2] 69)
    rw [World.size_alloc] at h1
    exact blk_cell h1 1
  obtain ⟨W2, hW2⟩ : ∃ W, W = (w.alloc (.cells #[x0, .slice A n c, x2] 69)).alloc (.cells #[y0, .slice B m d, y2] 69) := ⟨_, rfl⟩
  have hsz : w.heap.size + 1 < W2.heap.size := by rw [hW2, World.size_alloc, World.size_alloc]; omega
  have K2 : Hid (W2.cell? ⟨w.heap.size + 1, 1, none⟩ = some (.slice B m d)) := by rw [hW2]; exact k2
  have HW2 := hide hW2
  have HSZ := hide hsz
  clear hA hB hp hq hps hqs hn hm k2 hW2 hsz
  go_enter Tryz.func37, Tryz.ntmps37
  go_wp2_with fail
  go_loopg [12] n (fun kq v12 wr => ∃ (i : Nat), v12 = .int .i64 (i : Int) ∧ Hid (i + kq = n) ∧ Hid (Below W2.heap.size W2 wr) ∧ Hid (Below w.heap.size w wr) ∧ Hid (∀ (k : Nat) (x : ByteArray), (ps.take i)[k]? = some x → meet1 x qs = false))
  case atStart => exact ⟨0, rfl, Nat.zero_add _, (by rw [unhide HW2]; exact Below.refl _ _), unhide BX, fun k x hx => by simp at hx⟩
  case round =>
    obtain ⟨i, rfl, HI, B2, B0, HF⟩ := hrel
    by_cases hlt : i < n
    · have d1 : (i : Int) < (n : Int) := by omega
      obtain ⟨ad, rfl, hcell⟩ := Kd.at_string (Kd.C_below (unhide HA) (unhide B0)) (i : Int) (by omega) d1
      rw [Int.toNat_natCast] at hcell
      have hpi := rd_get (l := ps) (j := i) (by rw [← unhide HN]; exact hlt)
      obtain ⟨p, hp⟩ : ∃ z, z = rdOf ByteArray.empty ps (i : Int) := ⟨_, rfl⟩
      rw [← hp] at hcell hpi
      have hpz := unhide HPS p (List.mem_of_getElem? hpi)
      have k3 : wr.cell? ⟨w.heap.size + 1, 1, none⟩ = some (.slice B m d) := ((unhide B2).cell (p := ⟨w.heap.size + 1, 1, none⟩) (unhide HSZ)).trans (unhide K2)
      have HPI := hide hpi
      have HPZ := hide hpz
      have HLT := hide hlt
      clear hpi hpz hp hlt
      go_wp2_with fail
      obtain ⟨gk1, hk1⟩ : ∃ z, z = gk := ⟨_, rfl⟩
      have HK1 := hide hk1
      clear hk1 d1
      obtain ⟨wo, rfl⟩ : ∃ z, z = wr := ⟨_, rfl⟩
      go_loopg [19] m (fun kp v19 wp => ∃ (j : Nat), v19 = .int .i64 (j : Int) ∧ Hid (j + kp = m) ∧ wp = wo ∧ Hid (∀ (k : Nat) (x : ByteArray), (qs.take j)[k]? = some x → (decide (p = x) || clash p x) = false))
      case atStart => exact ⟨0, rfl, Nat.zero_add _, rfl, fun k x hx => by simp at hx⟩
      case round =>
        obtain ⟨j, rfl, HJ, rfl, HG⟩ := hrel
        by_cases hlt : j < m
        · have d1 : (j : Int) < (m : Int) := by omega
          obtain ⟨ad2, rfl, hcell2⟩ := Kd.at_string (Kd.C_below (unhide HB) (unhide B0)) (j : Int) (by omega) d1
          rw [Int.toNat_natCast] at hcell2
          have hqj := rd_get (l := qs) (j := j) (by rw [← unhide HM]; exact hlt)
          obtain ⟨q, hq⟩ : ∃ z, z = rdOf ByteArray.empty qs (j : Int) := ⟨_, rfl⟩
          rw [← hq] at hcell2 hqj
          have hqz := unhide HQS q (List.mem_of_getElem? hqj)
          have HQJ := hide hqj
          have HLTJ := hide hlt
          have fin : (decide (p = q) || clash p q) = true → res = true := by
            intro h
            rw [unhide HRES]
            unfold meets
            rw [List.any_eq_true]
            refine ⟨p, List.mem_of_getElem? (unhide HPI), ?_⟩
            unfold meet1
            rw [List.any_eq_true]
            exact ⟨q, List.mem_of_getElem? hqj, h⟩
          have FIN := hide fin
          clear hq hqj hlt fin
          by_cases hpq : p = q
          · have hq := str_eq hpq
            have HE := hide hpq
            clear hpq hqz
            go_wp2_with fail
            go_ret
            refine ⟨?_, unhide B0⟩
            rw [unhide FIN (by rw [decide_eq_true (unhide HE)]; rfl)]; rfl
          · have hq := str_ne hpq
            have HE := hide hpq
            have hcl := clash_ok p q wr (unhide HPZ) hqz
            clear hpq hqz
            go_wp2_with fail
            refine hcl.mono ?_
            rintro e w5 ⟨rfl, rfl⟩
            clear hcl
            cases hcl : clash p q with
            | true =>
              have HCL := hide hcl
              clear hcl
              go_wp2_with fail
              go_ret
              refine ⟨?_, unhide B0⟩
              rw [unhide FIN (by rw [unhide HCL, Bool.or_true])]; rfl
            | false =>
              have HCL := hide hcl
              clear hcl
              go_wp2_with fail
              go_roundg (gk - 1)
              case measure => have := unhide HJ; have := unhide HLTJ; omega
              case rel =>
                refine ⟨j + 1, congrArg (Value.int .i64) (by have := unhide HQ; have := unhide HLTJ; (try unfold wrap64); omega), (by have := unhide HJ; have := unhide HLTJ; show _ = _; omega), rfl, ?_⟩
                intro k x hx
                rw [List.getElem?_take] at hx
                split at hx
                · rename_i hk
                  by_cases e : k = j
                  · subst e
                    rw [unhide HQJ] at hx
                    obtain rfl := Option.some.inj hx
                    rw [decide_eq_false (unhide HE), unhide HCL]
                    rfl
                  · exact unhide HG k x (by rw [List.getElem?_take, if_pos (by omega)]; exact hx)
                · cases hx
        · have d1 : ¬ (j : Int) < (m : Int) := by omega
          have hm1 : meet1 p qs = false := by
            unfold meet1
            refine any_miss (fun k x hx => unhide HG k x ?_)
            rw [List.take_of_length_le (by rw [← unhide HM]; omega)]
            exact hx
          have HM1 := hide hm1
          clear hm1 hlt
          go_wp2_with fail
          go_roundg (gk1 - 1)
          case measure => have := unhide HI; have := unhide HLT; have := unhide HK1; omega
          case rel =>
            refine ⟨i + 1, congrArg (Value.int .i64) (by have := unhide HP; have := unhide HLT; (try unfold wrap64); omega), (by have := unhide HI; have := unhide HLT; have := unhide HK1; show _ = _; omega), B2, B0, ?_⟩
            intro k x hx
            rw [List.getElem?_take] at hx
            split at hx
            · rename_i hk
              by_cases e : k = i
              · subst e
                rw [unhide HPI] at hx
                obtain rfl := Option.some.inj hx
                exact unhide HM1
              · exact unhide HF k x (by rw [List.getElem?_take, if_pos (by omega)]; exact hx)
            · cases hx
    · have d1 : ¬ (i : Int) < (n : Int) := by omega
      have hr : res = false := by
        rw [unhide HRES]
        unfold meets
        refine any_miss (fun k x hx => unhide HF k x ?_)
        rw [List.take_of_length_le (by rw [← unhide HN]; omega)]
        exact hx
      have HR := hide hr
      clear hr hlt
      go_wp2_with fail
      go_ret
      exact ⟨by rw [unhide HR]; rfl, unhide B0⟩
end Go.Proofs.YtgoephcembgmcaaGreatDoor.G
namespace Go.Proofs.YtgoephcembgmcaaGreatDoor.G
open Go.RowKit Go.Maps Go.Proofs.YtgoephcembgmcaaGreatDoorW.PrintWords Go.Proofs.YtgoephcembgmcaaGreatDoorW.PrintLast
/-! slices.ContainsFunc at asks; Locks.free. -/
theorem cell_kept {w w1 : World} {p : Addr} {u : Value} (h : w.cell? p = some u) (hb : Below w.heap.size w w1) : w1.cell? p = some u := by
  have hlt : p.block < w.heap.size := by
    rcases Nat.lt_or_ge p.block w.heap.size with h' | h'
    · exact h'
    · simp [World.cell?, Array.getElem?_eq_none h'] at h
  exact (hb.cell (p := p) hlt).trans h
/-- Something holds below n. -/
def anyAt (p : Nat → Bool) (n : Nat) : Bool := (List.range n).any p
theorem anyAt_true {p : Nat → Bool} {n k : Nat} (hk : k < n) (h : p k = true) : anyAt p n = true := by
  unfold anyAt
  rw [List.any_eq_true]
  exact ⟨k, List.mem_range.2 hk, h⟩
theorem anyAt_false {p : Nat → Bool} {n : Nat} (h : ∀ j, j < n → p j = false) : anyAt p n = false := by
  unfold anyAt
  rw [List.any_eq_false]
  intro j hj
  rw [h j (List.mem_range.1 hj)]
  exact Bool.false_ne_true
theorem contains_ok (f : Nat → Value × Value × Value) (p : Nat → Bool) (g : Nat) (lb : Array Value) (eg : ∀ args w, (callFunc g args).run Tryz.prog w = .ok (.enter g args) w) (A : Option Addr) (n c : Nat) (w : World) (hn : n ≤ 1000)
    (hc : ∀ j, j < n → ∃ ad, A = some ad ∧ ad.block < w.heap.size ∧ w.cell? (ad.add (j * 3)) = some (f j).1 ∧ w.cell? ⟨(ad.add (j * 3)).block, (ad.add (j * 3)).off + 1, none⟩ = some (f j).2.1 ∧ w.cell? ⟨(ad.add (j * 3)).block, (ad.add (j * 3)).off + 2, none⟩ = some (f j).2.2)
    (hp : ∀ j, j < n → ∀ W, Below w.heap.size w W → Calls Tryz.prog g (#[.agg #[(f j).1, (f j).2.1, (f j).2.2]] ++ lb) W fun e w' => e = .returned (.bool (p j)) ∧ Below w.heap.size w w') :
    Calls Tryz.prog 35 #[.slice A n c, .func (.func g) #[] lb] w fun e w' => e = .returned (.bool (anyAt p n)) ∧ Below w.heap.size w w' := by
  have hidx := index_ok f p g lb eg A n c w hn hc hp
  obtain ⟨b, hb⟩ : ∃ z, z = anyAt p n := ⟨_, rfl⟩
  rw [← hb]
  have HB := hide hb
  clear hb hc hp
  go_enter Tryz.func35, Tryz.ntmps35
  go_wp2_with fail
  refine hidx.mono ?_
  rintro e w' ⟨⟨r, hr, rfl⟩, hb'⟩
  have HW := hide hb'
  clear hb' hidx
  rcases hr with ⟨rfl, hr⟩ | ⟨k, hk, rfl, hpk, _⟩
  · have hbf : b = false := by rw [unhide HB]; exact anyAt_false hr
    have HBF := hide hbf
    clear hbf hr
    go_wp2_with fail
    go_ret
    exact ⟨by rw [unhide HBF]; rfl, unhide HW⟩
  · have hbf : b = true := by rw [unhide HB]; exact anyAt_true hk hpk
    have HBF := hide hbf
    have d1 : (0 : Int) ≤ (k : Int) := by omega
    clear hbf hk hpk
    go_wp2_with fail
    go_ret
    exact ⟨by rw [unhide HBF]; rfl, unhide HW⟩
structure FH (w : World) (s bl L bi : Nat) (v : Value) (i : Int) (ad : Addr) (x0 x1 x2 q0 q1 q2 : Value) : Prop where
  b0 : w.cell? ⟨s, 0, none⟩ = some x0
  b1 : w.cell? ⟨s, 1, none⟩ = some x1
  b2 : w.cell? ⟨s, 2, none⟩ = some x2
  l0 : w.cell? ⟨bl, 0, none⟩ = some (.pointer (some ⟨L, 0, none⟩))
  l1 : w.cell? ⟨L, 0, none⟩ = some v
  i0 : w.cell? ⟨bi, 0, none⟩ = some (.int .i64 i)
  k0 : w.cell? ad = some q0
  k1 : w.cell? ⟨ad.block, ad.off + 1, none⟩ = some q1
  k2 : w.cell? ⟨ad.block, ad.off + 2, none⟩ = some q2
theorem FH.below {w w1 : World} {s bl L bi : Nat} {v : Value} {i : Int} {ad : Addr} {x0 x1 x2 q0 q1 q2 : Value} (h : FH w s bl L bi v i ad x0 x1 x2 q0 q1 q2) (hb : Below w.heap.size w w1) : FH w1 s bl L bi v i ad x0 x1 x2 q0 q1 q2 :=
  ⟨cell_kept h.b0 hb, cell_kept h.b1 hb, cell_kept h.b2 hb, cell_kept h.l0 hb, cell_kept h.l1 hb, cell_kept h.i0 hb, cell_kept h.k0 hb, cell_kept h.k1 hb, cell_kept h.k2 hb⟩
def T36_1 : Bool × List (List Nat × List Nat) := (true, [([], []), ([], []), ([1], [1]), ([2], [2]), ([3], [3]), ([], []), ([4, 5], [4, 5]), ([6], [6]), ([0, 7], [0, 7]), ([8, 8, 0, 1, 2, 3, 4, 5, 6, 7, 8], [8])])
def BT36_1 : List Nat := [0, 0, 2, 6, 14, 0, 62, 126, 255, 511]
theorem tabT36_1 : rtab .any (opsOf Tryz.f36 1) = T36_1 := by kernel_rfl
theorem bitsT36_1 : waitsOk T36_1.2 BT36_1 = true := by kernel_rfl
set_option maxHeartbeats 4000000 in
set_option maxRecDepth 100000 in
theorem freecl_ok (x0 x2 : Value) (B : Option Addr) (d : Nat) (ps : List ByteArray) (bl L bi i : Nat) (base : Nat) (A : Option Addr) (n c : Nat) (zs : List (Ask × Sc)) (z : Ask × Sc) (w : World)
    (hl : w.cell? ⟨bl, 0, none⟩ = some (.pointer (some ⟨L, 0, none⟩))) (hi : w.cell? ⟨bi, 0, none⟩ = some (.int .i64 (i : Int))) (hL : LKat w L (.slice A n c)) (hR : LR w base (.slice A n c) zs) (hz : zs[i]? = some z) (hin : i < n)
    (hC : Kd.string.C w B ps.length ps) (hp : ps.length ≤ 1000) (hq : z.1.2.1.length ≤ 1000) (hps : ∀ p ∈ ps, p.size ≤ 10000) (hqs : ∀ q ∈ z.1.2.1, q.size ≤ 10000) :
    Calls Tryz.prog 36 #[.agg #[x0, .slice B ps.length d, x2], .pointer (some ⟨bl, 0, none⟩), .pointer (some ⟨bi, 0, none⟩)] w fun e w' => e = .returned (.bool (meets ps z.1.2.1)) ∧ Below w.heap.size w w' := by
  obtain ⟨⟨who, qs, has⟩, ⟨A2, m, c2⟩⟩ := z
  obtain ⟨ad, rfl, k0, k1, k2⟩ := hR.at_ i _ hz
  obtain ⟨hm, _, hC2⟩ := Kd.R_reads' (hR.2 _ (List.mem_of_getElem? hz))
  replace hm : m = qs.length := hm
  subst hm
  have hx := blk_new w (.cells #[x0, .slice B ps.length d, x2] 69)
  have hb := below_alloc (Below.refl w.heap.size w) (.cells #[x0, .slice B ps.length d, x2] 69)
  have hF : FH (w.alloc (.cells #[x0, .slice B ps.length d, x2] 69)).drew w.heap.size bl L bi (.slice (some ad) n c) i (ad.add (i * 3)) x0 (.slice B ps.length d) x2 (.int .i64 who) (.slice A2 qs.length c2) (.bool has) :=
    FH.below ⟨blk_cell hx 0, blk_cell hx 1, blk_cell hx 2, cell_kept hl hb, cell_kept hL.cell hb, cell_kept hi hb, cell_kept k0 hb, cell_kept k1 hb, cell_kept k2 hb⟩ (below_drew (Below.refl _ _))
  have HC1 := hide (Kd.C_drew (Kd.C_alloc hC (.cells #[x0, .slice B ps.length d, x2] 69)))
  have HC2 := hide (Kd.C_drew (Kd.C_alloc hC2 (.cells #[x0, .slice B ps.length d, x2] 69)))
  have HF := hide hF
  have HP := hide hp
  have HQ := hide hq
  have HPS := hide hps
  have HQS := hide hqs
  have HB := hide (below_drew hb)
  have d1 : (i : Int) < (n : Int) := by omega
  have hu69 := Tryz.underlying69
  have hu63 := Tryz.underlying63
  have hu61 := Tryz.underlying61
  clear hl hi hL hR hz hin hC hp hq hps hqs k0 k1 k2 hC2 hx hb hF
  go_enter Tryz.func36, Tryz.ntmps36
  go_wp2_with fail
  refine start_ (n := 10) (S := fun w' => FH w' w.heap.size bl L bi (.slice (some ad) n c) i (ad.add (i * 3)) x0 (.slice B ps.length d) x2 (.int .i64 who) (.slice A2 qs.length c2) (.bool has)) (ds := []) #[false, false, false, false, false, false, false, false, false, false] (by kernel_rfl) rfl rfl (unhide HF) (fun hHeld => ?_)
  refine with_tabW tabT36_1 bitsT36_1 (fun HT_ HW_ => ?_)
  refine take_ (i := 0) (N := some 5) (v := ?_) (a' := ?_) #[true, false, false, false, false, false, false, false, false, false] rfl rfl (take_ofW HT_.out HW_.out (by kernel_rfl)) (fun _ _ _ h => h) (Or.inl ⟨by rfl, ?_⟩) hHeld ?_ ?_
  rotate_left
  · rintro w' h1_
    obtain ⟨b0_, b1_, b2_, l0_, l1_, i0_, k0_, k1_, k2_⟩ := h1_
    go_simp
    with_reducible rfl
  rotate_left
  · simp only [Act.put, List.setIfInBounds_toArray, List.set_cons_zero, List.set_cons_succ, i64_w, i32_w]
    rfl
  refine take_ (i := 1) (N := some 6) (v := ?_) (a' := ?_) #[true, true, false, false, false, false, false, false, false, false] rfl rfl (take_ofW HT_.out HW_.out (by kernel_rfl)) (fun _ _ _ h => h) (Or.inl ⟨by rfl, ?_⟩) hHeld ?_ ?_
  rotate_left
  · rintro w' h1_
    obtain ⟨b0_, b1_, b2_, l0_, l1_, i0_, k0_, k1_, k2_⟩ := h1_
    go_simp
    with_reducible rfl
  rotate_left
  · simp only [Act.put, List.setIfInBounds_toArray, List.set_cons_zero, List.set_cons_succ, i64_w, i32_w]
    rfl
  refine pure_ (i := 2) (N := some 7) (v := ?_) (a' := ?_) #[true, true, true, false, false, false, false, false, false, false] rfl rfl (any_of HT_.out (by kernel_rfl)) (fun _ _ _ h => h) (Or.inl ⟨by rfl, ?_⟩) ?_ ?_
  rotate_left
  · intro w'
    go_simp
    with_reducible rfl
  rotate_left
  · simp only [Act.put, List.setIfInBounds_toArray, List.set_cons_zero, List.set_cons_succ, i64_w, i32_w]
    rfl
  refine pure_ (i := 3) (N := some 8) (v := ?_) (a' := ?_) #[true, true, true, true, false, false, false, false, false, false] rfl rfl (any_of HT_.out (by kernel_rfl)) (fun _ _ _ h => h) (Or.inl ⟨by rfl, ?_⟩) ?_ ?_
  rotate_left
  · intro w'
    go_simp
    with_reducible rfl
  rotate_left
  · simp only [Act.put, List.setIfInBounds_toArray, List.set_cons_zero, List.set_cons_succ, i64_w, i32_w]
    rfl
  refine take_ (i := 4) (N := some 9) (v := ?_) (a' := ?_) #[true, true, true, true, true, false, false, false, false, false] rfl rfl (take_ofW HT_.out HW_.out (by kernel_rfl)) (fun _ _ _ h => h) (Or.inl ⟨by rfl, ?_⟩) hHeld ?_ ?_
  rotate_left
  · rintro w' h1_
    obtain ⟨b0_, b1_, b2_, l0_, l1_, i0_, k0_, k1_, k2_⟩ := h1_
    go_simp
    with_reducible rfl
  rotate_left
  · simp only [Act.put, List.setIfInBounds_toArray, List.set_cons_zero, List.set_cons_succ, i64_w, i32_w]
    rfl
  refine take_ (i := 5) (N := some 10) (v := ?_) (a' := ?_) #[true, true, true, true, true, true, false, false, false, false] rfl rfl (take_ofW HT_.out HW_.out (by kernel_rfl)) (fun _ _ _ h => h) (Or.inl ⟨by rfl, ?_⟩) hHeld ?_ ?_
  rotate_left
  · rintro w' h1_
    obtain ⟨b0_, b1_, b2_, l0_, l1_, i0_, k0_, k1_, k2_⟩ := h1_
    go_simp
    with_reducible rfl
  rotate_left
  · simp only [Act.put, List.setIfInBounds_toArray, List.set_cons_zero, List.set_cons_succ, i64_w, i32_w]
    rfl
  refine pure_ (i := 6) (N := some 11) (v := ?_) (a' := ?_) #[true, true, true, true, true, true, true, false, false, false] rfl rfl (any_of HT_.out (by kernel_rfl)) (fun _ _ _ h => h) (Or.inl ⟨by rfl, ?_⟩) ?_ ?_
  rotate_left
  · intro w'
    go_simp
    with_reducible rfl
  rotate_left
  · simp only [Act.put, List.setIfInBounds_toArray, List.set_cons_zero, List.set_cons_succ, i64_w, i32_w]
    rfl
  refine take_ (i := 7) (N := some 12) (v := ?_) (a' := ?_) #[true, true, true, true, true, true, true, true, false, false] rfl rfl (take_ofW HT_.out HW_.out (by kernel_rfl)) (fun _ _ _ h => h) (Or.inl ⟨by rfl, ?_⟩) hHeld ?_ ?_
  rotate_left
  · rintro w' h1_
    obtain ⟨b0_, b1_, b2_, l0_, l1_, i0_, k0_, k1_, k2_⟩ := h1_
    go_simp
    with_reducible rfl
  rotate_left
  · simp only [Act.put, List.setIfInBounds_toArray, List.set_cons_zero, List.set_cons_succ, i64_w, i32_w]
    rfl
  refine one_ (i := 8) (N := some 13) #[true, true, true, true, true, true, true, true, true, false] rfl rfl (one_of HT_.out (by kernel_rfl)) (by decide) (fun K hK => ?_)
  refine goes_ Tryz.func37 (by kernel_rfl) rfl #[.agg #[x0, .slice B ps.length d, x2], .agg #[.int .i64 who, .slice A2 qs.length c2, .bool has]] (by rfl) rfl rfl (by (try simp only [List.map_toArray, List.map_cons, List.map_nil]); first | done | rfl) ?_
  refine (meet_ok x0 x2 (.int .i64 who) (.bool has) B A2 d c2 ps qs _ (unhide HC1) (unhide HC2) (unhide HP) (unhide HQ) (unhide HPS) (unhide HQS)).mono ?_
  rintro e w1 ⟨rfl, hb1⟩
  refine ⟨_, rfl, ?_⟩
  have HW := hide hb1
  have F2 := hide ((unhide HF).below hb1)
  clear hb1
  clear hHeld
  refine hK.out _ _ (unhide F2) (fun hHeld => ?_)
  clear hK K
  refine norm_ (a' := ?_) ?_ ?_
  rotate_left
  · show Act.put _ (some 13) _ = _
    simp only [Act.put, List.setIfInBounds_toArray, List.set_cons_zero, List.set_cons_succ, i64_w, i32_w]
    rfl
  refine pure_ (i := 9) (N := some 4) (v := ?_) (a' := ?_) #[true, true, true, true, true, true, true, true, true, true] rfl rfl (any_of HT_.out (by kernel_rfl)) (fun _ _ _ h => h) (Or.inl ⟨by rfl, ?_⟩) ?_ ?_
  rotate_left
  · intro w'
    go_simp
    with_reducible rfl
  rotate_left
  · simp only [Act.put, List.setIfInBounds_toArray, List.set_cons_zero, List.set_cons_succ, i64_w, i32_w]
    rfl
  refine done_ (done_of HT_.out (by kernel_rfl)) ?_
  clear HT_ HW_ hHeld
  go_wp2_with fail
  go_ret
  exact ⟨rfl, below_step (unhide HB) (unhide HW)⟩
end Go.Proofs.YtgoephcembgmcaaGreatDoor.G
namespace Go.Proofs.YtgoephcembgmcaaGreatDoor.G
open Go.RowKit Go.Maps Go.Proofs.YtgoephcembgmcaaGreatDoorW.PrintWords Go.Proofs.YtgoephcembgmcaaGreatDoorW.PrintLast
/-! Locks.free. -/
theorem info69 : (Tryz.prog.info? 69).map (fun i => (i.zero, i.size, i.bytes)) = some (some (.agg #[.int .i64 0, .slice none 0 0, .bool false]), 3, 40) := by kernel_rfl
theorem elem61 : Tryz.prog.elem 61 = 69 := by simp [Program.elem, Tryz.underlying61]
theorem slice61 : Tryz.prog.underlying 61 = some (.slice (Tryz.prog.elem 61)) := by rw [elem61]; exact Tryz.underlying61
theorem upto_at (a : Option Addr) (n c k : Nat) (hk : k ≤ c) (W : World) : (Instr.slice 61 (.slice a n c) none (some (.int .i64 (k : Int))) none).run Tryz.prog W = .ok (.slice a k c) W := by
  obtain ⟨i0, hi, hz, hsz, hby⟩ := info_parts info69
  have ha : (a.map fun x => x.add 0) = a := by cases a <;> simp [Addr.add]
  rw [run_slice_h W 61 a n c slice61 .i64 (k : Int) (by omega) (by omega), elem61]
  simp [sizeOf, typeInfo, hi, hsz, sliced, Result.andThen, ha]
def AskOK (a : Ask) : Prop := a.2.1.length ≤ 1000 ∧ ∀ p ∈ a.2.1, p.size ≤ 10000
/-- Ask j meets ask i. -/
def meetAt (zs : List (Ask × Sc)) (i j : Nat) : Bool := match zs[j]?, zs[i]? with
  | some x, some y => meets x.1.2.1 y.1.2.1
  | _, _ => false
/-- Nothing ahead of ask i meets it. -/
def freeAt (zs : List (Ask × Sc)) (i : Nat) : Bool := !anyAt (meetAt zs i) i
structure FG (w : World) (b L : Nat) (v : Value) (i : Int) : Prop where
  l0 : w.cell? ⟨b, 0, none⟩ = some (.pointer (some ⟨L, 0, none⟩))
  l1 : w.cell? ⟨L, 0, none⟩ = some v
  i0 : w.cell? ⟨b + 1, 0, none⟩ = some (.int .i64 i)
theorem FG.below {w w1 : World} {b L : Nat} {v : Value} {i : Int} (h : FG w b L v i) (hb : Below w.heap.size w w1) : FG w1 b L v i := ⟨cell_kept h.l0 hb, cell_kept h.l1 hb, cell_kept h.i0 hb⟩
def T21_1 : Bool × List (List Nat × List Nat) := (true, [([], []), ([0], [0]), ([1], [1]), ([2], [2]), ([], []), ([3, 4], [3, 4]), ([], []), ([5, 6], [5, 6]), ([7], [7]), ([8, 7, 0, 1, 2, 3, 4, 5, 6, 7, 8], [8])])
def BT21_1 : List Nat := [0, 1, 3, 7, 0, 31, 0, 127, 255, 511]
theorem tabT21_1 : rtab .any (opsOf Tryz.f21 1) = T21_1 := by kernel_rfl
theorem bitsT21_1 : waitsOk T21_1.2 BT21_1 = true := by kernel_rfl
set_option maxHeartbeats 4000000 in
set_option maxRecDepth 100000 in
theorem free_ok (L i : Nat) (base : Nat) (v : Value) (zs : List (Ask × Sc)) (w : World) (hL : LKat w L v) (hR : LR w base v zs) (hin : i < zs.length) (hl : zs.length ≤ 1000) (hok : ∀ z ∈ zs, AskOK z.1) :
    Calls Tryz.prog 21 #[.pointer (some ⟨L, 0, none⟩), .int .i64 (i : Int)] w fun e w' => e = .returned (.bool (freeAt zs i)) ∧ Below w.heap.size w w' := by
  obtain ⟨A, c, rfl, hA, hc⟩ := hR.slice
  obtain ⟨n, hn⟩ : ∃ z, z = zs.length := ⟨_, rfl⟩
  obtain ⟨W0, hW0⟩ : ∃ W, W = ((w.alloc (.cells #[.pointer (some ⟨L, 0, none⟩)] 24)).alloc (.cells #[.int .i64 (i : Int)] 3)).drew := ⟨_, rfl⟩
  have hb : Below w.heap.size w W0 := by rw [hW0]; exact below_drew (below_alloc (below_alloc (Below.refl _ _) _) _)
  have hF : FG W0 w.heap.size L (.slice A n c) i := by
    rw [hW0]
    refine FG.below ⟨?_, ?_, ?_⟩ (below_drew (Below.refl _ _))
    · exact cell_kept (blk_cell (blk_new w (.cells #[.pointer (some ⟨L, 0, none⟩)] 24)) 0) (below_alloc (Below.refl _ _) _)
    · rw [hn]; exact cell_kept hL.cell (below_alloc (below_alloc (Below.refl _ _) _) _)
    · have h1 := blk_new (w.alloc (.cells #[.pointer (some ⟨L, 0, none⟩)] 24)) (.cells #[.int .i64 (i : Int)] 3)
      rw [World.size_alloc] at h1
      exact blk_cell h1 0
  have hL0 := hL.below hb
  have hR0 := hR.below hb
  obtain ⟨y, hy⟩ : ∃ y, zs[i]? = some y := ⟨_, List.getElem?_eq_getElem hin⟩
  have hcon := contains_ok (fun j => match zs[j]? with | some z => (.int .i64 z.1.1, slv z.2, .bool z.1.2.2) | none => (.nilIface, .nilIface, .nilIface)) (meetAt zs i) 36 #[.pointer (some ⟨w.heap.size, 0, none⟩), .pointer (some ⟨w.heap.size + 1, 0, none⟩)] (fun args W => by kernel_rfl) A i c W0 (by omega)
    (fun j hj => by
      obtain ⟨z, hz⟩ : ∃ z, zs[j]? = some z := ⟨_, List.getElem?_eq_getElem (by omega)⟩
      obtain ⟨ad, rfl, k0, k1, k2⟩ := hR0.at_ j z hz
      obtain ⟨g, hg, _, hlt⟩ := hA (by omega)
      cases hg
      refine ⟨_, rfl, Nat.lt_of_lt_of_le hlt hb.size, ?_⟩
      rw [hz]
      exact ⟨k0, k1, k2⟩)
    (fun j hj W hB => by
      obtain ⟨z, hz⟩ : ∃ z, zs[j]? = some z := ⟨_, List.getElem?_eq_getElem (by omega)⟩
      have hF1 := hF.below hB
      have ho := hok z (List.mem_of_getElem? hz)
      have hoy := hok y (List.mem_of_getElem? hy)
      rw [hz]
      have hme : meetAt zs i j = meets z.1.2.1 y.1.2.1 := by unfold meetAt; rw [hz, hy]
      rw [hme]
      obtain ⟨⟨who, ps, has⟩, ⟨B, m, d⟩⟩ := z
      obtain ⟨hm, _, hC⟩ := Kd.R_reads' (Kd.R_below (hR0.2 _ (List.mem_of_getElem? hz)) hB)
      replace hm : m = ps.length := hm
      subst hm
      refine (freecl_ok (.int .i64 who) (.bool has) B d ps w.heap.size L (w.heap.size + 1) i base A n c zs y W hF1.l0 hF1.i0 (by rw [hn]; exact hL0.below hB) (by rw [hn]; exact hR0.below hB) hy (by omega) hC ho.1 hoy.1 ho.2 hoy.2).mono ?_
      rintro e w' ⟨rfl, hb'⟩
      exact ⟨rfl, below_step hB hb'⟩)
  obtain ⟨r, hr⟩ : ∃ z, z = anyAt (meetAt zs i) i := ⟨_, rfl⟩
  have hfr : freeAt zs i = !r := by rw [hr]; rfl
  rw [← hr] at hcon
  rw [hfr]
  have HS := hide (fun W => upto_at A n c i (by omega) W)
  have HF := hide hF
  rw [hW0] at hcon
  have HCN := hide hcon
  have HB := hide hb
  have HW0 := hide hW0
  have hu63 := Tryz.underlying63
  clear hL hR hin hl hok hA hc hn hb hF hL0 hR0 hy hcon hr hfr hW0
  go_enter Tryz.func21, Tryz.ntmps21
  go_wp2_with fail
  refine start_ (n := 10) (S := fun w' => FG w' w.heap.size L (.slice A n c) i) (ds := []) #[false, false, false, false, false, false, false, false, false, false] (by kernel_rfl) rfl rfl (by have h := unhide HF; rw [unhide HW0] at h; exact h) (fun hHeld => ?_)
  refine with_tabW tabT21_1 bitsT21_1 (fun HT_ HW_ => ?_)
  refine take_ (i := 0) (N := some 5) (v := ?_) (a' := ?_) #[true, false, false, false, false, false, false, false, false, false] rfl rfl (take_ofW HT_.out HW_.out (by kernel_rfl)) (fun _ _ _ h => h) (Or.inl ⟨by rfl, ?_⟩) hHeld ?_ ?_
  rotate_left
  · rintro w' h1_
    obtain ⟨l0_, l1_, i0_⟩ := h1_
    go_simp
    with_reducible rfl
  rotate_left
  · simp only [Act.put, List.setIfInBounds_toArray, List.set_cons_zero, List.set_cons_succ, i64_w, i32_w]
    rfl
  refine pure_ (i := 1) (N := some 6) (v := ?_) (a' := ?_) #[true, true, false, false, false, false, false, false, false, false] rfl rfl (any_of HT_.out (by kernel_rfl)) (fun _ _ _ h => h) (Or.inl ⟨by rfl, ?_⟩) ?_ ?_
  rotate_left
  · intro w'
    go_simp
    with_reducible rfl
  rotate_left
  · simp only [Act.put, List.setIfInBounds_toArray, List.set_cons_zero, List.set_cons_succ, i64_w, i32_w]
    rfl
  refine pure_ (i := 2) (N := some 7) (v := ?_) (a' := ?_) #[true, true, true, false, false, false, false, false, false, false] rfl rfl (any_of HT_.out (by kernel_rfl)) (fun _ _ _ h => h) (Or.inl ⟨by rfl, ?_⟩) ?_ ?_
  rotate_left
  · intro w'
    go_simp
    with_reducible rfl
  rotate_left
  · simp only [Act.put, List.setIfInBounds_toArray, List.set_cons_zero, List.set_cons_succ, i64_w, i32_w]
    rfl
  refine take_ (i := 3) (N := some 8) (v := ?_) (a' := ?_) #[true, true, true, true, false, false, false, false, false, false] rfl rfl (take_ofW HT_.out HW_.out (by kernel_rfl)) (fun _ _ _ h => h) (Or.inl ⟨by rfl, ?_⟩) hHeld ?_ ?_
  rotate_left
  · rintro w' h1_
    obtain ⟨l0_, l1_, i0_⟩ := h1_
    go_simp
    with_reducible rfl
  rotate_left
  · simp only [Act.put, List.setIfInBounds_toArray, List.set_cons_zero, List.set_cons_succ, i64_w, i32_w]
    rfl
  refine take_ (i := 4) (N := some 9) (v := ?_) (a' := ?_) #[true, true, true, true, true, false, false, false, false, false] rfl rfl (take_ofW HT_.out HW_.out (by kernel_rfl)) (fun _ _ _ h => h) (Or.inl ⟨by rfl, ?_⟩) hHeld ?_ ?_
  rotate_left
  · rintro w' h1_
    obtain ⟨l0_, l1_, i0_⟩ := h1_
    go_simp
    with_reducible rfl
  rotate_left
  · simp only [Act.put, List.setIfInBounds_toArray, List.set_cons_zero, List.set_cons_succ, i64_w, i32_w]
    rfl
  refine pure_ (i := 5) (N := some 10) (v := .slice A i c) (a' := ?_) #[true, true, true, true, true, true, false, false, false, false] rfl rfl (any_of HT_.out (by kernel_rfl)) (fun _ _ _ h => h) (Or.inl ⟨by rfl, ?_⟩) ?_ ?_
  skip
  · intro w'
    refine exec_slice (x := .tmp 8) (lo := none) (hi := some (.tmp 9)) (mx := none) ?_ ?_ ?_ ?_ ?_ (unhide HS _) slice61
    all_goals rfl
  rotate_left
  · simp only [Act.put, List.setIfInBounds_toArray, List.set_cons_zero, List.set_cons_succ, i64_w, i32_w]
    rfl
  refine pure_ (i := 6) (N := some 11) (v := ?_) (a' := ?_) #[true, true, true, true, true, true, true, false, false, false] rfl rfl (any_of HT_.out (by kernel_rfl)) (fun _ _ _ h => h) (Or.inl ⟨by rfl, ?_⟩) ?_ ?_
  rotate_left
  · intro w'
    go_simp
    with_reducible rfl
  rotate_left
  · simp only [Act.put, List.setIfInBounds_toArray, List.set_cons_zero, List.set_cons_succ, i64_w, i32_w]
    rfl
  refine one_ (i := 7) (N := some 12) #[true, true, true, true, true, true, true, true, false, false] rfl rfl (one_of HT_.out (by kernel_rfl)) (by decide) (fun K hK => ?_)
  refine goes_ Tryz.func35 (by kernel_rfl) rfl #[.slice A i c, .func (.func 36) #[] #[.pointer (some ⟨w.heap.size, 0, none⟩), .pointer (some ⟨w.heap.size + 1, 0, none⟩)]] (by rfl) rfl rfl (by (try simp only [List.map_toArray, List.map_cons, List.map_nil]); first | done | rfl) ?_
  refine (unhide HCN).mono ?_
  rintro e w1 ⟨rfl, hb1⟩
  refine ⟨_, rfl, ?_⟩
  have hb1 : Below W0.heap.size W0 w1 := by rw [unhide HW0]; exact hb1
  have HW := hide hb1
  have F2 := hide ((unhide HF).below hb1)
  clear hb1
  clear hHeld
  refine hK.out _ _ (unhide F2) (fun hHeld => ?_)
  clear hK K
  refine norm_ (a' := ?_) ?_ ?_
  rotate_left
  · show Act.put _ (some 12) _ = _
    simp only [Act.put, List.setIfInBounds_toArray, List.set_cons_zero, List.set_cons_succ, i64_w, i32_w]
    rfl
  refine pure_ (i := 8) (N := some 13) (v := ?_) (a' := ?_) #[true, true, true, true, true, true, true, true, true, false] rfl rfl (any_of HT_.out (by kernel_rfl)) (fun _ _ _ h => h) (Or.inl ⟨by rfl, ?_⟩) ?_ ?_
  rotate_left
  · intro w'
    go_simp
    with_reducible rfl
  rotate_left
  · simp only [Act.put, List.setIfInBounds_toArray, List.set_cons_zero, List.set_cons_succ, i64_w, i32_w]
    rfl
  refine pure_ (i := 9) (N := some 4) (v := ?_) (a' := ?_) #[true, true, true, true, true, true, true, true, true, true] rfl rfl (any_of HT_.out (by kernel_rfl)) (fun _ _ _ h => h) (Or.inl ⟨by rfl, ?_⟩) ?_ ?_
  rotate_left
  · intro w'
    go_simp
    with_reducible rfl
  rotate_left
  · simp only [Act.put, List.setIfInBounds_toArray, List.set_cons_zero, List.set_cons_succ, i64_w, i32_w]
    rfl
  refine done_ (done_of HT_.out (by kernel_rfl)) ?_
  clear HT_ HW_ hHeld
  go_wp2_with fail
  go_ret
  exact ⟨rfl, below_step (unhide HB) (unhide HW)⟩
end Go.Proofs.YtgoephcembgmcaaGreatDoor.G
