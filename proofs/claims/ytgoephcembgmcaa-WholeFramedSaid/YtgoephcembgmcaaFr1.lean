import Derived.Test.YtgoephcembgmcaaWk4
import Derived.Test.YtgoephcembgmcaaFrM
set_option linter.unusedSimpArgs false
set_option linter.unusedVariables false
namespace Go.Proofs.Ytgoephcembgmcaa.Fr
open Go.RowKit Go.Proofs.YtgoephcembgmcaaW.PrintWords Go.Proofs.YtgoephcembgmcaaW.PrintLast Go.Proofs.YtgoephcembgmcaaW.PrintMore Go.Proofs.Ytgoephcembgmcaa.Wk Go.Proofs.Ytgoephcembgmcaa.FrM
open Go.Proofs.Ytgoephcembgmcaa.WkM (w64)
attribute [local go_sem] max2_int min2_int max_two min_two

/-- What an append to v (it left v1) keeps: all blocks that were there, v's own apart. -/
def Grew (w w' : World) (v v' : Value) : Prop := w.heap.size ≤ w'.heap.size ∧ (∀ i, i < w.heap.size → some i ≠ v.ownBlock → w'.heap[i]? = w.heap[i]?) ∧ (v'.ownBlock = v.ownBlock ∨ ∃ b, v'.ownBlock = some b ∧ w.heap.size ≤ b)
theorem Grew.refl (w : World) (v : Value) : Grew w w v v := ⟨Nat.le_refl _, fun _ _ _ => rfl, .inl rfl⟩
theorem Grew.of {w w1 : World} {v v1 : Value} (hg : w.grownBy w1 v.ownBlock) (hat : v1.ownBlock = v.ownBlock ∨ ∃ b, v1.ownBlock = some b ∧ w.heap.size ≤ b) : Grew w w1 v v1 := ⟨hg.size, fun i hi hr => hg.block i hi hr, hat⟩
theorem Grew.trans {w w1 w2 : World} {v v1 v2 : Value} (h : Grew w w1 v v1) (k : Grew w1 w2 v1 v2) : Grew w w2 v v2 := by
  refine ⟨Nat.le_trans h.1 k.1, fun i hi hr => ?_, ?_⟩
  · refine (k.2.1 i (Nat.lt_of_lt_of_le hi h.1) (fun e => ?_)).trans (h.2.1 i hi hr)
    rcases h.2.2 with h3 | ⟨b, h3, h4⟩
    · exact hr (e.trans h3)
    · rw [h3] at e
      injection e with e
      omega
  · rcases k.2.2 with h3 | ⟨b, h3, h4⟩
    · rw [h3]
      exact h.2.2
    · exact .inr ⟨b, h3, Nat.le_trans h.1 h4⟩
theorem Grew.blk {w w1 : World} {v v1 : Value} {g : Nat} {o : Obj} (h : Grew w w1 v v1) (hb : w.heap[g]? = some o) (hne : some g ≠ v.ownBlock) : w1.heap[g]? = some o := (h.2.1 g (blk_lt hb) hne).trans hb
/-! Package code: each function once. -/
theorem or_all : ∀ a : Nat, a < 256 → bits .or .u8 (a : Int) 128 = ((a % 128 + 128 : Nat) : Int) := by decide +kernel
theorem or_u8 (m : Nat) : bits .or .u8 ((m : Int) % 256) 128 = ((m % 128 + 128 : Nat) : Int) := by
  have h := or_all (m % 256) (Nat.mod_lt _ (by decide))
  rw [Nat.mod_mod_of_dvd m (by decide : 128 ∣ 256)] at h
  rw [← h]
  rfl
set_option maxRecDepth 100000 in
theorem num_ok (base : Nat) (v : Value) (xs : List Int) (n : Nat) (w : World) (ho : Own w base v xs) (hbase : base ≤ w.heap.size) (hn : n ≤ 1099511627776) (hx : xs.length ≤ 100000) :
    Calls Try.prog 9 #[v, .int .i64 (n : Int)] w fun e w' => ∃ A c, e = .returned (.slice A (xs ++ vnum n).length c) ∧ Own w' base (.slice A (xs ++ vnum n).length c) (xs ++ vnum n) ∧ Below base w w' ∧ Grew w w' v (.slice A (xs ++ vnum n).length c) := by
  have d1 : ¬ 1099511627776 < (n : Int) := by omega
  have d2 : ¬ (n : Int) < 0 := by omega
  have e1 : (if 0 < n then (n : Int) else 0) = (n : Int) := by split <;> omega
  have e2 : (if (0 : Int) < (n : Int) then (n : Int) else 0) = (n : Int) := by split <;> omega
  obtain ⟨A0, c0, rfl⟩ := Kd.R_slice ho
  have HO := hide ho
  have HN : Hid (n < 128 ^ (5 + 1)) := by show _ < _; omega
  clear ho
  go_enter Try.func9, Try.ntmps9
  go_wp2
  clear e1 e2 d1 d2
  go_loopg [0, 1] 5 (fun kq v0 v1 wr => ∃ (m : Nat) (zs : List Int) (A : Option Addr) (c : Nat), v0 = .slice A zs.length c ∧ v1 = .int .i64 (m : Int) ∧ Hid (m < 128 ^ (kq + 1)) ∧ Hid (xs ++ vnum n = zs ++ vnum m) ∧ Hid (zs.length + kq ≤ xs.length + 5 ∧ kq ≤ 5) ∧ Hid (Own wr base (.slice A zs.length c) zs) ∧ Hid (Below base w wr) ∧ Hid (Grew w wr (.slice A0 xs.length c0) (.slice A zs.length c)))
  case atStart => exact ⟨n, xs, A0, c0, rfl, rfl, unhide HN, rfl, ⟨Nat.le_refl _, Nat.le_refl _⟩, unhide HO, Below.refl _ _, Grew.refl _ _⟩
  case round =>
    obtain ⟨m, zs, A, c, rfl, rfl, HM, HV, HL, HO2, HB, HG⟩ := hrel
    have hm6 : m < 128 ^ 6 := Nat.lt_of_lt_of_le (unhide HM) (Nat.pow_le_pow_right (by decide) (by have := unhide HL; omega))
    have hzl : zs.length ≤ 100005 := by have := unhide HL; omega
    by_cases h : m ≤ 127
    · have d : ¬ 127 < (m : Int) := by omega
      have e : (m : Int) % 256 = (m : Int) := by omega
      go_wp2_with (at_builtin; refine unhide ?_)
      refine hide ?_
      refine Kd.R_append (Kd.int .u8) (w0 := w) base rfl (.tmp 18) (.tmp 21) 22 5 (.int .u8 0) 1 rfl Try.underlying22 info5 rfl (by decide) (by decide) (.slice A zs.length c) zs (m : Int) [.int .u8 (m : Int)] (fun _ => True) (fun _ => False) rfl rfl rfl (fun k h => h.elim) (fun _ _ => trivial) (unhide HO2) (unhide HB) (Nat.le_trans hbase (unhide HB).size) (by omega) ?_
      intro v1 w1 hR1 hB1 hg1 hat1
      obtain ⟨A1, c1, rfl⟩ := Kd.R_slice hR1
      have hlen : (zs ++ [(m : Int)]).length = zs.length + 1 := by rw [List.length_append, List.length_singleton]
      have HR := hide hR1
      have HB1 := hide hB1
      have HG1 := hide ((unhide HG).trans (Grew.of hg1 hat1))
      have HLEN := hide hlen
      clear hR1 hB1 hg1 hat1 hlen
      go_wp2
      have hv : xs ++ vnum n = zs ++ [(m : Int)] := by rw [unhide HV, vnum_small h]
      rw [hv]
      go_ret
      exact ⟨A1, c1, by rw [unhide HLEN]; rfl, unhide HR, unhide HB1, unhide HG1⟩
    · have d : 127 < (m : Int) := by omega
      have HGK : Hid (0 < gk) := by
        show 0 < gk
        rcases Nat.eq_zero_or_pos gk with h0 | h0
        · have h1 := unhide HM
          rw [h0] at h1
          omega
        · exact h0
      have hor : bits .or .u8 ((m : Int) % 256) 128 = ((m % 128 + 128 : Nat) : Int) := or_u8 m
      go_wp2_with (at_builtin; refine unhide ?_)
      refine hide ?_
      refine Kd.R_append (Kd.int .u8) (w0 := w) base rfl (.tmp 12) (.tmp 16) 22 5 (.int .u8 0) 1 rfl Try.underlying22 info5 rfl (by decide) (by decide) (.slice A zs.length c) zs ((m % 128 + 128 : Nat) : Int) [.int .u8 ((m % 128 + 128 : Nat) : Int)] (fun _ => True) (fun _ => False) rfl rfl rfl (fun k h => h.elim) (fun _ _ => trivial) (unhide HO2) (unhide HB) (Nat.le_trans hbase (unhide HB).size) (by omega) ?_
      intro v1 w1 hR1 hB1 hg1 hat1
      obtain ⟨A1, c1, rfl⟩ := Kd.R_slice hR1
      have hlen : (zs ++ [((m % 128 + 128 : Nat) : Int)]).length = zs.length + 1 := by rw [List.length_append, List.length_singleton]
      have HR := hide hR1
      have HB1 := hide hB1
      have HG1 := hide ((unhide HG).trans (Grew.of hg1 hat1))
      have HLEN := hide hlen
      clear hR1 hB1 hg1 hat1 hlen
      go_wp2
      go_roundg (gk - 1)
      case measure => have := unhide HGK; omega
      case rel =>
        refine ⟨m / 128, zs ++ [((m % 128 + 128 : Nat) : Int)], A1, c1, by rw [unhide HLEN], congrArg _ (by omega), ?_, ?_, ?_, unhide HR, unhide HB1, unhide HG1⟩
        · have h1 := unhide HM
          have h2 := unhide HGK
          show m / 128 < 128 ^ (gk - 1 + 1)
          rw [show gk - 1 + 1 = gk by omega]
          rw [Nat.pow_succ] at h1
          exact Nat.div_lt_of_lt_mul (by rw [Nat.mul_comm]; exact h1)
        · show xs ++ vnum n = (zs ++ [_]) ++ vnum (m / 128)
          rw [unhide HV, vnum_big h, List.append_assoc]
          rfl
        · have h1 := unhide HL
          have h2 := unhide HGK
          show (zs ++ [_]).length + (gk - 1) ≤ xs.length + 5 ∧ gk - 1 ≤ 5
          rw [unhide HLEN]
          omega
end Go.Proofs.Ytgoephcembgmcaa.Fr
