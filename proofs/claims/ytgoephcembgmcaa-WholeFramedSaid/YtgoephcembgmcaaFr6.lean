import Derived.Test.YtgoephcembgmcaaFr5
set_option linter.unusedSimpArgs false
set_option linter.unusedVariables false
namespace Go.Proofs.Ytgoephcembgmcaa.Fr
open Go.RowKit Go.Proofs.YtgoephcembgmcaaW.PrintWords Go.Proofs.YtgoephcembgmcaaW.PrintLast Go.Proofs.YtgoephcembgmcaaW.PrintMore Go.Proofs.Ytgoephcembgmcaa.Wk Go.Proofs.Ytgoephcembgmcaa.FrM
open Go.Proofs.Ytgoephcembgmcaa.WkM (w64)

theorem rd_drop {L t : List Int} {i : Nat} {x : Int} (h : L.drop i = x :: t) : rd L (i : Int) = x ∧ i < L.length ∧ L.drop (i + 1) = t := by
  have hl : i < L.length := by
    have := congrArg List.length h
    simp at this
    omega
  rw [List.drop_eq_getElem_cons hl] at h
  injection h with h1 h2
  refine ⟨?_, hl, h2⟩
  unfold rd
  rw [Int.toNat_natCast, List.getD_eq_getElem?_getD, List.getElem?_eq_getElem hl]
  exact h1
theorem and_u8 : ∀ d : Nat, d < 128 → bits .and .u8 ((d + 128 : Nat) : Int) 127 = (d : Int) := by decide +kernel
set_option maxHeartbeats 2000000 in
set_option maxRecDepth 100000 in
theorem num_rd (g base : Nat) (ad : Addr) (n c k m : Nat) (L rest : List Int) (w : World) (h : Rdr w g (.slice (some ad) n c) (k : Int)) (hC : Kd.C (Kd.int .u8) w (some ad) n L) (hL : L.drop k = vnum m ++ rest) (hm : m ≤ 1099511627776) (hn : n ≤ 1000000) (hne : ad.block ≠ g) (hb : base ≤ g) :
    Calls Try.prog 13 #[.pointer (some ⟨g, 0, none⟩)] w fun e w' => e = .returned (.int .i64 (m : Int)) ∧ Rdr w' g (.slice (some ad) n c) ((k + (vnum m).length : Nat) : Int) ∧ Below base w w' ∧ KeepBut w w' g none := by
  have hu := Try.underlying69
  have HC := hide hC
  have HR := hide h
  have HLL := hide hL
  have HM : Hid (m < 128 ^ (5 + 1)) := by show _ < _; omega
  obtain ⟨⟨m0, m1, m2⟩, m3, m4⟩ := h.cells
  clear h hC hL
  go_enter Try.func13, Try.ntmps13
  go_wp2
  clear m0 m1 m2 m3 m4
  go_loopg [4, 5] 5 (fun kq v4 v5 wr => ∃ j : Nat, v4 = .int .i64 ((m % 128 ^ j : Nat) : Int) ∧ v5 = .int .i64 ((7 * j : Nat) : Int) ∧ Hid (j + kq = 5) ∧ Hid (Rdr wr g (.slice (some ad) n c) ((k + j : Nat) : Int)) ∧ Hid (L.drop (k + j) = vnum (m / 128 ^ j) ++ rest) ∧ Hid ((vnum m).length = j + (vnum (m / 128 ^ j)).length) ∧ Hid (0 < j → 0 < m / 128 ^ j) ∧ Hid (Below base w wr) ∧ Hid (KeepBut w wr g none))
  case atStart => exact ⟨0, by simp [Nat.mod_one], rfl, Nat.zero_add _, unhide HR, by show _ = _; rw [Nat.pow_zero, Nat.div_one]; exact unhide HLL, by show _ = _; rw [Nat.pow_zero, Nat.div_one, Nat.zero_add], fun h => absurd h (Nat.lt_irrefl 0), Below.refl _ _, KeepBut.refl _ _ _⟩
  case round =>
    obtain ⟨j, rfl, rfl, HJ, HR1, HD, HVL, HP, HB, HK⟩ := hrel
    clear HR HLL
    have hj : j ≤ 5 := by have := unhide HJ; omega
    have hnx := part_next (n := m) (k := j)
    have hps := part_step (n := m) (k := j)
    have hpl := part_last (n := m) (k := j)
    obtain ⟨acc, hacc⟩ : ∃ a, m % 128 ^ j = a := ⟨_, rfl⟩
    obtain ⟨q, hq⟩ : ∃ a, m / 128 ^ j = a := ⟨_, rfl⟩
    rw [hq] at hnx hps hpl
    have HP2 : Hid (0 < j → 0 < q) := by rw [← hq]; exact unhide HP
    have HD2 : Hid (L.drop (k + j) = vnum q ++ rest) := by rw [← hq]; exact unhide HD
    have HV2 : Hid ((vnum m).length = j + (vnum q).length) := by rw [← hq]; exact unhide HVL
    have hjoin := fun d hd => join_i64 m j d hj hd
    rw [hacc] at hjoin hps hpl ⊢
    obtain ⟨sh, hsh⟩ : ∃ s : Int, ((7 * j : Nat) : Int) = s := ⟨_, rfl⟩
    have hshl := fun x hx => shl_i64 x j hj hx
    rw [hsh] at hshl ⊢
    have d42 : ¬ sh = 42 := by omega
    have HSH := hide hsh
    have HNX := hide hnx
    have HPS := hide hps
    have HPL := hide hpl
    have HJO := hide hjoin
    have HSL := hide hshl
    have E7 : Hid (wrap64 (sh + 7) = ((7 * (j + 1) : Nat) : Int)) := by show _ = _; rw [w64 _ (by omega) (by omega)]; omega
    have hqm : q ≤ m := by rw [← hq]; exact Nat.div_le_self _ _
    have DM : ¬ (1099511627776 : Int) < (m : Int) := by omega
    by_cases hq7 : q ≤ 127
    · obtain ⟨hx, hlt, hdr⟩ := rd_drop (by have := unhide HD2; rwa [vnum_small hq7] at this)
      have hnl : L.length = n := (unhide HC).1
      obtain ⟨ad', ha, hcell⟩ := Kd.at_int (unhide HC) ((k + j : Nat) : Int) (by omega) (by omega)
      cases ha
      rw [Int.toNat_natCast, hx] at hcell
      have hbk : (ad.add (k + j)).block = ad.block := by unfold Addr.add; split <;> rfl
      have X1 : Hid (wr.cell? (ad.add (k + j)) = some (.int .u8 ((q : Int)))) := (World.cell?_of_block ((unhide HK).2 _ (World.block_lt_of_cell? w _ hcell) (by rw [hbk]; exact hne) (by simp))).trans hcell
      have KN : Hid (k + j < n) := by show _ < _; omega
      have dx : (q : Int) < 128 := by omega
      have hor := (unhide HJO) q hq7
      rw [unhide HPL] at hor
      have hsl := (unhide HSL) q (by omega)
      obtain ⟨z, hz⟩ : ∃ z, q * 128 ^ j = z := ⟨_, rfl⟩
      rw [hz] at hor hsl
      have VL : Hid ((vnum m).length = j + 1) := by have h1 := unhide HV2; rw [vnum_small hq7] at h1; exact h1
      have HW := hide (w64 (q : Int) (by omega) (by omega))
      have HOR := hide hor
      have HS2 := hide hsl
      have HQ0 : Hid (q = 0 → ¬ 0 < sh) := fun e => by
        have h1 := unhide HP2
        have h2 := unhide HSH
        omega
      clear hx hlt hdr hcell hbk hnl hacc hq hsh hnx hps hpl hjoin hshl hz hq7 hor hsl hqm
      obtain ⟨⟨m0, m1, m2⟩, m3, m4⟩ := (unhide HR1).cells
      go_wp2_with fail
      refine (byte_ok g base ad n c (k + j) (q : Int) _ (unhide HR1) (unhide KN) hn (unhide X1) hne hb).mono ?_
      rintro e w5 ⟨rfl, hR5, hB5, hK5⟩
      have R5 := hide hR5
      have B5 := hide ((unhide HB).trans hB5)
      have K5 := hide ((unhide HK).trans hK5 (.inl rfl))
      clear hR5 hB5 hK5 m0 m1 m2 m3 m4 HR1 HB HK
      obtain ⟨⟨m0, m1, m2⟩, m3, m4⟩ := (unhide R5).cells
      have hor := unhide HOR
      have hsl := unhide HS2
      have HE : Hid (k + (vnum m).length = k + j + 1) := by show _ = _; rw [unhide VL]; omega
      by_cases h0 : q = 0
      · have dsh := unhide HQ0 h0
        subst h0
        have hsl0 : Op.shift .shl .i64 (0 : Int) .i64 sh = pure (.int .i64 (z : Int)) := hsl
        have hw0 : wrap64 (0 : Int) = 0 := unhide HW
        clear hsl
        go_wp2
        go_ret
        exact ⟨rfl, by rw [unhide HE]; exact unhide R5, unhide B5, unhide K5⟩
      · have dq : ¬ (q : Int) = 0 := by omega
        have hwd := unhide HW
        go_wp2
        go_ret
        exact ⟨rfl, by rw [unhide HE]; exact unhide R5, unhide B5, unhide K5⟩
    · have hd127 : q % 128 < 128 := Nat.mod_lt _ (by decide)
      obtain ⟨hx, hlt, hdr⟩ := rd_drop (by have := unhide HD2; rwa [vnum_big hq7, List.cons_append] at this)
      have hnl : L.length = n := (unhide HC).1
      obtain ⟨ad', ha, hcell⟩ := Kd.at_int (unhide HC) ((k + j : Nat) : Int) (by omega) (by omega)
      cases ha
      rw [Int.toNat_natCast, hx] at hcell
      have hbk : (ad.add (k + j)).block = ad.block := by unfold Addr.add; split <;> rfl
      have X1 : Hid (wr.cell? (ad.add (k + j)) = some (.int .u8 (((q % 128 + 128 : Nat) : Int)))) := (World.cell?_of_block ((unhide HK).2 _ (World.block_lt_of_cell? w _ hcell) (by rw [hbk]; exact hne) (by simp))).trans hcell
      have KN : Hid (k + j < n) := by show _ < _; omega
      obtain ⟨d, hd⟩ : ∃ d, q % 128 = d := ⟨_, rfl⟩
      have hps2 := unhide HPS
      rw [hd] at hps2 hd127 X1
      have hand := and_u8 d hd127
      have hor := (unhide HJO) d (by omega)
      rw [hps2] at hor
      have hsl := (unhide HSL) d (by omega)
      have dx0 : ¬ ((d + 128 : Nat) : Int) = 0 := by omega
      have dx1 : ¬ ((d + 128 : Nat) : Int) < 128 := by omega
      have VL : Hid ((vnum m).length = j + 1 + (vnum (m / 128 ^ (j + 1))).length) := by
        have h1 := unhide HV2
        rw [vnum_big hq7, List.length_cons, unhide HNX] at h1
        show _ = _
        omega
      have DR : Hid (L.drop (k + (j + 1)) = vnum (m / 128 ^ (j + 1)) ++ rest) := by rw [← unhide HNX]; exact hdr
      have PP : Hid (0 < j + 1 → 0 < m / 128 ^ (j + 1)) := fun _ => by rw [← unhide HNX]; omega
      have J5 : Hid (j < 5) := by
        show j < 5
        rcases Nat.lt_or_ge j 5 with h1 | h1
        · exact h1
        · have h2 : j = 5 := by omega
          have h3 := unhide HM
          rw [h2] at hq
          rw [← hq] at hq7
          exact absurd (Nat.le_of_lt_succ (Nat.div_lt_of_lt_mul (by rw [Nat.pow_succ] at h3; exact h3))) hq7
      obtain ⟨x, hxx⟩ : ∃ x : Int, ((d + 128 : Nat) : Int) = x := ⟨_, rfl⟩
      obtain ⟨z, hz⟩ : ∃ z, d * 128 ^ j = z := ⟨_, rfl⟩
      obtain ⟨r, hr⟩ : ∃ r, m % 128 ^ (j + 1) = r := ⟨_, rfl⟩
      rw [hxx] at X1 hand dx0 dx1
      rw [hz] at hor hsl
      rw [hr] at hor
      have HW := hide (w64 (d : Int) (by omega) (by omega))
      have HRR := hide hr
      have HOR := hide hor
      have HS2 := hide hsl
      have HAN := hide hand
      clear hx hlt hdr hcell hbk hnl hacc hq hsh hnx hps hpl hjoin hshl hz hq7 hor hsl hqm hps2 hd hd127 hxx hand hr
      obtain ⟨⟨m0, m1, m2⟩, m3, m4⟩ := (unhide HR1).cells
      go_wp2_with fail
      refine (byte_ok g base ad n c (k + j) x _ (unhide HR1) (unhide KN) hn (unhide X1) hne hb).mono ?_
      rintro e w5 ⟨rfl, hR5, hB5, hK5⟩
      have R5 := hide hR5
      have B5 := hide ((unhide HB).trans hB5)
      have K5 := hide ((unhide HK).trans hK5 (.inl rfl))
      clear hR5 hB5 hK5 m0 m1 m2 m3 m4 HR1 HB HK
      obtain ⟨⟨m0, m1, m2⟩, m3, m4⟩ := (unhide R5).cells
      have hor := unhide HOR
      have hsl := unhide HS2
      have hand := unhide HAN
      have hwd := unhide HW
      go_wp2
      clear hwd
      go_roundg (gk - 1)
      case measure => have := unhide HJ; have := unhide J5; omega
      case rel =>
        have h7 := unhide HSH
        exact ⟨j + 1, by rw [unhide HRR], by first | exact congrArg _ (unhide E7) | exact congrArg _ (by omega), by have := unhide HJ; have := unhide J5; show j + 1 + (gk - 1) = 5; omega, unhide R5, unhide DR, unhide VL, unhide PP, unhide B5, unhide K5⟩
end Go.Proofs.Ytgoephcembgmcaa.Fr
