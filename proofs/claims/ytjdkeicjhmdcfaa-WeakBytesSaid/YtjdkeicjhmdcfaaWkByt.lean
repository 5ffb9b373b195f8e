import Derived.Test.YtjdkeicjhmdcfaaWk4
set_option linter.unusedSimpArgs false
set_option linter.unusedVariables false
namespace Go.Proofs.Ytjdkeicjhmdcfaa.WkByt
open Go.RowKit Go.Proofs.YtjdkeicjhmdcfaaW.PrintWords Go.Proofs.YtjdkeicjhmdcfaaW.PrintLast Go.Proofs.YtjdkeicjhmdcfaaW.PrintMore Go.Proofs.Ytjdkeicjhmdcfaa.WkM Go.Proofs.Ytjdkeicjhmdcfaa.Wk
attribute [local go_sem] max2_int min2_int max_two min_two


theorem A_rep (n : Nat) (x : Int) : A (List.replicate n x) = (n : Int) * x := by
  induction n with
  | zero => simp [A]
  | succ n ih => rw [List.replicate_succ, A, ih]; grind
theorem B_rep (n : Nat) (x : Int) : 2 * B (List.replicate n x) = (n : Int) * ((n : Int) + 1) * x := by
  induction n with
  | zero => simp [B]
  | succ n ih => rw [List.replicate_succ, B, List.length_replicate]; grind
theorem set_fill (n i : Nat) (x : Int) (h : i < n) : (List.replicate i x ++ List.replicate (n - i) 0).set i x = List.replicate (i + 1) x ++ List.replicate (n - (i + 1)) 0 := by
  rw [List.set_append, if_neg (by simp)]
  simp only [List.length_replicate, Nat.sub_self]
  obtain ⟨m, hm⟩ : ∃ m, n - i = m + 1 := ⟨n - i - 1, by omega⟩
  have hm' : n - (i + 1) = m := by omega
  rw [hm, hm', List.replicate_succ, List.set_cons_zero, List.replicate_succ']
  simp
theorem rep_bytes (n : Nat) (x : Int) (hx : 0 ≤ x ∧ x ≤ 255) : Bytes (List.replicate n x) := by
  intro y hy
  have := (List.mem_replicate.1 hy).2
  omega

theorem law_not (x a1 : Int) (w : World) (hs : a1 < 0 ∨ (0 ≤ a1 ∧ 2000 < a1)) :
    Calls Try.prog 11 #[.int .u8 x, .int .i64 a1] w fun e w' => e = .returned (.bool true) ∧ Below w.heap.size w w' := by
  rcases hs with hs | ⟨hs1, hs2⟩
  · go_enter Try.func11, Try.ntmps11
    go_wp2_with fail
    refine (rolls_any _).mono ?_
    rintro e w1 ⟨rfl, hb⟩
    have HB := hide hb
    clear hb
    go_wp2
    go_ret
    exact ⟨rfl, unhide HB⟩
  · have n1 : ¬ a1 < 0 := by omega
    go_enter Try.func11, Try.ntmps11
    go_wp2_with fail
    refine (rolls_any _).mono ?_
    rintro e w1 ⟨rfl, hb⟩
    have HB := hide hb
    clear hb
    go_wp2
    go_ret
    exact ⟨rfl, unhide HB⟩

set_option maxHeartbeats 4000000 in
theorem law_yes (x : Int) (n : Nat) (w : World) (hx : 0 ≤ x ∧ x ≤ 255) (hn : n ≤ 2000) :
    Calls Try.prog 11 #[.int .u8 x, .int .i64 (n : Int)] w fun e w' => e = .returned (.bool true) ∧ Below w.heap.size w w' := by
  have hu53 := Try.underlying53
  have hmk := make_any n (by omega)
  have n1 : ¬ (n : Int) < 0 := by omega
  have n2 : ¬ 2000 < (n : Int) := by omega
  have n3 : n ≤ 200000 := by omega
  have b0 := hide (rep_bytes n 0 (by omega))
  have hv0 : val (List.replicate n 0) = 0 := by
    have := B_rep n 0
    unfold val
    rw [A_rep]
    simp at this ⊢
    omega
  have V0 := hide (fun W : World => value_St (List.replicate n 0) W)
  rw [hv0] at V0
  have L0 := hide (fun W : World => size_St (List.replicate n 0) W (by simp; omega))
  rw [List.length_replicate] at L0
  have O0 := hide (fun (A : Option Addr) (c : Nat) (W : World) (h : Kd.C (Kd.int .u8) W A (List.replicate n (0 : Int)).length (List.replicate n 0)) (hc : (List.replicate n (0 : Int)).length ≤ c) => of_any A c (List.replicate n 0) W h hc (unhide b0) (by simp; omega))
  rw [List.length_replicate] at O0
  have O1 := hide (fun (A : Option Addr) (c : Nat) (W : World) (h : Kd.C (Kd.int .u8) W A (List.replicate n x).length (List.replicate n x)) (hc : (List.replicate n x).length ≤ c) => of_any A c (List.replicate n x) W h hc (rep_bytes n x hx) (by simp; omega))
  rw [List.length_replicate] at O1
  clear hv0 b0
  go_enter Try.func11, Try.ntmps11
  go_wp2_with fail
  refine (rolls_any _).mono ?_
  rintro e w1 ⟨rfl, hb⟩
  have NB0 := hide hb
  clear hb
  go_wp2_with fail
  have R0 := hide (own_made w1 w.heap.size n (unhide NB0).size n3)
  have NB1 := hide (below_alloc (unhide NB0) (.cells (madeCells #[.int .u8 0] n) 5))
  clear NB0
  refine ((unhide O0) _ _ _ (by have h := (own_reads (unhide R0)).2.2; rwa [List.length_replicate] at h) (Nat.le_refl _)).mono ?_
  rintro e w2 ⟨rfl, hb⟩
  have R1 := hide (Kd.R_below (unhide R0) hb)
  have NB2 := hide (below_step (unhide NB1) hb)
  clear hb R0 NB1
  go_wp2_with fail
  refine ((unhide V0) _).mono ?_
  rintro e w3 ⟨rfl, hb⟩
  have R2 := hide (Kd.R_below (unhide R1) hb)
  have NB3 := hide (below_step (unhide NB2) hb)
  clear hb R1 NB2
  go_wp2_with fail
  refine ((unhide O0) _ _ _ (by have h := (own_reads (unhide R2)).2.2; rwa [List.length_replicate] at h) (Nat.le_refl _)).mono ?_
  rintro e w4 ⟨rfl, hb⟩
  have R3 := hide (Kd.R_below (unhide R2) hb)
  have NB4 := hide (below_step (unhide NB3) hb)
  clear hb R2 NB3
  go_wp2_with fail
  refine ((unhide L0) _).mono ?_
  rintro e w5 ⟨rfl, hb⟩
  have R4 := hide (Kd.R_below (unhide R3) hb)
  have NB5 := hide (below_step (unhide NB4) hb)
  clear hb R3 NB4
  go_wp2
  go_loopg [32] n (fun kq v32 wr => ∃ (i : Nat), v32 = .int .i64 (i : Int) ∧ Hid (i + kq = n) ∧ Hid (Own wr w.heap.size (.slice (some ⟨w1.heap.size, 0, none⟩) n n) (List.replicate i x ++ List.replicate (n - i) 0) ∧ Below w.heap.size w wr))
  case atStart => exact ⟨0, rfl, Nat.zero_add _, by simpa using unhide R4, unhide NB5⟩
  case round =>
    obtain ⟨i, rfl, HK, HREL⟩ := hrel
    obtain ⟨r1, hbel⟩ := unhide HREL
    by_cases hlt : i < n
    · obtain ⟨hc1, hf1⟩ := own_cell r1 hlt
      have RR := hide r1
      have HB2 := hide hbel
      have g1 : w.heap.size ≤ w1.heap.size := by
        have h := Kd.R_base r1 w1.heap.size (by simp [Value.ownBlock])
        exact h
      have HT := hide (set_fill n i x hlt)
      clear r1 hbel HREL
      go_wp2
      go_roundg (gk - 1)
      case measure => have := unhide HK; omega
      case rel =>
        refine ⟨i + 1, by go_num, by have := unhide HK; show i + 1 + (gk - 1) = n; omega, ?_, below_set (unhide HB2) g1⟩
        rw [← unhide HT]
        exact own_put (unhide RR) i x
    · have e : i = n := by have := unhide HK; omega
      subst e
      have r2 : Own wr w.heap.size (.slice (some ⟨w1.heap.size, 0, none⟩) i i) (List.replicate i x) := by simpa using r1
      have RR := hide r2
      have HB2 := hide hbel
      clear r1 r2 hbel HREL
      have m1 := mask_any ((i : Int) * x)
      have m2 := mask_any ((i : Int) * ((i : Int) + 1) % 4294967296 / 2 * x)
      obtain ⟨lo, k1⟩ : ∃ y, bits .and .u32 ((i : Int) * x % 4294967296) 65535 = y := ⟨_, rfl⟩
      obtain ⟨hi, k2⟩ : ∃ y, bits .and .u32 ((i : Int) * ((i : Int) + 1) % 4294967296 / 2 * x % 4294967296) 65535 = y := ⟨_, rfl⟩
      rw [k1] at m1
      rw [k2] at m2
      have hlo : lo = A (List.replicate i x) % 65536 := by rw [m1, A_rep]
      have hhi : hi = B (List.replicate i x) % 65536 := by
        have h0 : 0 ≤ (i : Int) * ((i : Int) + 1) := Int.mul_nonneg (by omega) (by omega)
        have h1 : (i : Int) * ((i : Int) + 1) ≤ 2000 * 2001 := Int.mul_le_mul (by omega) (by omega) (by omega) (by omega)
        have e4 : (i : Int) * ((i : Int) + 1) % 4294967296 = (i : Int) * ((i : Int) + 1) := by omega
        have hev : (i : Int) * ((i : Int) + 1) = 2 * ((i : Int) * ((i : Int) + 1) / 2) := by
          have : ((i : Int) * ((i : Int) + 1)) % 2 = 0 := by
            rcases (by omega : (i : Int) % 2 = 0 ∨ (i : Int) % 2 = 1) with h | h
            · rw [Int.mul_emod, h]; simp
            · rw [Int.mul_emod, Int.add_emod, h]; simp
          omega
        have hbb : B (List.replicate i x) = (i : Int) * ((i : Int) + 1) / 2 * x := by
          have : 2 * B (List.replicate i x) = 2 * ((i : Int) * ((i : Int) + 1) / 2 * x) := by
            rw [B_rep i x, ← Int.mul_assoc, ← hev]
          omega
        rw [m2, e4, hbb]
      have hfin : bits .or .u32 (hi * 65536) lo = val (List.replicate i x) := by
        have h := join_any hi lo (by omega) (by omega) (by omega) (by omega)
        have e : hi * 65536 % 4294967296 = hi * 65536 := by omega
        rw [e] at h
        rw [h, hlo, hhi]
        rfl
      have hone : bits .or .u32 (x * 65536) x = val [x] := by
        have h := join_any x x (by omega) (by omega) (by omega) (by omega)
        have e : x * 65536 % 4294967296 = x * 65536 := by omega
        rw [e] at h
        rw [h]
        simp [val, A, B]
        omega
      have hhi0 : 0 ≤ hi := by omega
      have hhi1 : hi ≤ 65535 := by omega
      have ⟨hx0, hx1⟩ := hx
      have O2 := hide (fun (W : World) => of_any (some ⟨W.heap.size, 0, none⟩) 1 [x] (W.alloc (.cells #[.int .u8 x] 5)) (by
        refine Kd.C_of_reads (enc := Value.int .u8) (d := (0 : Int)) (h1 := fun _ => rfl) ⟨rfl, by simp, fun _ => ⟨_, rfl, fun j hj => ?_⟩⟩
        match j, hj with
        | 0, _ => exact (blk_cell (blk_new W (.cells #[.int .u8 x] 5)) 0).trans rfl) (by simp) (rep_bytes 1 x hx) (by simp))
      clear m1 m2 hlo hhi
      go_wp2_with fail
      refine ((unhide O1) _ _ _ (by have h := (own_reads (unhide RR)).2.2; rwa [List.length_replicate] at h) (Nat.le_refl _)).mono ?_
      rintro e w6 ⟨rfl, hb⟩
      have NB6 := hide (below_step (unhide HB2) hb)
      clear hb
      go_wp2_with fail
      refine (value_St (List.replicate i x) _).mono ?_
      rintro e w7 ⟨rfl, hb⟩
      have NB7 := hide (below_step (unhide NB6) hb)
      clear hb
      go_wp2_with fail
      refine ((unhide O2) _).mono ?_
      rintro e w8 ⟨rfl, hb⟩
      have NB8 := hide (below_step (below_alloc (unhide NB7) _) hb)
      clear hb
      go_wp2_with fail
      refine (value_St [x] _).mono ?_
      rintro e w9 ⟨rfl, hb⟩
      have NB9 := hide (below_step (unhide NB8) hb)
      clear hb
      go_wp2
      go_ret
      exact ⟨rfl, unhide NB9⟩

theorem law_any (x a1 : Int) (w : World) (hx : (Lit.int .u8 x).wf = true) : Calls Try.prog 11 #[.int .u8 x, .int .i64 a1] w fun e w' => e = .returned (.bool true) ∧ Below w.heap.size w w' := by
  have hx' : 0 ≤ x ∧ x ≤ 255 := bytes_wf (l := [x]) (by intro y hy; simp at hy; subst hy; exact hx) x (by simp)
  by_cases h1 : a1 < 0
  · exact law_not x a1 w (.inl h1)
  · by_cases h2 : 2000 < a1
    · exact law_not x a1 w (.inr ⟨by omega, h2⟩)
    · obtain ⟨n, rfl⟩ : ∃ n : Nat, a1 = (n : Int) := ⟨a1.toNat, by omega⟩
      exact law_yes x n w hx' (by omega)

end Go.Proofs.Ytjdkeicjhmdcfaa.WkByt
