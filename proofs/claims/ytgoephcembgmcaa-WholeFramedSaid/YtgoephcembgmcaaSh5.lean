import Derived.Test.YtgoephcembgmcaaSh4
set_option linter.unusedSimpArgs false
set_option linter.unusedVariables false
namespace Go.Proofs.Ytgoephcembgmcaa.Sh
open Go.RowKit Go.Proofs.YtgoephcembgmcaaW.PrintWords Go.Proofs.YtgoephcembgmcaaW.PrintLast Go.Proofs.YtgoephcembgmcaaW.PrintMore Go.Proofs.Ytgoephcembgmcaa.Wk Go.Proofs.Ytgoephcembgmcaa.FrM Go.Proofs.Ytgoephcembgmcaa.Fr
open Go.Proofs.Ytgoephcembgmcaa.WkM (w64 Bytes)
theorem size54 : (Try.prog.info? 54).map (·.size) = some 8 := by kernel_rfl
theorem size25 : (Try.prog.info? 25).map (·.size) = some 32 := by kernel_rfl
/-- What the sum keeps: the result's box, the words so far, the words that are mixed in. -/
structure Kept3 (base : Nat) (w wr : World) (gr ph pk : Nat) (hs : List Int) : Prop where
  r : Bs wr gr 25 (List.replicate 32 0)
  h : Ws wr ph 54 hs
  k : Ws wr pk 55 KK
  b : Below base w wr
def Ok3 (gr ph pk : Nat) (k : Nat) : Prop := k ≠ gr ∧ k ≠ ph ∧ k ≠ pk
section
variable {base : Nat} {w wr w1 : World} {gr ph pk : Nat} {hs hs' xs ys : List Int} {v : Value}
theorem Kept3.fresh (h : Kept3 base w wr gr ph pk hs) : ∀ k, wr.heap.size ≤ k → Ok3 gr ph pk k := fun k hk => by
  have h1 := h.r.lt
  have h2 := h.h.lt
  have h3 := h.k.lt
  unfold Ok3
  omega
theorem Kept3.grown (h : Kept3 base w wr gr ph pk hs) (hq : Que wr base (Ok3 gr ph pk) v xs) (hg : wr.grownBy w1 v.ownBlock) (hb : Below base w w1) : Kept3 base w w1 gr ph pk hs :=
  ⟨blk_grown h.r hg (fun e => (hq.1 _ e.symm).1 rfl), blk_grown h.h hg (fun e => (hq.1 _ e.symm).2.1 rfl), blk_grown h.k hg (fun e => (hq.1 _ e.symm).2.2 rfl), hb⟩
theorem Kept3.block (h : Kept3 base w wr gr ph pk hs) (h1 : Ws w1 ph 54 hs') (hb : Below base wr w1) (hk : KeepBut wr w1 ph none) (hr : gr ≠ ph) (hp : pk ≠ ph) : Kept3 base w w1 gr ph pk hs' :=
  ⟨hk.blk h.r hr (by simp), h1, hk.blk h.k hp (by simp), h.b.trans hb⟩
theorem que_block (h : Que wr base (Ok3 gr ph pk) v xs) (hk : KeepBut wr w1 ph none) : Que w1 base (Ok3 gr ph pk) v xs := Kd.Q_keep h hk (fun _ h => h.2.1)
end
set_option maxHeartbeats 2000000 in
set_option maxRecDepth 100000 in
theorem of_sum (ap : Addr) (pc : Nat) (A : Option Addr) (c : Nat) (l : List Int) (w : World) (hp : w.cell? ap = some (.slice A l.length c)) (hr : Kd.C (Kd.int .u8) w A l.length l) (hl : Bytes l) (hc : l.length ≤ c) (hn : l.length ≤ 100000) :
    Calls Try.prog 5 #[.slice (some ap) 1 pc] w fun e w' => e = .returned (.agg (bys (S l))) ∧ Below w.heap.size w w' := by
  have HP := hide hp
  have HR := hide hr
  have HL := hide hl
  clear hp hr hl
  go_enter Try.func5, Try.ntmps5
  go_wp2_with fail
  refine (words_any _).mono ?_
  rintro e w1 ⟨rfl, hb1⟩
  have r0 : Bs w1 w.heap.size 25 (List.replicate 32 0) := blk_below (blk_alloc (blk_new w (.cells (bys (List.replicate 32 0)) 25)) _) hb1
  have h0 : Ws w1 (w.heap.size + 1) 54 H0 := blk_below (heap_alloc2_new w _ (.cells (wds H0) 54)) hb1
  have b0 : Below w.heap.size w w1 := below_step (below_alloc (below_alloc (Below.refl _ _) _) _) hb1
  have K0 : Hid (Kept3 w.heap.size w (w1.alloc (.cells (wds KK) 55)) w.heap.size (w.heap.size + 1) w1.heap.size H0) := ⟨r0.alloc _, h0.alloc _, blk_new _ _, below_alloc b0 _⟩
  have N0 : Hid (w.heap.size + 1 < w1.heap.size) := h0.lt
  have NP : Hid (w.heap.size + 1 ≠ w1.heap.size ∧ w.heap.size ≠ w.heap.size + 1) := by have := unhide N0; show _ ∧ _; omega
  clear hb1 r0 h0 b0
  go_wp2_with (refine wpList_store_row rfl 55 _ _ rfl w1.heap.size (wds KK) rfl rfl 55 _ (blk_new _ _) (by rw [wds_size, KK_len]; exact size55) (by rw [wds_size, KK_len]; rfl) (wds_one _) ?_; rw [World.setRow_alloc_new])
  generalize w1.alloc (.cells (wds KK) 55) = w2 at K0 ⊢
  obtain ⟨pk, hpk⟩ : ∃ g, g = w1.heap.size := ⟨_, rfl⟩
  rw [← hpk] at K0 N0 NP ⊢
  obtain ⟨ph, hph⟩ : ∃ g, g = w.heap.size + 1 := ⟨_, rfl⟩
  rw [← hph] at K0 N0 NP ⊢
  have BP : Hid (w.heap.size ≤ ph) := by show _ ≤ _; omega
  clear hpk hph
  go_loopg [5, 6, 16] 1 (fun kq v5 v6 v16 wr => ∃ i : Nat, v16 = .int .i64 (i : Int) ∧ Hid (i + kq = 1) ∧ ((i = 0 ∧ v5 = .slice none 0 0 ∧ v6 = .int .i64 0 ∧ Hid (Kept3 w.heap.size w wr w.heap.size ph pk H0)) ∨
    (i = 1 ∧ ∃ A1 c1, v5 = .slice A1 (tailOf l).length c1 ∧ v6 = .int .i64 (l.length : Int) ∧ Hid (Que wr w.heap.size (Ok3 w.heap.size ph pk) (.slice A1 (tailOf l).length c1) (tailOf l)) ∧ Hid (Kept3 w.heap.size w wr w.heap.size ph pk (blocks H0 (l.length / 64) l)))))
  case atStart => exact ⟨0, rfl, Nat.zero_add _, .inl ⟨rfl, rfl, rfl, unhide K0⟩⟩
  case round =>
    clear K0
    obtain ⟨i, rfl, HI, ⟨rfl, rfl, rfl, HK⟩ | ⟨rfl, A1, c1, rfl, rfl, HQ, HK⟩⟩ := hrel
    · have hp : wr.cell? ap = some (.slice A l.length c) := ((unhide HK).b.cell (World.block_lt_of_cell? w _ (unhide HP))).trans (unhide HP)
      have hp0 : wr.cell? (ap.add 0) = some (.slice A l.length c) := by simpa [Addr.add] using hp
      have HC : Hid (Kd.C (Kd.int .u8) wr A l.length l) := Kd.C_below (unhide HR) (unhide HK).b
      have hwn : wrap64 (0 + (l.length : Int)) = (l.length : Int) := by rw [w64 _ (by omega) (by omega)]; omega
      go_wp2_with (at_builtin; refine unhide ?_)
      refine hide ?_
      refine Kd.R_append_row (w0 := w) (Value.int .u8) (0 : Int) w.heap.size rfl (.tmp 24) (.tmp 25) 22 5 (.int .u8 0) 1 rfl Try.underlying22 info5 rfl (by decide) (.slice none 0 0) [] l A _ c (Ok3 w.heap.size ph pk) rfl rfl (unhide HK).fresh (Kd.R_nil _ _ _ _ _) (unhide HC) (unhide HK).b (unhide HK).b.size (by simp only [List.length_nil]; omega) ?_
      intro v2 w3 hR2 hB2 hg2 hat2
      have hQ2 : Que w3 w.heap.size (Ok3 w.heap.size ph pk) v2 l := Kd.Q_of_R hR2
      have K3 : Hid (Kept3 w.heap.size w w3 w.heap.size ph pk H0) := (unhide HK).grown (Kd.Q_nil _ _ _ _ _) hg2 hB2
      obtain ⟨A2, c2, rfl, hc2⟩ := Kd.Q_slice hQ2
      have HQ2 := hide hQ2
      clear hR2 hB2 hg2 hat2 hQ2 hp hp0 HC HK hwn
      go_wp2
      obtain rfl : gk = 1 := by have := unhide HI; omega
      clear HI
      go_loopg [5] (l.length / 64) (fun kq v5 wr => ∃ (j : Nat) (A1 : Option Addr) (c1 : Nat) (r : List Int), v5 = .slice A1 r.length c1 ∧ Hid (r = l.drop (64 * j)) ∧ Hid (j + kq = l.length / 64) ∧ Hid (Que wr w.heap.size (Ok3 w.heap.size ph pk) (.slice A1 r.length c1) r) ∧ Hid (Kept3 w.heap.size w wr w.heap.size ph pk (blocks H0 j l)))
      case atStart => exact ⟨0, A2, c2, l, rfl, rfl, Nat.zero_add _, unhide HQ2, unhide K3⟩
      case round =>
        clear HQ2 K3
        obtain ⟨j, A1, c1, r, rfl, hr, HJ, HQ, HK⟩ := hrel
        have hrl : r.length = l.length - 64 * j := by rw [unhide hr, List.length_drop]
        by_cases hj : j < l.length / 64
        · have d64 : 64 ≤ (r.length : Int) := by omega
          obtain ⟨ad, rfl⟩ := que_some (unhide HQ) (by omega)
          obtain ⟨A3, hcut, hq3⟩ := que_drop (some ad) c1 64 r (by omega)
          obtain ⟨r3, hr3⟩ : ∃ x, x = r.drop 64 := ⟨_, rfl⟩
          obtain ⟨c3, hc3⟩ : ∃ x, x = c1 - 64 := ⟨_, rfl⟩
          rw [← hr3, ← hc3] at hcut hq3
          have HR3 := hide hr3
          have HRL := hide (show 64 ≤ r.length ∧ r.length ≤ 1000000 by omega)
          have HLT := hide hj
          have HCUT : Hid (∀ W : World, (Instr.slice 22 (.slice (some ad) r.length c1) (some (.int .i64 64)) none none).run Try.prog W = .ok (.slice A3 r3.length c3) W) := hcut
          have HQ3 := hide hq3
          clear hrl hj hq3 hcut hr3 hc3
          go_wp2_with fail
          refine (block_ok ph pk r.length c1 w.heap.size ad (blocks H0 j l) KK r _ (unhide HK).h (by rw [blocks_len]; rfl) (blocks_u _ H0_u _ _) (que_reads (unhide HQ)).2.2 (unhide HRL).1 (unhide HRL).2 (unhide HK).k KK_len (unhide BP)).mono ?_
          rintro e w4 ⟨rfl, hW4, hB4, hK4⟩
          have K4 : Hid (Kept3 w.heap.size w w4 w.heap.size ph pk (blocks H0 (j + 1) l)) := by
            show Kept3 _ _ _ _ _ _ _
            rw [blocks_next, ← unhide hr]
            exact (unhide HK).block hW4 hB4 hK4 (unhide NP).2 (Ne.symm (unhide NP).1)
          have Q4 := hide ((unhide HQ3) _ _ _ (que_block (unhide HQ) hK4))
          have hcut := unhide HCUT
          clear hW4 hB4 hK4 HK HQ
          go_wp2
          go_roundg (gk - 1)
          case measure => have := unhide HJ; have := unhide HLT; omega
          case rel =>
            have := unhide HJ
            have := unhide HLT
            have he : r3 = l.drop (64 * (j + 1)) := by rw [unhide HR3, unhide hr, List.drop_drop]; congr 1
            exact ⟨j + 1, A3, c3, r3, rfl, he, by show j + 1 + (gk - 1) = _; omega, unhide Q4, unhide K4⟩
        · have hje : j = l.length / 64 := by have := unhide HJ; omega
          subst hje
          have d64 : ¬ 64 ≤ (r.length : Int) := by omega
          clear hrl hj HJ
          go_wp2
          go_roundg 0
          case measure => omega
          case rel => exact ⟨1, rfl, rfl, .inr ⟨rfl, A1, c1, by rw [tailOf, ← unhide hr], rfl, by rw [tailOf, ← unhide hr]; exact unhide HQ, unhide HK⟩⟩
    · go_wp2_with (at_builtin; refine unhide ?_)
      obtain ⟨tl, htl⟩ : ∃ t, t = tailOf l := ⟨_, rfl⟩
      rw [← htl] at HQ ⊢
      have htn : tl.length = l.length % 64 := by rw [htl]; exact tailOf_len l
      obtain ⟨hs, hhs⟩ : ∃ t, t = blocks H0 (l.length / 64) l := ⟨_, rfl⟩
      rw [← hhs] at HK
      have HTL := hide htl
      have HHS := hide hhs
      have HHL := hide (show hs.length = 8 by rw [hhs, blocks_len]; rfl)
      have HHU := hide (show Us hs by rw [hhs]; exact blocks_u _ H0_u _ _)
      clear htl hhs HI
      refine hide ?_
      refine Kd.Q_append (Kd.int .u8) (w0 := w) w.heap.size rfl (.tmp 35) (.tmp 36) 22 5 (.int .u8 0) 1 rfl Try.underlying22 info5 rfl (by decide) (by decide) (.slice A1 tl.length c1) tl 128 [.int .u8 128] (Ok3 w.heap.size ph pk) (fun _ => False) rfl rfl rfl (fun k h => h.elim) (unhide HK).fresh (unhide HQ) (unhide HK).b (unhide HK).b.size (by omega) ?_
      intro v2 w3 hQ2 hB2 hg2 hat2
      have K3 := hide ((unhide HK).grown (unhide HQ) hg2 hB2)
      obtain ⟨A2, c2, rfl, hc2⟩ := Kd.Q_slice hQ2
      obtain ⟨r1, hr1⟩ : ∃ r, r = tl ++ [(128 : Int)] := ⟨_, rfl⟩
      rw [← hr1] at hQ2 ⊢
      have HQ2 := hide hQ2
      have HR1 := hide hr1
      clear hB2 hg2 hat2 hQ2 HK HQ hr1 hc2 htn
      go_wp2
      go_loopg [5] (noughts l) (fun kq v5 wr => ∃ (z : Nat) (A1 : Option Addr) (c1 : Nat) (r : List Int), v5 = .slice A1 r.length c1 ∧ Hid (r = tl ++ [128] ++ List.replicate z 0) ∧ Hid (z + kq = noughts l) ∧ Hid (Que wr w.heap.size (Ok3 w.heap.size ph pk) (.slice A1 r.length c1) r) ∧ Hid (Kept3 w.heap.size w wr w.heap.size ph pk hs))
      case atStart => exact ⟨0, A2, c2, r1, rfl, by show _ = _; rw [unhide HR1]; simp, Nat.zero_add _, unhide HQ2, unhide K3⟩
      case round =>
        clear HQ2 K3
        obtain ⟨z, A3, c3, r, rfl, hr, HJ, HQ, HK⟩ := hrel
        have hrl : r.length = l.length % 64 + 1 + z := by rw [unhide hr, unhide HTL, List.length_append, List.length_append, List.length_replicate, tailOf_len]; rfl
        by_cases hj : z < noughts l
        · have hz : noughts l = (119 - l.length % 64) % 64 := rfl
          have d56 : ¬ (r.length : Int) % 64 = 56 := by omega
          have HRL := hide (show r.length ≤ 1000000 by omega)
          have HLT := hide hj
          clear hrl hj hz
          go_wp2_with (at_builtin; refine unhide ?_)
          refine hide ?_
          refine Kd.Q_append (Kd.int .u8) (w0 := w) w.heap.size rfl (.tmp 42) (.tmp 43) 22 5 (.int .u8 0) 1 rfl Try.underlying22 info5 rfl (by decide) (by decide) (.slice A3 r.length c3) r 0 [.int .u8 0] (Ok3 w.heap.size ph pk) (fun _ => False) rfl rfl rfl (fun k h => h.elim) (unhide HK).fresh (unhide HQ) (unhide HK).b (unhide HK).b.size (by have := unhide HRL; omega) ?_
          intro v2 w3 hQ2 hB2 hg2 hat2
          have K3 := hide ((unhide HK).grown (unhide HQ) hg2 hB2)
          obtain ⟨A2, c2, rfl, hc2⟩ := Kd.Q_slice hQ2
          obtain ⟨r2, hr2⟩ : ∃ r2, r2 = r ++ [(0 : Int)] := ⟨_, rfl⟩
          rw [← hr2] at hQ2 ⊢
          have HQ2 := hide hQ2
          have HR2 := hide hr2
          clear hB2 hg2 hat2 hQ2 HK HQ hr2 hc2
          go_wp2
          go_roundg (gk - 1)
          case measure => have := unhide HJ; have := unhide HLT; omega
          case rel =>
            have := unhide HJ
            have := unhide HLT
            exact ⟨z + 1, A2, c2, r2, rfl, by show _ = _; rw [unhide HR2, unhide hr, List.replicate_succ', List.append_assoc], by show z + 1 + (gk - 1) = _; omega, unhide HQ2, unhide K3⟩
        · have hz : noughts l = (119 - l.length % 64) % 64 := rfl
          have hze : z = noughts l := by have := unhide HJ; omega
          have d56 : (r.length : Int) % 64 = 56 := by omega
          have HRL := hide (show r.length ≤ 200 by omega)
          rw [hze] at hr
          clear hrl hj hz HJ hze
          go_wp2
          clear d56
          go_loopg [5, 9] 8 (fun kq v5 v9 wr => ∃ (j : Nat) (A1 : Option Addr) (c1 : Nat) (q : List Int), v5 = .slice A1 q.length c1 ∧ v9 = .int .i64 (56 - 8 * (j : Int)) ∧ Hid (q = r ++ lens l.length j) ∧ Hid (j + kq = 8) ∧ Hid (Que wr w.heap.size (Ok3 w.heap.size ph pk) (.slice A1 q.length c1) q) ∧ Hid (Kept3 w.heap.size w wr w.heap.size ph pk hs))
          case atStart => exact ⟨0, A3, c3, r, rfl, rfl, by show _ = _; rw [lens]; simp, Nat.zero_add _, unhide HQ, unhide HK⟩
          case round =>
            clear HQ HK
            obtain ⟨j, A4, c4, q, rfl, rfl, hq, HJ, HQ, HK⟩ := hrel
            have hql : q.length = r.length + j := by rw [unhide hq, List.length_append, lens_len]
            by_cases hj : j < 8
            · have d0 : 0 ≤ 56 - 8 * (j : Int) := by omega
              have d8 : 56 - 8 * (j : Int) < 64 := by omega
              have HQL := hide (show q.length ≤ 208 by have := unhide HRL; omega)
              have HLT := hide hj
              clear hql hj
              go_wp2_with (at_builtin; refine unhide ?_)
              have hx : (l.length : Int) * 8 / 2 ^ (56 - 8 * j) % 256 = lenb l.length j := by unfold lenb; push_cast; rfl
              rw [hx]
              clear hx
              obtain ⟨x, hx⟩ : ∃ x, lenb l.length j = x := ⟨_, rfl⟩
              rw [hx]
              refine hide ?_
              refine Kd.Q_append (Kd.int .u8) (w0 := w) w.heap.size rfl (.tmp 49) (.tmp 56) 22 5 (.int .u8 0) 1 rfl Try.underlying22 info5 rfl (by decide) (by decide) (.slice A4 q.length c4) q x [.int .u8 x] (Ok3 w.heap.size ph pk) (fun _ => False) rfl rfl rfl (fun k h => h.elim) (unhide HK).fresh (unhide HQ) (unhide HK).b (unhide HK).b.size (by have := unhide HQL; omega) ?_
              intro v2 w3 hQ2 hB2 hg2 hat2
              have K3 := hide ((unhide HK).grown (unhide HQ) hg2 hB2)
              obtain ⟨A2, c2, rfl, hc2⟩ := Kd.Q_slice hQ2
              obtain ⟨r2, hr2⟩ : ∃ r2, r2 = q ++ [x] := ⟨_, rfl⟩
              rw [← hr2] at hQ2 ⊢
              have HQ2 := hide hQ2
              have HR2 := hide hr2
              have HX := hide hx
              clear hB2 hg2 hat2 hQ2 HK HQ hr2 hc2 hx
              go_wp2
              go_roundg (gk - 1)
              case measure => have := unhide HJ; have := unhide HLT; omega
              case rel =>
                have := unhide HJ
                have := unhide HLT
                exact ⟨j + 1, A2, c2, r2, rfl, by first | (congr 1; omega) | (congr 1; push_cast; omega) | (rw [w64 _ (by omega) (by omega)]; congr 1; omega), by show _ = _; rw [unhide HR2, unhide hq, lens, unhide HX, List.append_assoc], by show j + 1 + (gk - 1) = _; omega, unhide HQ2, unhide K3⟩
            · have hje : j = 8 := by have := unhide HJ; omega
              subst hje
              have d0 : ¬ 0 ≤ 56 - 8 * ((8 : Nat) : Int) := by omega
              have hpd : q = padded l := by rw [unhide hq, unhide hr, padded, unhide HTL]
              obtain ⟨M, hM, hM2⟩ := padded_len l
              have hML : (padded l).length / 64 = M := by omega
              have HQ0 : Hid (q.length = 64 * M ∧ M ≤ 2) := by rw [hpd]; exact ⟨hM, hM2⟩
              have HPD := hide hpd
              have HMM := hide hML
              clear hql hj HJ hq hM hM2 hML hpd
              go_wp2
              clear d0
              go_loopg [5] M (fun kq v5 wr => ∃ (m : Nat) (A1 : Option Addr) (c1 : Nat) (y : List Int), v5 = .slice A1 y.length c1 ∧ Hid (y = q.drop (64 * m)) ∧ Hid (m + kq = M) ∧ Hid (Que wr w.heap.size (Ok3 w.heap.size ph pk) (.slice A1 y.length c1) y) ∧ Hid (Kept3 w.heap.size w wr w.heap.size ph pk (blocks hs m q)))
              case atStart => exact ⟨0, A4, c4, q, rfl, rfl, Nat.zero_add _, unhide HQ, unhide HK⟩
              case round =>
                clear HQ HK
                obtain ⟨m, A5, c5, y, rfl, hy, HJ, HQ, HK⟩ := hrel
                have hyl : y.length = 64 * M - 64 * m := by rw [unhide hy, List.length_drop, (unhide HQ0).1]
                by_cases hj : m < M
                · have d64 : 0 < (y.length : Int) := by omega
                  obtain ⟨ad, rfl⟩ := que_some (unhide HQ) (by omega)
                  obtain ⟨A6, hcut, hq3⟩ := que_drop (some ad) c5 64 y (by omega)
                  obtain ⟨y3, hy3⟩ : ∃ x, x = y.drop 64 := ⟨_, rfl⟩
                  obtain ⟨c6, hc6⟩ : ∃ x, x = c5 - 64 := ⟨_, rfl⟩
                  rw [← hy3, ← hc6] at hcut hq3
                  have HY3 := hide hy3
                  have HRL2 := hide (show 64 ≤ y.length ∧ y.length ≤ 1000000 by have := (unhide HQ0).2; omega)
                  have HLT := hide hj
                  have HCUT : Hid (∀ W : World, (Instr.slice 22 (.slice (some ad) y.length c5) (some (.int .i64 64)) none none).run Try.prog W = .ok (.slice A6 y3.length c6) W) := hcut
                  have HQ3 := hide hq3
                  clear hyl hj hq3 hcut hy3 hc6
                  go_wp2_with fail
                  refine (block_ok ph pk y.length c5 w.heap.size ad (blocks hs m q) KK y _ (unhide HK).h (by rw [blocks_len]; exact unhide HHL) (blocks_u _ (unhide HHU) _ _) (que_reads (unhide HQ)).2.2 (unhide HRL2).1 (unhide HRL2).2 (unhide HK).k KK_len (unhide BP)).mono ?_
                  rintro e w4 ⟨rfl, hW4, hB4, hK4⟩
                  have K4 : Hid (Kept3 w.heap.size w w4 w.heap.size ph pk (blocks hs (m + 1) q)) := by
                    show Kept3 _ _ _ _ _ _ _
                    rw [blocks_next, ← unhide hy]
                    exact (unhide HK).block hW4 hB4 hK4 (unhide NP).2 (Ne.symm (unhide NP).1)
                  have Q4 := hide ((unhide HQ3) _ _ _ (que_block (unhide HQ) hK4))
                  have hcut := unhide HCUT
                  clear hW4 hB4 hK4 HK HQ d64
                  go_wp2
                  go_roundg (gk - 1)
                  case measure => have := unhide HJ; have := unhide HLT; omega
                  case rel =>
                    have := unhide HJ
                    have := unhide HLT
                    have he : y3 = q.drop (64 * (m + 1)) := by rw [unhide HY3, unhide hy, List.drop_drop]; congr 1
                    exact ⟨m + 1, A6, c6, y3, rfl, he, by show m + 1 + (gk - 1) = _; omega, unhide Q4, unhide K4⟩
                · have hme : m = M := by have := unhide HJ; omega
                  subst hme
                  have d64 : ¬ 0 < (y.length : Int) := by omega
                  have K5 : Hid (Kept3 w.heap.size w wr w.heap.size ph pk (hash l)) := by
                    show Kept3 _ _ _ _ _ _ _
                    rw [hash, ← unhide HPD, ← unhide HHS, unhide HPD, unhide HMM, ← unhide HPD]
                    exact unhide HK
                  clear hyl hj HJ HK HQ
                  go_wp2
                  have O5 : Hid (Bs (wr.alloc (.cells (bys (List.replicate 32 0)) 25)) wr.heap.size 25 (outs (hash l) 0)) := blk_new _ _
                  have R5 : Hid (Bs (wr.alloc (.cells (bys (List.replicate 32 0)) 25)) w.heap.size 25 (List.replicate 32 0)) := (unhide K5).r.alloc _
                  have H5 : Hid (Ws (wr.alloc (.cells (bys (List.replicate 32 0)) 25)) ph 54 (hash l)) := (unhide K5).h.alloc _
                  have B5 : Hid (Below w.heap.size w (wr.alloc (.cells (bys (List.replicate 32 0)) 25))) := below_alloc (unhide K5).b _
                  have NG : Hid (ph < wr.heap.size ∧ w.heap.size < wr.heap.size) := ⟨(unhide K5).h.lt, (unhide K5).r.lt⟩
                  obtain ⟨go, hgo⟩ : ∃ g, g = wr.heap.size := ⟨_, rfl⟩
                  show Code.wp _ _ _ _ (wr.alloc (.cells (bys (List.replicate 32 0)) 25))
                  rw [← hgo] at O5 NG ⊢
                  generalize wr.alloc (.cells (bys (List.replicate 32 0)) 25) = w6 at O5 R5 H5 B5 ⊢
                  obtain ⟨hv, hhv⟩ : ∃ h, h = hash l := ⟨_, rfl⟩
                  rw [← hhv] at O5 H5
                  have HV8 := hide (show hv.length = 8 by rw [hhv]; exact hash_len l)
                  have HVU := hide (show Us hv by rw [hhv]; exact hash_u l)
                  have HHV := hide hhv
                  clear hgo hhv K5 d64
                  go_loopg [65] 32 (fun kq v65 wr => ∃ i : Nat, v65 = .int .i64 (i : Int) ∧ Hid (i + kq = 32) ∧ Hid (Bs wr go 25 (outs hv i)) ∧ Hid (Bs wr w.heap.size 25 (List.replicate 32 0)) ∧ Hid (Ws wr ph 54 hv) ∧ Hid (Below w.heap.size w wr))
                  case atStart => exact ⟨0, rfl, Nat.zero_add _, unhide O5, unhide R5, unhide H5, unhide B5⟩
                  case round =>
                    clear O5 R5 H5 B5
                    obtain ⟨i, rfl, HI, HO, HR5, HH5, HB5⟩ := hrel
                    by_cases hlt : i < 32
                    · obtain ⟨q4, hq4⟩ : ∃ q, q = i / 4 := ⟨_, rfl⟩
                      obtain ⟨m4, hm4⟩ : ∃ q, q = i % 4 := ⟨_, rfl⟩
                      have hx := (unhide HH5).cell q4 (by have := unhide HV8; omega)
                      obtain ⟨x, hxx⟩ : ∃ x, x = rd hv (q4 : Int) := ⟨_, rfl⟩
                      rw [← hxx] at hx
                      have hu : U32 x := by rw [hxx]; exact (unhide HVU).rd_ _
                      have hoc := (unhide HO).cell i (by rw [outs_len]; omega)
                      have hof := (unhide HO).frozen i
                      have ux0 := hu.1
                      have ux1 := hu.2
                      have d32 : (i : Int) < 32 := by omega
                      have e4 : (i : Int).tdiv 4 = (q4 : Int) := by rw [Int.tdiv_eq_ediv_of_nonneg (by omega)]; omega
                      have e5 : (i : Int).tmod 4 = (m4 : Int) := by rw [Int.tmod_eq_emod_of_nonneg (by omega)]; omega
                      have e6 : (i : Int) / 4 = (q4 : Int) := by omega
                      have e7 : (i : Int) % 4 = (m4 : Int) := by omega
                      have dq : (q4 : Int) < 8 := by omega
                      have dm : (m4 : Int) < 4 := by omega
                      have HLT := hide hlt
                      have HQM := hide (And.intro hq4 (And.intro hm4 hxx))
                      clear hlt hq4 hm4 hxx hu
                      go_wp2
                      have O6 : Hid (Bs (wr.setCell ⟨go, i, none⟩ (.int .u8 (x / 2 ^ (24 - 8 * m4) % 256))) go 25 (outs hv (i + 1))) := by
                        have h1 := (unhide HO).put i (x / 2 ^ (24 - 8 * m4) % 256)
                        show Bs _ _ _ _
                        rw [outs, outb, ← (unhide HQM).1, ← (unhide HQM).2.1, ← (unhide HQM).2.2]
                        exact h1
                      have R6 : Hid (Bs (wr.setCell ⟨go, i, none⟩ (.int .u8 (x / 2 ^ (24 - 8 * m4) % 256))) w.heap.size 25 (List.replicate 32 0)) := (unhide HR5).far (by have := (unhide NG).2; simp; omega) _
                      have H6 : Hid (Ws (wr.setCell ⟨go, i, none⟩ (.int .u8 (x / 2 ^ (24 - 8 * m4) % 256))) ph 54 hv) := (unhide HH5).far (by have := (unhide NG).1; simp; omega) _
                      have B6 : Hid (Below w.heap.size w (wr.setCell ⟨go, i, none⟩ (.int .u8 (x / 2 ^ (24 - 8 * m4) % 256)))) := below_set (unhide HB5) (Nat.le_of_lt (unhide NG).2)
                      clear hx hoc hof ux0 ux1 e4 e5 e6 e7 dq dm HO HR5 HH5 HB5
                      generalize wr.setCell ⟨go, i, none⟩ (.int .u8 (x / 2 ^ (24 - 8 * m4) % 256)) = w7 at O6 R6 H6 B6 ⊢
                      go_roundg (gk - 1)
                      case measure => have := unhide HI; have := unhide HLT; omega
                      case rel =>
                        have := unhide HI
                        have := unhide HLT
                        exact ⟨i + 1, by first | rw [Int.natCast_add, Int.natCast_one, w64 _ (by omega) (by omega)] | rw [Int.natCast_add, Int.natCast_one], by show i + 1 + (gk - 1) = 32; omega, unhide O6, unhide R6, unhide H6, unhide B6⟩
                    · have hi : i = 32 := by have := unhide HI; omega
                      subst hi
                      have SZ : Hid ((Try.prog.info? 25).map (·.size) = some (bys (outs hv 32)).size) := by show _ = _; rw [bys_size, outs_len]; exact size25
                      go_wp2_with (first | refine wpList_load_row rfl 25 _ rfl go rfl 25 _ (0, 0) _ (unhide HO) Try.underlying25 rfl (unhide SZ) ?_ | refine wpList_store_row rfl 25 _ _ rfl w.heap.size (bys (outs hv 32)) rfl rfl 25 _ (unhide HR5) (unhide SZ) (by rw [bys_size, bys_size, outs_len]; rfl) (bys_one _) ?_)
                      refine bodyPost_ret (v := .agg (bys (outs hv 32))) ?_ rfl ⟨?_, below_setRow (unhide HB5) (Nat.le_refl _) _⟩
                      · exact results_cell_row rfl _ _ w.heap.size 25 (bys (outs hv 32)) (0, 0) _ rfl (unhide HR5).row Try.underlying25 rfl (unhide SZ)
                      · rw [unhide HHV]; rfl
end Go.Proofs.Ytgoephcembgmcaa.Sh
