import Derived.Test.YtgoephcembgmcaaDoorQ04
import Derived.Test.YtgoephcembgmcaaDoorWGuard
import Derived.Great.BuildSlice
set_option linter.unusedSimpArgs false
set_option linter.unusedVariables false
namespace Go.Proofs.YtgoephcembgmcaaDoor.Sh
open Go.RowKit Go.Proofs.YtgoephcembgmcaaDoorW.PrintWords Go.Proofs.YtgoephcembgmcaaDoorW.PrintLast Wk FrM Fr Rg
open WkM (w64 Bytes)
theorem size54 : (Tryd.prog.info? 189).map (·.size) = some 8 := by kernel_rfl
theorem size25 : (Tryd.prog.info? 28).map (·.size) = some 32 := by kernel_rfl
/-- What the sum keeps: the result's box, the words so far, the words that are mixed in. -/
structure Kept3 (base : Nat) (w wr : World) (gr ph pk : Nat) (hs : List Int) : Prop where
  r : Bs wr gr 28 (List.replicate 32 0)
  h : Ws wr ph 189 hs
  k : Ws wr pk 190 KK
  b : Below base w wr
def Ok3 (gr ph pk : Nat) (k : Nat) : Prop := k ≠ gr ∧ k ≠ ph ∧ k ≠ pk
section
variable {base : Nat} {w wr w1 : World} {gr ph pk : Nat} {hs hs' xs ys : List Int} {v : Value}
theorem Kept3.fresh (h : Kept3 base w wr gr ph pk hs) : ∀ k, wr.heap.size ≤ k → Ok3 gr ph pk k := fun k hk => by
  have h1 := h.r.lt
  have h2 := h.h.lt
  have h3 := h.k.lt
  unfold Ok3
  omega
theorem Kept3.grown (h : Kept3 base w wr gr ph pk hs) (hq : Que wr base (Ok3 gr ph pk) v xs) (hg : wr.grownBy w1 v.ownBlock) (hb : Below base w w1) : Kept3 base w w1 gr ph pk hs :=
  ⟨blk_grown h.r hg (fun e => (hq.1 _ e.symm).1 rfl), blk_grown h.h hg (fun e => (hq.1 _ e.symm).2.1 rfl), blk_grown h.k hg (fun e => (hq.1 _ e.symm).2.2 rfl), hb⟩
theorem Kept3.block (h : Kept3 base w wr gr ph pk hs) (h1 : Ws w1 ph 189 hs') (hb : Below base wr w1) (hk : KeepBut wr w1 ph none) (hr : gr ≠ ph) (hp : pk ≠ ph) : Kept3 base w w1 gr ph pk hs' :=
  ⟨hk.blk h.r hr (by simp), h1, hk.blk h.k hp (by simp), h.b.trans hb⟩
theorem que_block (h : Que wr base (Ok3 gr ph pk) v xs) (hk : KeepBut wr w1 ph none) : Que w1 base (Ok3 gr ph pk) v xs := Kd.Q_keep h hk (fun _ h => h.2.1)
end
set_option maxHeartbeats 2000000 in
set_option maxRecDepth 100000 in
theorem of_sum (ap : Addr) (pc : Nat) (A : Option Addr) (c : Nat) (l : List Int) (w : World) (hp : w.cell? ap = some (.slice A l.length c)) (hr : Kd.C (Kd.int .u8) w A l.length l) (hl : Bytes l) (hc : l.length ≤ c) (hn : l.length ≤ 100000) :
    Calls Tryd.prog 67 #[.slice (some ap) 1 pc] w fun e w' => e = .returned (.agg (bys (S l))) ∧ Below w.heap.size w w' := by
  have HP := hide hp
  have HR := hide hr
  have HL := hide hl
  clear hp hr hl
  go_enter Tryd.func67, Tryd.ntmps67
  go_wp2_with fail
  refine (words_any _).mono ?_
  rintro e w1 ⟨rfl, hb1⟩
  have r0 : Bs w1 w.heap.size 28 (List.replicate 32 0) := blk_below (blk_alloc (blk_new w (.cells (bys (List.replicate 32 0)) 28)) _) hb1
  have h0 : Ws w1 (w.heap.size + 1) 189 H0 := blk_below (heap_alloc2_new w _ (.cells (wds H0) 189)) hb1
  have b0 : Below w.heap.size w w1 := below_step (below_alloc (below_alloc (Below.refl _ _) _) _) hb1
  have K0 : Hid (Kept3 w.heap.size w (w1.alloc (.cells (wds KK) 190)) w.heap.size (w.heap.size + 1) w1.heap.size H0) := ⟨r0.alloc _, h0.alloc _, blk_new _ _, below_alloc b0 _⟩
  have N0 : Hid (w.heap.size + 1 < w1.heap.size) := h0.lt
  have NP : Hid (w.heap.size + 1 ≠ w1.heap.size ∧ w.heap.size ≠ w.heap.size + 1) := by have := unhide N0; show _ ∧ _; omega
  clear hb1 r0 h0 b0
  go_wp2_with (refine wpList_store_row rfl 190 _ _ rfl w1.heap.size (wds KK) rfl rfl 190 _ (blk_new _ _) (by rw [wds_size, KK_len]; exact size55) (by rw [wds_size, KK_len]; rfl) (wds_one _) ?_; rw [World.setRow_alloc_new])
  generalize w1.alloc (.cells (wds KK) 190) = w2 at K0 ⊢
  obtain ⟨pk, hpk⟩ : ∃ g, g = w1.heap.size := ⟨_, rfl⟩
  rw [← hpk] at K0 N0 NP ⊢
  obtain ⟨ph, hph⟩ : ∃ g, g = w.heap.size + 1 := ⟨_, rfl⟩
  rw [← hph] at K0 N0 NP ⊢
  have BP : Hid (w.heap.size ≤ ph) := by show _ ≤ _; omega
  clear hpk hph
  go_loopg [5, 6, 16] 1 (fun kq v5 v6 v16 wr => ∃ i : Nat, v16 = .int .i64 (i : Int) ∧ Hid (i + kq = 1) ∧ ((i = 0 ∧ v5 = .slice none 0 0 ∧ v6 = .int .i64 0 ∧ Hid (Kept3 w.heap.size w wr w.heap.size ph pk H0)) ∨
    (i = 1 ∧ ∃ A1 c1, v5 = .slice A1 (tailOf l).length c1 ∧ v6 = .int .i64 (l.length : Int) ∧ Hid (Que wr w.heap.size (Ok3 w.heap.size ph pk) (.slice A1 (tailOf l).length c1) (tailOf l)) ∧ Hid (Kept3 w.heap.size w wr w.heap.size ph pk (blocks H0 (l.length / 64) l)))))
  case atStart => exact ⟨0, rfl, Nat.zero_add _, .inl ⟨rfl, rfl, rfl, unhide K0⟩⟩
  case round =>
    clear K0
    obtain ⟨i, rfl, HI, ⟨rfl, rfl, rfl, HK⟩ | ⟨rfl, A1, c1, rfl, rfl, HQ, HK⟩⟩ := hrel
    · have hp : wr.cell? ap = some (.slice A l.length c) := ((unhide HK).b.cell (World.block_lt_of_cell? w _ (unhide HP))).trans (unhide HP)
      have hp0 : wr.cell? (ap.add 0) = some (.slice A l.length c) := by simpa [Addr.add] using hp
      have HC : Hid (Kd.C (Kd.int .u8) wr A l.length l) := Kd.C_below (unhide HR) (unhide HK).b
      have hwn : wrap64 (0 + (l.length : Int)) = (l.length : Int) := by rw [w64 _ (by omega) (by omega)]; omega
      go_wp2_with (at_builtin; refine unhide ?_)
      refine hide ?_
      refine Kd.R_append_row (w0 := w) (Value.int .u8) (0 : Int) w.heap.size rfl (.tmp 24) (.tmp 25) 22 5 (.int .u8 0) 1 rfl Tryd.underlying22 info5 rfl (by decide) (.slice none 0 0) [] l A _ c (Ok3 w.heap.size ph pk) rfl rfl (unhide HK).fresh (Kd.R_nil _ _ _ _ _) (unhide HC) (unhide HK).b (unhide HK).b.size (by simp only [List.length_nil]; omega) ?_
      intro v2 w3 hR2 hB2 hg2 hat2
      have hQ2 : Que w3 w.heap.size (Ok3 w.heap.size ph pk) v2 l := Kd.Q_of_R hR2
      have K3 : Hid (Kept3 w.heap.size w w3 w.heap.size ph pk H0) := (unhide HK).grown (Kd.Q_nil _ _ _ _ _) hg2 hB2
      obtain ⟨A2, c2, rfl, hc2⟩ := Kd.Q_slice hQ2
      have HQ2 := hide hQ2
      clear hR2 hB2 hg2 hat2 hQ2 hp hp0 HC HK hwn
      go_wp2
      obtain rfl : gk = 1 := by have := unhide HI; omega
      clear HI
      go_loopg [5] (l.length / 64) (fun kq v5 wr => ∃ (j : Nat) (A1 : Option Addr) (c1 : Nat) (r : List Int), v5 = .slice A1 r.length c1 ∧ Hid (r = l.drop (64 * j)) ∧ Hid (j + kq = l.length / 64) ∧ Hid (Que wr w.heap.size (Ok3 w.heap.size ph pk) (.slice A1 r.length c1) r) ∧ Hid (Kept3 w.heap.size w wr w.heap.size ph pk (blocks H0 j l)))
      case atStart => exact ⟨0, A2, c2, l, rfl, rfl, Nat.zero_add _, unhide HQ2, unhide K3⟩
      case round =>
        clear HQ2 K3
        obtain ⟨j, A1, c1, r, rfl, hr, HJ, HQ, HK⟩ := hrel
        have hrl : r.length = l.length - 64 * j := by rw [unhide hr, List.length_drop]
        by_cases hj : j < l.length / 64
        · have d64 : 64 ≤ (r.length : Int) := by omega
          obtain ⟨ad, rfl⟩ := que_some (unhide HQ) (by omega)
          obtain ⟨A3, hcut, hq3⟩ := que_drop (some ad) c1 64 r (by omega)
          obtain ⟨r3, hr3⟩ : ∃ x, x = r.drop 64 := ⟨_, rfl⟩
          obtain ⟨c3, hc3⟩ : ∃ x, x = c1 - 64 := ⟨_, rfl⟩
          rw [← hr3, ← hc3] at hcut hq3
          have HR3 := hide hr3
          have HRL := hide (show 64 ≤ r.length ∧ r.length ≤ 1000000 by omega)
          have HLT := hide hj
          have HCUT : Hid (∀ W : World, (Instr.slice 22 (.slice (some ad) r.length c1) (some (.int .i64 64)) none none).run Tryd.prog W = .ok (.slice A3 r3.length c3) W) := hcut
          have HQ3 := hide hq3
          clear hrl hj hq3 hcut hr3 hc3
          go_wp2_with fail
          refine (block_ok ph pk r.length c1 w.heap.size ad (blocks H0 j l) KK r _ (unhide HK).h (by rw [blocks_len]; rfl) (blocks_u _ H0_u _ _) (que_reads (unhide HQ)).2.2 (unhide HRL).1 (unhide HRL).2 (unhide HK).k KK_len (unhide BP)).mono ?_
          rintro e w4 ⟨rfl, hW4, hB4, hK4⟩
          have K4 : Hid (Kept3 w.heap.size w w4 w.heap.size ph pk (blocks H0 (j + 1) l)) := by
            show Kept3 _ _ _ _ _ _ _
            rw [blocks_next, ← unhide hr]
            exact (unhide HK).block hW4 hB4 hK4 (unhide NP).2 (Ne.symm (unhide NP).1)
          have Q4 := hide ((unhide HQ3) _ _ _ (que_block (unhide HQ) hK4))
          have hcut := unhide HCUT
          clear hW4 hB4 hK4 HK HQ
          go_wp2
          go_roundg (gk - 1)
          case measure => have := unhide HJ; have := unhide HLT; omega
          case rel =>
            have := unhide HJ
            have := unhide HLT
            have he : r3 = l.drop (64 * (j + 1)) := by rw [unhide HR3, unhide hr, List.drop_drop]; congr 1
            exact ⟨j + 1, A3, c3, r3, rfl, he, by show j + 1 + (gk - 1) = _; omega, unhide Q4, unhide K4⟩
        · have hje : j = l.length / 64 := by have := unhide HJ; omega
          subst hje
          have d64 : ¬ 64 ≤ (r.length : Int) := by omega
          clear hrl hj HJ
          go_wp2
          go_roundg 0
          case measure => omega
          case rel => exact ⟨1, rfl, rfl, .inr ⟨rfl, A1, c1, by rw [tailOf, ← unhide hr], rfl, by rw [tailOf, ← unhide hr]; exact unhide HQ, unhide HK⟩⟩
    · go_wp2_with (at_builtin; refine unhide ?_)
      obtain ⟨tl, htl⟩ : ∃ t, t = tailOf l := ⟨_, rfl⟩
      rw [← htl] at HQ ⊢
      have htn : tl.length = l.length % 64 := by rw [htl]; exact tailOf_len l
      obtain ⟨hs, hhs⟩ : ∃ t, t = blocks H0 (l.length / 64) l := ⟨_, rfl⟩
      rw [← hhs] at HK
      have HTL := hide htl
      have HHS := hide hhs
      have HHL := hide (show hs.length = 8 by rw [hhs, blocks_len]; rfl)
      have HHU := hide (show Us hs by rw [hhs]; exact blocks_u _ H0_u _ _)
      clear htl hhs HI
      refine hide ?_
      refine Kd.Q_append (Kd.int .u8) (w0 := w) w.heap.size rfl (.tmp 35) (.tmp 36) 22 5 (.int .u8 0) 1 rfl Tryd.underlying22 info5 rfl (by decide) (by decide) (.slice A1 tl.length c1) tl 128 [.int .u8 128] (Ok3 w.heap.size ph pk) (fun _ => False) rfl rfl rfl (fun k h => h.elim) (unhide HK).fresh (unhide HQ) (unhide HK).b (unhide HK).b.size (by omega) ?_
      intro v2 w3 hQ2 hB2 hg2 hat2
      have K3 := hide ((unhide HK).grown (unhide HQ) hg2 hB2)
      obtain ⟨A2, c2, rfl, hc2⟩ := Kd.Q_slice hQ2
      obtain ⟨r1, hr1⟩ : ∃ r, r = tl ++ [(128 : Int)] := ⟨_, rfl⟩
      rw [← hr1] at hQ2 ⊢
      have HQ2 := hide hQ2
      have HR1 := hide hr1
      clear hB2 hg2 hat2 hQ2 HK HQ hr1 hc2 htn
      go_wp2
      go_loopg [5] (noughts l) (fun kq v5 wr => ∃ (z : Nat) (A1 : Option Addr) (c1 : Nat) (r : List Int), v5 = .slice A1 r.length c1 ∧ Hid (r = tl ++ [128] ++ List.replicate z 0) ∧ Hid (z + kq = noughts l) ∧ Hid (Que wr w.heap.size (Ok3 w.heap.size ph pk) (.slice A1 r.length c1) r) ∧ Hid (Kept3 w.heap.size w wr w.heap.size ph pk hs))
      case atStart => exact ⟨0, A2, c2, r1, rfl, by show _ = _; rw [unhide HR1]; simp, Nat.zero_add _, unhide HQ2, unhide K3⟩
      case round =>
        clear HQ2 K3
        obtain ⟨z, A3, c3, r, rfl, hr, HJ, HQ, HK⟩ := hrel
        have hrl : r.length = l.length % 64 + 1 + z := by rw [unhide hr, unhide HTL, List.length_append, List.length_append, List.length_replicate, tailOf_len]; rfl
        by_cases hj : z < noughts l
        · have hz : noughts l = (119 - l.length % 64) % 64 := rfl
          have d56 : ¬ (r.length : Int) % 64 = 56 := by omega
          have HRL := hide (show r.length ≤ 1000000 by omega)
          have HLT := hide hj
          clear hrl hj hz
          go_wp2_with (at_builtin; refine unhide ?_)
          refine hide ?_
          refine Kd.Q_append (Kd.int .u8) (w0 := w) w.heap.size rfl (.tmp 42) (.tmp 43) 22 5 (.int .u8 0) 1 rfl Tryd.underlying22 info5 rfl (by decide) (by decide) (.slice A3 r.length c3) r 0 [.int .u8 0] (Ok3 w.heap.size ph pk) (fun _ => False) rfl rfl rfl (fun k h => h.elim) (unhide HK).fresh (unhide HQ) (unhide HK).b (unhide HK).b.size (by have := unhide HRL; omega) ?_
          intro v2 w3 hQ2 hB2 hg2 hat2
          have K3 := hide ((unhide HK).grown (unhide HQ) hg2 hB2)
          obtain ⟨A2, c2, rfl, hc2⟩ := Kd.Q_slice hQ2
          obtain ⟨r2, hr2⟩ : ∃ r2, r2 = r ++ [(0 : Int)] := ⟨_, rfl⟩
          rw [← hr2] at hQ2 ⊢
          have HQ2 := hide hQ2
          have HR2 := hide hr2
          clear hB2 hg2 hat2 hQ2 HK HQ hr2 hc2
          go_wp2
          go_roundg (gk - 1)
          case measure => have := unhide HJ; have := unhide HLT; omega
          case rel =>
            have := unhide HJ
            have := unhide HLT
            exact ⟨z + 1, A2, c2, r2, rfl, by show _ = _; rw [unhide HR2, unhide hr, List.replicate_succ', List.append_assoc], by show z + 1 + (gk - 1) = _; omega, unhide HQ2, unhide K3⟩
        · have hz : noughts l = (119 - l.length % 64) % 64 := rfl
          have hze : z = noughts l := by have := unhide HJ; omega
          have d56 : (r.length : Int) % 64 = 56 := by omega
          have HRL := hide (show r.length ≤ 200 by omega)
          rw [hze] at hr
          clear hrl hj hz HJ hze
          go_wp2
          clear d56
          go_loopg [5, 9] 8 (fun kq v5 v9 wr => ∃ (j : Nat) (A1 : Option Addr) (c1 : Nat) (q : List Int), v5 = .slice A1 q.length c1 ∧ v9 = .int .i64 (56 - 8 * (j : Int)) ∧ Hid (q = r ++ lens l.length j) ∧ Hid (j + kq = 8) ∧ Hid (Que wr w.heap.size (Ok3 w.heap.size ph pk) (.slice A1 q.length c1) q) ∧ Hid (Kept3 w.heap.size w wr w.heap.size ph pk hs))
          case atStart => exact ⟨0, A3, c3, r, rfl, rfl, by show _ = _; rw [lens]; simp, Nat.zero_add _, unhide HQ, unhide HK⟩
          case round =>
            clear HQ HK
            obtain ⟨j, A4, c4, q, rfl, rfl, hq, HJ, HQ, HK⟩ := hrel
            have hql : q.length = r.length + j := by rw [unhide hq, List.length_append, lens_len]
            by_cases hj : j < 8
            · have d0 : 0 ≤ 56 - 8 * (j : Int) := by omega
              have d8 : 56 - 8 * (j : Int) < 64 := by omega
              have HQL := hide (show q.length ≤ 208 by have := unhide HRL; omega)
              have HLT := hide hj
              clear hql hj
              go_wp2_with (at_builtin; refine unhide ?_)
              have hx : (l.length : Int) * 8 / 2 ^ (56 - 8 * j) % 256 = lenb l.length j := by unfold lenb; push_cast; rfl
              rw [hx]
              clear hx
              obtain ⟨x, hx⟩ : ∃ x, lenb l.length j = x := ⟨_, rfl⟩
              rw [hx]
              refine hide ?_
              refine Kd.Q_append (Kd.int .u8) (w0 := w) w.heap.size rfl (.tmp 49) (.tmp 56) 22 5 (.int .u8 0) 1 rfl Tryd.underlying22 info5 rfl (by decide) (by decide) (.slice A4 q.length c4) q x [.int .u8 x] (Ok3 w.heap.size ph pk) (fun _ => False) rfl rfl rfl (fun k h => h.elim) (unhide HK).fresh (unhide HQ) (unhide HK).b (unhide HK).b.size (by have := unhide HQL; omega) ?_
              intro v2 w3 hQ2 hB2 hg2 hat2
              have K3 := hide ((unhide HK).grown (unhide HQ) hg2 hB2)
              obtain ⟨A2, c2, rfl, hc2⟩ := Kd.Q_slice hQ2
              obtain ⟨r2, hr2⟩ : ∃ r2, r2 = q ++ [x] := ⟨_, rfl⟩
              rw [← hr2] at hQ2 ⊢
              have HQ2 := hide hQ2
              have HR2 := hide hr2
              have HX := hide hx
              clear hB2 hg2 hat2 hQ2 HK HQ hr2 hc2 hx
              go_wp2
              go_roundg (gk - 1)
              case measure => have := unhide HJ; have := unhide HLT; omega
              case rel =>
                have := unhide HJ
                have := unhide HLT
                exact ⟨j + 1, A2, c2, r2, rfl, by first | (congr 1; omega) | (congr 1; push_cast; omega) | (rw [w64 _ (by omega) (by omega)]; congr 1; omega), by show _ = _; rw [unhide HR2, unhide hq, lens, unhide HX, List.append_assoc], by show j + 1 + (gk - 1) = _; omega, unhide HQ2, unhide K3⟩
            · have hje : j = 8 := by have := unhide HJ; omega
              subst hje
              have d0 : ¬ 0 ≤ 56 - 8 * ((8 : Nat) : Int) := by omega
              have hpd : q = padded l := by rw [unhide hq, unhide hr, padded, unhide HTL]
              obtain ⟨M, hM, hM2⟩ := padded_len l
              have hML : (padded l).length / 64 = M := by omega
              have HQ0 : Hid (q.length = 64 * M ∧ M ≤ 2) := by rw [hpd]; exact ⟨hM, hM2⟩
              have HPD := hide hpd
              have HMM := hide hML
              clear hql hj HJ hq hM hM2 hML hpd
              go_wp2
              clear d0
              go_loopg [5] M (fun kq v5 wr => ∃ (m : Nat) (A1 : Option Addr) (c1 : Nat) (y : List Int), v5 = .slice A1 y.length c1 ∧ Hid (y = q.drop (64 * m)) ∧ Hid (m + kq = M) ∧ Hid (Que wr w.heap.size (Ok3 w.heap.size ph pk) (.slice A1 y.length c1) y) ∧ Hid (Kept3 w.heap.size w wr w.heap.size ph pk (blocks hs m q)))
              case atStart => exact ⟨0, A4, c4, q, rfl, rfl, Nat.zero_add _, unhide HQ, unhide HK⟩
              case round =>
                clear HQ HK
                obtain ⟨m, A5, c5, y, rfl, hy, HJ, HQ, HK⟩ := hrel
                have hyl : y.length = 64 * M - 64 * m := by rw [unhide hy, List.length_drop, (unhide HQ0).1]
                by_cases hj : m < M
                · have d64 : 0 < (y.length : Int) := by omega
                  obtain ⟨ad, rfl⟩ := que_some (unhide HQ) (by omega)
                  obtain ⟨A6, hcut, hq3⟩ := que_drop (some ad) c5 64 y (by omega)
                  obtain ⟨y3, hy3⟩ : ∃ x, x = y.drop 64 := ⟨_, rfl⟩
                  obtain ⟨c6, hc6⟩ : ∃ x, x = c5 - 64 := ⟨_, rfl⟩
                  rw [← hy3, ← hc6] at hcut hq3
                  have HY3 := hide hy3
                  have HRL2 := hide (show 64 ≤ y.length ∧ y.length ≤ 1000000 by have := (unhide HQ0).2; omega)
                  have HLT := hide hj
                  have HCUT : Hid (∀ W : World, (Instr.slice 22 (.slice (some ad) y.length c5) (some (.int .i64 64)) none none).run Tryd.prog W = .ok (.slice A6 y3.length c6) W) := hcut
                  have HQ3 := hide hq3
                  clear hyl hj hq3 hcut hy3 hc6
                  go_wp2_with fail
                  refine (block_ok ph pk y.length c5 w.heap.size ad (blocks hs m q) KK y _ (unhide HK).h (by rw [blocks_len]; exact unhide HHL) (blocks_u _ (unhide HHU) _ _) (que_reads (unhide HQ)).2.2 (unhide HRL2).1 (unhide HRL2).2 (unhide HK).k KK_len (unhide BP)).mono ?_
                  rintro e w4 ⟨rfl, hW4, hB4, hK4⟩
                  have K4 : Hid (Kept3 w.heap.size w w4 w.heap.size ph pk (blocks hs (m + 1) q)) := by
                    show Kept3 _ _ _ _ _ _ _
                    rw [blocks_next, ← unhide hy]
                    exact (unhide HK).block hW4 hB4 hK4 (unhide NP).2 (Ne.symm (unhide NP).1)
                  have Q4 := hide ((unhide HQ3) _ _ _ (que_block (unhide HQ) hK4))
                  have hcut := unhide HCUT
                  clear hW4 hB4 hK4 HK HQ d64
                  go_wp2
                  go_roundg (gk - 1)
                  case measure => have := unhide HJ; have := unhide HLT; omega
                  case rel =>
                    have := unhide HJ
                    have := unhide HLT
                    have he : y3 = q.drop (64 * (m + 1)) := by rw [unhide HY3, unhide hy, List.drop_drop]; congr 1
                    exact ⟨m + 1, A6, c6, y3, rfl, he, by show m + 1 + (gk - 1) = _; omega, unhide Q4, unhide K4⟩
                · have hme : m = M := by have := unhide HJ; omega
                  subst hme
                  have d64 : ¬ 0 < (y.length : Int) := by omega
                  have K5 : Hid (Kept3 w.heap.size w wr w.heap.size ph pk (hash l)) := by
                    show Kept3 _ _ _ _ _ _ _
                    rw [hash, ← unhide HPD, ← unhide HHS, unhide HPD, unhide HMM, ← unhide HPD]
                    exact unhide HK
                  clear hyl hj HJ HK HQ
                  go_wp2
                  have O5 : Hid (Bs (wr.alloc (.cells (bys (List.replicate 32 0)) 28)) wr.heap.size 28 (outs (hash l) 0)) := blk_new _ _
                  have R5 : Hid (Bs (wr.alloc (.cells (bys (List.replicate 32 0)) 28)) w.heap.size 28 (List.replicate 32 0)) := (unhide K5).r.alloc _
                  have H5 : Hid (Ws (wr.alloc (.cells (bys (List.replicate 32 0)) 28)) ph 189 (hash l)) := (unhide K5).h.alloc _
                  have B5 : Hid (Below w.heap.size w (wr.alloc (.cells (bys (List.replicate 32 0)) 28))) := below_alloc (unhide K5).b _
                  have NG : Hid (ph < wr.heap.size ∧ w.heap.size < wr.heap.size) := ⟨(unhide K5).h.lt, (unhide K5).r.lt⟩
                  obtain ⟨go, hgo⟩ : ∃ g, g = wr.heap.size := ⟨_, rfl⟩
                  show Code.wp _ _ _ _ (wr.alloc (.cells (bys (List.replicate 32 0)) 28))
                  rw [← hgo] at O5 NG ⊢
                  generalize wr.alloc (.cells (bys (List.replicate 32 0)) 28) = w6 at O5 R5 H5 B5 ⊢
                  obtain ⟨hv, hhv⟩ : ∃ h, h = hash l := ⟨_, rfl⟩
                  rw [← hhv] at O5 H5
                  have HV8 := hide (show hv.length = 8 by rw [hhv]; exact hash_len l)
                  have HVU := hide (show Us hv by rw [hhv]; exact hash_u l)
                  have HHV := hide hhv
                  clear hgo hhv K5 d64
                  go_loopg [65] 32 (fun kq v65 wr => ∃ i : Nat, v65 = .int .i64 (i : Int) ∧ Hid (i + kq = 32) ∧ Hid (Bs wr go 28 (outs hv i)) ∧ Hid (Bs wr w.heap.size 28 (List.replicate 32 0)) ∧ Hid (Ws wr ph 189 hv) ∧ Hid (Below w.heap.size w wr))
                  case atStart => exact ⟨0, rfl, Nat.zero_add _, unhide O5, unhide R5, unhide H5, unhide B5⟩
                  case round =>
                    clear O5 R5 H5 B5
                    obtain ⟨i, rfl, HI, HO, HR5, HH5, HB5⟩ := hrel
                    by_cases hlt : i < 32
                    · obtain ⟨q4, hq4⟩ : ∃ q, q = i / 4 := ⟨_, rfl⟩
                      obtain ⟨m4, hm4⟩ : ∃ q, q = i % 4 := ⟨_, rfl⟩
                      have hx := (unhide HH5).cell q4 (by have := unhide HV8; omega)
                      obtain ⟨x, hxx⟩ : ∃ x, x = rd hv (q4 : Int) := ⟨_, rfl⟩
                      rw [← hxx] at hx
                      have hu : U32 x := by rw [hxx]; exact (unhide HVU).rd_ _
                      have hoc := (unhide HO).cell i (by rw [outs_len]; omega)
                      have hof := (unhide HO).frozen i
                      have ux0 := hu.1
                      have ux1 := hu.2
                      have d32 : (i : Int) < 32 := by omega
                      have e4 : (i : Int).tdiv 4 = (q4 : Int) := by rw [Int.tdiv_eq_ediv_of_nonneg (by omega)]; omega
                      have e5 : (i : Int).tmod 4 = (m4 : Int) := by rw [Int.tmod_eq_emod_of_nonneg (by omega)]; omega
                      have e6 : (i : Int) / 4 = (q4 : Int) := by omega
                      have e7 : (i : Int) % 4 = (m4 : Int) := by omega
                      have dq : (q4 : Int) < 8 := by omega
                      have dm : (m4 : Int) < 4 := by omega
                      have HLT := hide hlt
                      have HQM := hide (And.intro hq4 (And.intro hm4 hxx))
                      clear hlt hq4 hm4 hxx hu
                      go_wp2
                      have O6 : Hid (Bs (wr.setCell ⟨go, i, none⟩ (.int .u8 (x / 2 ^ (24 - 8 * m4) % 256))) go 28 (outs hv (i + 1))) := by
                        have h1 := (unhide HO).put i (x / 2 ^ (24 - 8 * m4) % 256)
                        show Bs _ _ _ _
                        rw [outs, outb, ← (unhide HQM).1, ← (unhide HQM).2.1, ← (unhide HQM).2.2]
                        exact h1
                      have R6 : Hid (Bs (wr.setCell ⟨go, i, none⟩ (.int .u8 (x / 2 ^ (24 - 8 * m4) % 256))) w.heap.size 28 (List.replicate 32 0)) := (unhide HR5).far (by have := (unhide NG).2; simp; omega) _
                      have H6 : Hid (Ws (wr.setCell ⟨go, i, none⟩ (.int .u8 (x / 2 ^ (24 - 8 * m4) % 256))) ph 189 hv) := (unhide HH5).far (by have := (unhide NG).1; simp; omega) _
                      have B6 : Hid (Below w.heap.size w (wr.setCell ⟨go, i, none⟩ (.int .u8 (x / 2 ^ (24 - 8 * m4) % 256)))) := below_set (unhide HB5) (Nat.le_of_lt (unhide NG).2)
                      clear hx hoc hof ux0 ux1 e4 e5 e6 e7 dq dm HO HR5 HH5 HB5
                      generalize wr.setCell ⟨go, i, none⟩ (.int .u8 (x / 2 ^ (24 - 8 * m4) % 256)) = w7 at O6 R6 H6 B6 ⊢
                      go_roundg (gk - 1)
                      case measure => have := unhide HI; have := unhide HLT; omega
                      case rel =>
                        have := unhide HI
                        have := unhide HLT
                        exact ⟨i + 1, by first | rw [Int.natCast_add, Int.natCast_one, w64 _ (by omega) (by omega)] | rw [Int.natCast_add, Int.natCast_one], by show i + 1 + (gk - 1) = 32; omega, unhide O6, unhide R6, unhide H6, unhide B6⟩
                    · have hi : i = 32 := by have := unhide HI; omega
                      subst hi
                      have SZ : Hid ((Tryd.prog.info? 28).map (·.size) = some (bys (outs hv 32)).size) := by show _ = _; rw [bys_size, outs_len]; exact size25
                      go_wp2_with (first | refine wpList_load_row rfl 28 _ rfl go rfl 28 _ (0, 0) _ (unhide HO) Tryd.underlying28 rfl (unhide SZ) ?_ | refine wpList_store_row rfl 28 _ _ rfl w.heap.size (bys (outs hv 32)) rfl rfl 28 _ (unhide HR5) (unhide SZ) (by rw [bys_size, bys_size, outs_len]; rfl) (bys_one _) ?_)
                      refine bodyPost_ret (v := .agg (bys (outs hv 32))) ?_ rfl ⟨?_, below_setRow (unhide HB5) (Nat.le_refl _) _⟩
                      · exact results_cell_row rfl _ _ w.heap.size 28 (bys (outs hv 32)) (0, 0) _ rfl (unhide HR5).row Tryd.underlying28 rfl (unhide SZ)
                      · rw [unhide HHV]; rfl
end Go.Proofs.YtgoephcembgmcaaDoor.Sh
namespace Go.Proofs.YtgoephcembgmcaaDoor.Sh
open Go.RowKit Go.Proofs.YtgoephcembgmcaaDoorW.PrintWords Go.Proofs.YtgoephcembgmcaaDoorW.PrintLast Wk FrM Fr Rg
open WkM (w64 Bytes)
attribute [local go_sem] max2_int min2_int max_two min_two
theorem size5 : (Tryd.prog.info? 5).map (·.size) = some 1 := by kernel_rfl
/-- 32 bytes out of one array into another one. -/
theorem copy32 (W : World) (g g' : Nat) (t t' : Nat) (xs ys : List Int) (h : Bs W g t xs) (h' : Bs W g' t' ys) (hx : xs.length = 32) (hy : ys.length = 32) :
    (Builtin.copy_ #[22, 22] 3 #[.slice (some ⟨g, 0, none⟩) 32 32, .slice (some ⟨g', 0, none⟩) 32 32]).run Tryd.prog W = .ok (.int .i64 32) (W.setRow g (bys ys)) := by
  have h1 := run_copy_row Tryd.prog W 22 22 3 5 g 0 32 32 ⟨g', 0, none⟩ 32 32 (bys xs) t (ys.map (Value.int .u8)) Tryd.underlying22 size5 h (by rw [List.length_map, hy]; rfl) (fun j v hj => by
    have hadd : (⟨g', 0, none⟩ : Addr).add j = ⟨g', j, none⟩ := by unfold Addr.add; split <;> simp_all
    rw [hadd, cell_of_row W g' j _ t' (0, 0) h']
    unfold bys
    rw [List.getElem?_toArray]
    exact hj) (by rw [List.length_map, bys_size]; omega) (fun v hv => by
      obtain ⟨x, _, rfl⟩ := List.mem_map.1 hv
      rfl)
  rw [List.length_map, hy] at h1
  have e : ((bys xs).toList.take 0 ++ ys.map (Value.int .u8) ++ (bys xs).toList.drop (0 + 32)).toArray = bys ys := by
    have hl : (bys xs).toList.length ≤ 0 + 32 := by rw [Array.length_toList, bys_size]; omega
    rw [List.drop_of_length_le hl, List.take_zero, List.nil_append, List.append_nil]
    rfl
  rw [e] at h1
  exact h1
def T17_3 : Bool × List (List Nat × List Nat) := (true, [([], []), ([0], [0]), ([1], [1]), ([2], [2]), ([], []), ([3, 4], [3, 4])])
def BT17_3 : List Nat := [0, 1, 3, 7, 0, 31]
theorem tabT17_3 : rtab .any (opsOf Tryd.f25 3) = T17_3 := by kernel_rfl
theorem bitsT17_3 : waitsOk T17_3.2 BT17_3 = true := by kernel_rfl

set_option maxHeartbeats 2000000 in
set_option maxRecDepth 100000 in
theorem cut_sum (A : Option Addr) (c : Nat) (l : List Int) (w : World) (hr : Kd.C (Kd.int .u8) w A l.length l) (hl : Bytes l) (hc : l.length ≤ c) (hn : l.length ≤ 100000) :
    Calls Tryd.prog 25 #[.int .i64 32, .slice A l.length c] w fun e w' => e = .returned (.agg (bys (S l))) ∧ Below w.heap.size w w' := by
  have HR := hide hr
  have HL := hide hl
  clear hr hl
  go_enter Tryd.func25, Tryd.ntmps25
  go_wp2_with fail
  have bA : Below w.heap.size w (((w.alloc (.cells (bys (List.replicate 32 0)) 28)).alloc (.cells (bys (List.replicate 32 0)) 28)).alloc (.cells #[.slice A l.length c] 22)) := below_alloc (below_alloc (below_alloc (Below.refl _ _) _) _) _
  have r0 : Bs (((w.alloc (.cells (bys (List.replicate 32 0)) 28)).alloc (.cells (bys (List.replicate 32 0)) 28)).alloc (.cells #[.slice A l.length c] 22)) w.heap.size 28 (List.replicate 32 0) := blk_alloc (blk_alloc (blk_new w _) _) _
  have r1 : Bs (((w.alloc (.cells (bys (List.replicate 32 0)) 28)).alloc (.cells (bys (List.replicate 32 0)) 28)).alloc (.cells #[.slice A l.length c] 22)) (w.heap.size + 1) 28 (List.replicate 32 0) := blk_alloc (heap_alloc2_new w _ _) _
  have r2 : (((w.alloc (.cells (bys (List.replicate 32 0)) 28)).alloc (.cells (bys (List.replicate 32 0)) 28)).alloc (.cells #[.slice A l.length c] 22)).cell? ⟨w.heap.size + 2, 0, none⟩ = some (.slice A l.length c) := cell_of_row _ _ 0 #[.slice A l.length c] 22 (0, 0) (by have h := blk_new ((w.alloc (.cells (bys (List.replicate 32 0)) 28)).alloc (.cells (bys (List.replicate 32 0)) 28)) (.cells #[.slice A l.length c] 22); simpa using h)
  show Calls _ _ _ (((w.alloc (.cells (bys (List.replicate 32 0)) 28)).alloc (.cells (bys (List.replicate 32 0)) 28)).alloc (.cells #[.slice A l.length c] 22)) _
  generalize ((w.alloc (.cells (bys (List.replicate 32 0)) 28)).alloc (.cells (bys (List.replicate 32 0)) 28)).alloc (.cells #[.slice A l.length c] 22) = w1 at bA r0 r1 r2 ⊢
  refine (of_sum ⟨w.heap.size + 2, 0, none⟩ 1 A c l _ r2 (Kd.C_below (unhide HR) bA) (unhide HL) hc hn).mono ?_
  rintro e w2 ⟨rfl, hb⟩
  have R0 := hide (r0.below hb)
  have R1 := hide (r1.below hb)
  have B2 := hide (below_step bA hb)
  have N2 : Hid (w.heap.size + 1 < w2.heap.size) := (unhide R1).lt
  obtain ⟨sl, hsl⟩ : ∃ s, s = S l := ⟨_, rfl⟩
  have s32 : sl.length = 32 := by rw [hsl]; exact S_len l
  rw [← hsl]
  have HSL := hide hsl
  have HS32 := hide s32
  have SZ : Hid ((Tryd.prog.info? 28).map (·.size) = some (bys sl).size) := by show _ = _; rw [bys_size, s32]; exact size25
  clear bA r0 r1 r2 hb hsl s32
  go_wp2_with (refine wpList_store_row rfl 28 _ _ rfl w2.heap.size (bys sl) rfl rfl 28 _ (blk_new _ _) (unhide SZ) (by rw [bys_size, unhide HS32]; rfl) (bys_one _) ?_; rw [World.setRow_alloc_new])
  have A0 : Hid (Bs (w2.alloc (.cells (bys sl) 28)).drew w.heap.size 28 (List.replicate 32 0)) := (unhide R0).alloc _
  have A1 : Hid (Bs (w2.alloc (.cells (bys sl) 28)).drew (w.heap.size + 1) 28 (List.replicate 32 0)) := (unhide R1).alloc _
  have A2 : Hid (Bs (w2.alloc (.cells (bys sl) 28)).drew w2.heap.size 28 sl) := blk_new _ _
  have B3 : Hid (Below w.heap.size w (w2.alloc (.cells (bys sl) 28)).drew) := below_drew (below_alloc (unhide B2) _)
  obtain ⟨g1, hg1⟩ : ∃ g, g = w.heap.size + 1 := ⟨_, rfl⟩
  rw [← hg1] at A1 N2 ⊢
  have HG : Hid (w.heap.size < g1 ∧ w.heap.size ≠ g1) := by show _ ∧ _; omega
  clear hg1
  obtain ⟨g2, hg2⟩ : ∃ g, g = w2.heap.size := ⟨_, rfl⟩
  rw [← hg2] at A2 ⊢
  clear hg2 R0 R1
  refine start_ (n := 6) (S := fun _ => True) (ds := []) (bt 6 0) (by kernel_rfl) rfl (by kernel_rfl) trivial (fun hHeld => ?_)
  refine with_tabW tabT17_3 bitsT17_3 (fun HT_ HW_ => ?_)
  refine run_ [(0, 10), (1, 11), (2, 12), (3, 13), (4, 14)] ?_
  iterate 5 ((first | refine sp_ (v := ?_) (a' := ?_) HT_.out rfl rfl rfl (by kernel_rfl) (fun _ _ _ h => h) ?_ ?_ ?_ | refine sg_ (v := ?_) (a' := ?_) HT_.out rfl rfl (by kernel_rfl) (fun _ _ _ h => h) (by rfl) ?_ ?_ ?_); rotate_left; (· intro w'; go_simp; with_reducible rfl); rotate_left; (· simp only [Act.put, List.setIfInBounds_toArray, List.set_cons_zero, List.set_cons_succ, i64_w, i32_w]; rfl))
  refine rend_ ?_
  refine one_ (i := 5) (N := some 15) (bt 6 63) rfl rfl (one_of HT_.out (by kernel_rfl)) (by decide) (fun K hK => ?_)
  have hcp := copy32 _ g1 g2 28 28 _ sl (unhide A1) (unhide A2) List.length_replicate (unhide HS32)
  have C0 : Hid (Bs ((w2.alloc (.cells (bys sl) 28)).drew.setRow g1 (bys sl)) w.heap.size 28 (List.replicate 32 0)) := (setRow_other _ g1 _ _ (unhide HG).2).trans (unhide A0)
  have C1 : Hid (Bs ((w2.alloc (.cells (bys sl) 28)).drew.setRow g1 (bys sl)) g1 28 sl) := (unhide A1).row
  have C2 : Hid (Below w.heap.size w ((w2.alloc (.cells (bys sl) 28)).drew.setRow g1 (bys sl))) := below_setRow (unhide B3) (Nat.le_of_lt (unhide HG).1) _
  generalize (w2.alloc (.cells (bys sl) 28)).drew.setRow g1 (bys sl) = w9 at hcp C0 C1 C2
  refine value_ (v := .int .i64 32) (w1 := w9) (by rfl) rfl ?hrun ?_
  case hrun =>
    go_simp
  clear hcp
  clear hHeld
  refine hK.out _ _ trivial (fun hHeld => ?_)
  clear hK K
  refine norm_ (a' := ?_) ?_ ?_
  rotate_left
  · show Act.put _ (some 15) _ = _
    simp only [Act.put, List.setIfInBounds_toArray, List.set_cons_zero, List.set_cons_succ, i64_w, i32_w]
    rfl
  refine done_ (done_of HT_.out (by kernel_rfl)) ?_
  clear HT_ HW_ hHeld
  go_wp2_with (first | refine wpList_load_row rfl 28 _ rfl g1 rfl 28 _ (0, 0) _ (unhide C1) Tryd.underlying28 rfl (unhide SZ) ?_ | refine wpList_store_row rfl 28 _ _ rfl w.heap.size (bys sl) rfl rfl 28 _ (unhide C0) (unhide SZ) (by rw [bys_size, bys_size, unhide HS32]; rfl) (bys_one _) ?_)
  refine bodyPost_ret (v := .agg (bys sl)) ?_ rfl ⟨?_, below_setRow (unhide C2) (Nat.le_refl _) _⟩
  · exact results_cell_row rfl _ _ w.heap.size 28 (bys sl) (0, 0) _ rfl (unhide C0).row Tryd.underlying28 rfl (unhide SZ)
  · rw [unhide HSL]
end Go.Proofs.YtgoephcembgmcaaDoor.Sh
namespace Go.Proofs.YtgoephcembgmcaaDoor.Sh
open Go.RowKit Go.Proofs.YtgoephcembgmcaaDoorW.PrintWords Go.Proofs.YtgoephcembgmcaaDoorW.PrintLast Wk FrM Fr Rg
open WkM (w64 Bytes)
attribute [local go_sem] max2_int min2_int max_two min_two
/-- The first 8 bytes of a sum, noughts behind them. -/
def S8 (l : List Int) : List Int := (S l).take 8 ++ List.replicate 24 0
theorem S8_len (l : List Int) : (S8 l).length = 32 := by unfold S8; rw [List.length_append, List.length_take, S_len, List.length_replicate]; rfl
/-- 8 bytes out of one array into another one. -/
theorem copyTo8 (W : World) (g g' : Nat) (t t' : Nat) (xs ys : List Int) (h : Bs W g t xs) (h' : Bs W g' t' ys) (hx : xs.length = 32) (hy : ys.length = 32) :
    (Builtin.copy_ #[22, 22] 3 #[.slice (some ⟨g, 0, none⟩) 8 32, .slice (some ⟨g', 0, none⟩) 32 32]).run Tryd.prog W = .ok (.int .i64 8) (W.setRow g (bys (ys.take 8 ++ xs.drop 8))) := by
  have hy8 : (ys.take 8).length = 8 := by rw [List.length_take, hy]; rfl
  have h1 := run_copy_row Tryd.prog W 22 22 3 5 g 0 8 32 ⟨g', 0, none⟩ 32 32 (bys xs) t ((ys.take 8).map (Value.int .u8)) Tryd.underlying22 size5 h (by rw [List.length_map, hy8]; rfl) (fun j v hj => by
    have hadd : (⟨g', 0, none⟩ : Addr).add j = ⟨g', j, none⟩ := by unfold Addr.add; split <;> simp_all
    rw [hadd, cell_of_row W g' j _ t' (0, 0) h']
    unfold bys
    rw [List.getElem?_toArray]
    have hl := (List.getElem?_eq_some_iff.1 hj).1
    rw [List.length_map, hy8] at hl
    rw [List.getElem?_map, List.getElem?_take, if_pos hl] at hj
    rw [List.getElem?_map]
    exact hj) (by rw [List.length_map, bys_size, hy8]; omega) (fun v hv => by
      obtain ⟨x, _, rfl⟩ := List.mem_map.1 hv
      rfl)
  rw [List.length_map, hy8] at h1
  have e : ((bys xs).toList.take 0 ++ (ys.take 8).map (Value.int .u8) ++ (bys xs).toList.drop (0 + 8)).toArray = bys (ys.take 8 ++ xs.drop 8) := by
    unfold bys
    rw [List.take_zero, List.nil_append, List.map_append, List.map_drop]
  rw [e] at h1
  exact h1
set_option maxHeartbeats 2000000 in
set_option maxRecDepth 100000 in
theorem cut8_sum (A : Option Addr) (c : Nat) (l : List Int) (w : World) (hr : Kd.C (Kd.int .u8) w A l.length l) (hl : Bytes l) (hc : l.length ≤ c) (hn : l.length ≤ 100000) :
    Calls Tryd.prog 25 #[.int .i64 8, .slice A l.length c] w fun e w' => e = .returned (.agg (bys (S8 l))) ∧ Below w.heap.size w w' := by
  have HR := hide hr
  have HL := hide hl
  clear hr hl
  go_enter Tryd.func25, Tryd.ntmps25
  go_wp2_with fail
  have bA : Below w.heap.size w (((w.alloc (.cells (bys (List.replicate 32 0)) 28)).alloc (.cells (bys (List.replicate 32 0)) 28)).alloc (.cells #[.slice A l.length c] 22)) := below_alloc (below_alloc (below_alloc (Below.refl _ _) _) _) _
  have r0 : Bs (((w.alloc (.cells (bys (List.replicate 32 0)) 28)).alloc (.cells (bys (List.replicate 32 0)) 28)).alloc (.cells #[.slice A l.length c] 22)) w.heap.size 28 (List.replicate 32 0) := blk_alloc (blk_alloc (blk_new w _) _) _
  have r1 : Bs (((w.alloc (.cells (bys (List.replicate 32 0)) 28)).alloc (.cells (bys (List.replicate 32 0)) 28)).alloc (.cells #[.slice A l.length c] 22)) (w.heap.size + 1) 28 (List.replicate 32 0) := blk_alloc (heap_alloc2_new w _ _) _
  have r2 : (((w.alloc (.cells (bys (List.replicate 32 0)) 28)).alloc (.cells (bys (List.replicate 32 0)) 28)).alloc (.cells #[.slice A l.length c] 22)).cell? ⟨w.heap.size + 2, 0, none⟩ = some (.slice A l.length c) := cell_of_row _ _ 0 #[.slice A l.length c] 22 (0, 0) (by have h := blk_new ((w.alloc (.cells (bys (List.replicate 32 0)) 28)).alloc (.cells (bys (List.replicate 32 0)) 28)) (.cells #[.slice A l.length c] 22); simpa using h)
  show Calls _ _ _ (((w.alloc (.cells (bys (List.replicate 32 0)) 28)).alloc (.cells (bys (List.replicate 32 0)) 28)).alloc (.cells #[.slice A l.length c] 22)) _
  generalize ((w.alloc (.cells (bys (List.replicate 32 0)) 28)).alloc (.cells (bys (List.replicate 32 0)) 28)).alloc (.cells #[.slice A l.length c] 22) = w1 at bA r0 r1 r2 ⊢
  refine (of_sum ⟨w.heap.size + 2, 0, none⟩ 1 A c l _ r2 (Kd.C_below (unhide HR) bA) (unhide HL) hc hn).mono ?_
  rintro e w2 ⟨rfl, hb⟩
  have R0 := hide (r0.below hb)
  have R1 := hide (r1.below hb)
  have B2 := hide (below_step bA hb)
  have N2 : Hid (w.heap.size + 1 < w2.heap.size) := (unhide R1).lt
  obtain ⟨sl, hsl⟩ : ∃ s, s = S l := ⟨_, rfl⟩
  have s32 : sl.length = 32 := by rw [hsl]; exact S_len l
  rw [← hsl]
  have HSL := hide hsl
  have HS32 := hide s32
  have SZ : Hid ((Tryd.prog.info? 28).map (·.size) = some (bys sl).size) := by show _ = _; rw [bys_size, s32]; exact size25
  clear bA r0 r1 r2 hb hsl s32
  go_wp2_with (refine wpList_store_row rfl 28 _ _ rfl w2.heap.size (bys sl) rfl rfl 28 _ (blk_new _ _) (unhide SZ) (by rw [bys_size, unhide HS32]; rfl) (bys_one _) ?_; rw [World.setRow_alloc_new])
  have A0 : Hid (Bs (w2.alloc (.cells (bys sl) 28)).drew w.heap.size 28 (List.replicate 32 0)) := (unhide R0).alloc _
  have A1 : Hid (Bs (w2.alloc (.cells (bys sl) 28)).drew (w.heap.size + 1) 28 (List.replicate 32 0)) := (unhide R1).alloc _
  have A2 : Hid (Bs (w2.alloc (.cells (bys sl) 28)).drew w2.heap.size 28 sl) := blk_new _ _
  have B3 : Hid (Below w.heap.size w (w2.alloc (.cells (bys sl) 28)).drew) := below_drew (below_alloc (unhide B2) _)
  obtain ⟨g1, hg1⟩ : ∃ g, g = w.heap.size + 1 := ⟨_, rfl⟩
  rw [← hg1] at A1 N2 ⊢
  have HG : Hid (w.heap.size < g1 ∧ w.heap.size ≠ g1) := by show _ ∧ _; omega
  clear hg1
  obtain ⟨g2, hg2⟩ : ∃ g, g = w2.heap.size := ⟨_, rfl⟩
  rw [← hg2] at A2 ⊢
  clear hg2 R0 R1
  refine start_ (n := 6) (S := fun _ => True) (ds := []) (bt 6 0) (by kernel_rfl) rfl (by kernel_rfl) trivial (fun hHeld => ?_)
  refine with_tabW tabT17_3 bitsT17_3 (fun HT_ HW_ => ?_)
  refine run_ [(0, 10), (1, 11), (2, 12), (3, 13), (4, 14)] ?_
  iterate 5 ((first | refine sp_ (v := ?_) (a' := ?_) HT_.out rfl rfl rfl (by kernel_rfl) (fun _ _ _ h => h) ?_ ?_ ?_ | refine sg_ (v := ?_) (a' := ?_) HT_.out rfl rfl (by kernel_rfl) (fun _ _ _ h => h) (by rfl) ?_ ?_ ?_); rotate_left; (· intro w'; go_simp; with_reducible rfl); rotate_left; (· simp only [Act.put, List.setIfInBounds_toArray, List.set_cons_zero, List.set_cons_succ, i64_w, i32_w]; rfl))
  refine rend_ ?_
  refine one_ (i := 5) (N := some 15) (bt 6 63) rfl rfl (one_of HT_.out (by kernel_rfl)) (by decide) (fun K hK => ?_)
  have hcp := copyTo8 _ g1 g2 28 28 _ sl (unhide A1) (unhide A2) List.length_replicate (unhide HS32)
  obtain ⟨s8, h8⟩ : ∃ s, s = sl.take 8 ++ (List.replicate 32 (0 : Int)).drop 8 := ⟨_, rfl⟩
  rw [← h8] at hcp
  have hs8 : s8.length = 32 := by rw [h8, List.length_append, List.length_take, unhide HS32, List.length_drop, List.length_replicate]; rfl
  have HS8 := hide hs8
  have SZ8 : Hid ((Tryd.prog.info? 28).map (·.size) = some (bys s8).size) := by show _ = _; rw [bys_size, hs8]; exact size25
  have H8 := hide h8.symm
  clear h8 hs8
  have C0 : Hid (Bs ((w2.alloc (.cells (bys sl) 28)).drew.setRow g1 (bys s8)) w.heap.size 28 (List.replicate 32 0)) := (setRow_other _ g1 _ _ (unhide HG).2).trans (unhide A0)
  have C1 : Hid (Bs ((w2.alloc (.cells (bys sl) 28)).drew.setRow g1 (bys s8)) g1 28 s8) := (unhide A1).row
  have C2 : Hid (Below w.heap.size w ((w2.alloc (.cells (bys sl) 28)).drew.setRow g1 (bys s8))) := below_setRow (unhide B3) (Nat.le_of_lt (unhide HG).1) _
  generalize (w2.alloc (.cells (bys sl) 28)).drew.setRow g1 (bys s8) = w9 at hcp C0 C1 C2
  refine value_ (v := .int .i64 8) (w1 := w9) (by rfl) rfl ?hrun ?_
  case hrun =>
    go_simp
  clear hcp
  clear hHeld
  refine hK.out _ _ trivial (fun hHeld => ?_)
  clear hK K
  refine norm_ (a' := ?_) ?_ ?_
  rotate_left
  · show Act.put _ (some 15) _ = _
    simp only [Act.put, List.setIfInBounds_toArray, List.set_cons_zero, List.set_cons_succ, i64_w, i32_w]
    rfl
  refine done_ (done_of HT_.out (by kernel_rfl)) ?_
  clear HT_ HW_ hHeld
  go_wp2_with (first | refine wpList_load_row rfl 28 _ rfl g1 rfl 28 _ (0, 0) _ (unhide C1) Tryd.underlying28 rfl (unhide SZ8) ?_ | refine wpList_store_row rfl 28 _ _ rfl w.heap.size (bys s8) rfl rfl 28 _ (unhide C0) (unhide SZ8) (by rw [bys_size, bys_size, unhide HS8]; rfl) (bys_one _) ?_)
  refine bodyPost_ret (v := .agg (bys s8)) ?_ rfl ⟨?_, below_setRow (unhide C2) (Nat.le_refl _) _⟩
  · exact results_cell_row rfl _ _ w.heap.size 28 (bys s8) (0, 0) _ rfl (unhide C0).row Tryd.underlying28 rfl (unhide SZ8)
  · rw [← unhide H8, unhide HSL]; rfl
end Go.Proofs.YtgoephcembgmcaaDoor.Sh
namespace Go.Proofs.YtgoephcembgmcaaDoor.Bl
open Go.RowKit Go.Proofs.YtgoephcembgmcaaDoorW.PrintWords Go.Proofs.YtgoephcembgmcaaDoorW.PrintLast Wk FrM Fr Sh Rg
open WkM (w64 Bytes val)
theorem count_ok (n : Nat) (w : World) (hn : n ≤ 100000) : Calls Tryd.prog 22 #[.int .i64 (n : Int), .int .i64 4] w fun e w' => e = .returned (.int .i64 (((n + 3) / 4 : Nat) : Int)) ∧ w' = w := by
  obtain ⟨q, hq⟩ : ∃ q : Nat, q = n / 4 := ⟨_, rfl⟩
  obtain ⟨r, hr⟩ : ∃ r : Nat, r = n % 4 := ⟨_, rfl⟩
  have e1 : Int.tdiv (n : Int) 4 = (q : Int) := by rw [Int.tdiv_eq_ediv_of_nonneg (by omega)]; omega
  have e2 : Int.tmod (n : Int) 4 = (r : Int) := by rw [Int.tmod_eq_emod_of_nonneg (by omega)]; omega
  have e3 : wrap64 (q : Int) = (q : Int) := w64 _ (by omega) (by omega)
  have e4 : wrap64 (r : Int) = (r : Int) := w64 _ (by omega) (by omega)
  have e5 : wrap64 ((q : Int) + 1) = (q : Int) + 1 := w64 _ (by omega) (by omega)
  have HQ := hide hq
  have HR := hide hr
  have HN := hide hn
  clear hq hr hn
  go_enter Tryd.func22, Tryd.ntmps22
  go_wp2
  · have hq := unhide HQ
    have hr := unhide HR
    have hn := unhide HN
    go_ret
    exact ⟨by rw [e5]; exact congrArg (fun z => Ending.returned (.int .i64 z)) (by omega), rfl⟩
  · have hq := unhide HQ
    have hr := unhide HR
    have hn := unhide HN
    go_ret
    exact ⟨by rw [e3]; exact congrArg (fun z => Ending.returned (.int .i64 z)) (by omega), rfl⟩
/-- The cells of a block: its weak sum, its strong one. -/
def bk (v : Int) (s : List Int) : List Value := .int .u32 v :: s.map (Value.int .u8)
theorem bk_len (v : Int) (s : List Int) (h : s.length = 32) : (bk v s).length = 33 := by unfold bk; rw [List.length_cons, List.length_map, h]
theorem bk_one (v : Int) (s : List Int) : ∀ u ∈ bk v s, u.oneCell' = true := by
  intro u hu
  unfold bk at hu
  rcases List.mem_cons.1 hu with hu | hu
  · rw [hu]; rfl
  · obtain ⟨x, _, rfl⟩ := List.mem_map.1 hu; rfl
theorem size86 : (Tryd.prog.info? 86).map (·.size) = some 33 := by kernel_rfl
theorem built86_ (v a0 a1 a2 a3 a4 a5 a6 a7 a8 a9 a10 a11 a12 a13 a14 a15 a16 a17 a18 a19 a20 a21 a22 a23 a24 a25 a26 a27 a28 a29 a30 a31 : Int) : Tryd.prog.built 86 [(0, .int .u32 v), (1, .agg (bys [a0, a1, a2, a3, a4, a5, a6, a7, a8, a9, a10, a11, a12, a13, a14, a15, a16, a17, a18, a19, a20, a21, a22, a23, a24, a25, a26, a27, a28, a29, a30, a31]))] = some (bk v [a0, a1, a2, a3, a4, a5, a6, a7, a8, a9, a10, a11, a12, a13, a14, a15, a16, a17, a18, a19, a20, a21, a22, a23, a24, a25, a26, a27, a28, a29, a30, a31]).toArray := by kernel_rfl
theorem built86 (v : Int) (s : List Int) (h : s.length = 32) : Tryd.prog.built 86 [(0, .int .u32 v), (1, .agg (bys s))] = some (bk v s).toArray := by
  match s, h with
  | [a0, a1, a2, a3, a4, a5, a6, a7, a8, a9, a10, a11, a12, a13, a14, a15, a16, a17, a18, a19, a20, a21, a22, a23, a24, a25, a26, a27, a28, a29, a30, a31], _ => exact built86_ v a0 a1 a2 a3 a4 a5 a6 a7 a8 a9 a10 a11 a12 a13 a14 a15 a16 a17 a18 a19 a20 a21 a22 a23 a24 a25 a26 a27 a28 a29 a30 a31
theorem wpList_build2 {P : Program} {w : World} {ops : Array Oper} {rest : List Oper} {o : Oper} {a : Act} {Q : Exit → Act → World → Prop} (hg : o.guard = none) (t : TypeId) (i j : Nat) (x y : Operand) (ho : o.op = .build t #[(i, x), (j, y)]) (vx vy : Value) (hx : a.eval x = vx) (hy : a.eval y = vy) (cs : Array Value)
    (hb : P.built t [(i, vx), (j, vy)] = some cs) (h : wpList P ops Q rest (a.put o.dst (.agg cs)) w) : wpList P ops Q (o :: rest) a w :=
  wpList_build_is hg t _ ho cs (by simp only [List.map_toArray, List.map_cons, List.map_nil, hx, hy]; exact hb) h
set_option maxHeartbeats 2000000 in
set_option maxRecDepth 100000 in
theorem block_of (A : Option Addr) (c : Nat) (l : List Int) (w : World) (hr : Kd.C (Kd.int .u8) w A l.length l) (hl : Bytes l) (hc : l.length ≤ c) (hn : l.length ≤ 100000) :
    Calls Tryd.prog 23 #[.slice A l.length c, .int .i64 8] w fun e w' => e = .returned (.agg (bk (val l) (S8 l)).toArray) ∧ Below w.heap.size w w' := by
  have HR := hide hr
  have HL := hide hl
  clear hr hl
  go_enter Tryd.func23, Tryd.ntmps23
  go_wp2_with fail
  have b0 : Below w.heap.size w (w.alloc (.cells (bk 0 (List.replicate 32 0)).toArray 86)) := below_alloc (Below.refl _ _) _
  have r0 : (w.alloc (.cells (bk 0 (List.replicate 32 0)).toArray 86)).heap[w.heap.size]? = some (.cells (bk 0 (List.replicate 32 0)).toArray 86 (0, 0)) := blk_new _ _
  show Calls _ _ _ (w.alloc (.cells (bk 0 (List.replicate 32 0)).toArray 86)) _
  generalize w.alloc (.cells (bk 0 (List.replicate 32 0)).toArray 86) = w1 at b0 r0 ⊢
  refine (of_any A c l _ (Kd.C_below (unhide HR) b0) hc (unhide HL) hn).mono ?_
  rintro e w2 ⟨rfl, hb2⟩
  have r2 := blk_below r0 hb2
  have b2 := below_step b0 hb2
  clear b0 r0 hb2
  go_wp2_with fail
  refine (value_St l _).mono ?_
  rintro e w3 ⟨rfl, hb3⟩
  have r3 := blk_below r2 hb3
  have b3 := below_step b2 hb3
  clear b2 r2 hb3
  go_wp2_with fail
  refine (cut8_sum A c l _ (Kd.C_below (unhide HR) b3) (unhide HL) hc hn).mono ?_
  rintro e w4 ⟨rfl, hb4⟩
  have r4 := hide (blk_below r3 hb4)
  have b4 := hide (below_step b3 hb4)
  clear b3 r3 hb4
  obtain ⟨v, hv⟩ : ∃ v, v = val l := ⟨_, rfl⟩
  obtain ⟨s, hs⟩ : ∃ s, s = S8 l := ⟨_, rfl⟩
  have h32 : s.length = 32 := by rw [hs]; exact S8_len l
  rw [← hv, ← hs]
  have SZ : Hid ((Tryd.prog.info? 86).map (·.size) = some (bk v s).toArray.size) := by show _ = _; rw [List.size_toArray, bk_len v s h32]; exact size86
  have S0 : Hid (((bk v s).toArray).size = ((bk 0 (List.replicate 32 0)).toArray).size) := by show _ = _; rw [List.size_toArray, bk_len v s h32]; rfl
  have HV := hide hv
  have HS := hide hs
  clear hv hs
  go_wp2_with (first | (refine wpList_build2 rfl 86 0 1 (.tmp 7) (.tmp 10) rfl (.int .u32 v) (.agg (bys s)) rfl rfl (bk v s).toArray ?_ ?_; focus exact built86 v s h32) | refine wpList_store_row rfl 86 (.tmp 4) (.tmp 11) rfl w.heap.size (bk v s).toArray rfl rfl 86 _ (unhide r4) (unhide SZ) (unhide S0).symm (all_oneCell_toArray (bk_one v s)) ?_)
  refine bodyPost_ret (v := .agg (bk v s).toArray) ?_ rfl ⟨by rw [unhide HV, unhide HS], below_setRow (unhide b4) (Nat.le_refl _) _⟩
  exact results_cell_row rfl _ _ w.heap.size 86 (bk v s).toArray (0, 0) _ rfl (setRow_heap _ _ _ _ 86 _ (unhide r4)) Tryd.underlying86 rfl (unhide SZ)
end Go.Proofs.YtgoephcembgmcaaDoor.Bl
namespace Go.Proofs.YtgoephcembgmcaaDoor.Bl
open Go.RowKit Go.Proofs.YtgoephcembgmcaaDoorW.PrintWords Sh Rg
theorem lit86_ (v a0 a1 a2 a3 a4 a5 a6 a7 a8 a9 a10 a11 a12 a13 a14 a15 a16 a17 a18 a19 a20 a21 a22 a23 a24 a25 a26 a27 a28 a29 a30 a31 : Int) (W : World) : (Instr.buildSlice 31 1 #[(0, .agg (bk v [a0, a1, a2, a3, a4, a5, a6, a7, a8, a9, a10, a11, a12, a13, a14, a15, a16, a17, a18, a19, a20, a21, a22, a23, a24, a25, a26, a27, a28, a29, a30, a31]).toArray)]).run Tryd.prog W = .ok (.slice (some ⟨W.heap.size, 0, none⟩) 1 1) (W.alloc (.cells (bk v [a0, a1, a2, a3, a4, a5, a6, a7, a8, a9, a10, a11, a12, a13, a14, a15, a16, a17, a18, a19, a20, a21, a22, a23, a24, a25, a26, a27, a28, a29, a30, a31]).toArray 86)) := by kernel_rfl
/-- A slice of one block. -/
theorem lit86 (v : Int) (s : List Int) (h : s.length = 32) : ∀ W : World, (Instr.buildSlice 31 1 #[(0, .agg (bk v s).toArray)]).run Tryd.prog W = .ok (.slice (some ⟨W.heap.size, 0, none⟩) 1 1) (W.alloc (.cells (bk v s).toArray 86)) := by
  match s, h with
  | [a0, a1, a2, a3, a4, a5, a6, a7, a8, a9, a10, a11, a12, a13, a14, a15, a16, a17, a18, a19, a20, a21, a22, a23, a24, a25, a26, a27, a28, a29, a30, a31], _ => exact lit86_ v a0 a1 a2 a3 a4 a5 a6 a7 a8 a9 a10 a11 a12 a13 a14 a15 a16 a17 a18 a19 a20 a21 a22 a23 a24 a25 a26 a27 a28 a29 a30 a31
theorem lit86_run (v : Int) (s : List Int) (h : s.length = 32) (W : World) (o : Oper) (ev : Operand → Value) (x : Operand) (ho : o.op = .buildSlice 31 1 #[(0, x)]) (hx : ev x = .agg (bk v s).toArray) :
    (execOp ev o).run Tryd.prog W = .ok (.value (.slice (some ⟨W.heap.size, 0, none⟩) 1 1)) (W.alloc (.cells (bk v s).toArray 86)) := by
  unfold execOp
  rw [ho]
  simp only [List.map_toArray, List.map_cons, List.map_nil, hx, Sem.run_map, Sem.run_bind, lit86 v s h W, Result.andThen_ok]
  rfl
theorem wanted_none {o : Oper} {y : Nat → Option Bool} (h : o.guard = none) : Region.wanted o y = true := by unfold Region.wanted; rw [h]
end Go.Proofs.YtgoephcembgmcaaDoor.Bl
namespace Go.Proofs.YtgoephcembgmcaaDoor.Tk
open Go.RowKit Go.Proofs.YtgoephcembgmcaaDoorW.PrintWords Go.Proofs.YtgoephcembgmcaaDoorW.PrintLast Wk FrM Fr Rg
open WkM (w64 Bytes)
/-! Tokens: the first block, how many, else bytes. -/
def TkOk (t : Int × Int × List Int) : Prop := (0 ≤ t.1 ∧ t.1 ≤ 1000 ∧ 0 < t.2.1 ∧ t.2.2 = []) ∨ (t.1 = 0 ∧ t.2.1 = 0 ∧ t.2.2 ≠ [])
/-- What a token weighs; what some do. -/
def tw (t : Int × Int × List Int) : Nat := t.2.1.toNat + t.2.2.length
def tws (ts : List (Int × Int × List Int)) : Nat := (ts.map tw).sum
theorem tws_append (xs ys : List (Int × Int × List Int)) : tws (xs ++ ys) = tws xs + tws ys := by unfold tws; rw [List.map_append, List.sum_append]
theorem tws_set (xs : List (Int × Int × List Int)) (x y : Int × Int × List Int) (h : tw y ≤ tw x + 1) : ∀ (i : Nat), xs[i]? = some x → tws (xs.set i y) ≤ tws xs + 1 := by
  induction xs with
  | nil => intro i hi; simp at hi
  | cons a l ih =>
    intro i hi
    cases i with
    | zero =>
      simp at hi
      subst hi
      simp [tws]
      omega
    | succ i =>
      have := ih i (by simpa using hi)
      simp [tws] at this ⊢
      omega
theorem tkok_set {xs : List (Int × Int × List Int)} {y : Int × Int × List Int} (h : ∀ t ∈ xs, TkOk t) (hy : TkOk y) (i : Nat) : ∀ t ∈ xs.set i y, TkOk t := by
  intro t ht
  rcases List.mem_or_eq_of_mem_set ht with h1 | h1
  · exact h t h1
  · rw [h1]; exact hy
theorem tkok_snoc {xs : List (Int × Int × List Int)} {y : Int × Int × List Int} (h : ∀ t ∈ xs, TkOk t) (hy : TkOk y) : ∀ t ∈ xs ++ [y], TkOk t := by
  intro t ht
  rcases List.mem_append.1 ht with h1 | h1
  · exact h t h1
  · rw [List.mem_singleton.1 h1]; exact hy
theorem tw_pos {t : Int × Int × List Int} (h : TkOk t) : 1 ≤ tw t := by
  unfold tw
  rcases h with h | h
  · omega
  · have := List.length_pos_iff.2 h.2.2; omega
theorem len_tws : ∀ {ts : List (Int × Int × List Int)}, (∀ t ∈ ts, TkOk t) → ts.length ≤ tws ts
  | [], _ => Nat.zero_le _
  | t :: ts, h => by
    have h1 := tw_pos (h t List.mem_cons_self)
    have h2 := len_tws (fun x hx => h x (List.mem_cons_of_mem _ hx))
    simp [tws] at h2 ⊢
    omega
theorem tw_le : ∀ {ts : List (Int × Int × List Int)} {t}, t ∈ ts → tw t ≤ tws ts
  | a :: ts, t, h => by
    rcases List.mem_cons.1 h with rfl | h
    · simp [tws]
    · have := tw_le h
      simp [tws] at this ⊢
      omega
theorem eql22_some (ad : Addr) (n c : Nat) (W : World) : (binOp .eql 22 (.slice (some ad) n c) (.slice none 0 0)).run Tryd.prog W = .ok (.bool false) W := by kernel_rfl
theorem eql22_nil (W : World) : (binOp .eql 22 (.slice none 0 0) (.slice none 0 0)).run Tryd.prog W = .ok (.bool true) W := by kernel_rfl
set_option maxRecDepth 100000 in
theorem clone_nil (w : World) : Calls Tryd.prog 91 #[.slice none 0 0] w fun e w' => e = .returned (.slice none 0 0) ∧ w' = w := by
  have hq := eql22_nil
  go_enter Tryd.func91, Tryd.ntmps91
  go_wp2
  go_ret
  exact ⟨rfl, rfl⟩
set_option maxHeartbeats 2000000 in
set_option maxRecDepth 100000 in
theorem clone_some (ad : Addr) (c : Nat) (ys : List Int) (w : World) (hr : Kd.C (Kd.int .u8) w (some ad) ys.length ys) (hl : ys.length ≤ 1000) :
    Calls Tryd.prog 91 #[.slice (some ad) ys.length c] w fun e w' => ∃ A1 c1, e = .returned (.slice A1 ys.length c1) ∧ Own w' w.heap.size (.slice A1 ys.length c1) ys ∧ Below w.heap.size w w' := by
  have HR := hide (Kd.C_below hr (below_alloc (Below.refl _ _) (.cells #[] 5)))
  have O0 := hide (own_empty w w.heap.size (Nat.le_refl _))
  have B0 := hide (below_alloc (Below.refl w.heap.size w) (.cells #[] 5))
  clear hr
  have hq := eql22_some ad ys.length c
  go_enter Tryd.func91, Tryd.ntmps91
  go_wp2_with (at_builtin; refine unhide ?_)
  refine hide ?_
  generalize w.alloc (.cells #[] 5) = w1 at HR O0 B0 ⊢
  refine Kd.R_append_row (w0 := w) (Value.int .u8) (0 : Int) w.heap.size rfl (.tmp 5) (.tmp 6) 22 5 (.int .u8 0) 1 rfl Tryd.underlying22 info5 rfl (by decide) (.slice (some ⟨w.heap.size, 0, none⟩) 0 0) [] ys (some ad) ys.length c (fun _ => True) rfl rfl (fun _ _ => trivial) (unhide O0) (unhide HR) (unhide B0) (unhide B0).size (by simp only [List.length_nil]; omega) ?_
  intro v8 w8 hR8 hB8 hg8 hat8
  obtain ⟨A8, c8, rfl⟩ := Kd.R_slice hR8
  rw [List.nil_append] at hR8 ⊢
  have HR8 := hide hR8
  have HB8 := hide hB8
  clear hR8 hB8 hg8 hat8
  go_wp2
  go_ret
  exact ⟨A8, c8, rfl, unhide HR8, unhide HB8⟩
end Go.Proofs.YtgoephcembgmcaaDoor.Tk
