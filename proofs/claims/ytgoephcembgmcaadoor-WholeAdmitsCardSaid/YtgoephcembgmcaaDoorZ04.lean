/- Texts of the proof, merged: Sh4 Sh5 So0 So1. -/
import Derived.Test.YtgoephcembgmcaaDoorZ03
set_option linter.unusedSimpArgs false
set_option linter.unusedVariables false
namespace Go.Proofs.YtgoephcembgmcaaDoor.Sh
open Go.RowKit Go.Proofs.YtgoephcembgmcaaDoorW.PrintWords Go.Proofs.YtgoephcembgmcaaDoorW.PrintLast Go.Proofs.YtgoephcembgmcaaDoorW.PrintMore Go.Proofs.YtgoephcembgmcaaDoor.Wk Go.Proofs.YtgoephcembgmcaaDoor.FrM Go.Proofs.YtgoephcembgmcaaDoor.Fr
open Go.Proofs.YtgoephcembgmcaaDoor.WkM (w64 Bytes)

/-! Arrays of bytes in a block of their own. -/
def bys (xs : List Int) : Array Value := (xs.map (Value.int .u8)).toArray
theorem bys_size (xs : List Int) : (bys xs).size = xs.length := by simp [bys]
theorem bys_get (xs : List Int) (i : Nat) (h : i < xs.length) : (bys xs)[i]? = some (.int .u8 (rd xs (i : Int))) := by
  unfold bys rd
  rw [List.getElem?_toArray, List.getElem?_map, List.getElem?_eq_getElem h, Int.toNat_natCast, List.getD_eq_getElem?_getD, List.getElem?_eq_getElem h]
  rfl
theorem bys_set (xs : List Int) (i : Nat) (x : Int) : (bys xs).setIfInBounds i (.int .u8 x) = bys (xs.set i x) := by
  unfold bys
  rw [List.setIfInBounds_toArray, List.map_set]
theorem bys_one (xs : List Int) : (bys xs).all (·.oneCell') = true := by
  unfold bys
  rw [Array.all_eq_true_iff_forall_mem]
  intro v hv
  simp only [List.mem_toArray, List.mem_map] at hv
  obtain ⟨x, _, rfl⟩ := hv
  rfl
/-- Block g holds the bytes xs, as an array of type t. -/
def Bs (w : World) (g t : Nat) (xs : List Int) : Prop := w.heap[g]? = some (.cells (bys xs) t (0, 0))
section
variable {w w1 : World} {g t : Nat} {xs : List Int}
theorem Bs.cell (h : Bs w g t xs) (i : Nat) (hi : i < xs.length) : w.cell? ⟨g, i, none⟩ = some (.int .u8 (rd xs (i : Int))) := (blk_cell h i).trans (bys_get xs i hi)
theorem Bs.frozen (h : Bs w g t xs) (i : Nat) : w.frozen? ⟨g, i, none⟩ = false := blk_frozen h i
theorem Bs.put (h : Bs w g t xs) (i : Nat) (x : Int) : Bs (w.setCell ⟨g, i, none⟩ (.int .u8 x)) g t (xs.set i x) := blk_put h i _ (bys_set xs i x)
theorem Bs.far (h : Bs w g t xs) {p : Addr} (hp : g ≠ p.block) (u : Value) : Bs (w.setCell p u) g t xs := blk_far h hp u
theorem Bs.below (h : Bs w g t xs) (hb : Below w.heap.size w w1) : Bs w1 g t xs := blk_below h hb
theorem Bs.alloc (h : Bs w g t xs) (o : Obj) : Bs (w.alloc o) g t xs := blk_alloc h o
theorem Bs.lt (h : Bs w g t xs) : g < w.heap.size := blk_lt h
theorem Bs.row {ys : List Int} (h : Bs w g t xs) : Bs (w.setRow g (bys ys)) g t ys := setRow_heap w g _ _ t _ h
end

/-! The sum of bytes (plain law). -/
def H0 : List Int := [1779033703, 3144134277, 1013904242, 2773480762, 1359893119, 2600822924, 528734635, 1541459225]
theorem H0_u : Us H0 := by
  intro x hx
  simp only [H0, List.mem_cons, List.not_mem_nil, or_false] at hx
  unfold U32
  omega
/-- m blocks taken in. -/
def blocks (h : List Int) : Nat → List Int → List Int
  | 0, _ => h
  | m + 1, l => blocks (comp KK h l) m (l.drop 64)
theorem blocks_next (h : List Int) : ∀ (m : Nat) (l : List Int), blocks h (m + 1) l = comp KK (blocks h m l) (l.drop (64 * m))
  | 0, l => by simp [blocks]
  | m + 1, l => by
    rw [blocks, blocks_next (comp KK h l) m (l.drop 64), blocks, List.drop_drop]
    congr 2
    omega
theorem blocks_len (h : List Int) : ∀ (m : Nat) (l : List Int), (blocks h m l).length = h.length
  | 0, _ => rfl
  | m + 1, l => by rw [blocks, blocks_len _ m]; exact comp_len _ _ _
theorem blocks_u (h : List Int) (hu : Us h) : ∀ (m : Nat) (l : List Int), Us (blocks h m l)
  | 0, _ => hu
  | m + 1, l => by rw [blocks_next]; exact comp_u _ _ _ (blocks_u h hu m l)
def tailOf (l : List Int) : List Int := l.drop (64 * (l.length / 64))
def noughts (l : List Int) : Nat := (119 - l.length % 64) % 64
def lenb (n j : Nat) : Int := ((n * 8 / 2 ^ (56 - 8 * j) % 256 : Nat) : Int)
def lens (n : Nat) : Nat → List Int
  | 0 => []
  | j + 1 => lens n j ++ [lenb n j]
theorem lens_len (n : Nat) : ∀ j, (lens n j).length = j
  | 0 => rfl
  | j + 1 => by rw [lens, List.length_append, lens_len n j]; rfl
def padded (l : List Int) : List Int := tailOf l ++ [128] ++ List.replicate (noughts l) 0 ++ lens l.length 8
theorem tailOf_len (l : List Int) : (tailOf l).length = l.length % 64 := by
  unfold tailOf
  rw [List.length_drop]
  omega
theorem padded_len (l : List Int) : ∃ m, (padded l).length = 64 * m ∧ m ≤ 2 := by
  have h : (padded l).length = l.length % 64 + 1 + noughts l + 8 := by
    unfold padded
    simp only [List.length_append, tailOf_len, lens_len, List.length_replicate, List.length_singleton]
  unfold noughts at h
  exact ⟨(padded l).length / 64, by omega, by omega⟩
def hash (l : List Int) : List Int := blocks (blocks H0 (l.length / 64) l) ((padded l).length / 64) (padded l)
theorem hash_len (l : List Int) : (hash l).length = 8 := by
  unfold hash
  rw [blocks_len, blocks_len]
  rfl
theorem hash_u (l : List Int) : Us (hash l) := blocks_u _ (blocks_u _ H0_u _ _) _ _
/-- Byte i of a sum. -/
def outb (h : List Int) (i : Nat) : Int := rd h ((i / 4 : Nat) : Int) / 2 ^ (24 - 8 * (i % 4)) % 256
def outs (h : List Int) : Nat → List Int
  | 0 => List.replicate 32 0
  | i + 1 => (outs h i).set i (outb h i)
theorem outs_len (h : List Int) : ∀ i, (outs h i).length = 32
  | 0 => List.length_replicate ..
  | i + 1 => by rw [outs, List.length_set]; exact outs_len h i
/-- The sum of bytes. -/
def S (l : List Int) : List Int := outs (hash l) 32
theorem S_len (l : List Int) : (S l).length = 32 := outs_len _ _
theorem outs_bytes (h : List Int) : ∀ i, Bytes (outs h i)
  | 0 => fun x hx => by
    rw [List.eq_of_mem_replicate hx]
    exact ⟨by decide, by decide⟩
  | i + 1 => fun x hx => by
    rcases List.mem_or_eq_of_mem_set hx with hx | hx
    · exact outs_bytes h i x hx
    · rw [hx, outb]
      exact ⟨Int.emod_nonneg _ (by decide), Int.le_of_lt_add_one (Int.emod_lt_of_pos _ (by decide))⟩
theorem S_bytes (l : List Int) : Bytes (S l) := outs_bytes _ _

/-! Rows of bytes that may begin inside their block. -/
abbrev Que (w : World) (base : Nat) (ok : Nat → Prop) (v : Value) (xs : List Int) : Prop := (Kd.int .u8).Q 5 w base ok v xs
theorem que_drop (A : Option Addr) (c m : Nat) (l : List Int) (hm : m ≤ l.length) :
    ∃ A1, (∀ W : World, (Instr.slice 22 (.slice A l.length c) (some (.int .i64 (m : Int))) none none).run Tryd.prog W = .ok (.slice A1 (l.drop m).length (c - m)) W) ∧
      (∀ (w : World) (base : Nat) (ok : Nat → Prop), Que w base ok (.slice A l.length c) l → Que w base ok (.slice A1 (l.drop m).length (c - m)) (l.drop m)) := by
  obtain ⟨i0, hi, _, hsz, _⟩ := info_parts info5
  have h1 := cut_from (P := Tryd.prog) 22 5 .i64 Tryd.underlying22 hi 1 hsz A l.length c (m : Int) (by omega) (by omega)
  rw [Int.toNat_natCast] at h1
  have hl : (l.drop m).length = l.length - m := List.length_drop
  refine ⟨if c = m then A else A.map (·.add (m * 1)), fun W => by rw [hl]; exact h1 W, fun w base ok h => ?_⟩
  have h2 := Kd.Q_drop h hm
  rw [hl]
  exact h2
theorem que_reads {w : World} {base n c : Nat} {ok : Nat → Prop} {A : Option Addr} {xs : List Int} (h : Que w base ok (.slice A n c) xs) : n = xs.length ∧ n ≤ c ∧ Kd.C (Kd.int .u8) w A xs.length xs := Kd.Q_reads' h
theorem que_some {w : World} {base n c : Nat} {ok : Nat → Prop} {A : Option Addr} {xs : List Int} (h : Que w base ok (.slice A n c) xs) (hp : 0 < xs.length) : ∃ ad, A = some ad := by
  obtain ⟨g, o, cap, e, _⟩ := Kd.Q_form h hp
  injection e with e _ _
  exact ⟨_, e⟩
end Go.Proofs.YtgoephcembgmcaaDoor.Sh
namespace Go.Proofs.YtgoephcembgmcaaDoor.Sh
open Go.RowKit Go.Proofs.YtgoephcembgmcaaDoorW.PrintWords Go.Proofs.YtgoephcembgmcaaDoorW.PrintLast Go.Proofs.YtgoephcembgmcaaDoorW.PrintMore Go.Proofs.YtgoephcembgmcaaDoor.Wk Go.Proofs.YtgoephcembgmcaaDoor.FrM Go.Proofs.YtgoephcembgmcaaDoor.Fr
open Go.Proofs.YtgoephcembgmcaaDoor.WkM (w64 Bytes)
theorem size54 : (Tryd.prog.info? 189).map (·.size) = some 8 := by kernel_rfl
theorem size25 : (Tryd.prog.info? 28).map (·.size) = some 32 := by kernel_rfl
/-- What the sum keeps: the result's box, the words so far, the words that are mixed in. -/
structure Kept3 (base : Nat) (w wr : World) (gr ph pk : Nat) (hs : List Int) : Prop where
  r : Bs wr gr 28 (List.replicate 32 0)
  h : Ws wr ph 189 hs
  k : Ws wr pk 190 KK
  b : Below base w wr
def Ok3 (gr ph pk : Nat) (k : Nat) : Prop := k ≠ gr ∧ k ≠ ph ∧ k ≠ pk
section
variable {base : Nat} {w wr w1 : World} {gr ph pk : Nat} {hs hs' xs ys : List Int} {v : Value}
theorem Kept3.fresh (h : Kept3 base w wr gr ph pk hs) : ∀ k, wr.heap.size ≤ k → Ok3 gr ph pk k := fun k hk => by
  have h1 := h.r.lt
  have h2 := h.h.lt
  have h3 := h.k.lt
  unfold Ok3
  omega
theorem Kept3.grown (h : Kept3 base w wr gr ph pk hs) (hq : Que wr base (Ok3 gr ph pk) v xs) (hg : wr.grownBy w1 v.ownBlock) (hb : Below base w w1) : Kept3 base w w1 gr ph pk hs :=
  ⟨blk_grown h.r hg (fun e => (hq.1 _ e.symm).1 rfl), blk_grown h.h hg (fun e => (hq.1 _ e.symm).2.1 rfl), blk_grown h.k hg (fun e => (hq.1 _ e.symm).2.2 rfl), hb⟩
theorem Kept3.block (h : Kept3 base w wr gr ph pk hs) (h1 : Ws w1 ph 189 hs') (hb : Below base wr w1) (hk : KeepBut wr w1 ph none) (hr : gr ≠ ph) (hp : pk ≠ ph) : Kept3 base w w1 gr ph pk hs' :=
  ⟨hk.blk h.r hr (by simp), h1, hk.blk h.k hp (by simp), h.b.trans hb⟩
theorem que_block (h : Que wr base (Ok3 gr ph pk) v xs) (hk : KeepBut wr w1 ph none) : Que w1 base (Ok3 gr ph pk) v xs := Kd.Q_keep h hk (fun _ h => h.2.1)
end
set_option maxHeartbeats 2000000 in
set_option maxRecDepth 100000 in
theorem of_sum (ap : Addr) (pc : Nat) (A : Option Addr) (c : Nat) (l : List Int) (w : World) (hp : w.cell? ap = some (.slice A l.length c)) (hr : Kd.C (Kd.int .u8) w A l.length l) (hl : Bytes l) (hc : l.length ≤ c) (hn : l.length ≤ 100000) :
    Calls Tryd.prog 67 #[.slice (some ap) 1 pc] w fun e w' => e = .returned (.agg (bys (S l))) ∧ Below w.heap.size w w' := by
  have HP := hide hp
  have HR := hide hr
  have HL := hide hl
  clear hp hr hl
  go_enter Tryd.func67, Tryd.ntmps67
  go_wp2_with fail
  refine (words_any _).mono ?_
  rintro e w1 ⟨rfl, hb1⟩
  have r0 : Bs w1 w.heap.size 28 (List.replicate 32 0) := blk_below (blk_alloc (blk_new w (.cells (bys (List.replicate 32 0)) 28)) _) hb1
  have h0 : Ws w1 (w.heap.size + 1) 189 H0 := blk_below (heap_alloc2_new w _ (.cells (wds H0) 189)) hb1
  have b0 : Below w.heap.size w w1 := below_step (below_alloc (below_alloc (Below.refl _ _) _) _) hb1
  have K0 : Hid (Kept3 w.heap.size w (w1.alloc (.cells (wds KK) 190)) w.heap.size (w.heap.size + 1) w1.heap.size H0) := ⟨r0.alloc _, h0.alloc _, blk_new _ _, below_alloc b0 _⟩
  have N0 : Hid (w.heap.size + 1 < w1.heap.size) := h0.lt
  have NP : Hid (w.heap.size + 1 ≠ w1.heap.size ∧ w.heap.size ≠ w.heap.size + 1) := by have := unhide N0; show _ ∧ _; omega
  clear hb1 r0 h0 b0
  go_wp2_with (refine wpList_store_row rfl 190 _ _ rfl w1.heap.size (wds KK) rfl rfl 190 _ (blk_new _ _) (by rw [wds_size, KK_len]; exact size55) (by rw [wds_size, KK_len]; rfl) (wds_one _) ?_; rw [World.setRow_alloc_new])
  generalize w1.alloc (.cells (wds KK) 190) = w2 at K0 ⊢
  obtain ⟨pk, hpk⟩ : ∃ g, g = w1.heap.size := ⟨_, rfl⟩
  rw [← hpk] at K0 N0 NP ⊢
  obtain ⟨ph, hph⟩ : ∃ g, g = w.heap.size + 1 := ⟨_, rfl⟩
  rw [← hph] at K0 N0 NP ⊢
  have BP : Hid (w.heap.size ≤ ph) := by show _ ≤ _; omega
  clear hpk hph
  go_loopg [5, 6, 16] 1 (fun kq v5 v6 v16 wr => ∃ i : Nat, v16 = .int .i64 (i : Int) ∧ Hid (i + kq = 1) ∧ ((i = 0 ∧ v5 = .slice none 0 0 ∧ v6 = .int .i64 0 ∧ Hid (Kept3 w.heap.size w wr w.heap.size ph pk H0)) ∨
    (i = 1 ∧ ∃ A1 c1, v5 = .slice A1 (tailOf l).length c1 ∧ v6 = .int .i64 (l.length : Int) ∧ Hid (Que wr w.heap.size (Ok3 w.heap.size ph pk) (.slice A1 (tailOf l).length c1) (tailOf l)) ∧ Hid (Kept3 w.heap.size w wr w.heap.size ph pk (blocks H0 (l.length / 64) l)))))
  case atStart => exact ⟨0, rfl, Nat.zero_add _, .inl ⟨rfl, rfl, rfl, unhide K0⟩⟩
  case round =>
    clear K0
    obtain ⟨i, rfl, HI, ⟨rfl, rfl, rfl, HK⟩ | ⟨rfl, A1, c1, rfl, rfl, HQ, HK⟩⟩ := hrel
    · have hp : wr.cell? ap = some (.slice A l.length c) := ((unhide HK).b.cell (World.block_lt_of_cell? w _ (unhide HP))).trans (unhide HP)
      have hp0 : wr.cell? (ap.add 0) = some (.slice A l.length c) := by simpa [Addr.add] using hp
      have HC : Hid (Kd.C (Kd.int .u8) wr A l.length l) := Kd.C_below (unhide HR) (unhide HK).b
      have hwn : wrap64 (0 + (l.length : Int)) = (l.length : Int) := by rw [w64 _ (by omega) (by omega)]; omega
      go_wp2_with (at_builtin; refine unhide ?_)
      refine hide ?_
      refine Kd.R_append_row (w0 := w) (Value.int .u8) (0 : Int) w.heap.size rfl (.tmp 24) (.tmp 25) 22 5 (.int .u8 0) 1 rfl Tryd.underlying22 info5 rfl (by decide) (.slice none 0 0) [] l A _ c (Ok3 w.heap.size ph pk) rfl rfl (unhide HK).fresh (Kd.R_nil _ _ _ _ _) (unhide HC) (unhide HK).b (unhide HK).b.size (by simp only [List.length_nil]; omega) ?_
      intro v2 w3 hR2 hB2 hg2 hat2
      have hQ2 : Que w3 w.heap.size (Ok3 w.heap.size ph pk) v2 l := Kd.Q_of_R hR2
      have K3 : Hid (Kept3 w.heap.size w w3 w.heap.size ph pk H0) := (unhide HK).grown (Kd.Q_nil _ _ _ _ _) hg2 hB2
      obtain ⟨A2, c2, rfl, hc2⟩ := Kd.Q_slice hQ2
      have HQ2 := hide hQ2
      clear hR2 hB2 hg2 hat2 hQ2 hp hp0 HC HK hwn
      go_wp2
      obtain rfl : gk = 1 := by have := unhide HI; omega
      clear HI
      go_loopg [5] (l.length / 64) (fun kq v5 wr => ∃ (j : Nat) (A1 : Option Addr) (c1 : Nat) (r : List Int), v5 = .slice A1 r.length c1 ∧ Hid (r = l.drop (64 * j)) ∧ Hid (j + kq = l.length / 64) ∧ Hid (Que wr w.heap.size (Ok3 w.heap.size ph pk) (.slice A1 r.length c1) r) ∧ Hid (Kept3 w.heap.size w wr w.heap.size ph pk (blocks H0 j l)))
      case atStart => exact ⟨0, A2, c2, l, rfl, rfl, Nat.zero_add _, unhide HQ2, unhide K3⟩
      case round =>
        clear HQ2 K3
        obtain ⟨j, A1, c1, r, rfl, hr, HJ, HQ, HK⟩ := hrel
        have hrl : r.length = l.length - 64 * j := by rw [unhide hr, List.length_drop]
        by_cases hj : j < l.length / 64
        · have d64 : 64 ≤ (r.length : Int) := by omega
          obtain ⟨ad, rfl⟩ := que_some (unhide HQ) (by omega)
          obtain ⟨A3, hcut, hq3⟩ := que_drop (some ad) c1 64 r (by omega)
          obtain ⟨r3, hr3⟩ : ∃ x, x = r.drop 64 := ⟨_, rfl⟩
          obtain ⟨c3, hc3⟩ : ∃ x, x = c1 - 64 := ⟨_, rfl⟩
          rw [← hr3, ← hc3] at hcut hq3
          have HR3 := hide hr3
          have HRL := hide (show 64 ≤ r.length ∧ r.length ≤ 1000000 by omega)
          have HLT := hide hj
          have HCUT : Hid (∀ W : World, (Instr.slice 22 (.slice (some ad) r.length c1) (some (.int .i64 64)) none none).run Tryd.prog W = .ok (.slice A3 r3.length c3) W) := hcut
          have HQ3 := hide hq3
          clear hrl hj hq3 hcut hr3 hc3
          go_wp2_with fail
          refine (block_ok ph pk r.length c1 w.heap.size ad (blocks H0 j l) KK r _ (unhide HK).h (by rw [blocks_len]; rfl) (blocks_u _ H0_u _ _) (que_reads (unhide HQ)).2.2 (unhide HRL).1 (unhide HRL).2 (unhide HK).k KK_len (unhide BP)).mono ?_
          rintro e w4 ⟨rfl, hW4, hB4, hK4⟩
          have K4 : Hid (Kept3 w.heap.size w w4 w.heap.size ph pk (blocks H0 (j + 1) l)) := by
            show Kept3 _ _ _ _ _ _ _
            rw [blocks_next, ← unhide hr]
            exact (unhide HK).block hW4 hB4 hK4 (unhide NP).2 (Ne.symm (unhide NP).1)
          have Q4 := hide ((unhide HQ3) _ _ _ (que_block (unhide HQ) hK4))
          have hcut := unhide HCUT
          clear hW4 hB4 hK4 HK HQ
          go_wp2
          go_roundg (gk - 1)
          case measure => have := unhide HJ; have := unhide HLT; omega
          case rel =>
            have := unhide HJ
            have := unhide HLT
            have he : r3 = l.drop (64 * (j + 1)) := by rw [unhide HR3, unhide hr, List.drop_drop]; congr 1
            exact ⟨j + 1, A3, c3, r3, rfl, he, by show j + 1 + (gk - 1) = _; omega, unhide Q4, unhide K4⟩
        · have hje : j = l.length / 64 := by have := unhide HJ; omega
          subst hje
          have d64 : ¬ 64 ≤ (r.length : Int) := by omega
          clear hrl hj HJ
          go_wp2
          go_roundg 0
          case measure => omega
          case rel => exact ⟨1, rfl, rfl, .inr ⟨rfl, A1, c1, by rw [tailOf, ← unhide hr], rfl, by rw [tailOf, ← unhide hr]; exact unhide HQ, unhide HK⟩⟩
    · go_wp2_with (at_builtin; refine unhide ?_)
      obtain ⟨tl, htl⟩ : ∃ t, t = tailOf l := ⟨_, rfl⟩
      rw [← htl] at HQ ⊢
      have htn : tl.length = l.length % 64 := by rw [htl]; exact tailOf_len l
      obtain ⟨hs, hhs⟩ : ∃ t, t = blocks H0 (l.length / 64) l := ⟨_, rfl⟩
      rw [← hhs] at HK
      have HTL := hide htl
      have HHS := hide hhs
      have HHL := hide (show hs.length = 8 by rw [hhs, blocks_len]; rfl)
      have HHU := hide (show Us hs by rw [hhs]; exact blocks_u _ H0_u _ _)
      clear htl hhs HI
      refine hide ?_
      refine Kd.Q_append (Kd.int .u8) (w0 := w) w.heap.size rfl (.tmp 35) (.tmp 36) 22 5 (.int .u8 0) 1 rfl Tryd.underlying22 info5 rfl (by decide) (by decide) (.slice A1 tl.length c1) tl 128 [.int .u8 128] (Ok3 w.heap.size ph pk) (fun _ => False) rfl rfl rfl (fun k h => h.elim) (unhide HK).fresh (unhide HQ) (unhide HK).b (unhide HK).b.size (by omega) ?_
      intro v2 w3 hQ2 hB2 hg2 hat2
      have K3 := hide ((unhide HK).grown (unhide HQ) hg2 hB2)
      obtain ⟨A2, c2, rfl, hc2⟩ := Kd.Q_slice hQ2
      obtain ⟨r1, hr1⟩ : ∃ r, r = tl ++ [(128 : Int)] := ⟨_, rfl⟩
      rw [← hr1] at hQ2 ⊢
      have HQ2 := hide hQ2
      have HR1 := hide hr1
      clear hB2 hg2 hat2 hQ2 HK HQ hr1 hc2 htn
      go_wp2
      go_loopg [5] (noughts l) (fun kq v5 wr => ∃ (z : Nat) (A1 : Option Addr) (c1 : Nat) (r : List Int), v5 = .slice A1 r.length c1 ∧ Hid (r = tl ++ [128] ++ List.replicate z 0) ∧ Hid (z + kq = noughts l) ∧ Hid (Que wr w.heap.size (Ok3 w.heap.size ph pk) (.slice A1 r.length c1) r) ∧ Hid (Kept3 w.heap.size w wr w.heap.size ph pk hs))
      case atStart => exact ⟨0, A2, c2, r1, rfl, by show _ = _; rw [unhide HR1]; simp, Nat.zero_add _, unhide HQ2, unhide K3⟩
      case round =>
        clear HQ2 K3
        obtain ⟨z, A3, c3, r, rfl, hr, HJ, HQ, HK⟩ := hrel
        have hrl : r.length = l.length % 64 + 1 + z := by rw [unhide hr, unhide HTL, List.length_append, List.length_append, List.length_replicate, tailOf_len]; rfl
        by_cases hj : z < noughts l
        · have hz : noughts l = (119 - l.length % 64) % 64 := rfl
          have d56 : ¬ (r.length : Int) % 64 = 56 := by omega
          have HRL := hide (show r.length ≤ 1000000 by omega)
          have HLT := hide hj
          clear hrl hj hz
          go_wp2_with (at_builtin; refine unhide ?_)
          refine hide ?_
          refine Kd.Q_append (Kd.int .u8) (w0 := w) w.heap.size rfl (.tmp 42) (.tmp 43) 22 5 (.int .u8 0) 1 rfl Tryd.underlying22 info5 rfl (by decide) (by decide) (.slice A3 r.length c3) r 0 [.int .u8 0] (Ok3 w.heap.size ph pk) (fun _ => False) rfl rfl rfl (fun k h => h.elim) (unhide HK).fresh (unhide HQ) (unhide HK).b (unhide HK).b.size (by have := unhide HRL; omega) ?_
          intro v2 w3 hQ2 hB2 hg2 hat2
          have K3 := hide ((unhide HK).grown (unhide HQ) hg2 hB2)
          obtain ⟨A2, c2, rfl, hc2⟩ := Kd.Q_slice hQ2
          obtain ⟨r2, hr2⟩ : ∃ r2, r2 = r ++ [(0 : Int)] := ⟨_, rfl⟩
          rw [← hr2] at hQ2 ⊢
          have HQ2 := hide hQ2
          have HR2 := hide hr2
          clear hB2 hg2 hat2 hQ2 HK HQ hr2 hc2
          go_wp2
          go_roundg (gk - 1)
          case measure => have := unhide HJ; have := unhide HLT; omega
          case rel =>
            have := unhide HJ
            have := unhide HLT
            exact ⟨z + 1, A2, c2, r2, rfl, by show _ = _; rw [unhide HR2, unhide hr, List.replicate_succ', List.append_assoc], by show z + 1 + (gk - 1) = _; omega, unhide HQ2, unhide K3⟩
        · have hz : noughts l = (119 - l.length % 64) % 64 := rfl
          have hze : z = noughts l := by have := unhide HJ; omega
          have d56 : (r.length : Int) % 64 = 56 := by omega
          have HRL := hide (show r.length ≤ 200 by omega)
          rw [hze] at hr
          clear hrl hj hz HJ hze
          go_wp2
          clear d56
          go_loopg [5, 9] 8 (fun kq v5 v9 wr => ∃ (j : Nat) (A1 : Option Addr) (c1 : Nat) (q : List Int), v5 = .slice A1 q.length c1 ∧ v9 = .int .i64 (56 - 8 * (j : Int)) ∧ Hid (q = r ++ lens l.length j) ∧ Hid (j + kq = 8) ∧ Hid (Que wr w.heap.size (Ok3 w.heap.size ph pk) (.slice A1 q.length c1) q) ∧ Hid (Kept3 w.heap.size w wr w.heap.size ph pk hs))
          case atStart => exact ⟨0, A3, c3, r, rfl, rfl, by show _ = _; rw [lens]; simp, Nat.zero_add _, unhide HQ, unhide HK⟩
          case round =>
            clear HQ HK
            obtain ⟨j, A4, c4, q, rfl, rfl, hq, HJ, HQ, HK⟩ := hrel
            have hql : q.length = r.length + j := by rw [unhide hq, List.length_append, lens_len]
            by_cases hj : j < 8
            · have d0 : 0 ≤ 56 - 8 * (j : Int) := by omega
              have d8 : 56 - 8 * (j : Int) < 64 := by omega
              have HQL := hide (show q.length ≤ 208 by have := unhide HRL; omega)
              have HLT := hide hj
              clear hql hj
              go_wp2_with (at_builtin; refine unhide ?_)
              have hx : (l.length : Int) * 8 / 2 ^ (56 - 8 * j) % 256 = lenb l.length j := by unfold lenb; push_cast; rfl
              rw [hx]
              clear hx
              obtain ⟨x, hx⟩ : ∃ x, lenb l.length j = x := ⟨_, rfl⟩
              rw [hx]
              refine hide ?_
              refine Kd.Q_append (Kd.int .u8) (w0 := w) w.heap.size rfl (.tmp 49) (.tmp 56) 22 5 (.int .u8 0) 1 rfl Tryd.underlying22 info5 rfl (by decide) (by decide) (.slice A4 q.length c4) q x [.int .u8 x] (Ok3 w.heap.size ph pk) (fun _ => False) rfl rfl rfl (fun k h => h.elim) (unhide HK).fresh (unhide HQ) (unhide HK).b (unhide HK).b.size (by have := unhide HQL; omega) ?_
              intro v2 w3 hQ2 hB2 hg2 hat2
              have K3 := hide ((unhide HK).grown (unhide HQ) hg2 hB2)
              obtain ⟨A2, c2, rfl, hc2⟩ := Kd.Q_slice hQ2
              obtain ⟨r2, hr2⟩ : ∃ r2, r2 = q ++ [x] := ⟨_, rfl⟩
              rw [← hr2] at hQ2 ⊢
              have HQ2 := hide hQ2
              have HR2 := hide hr2
              have HX := hide hx
              clear hB2 hg2 hat2 hQ2 HK HQ hr2 hc2 hx
              go_wp2
              go_roundg (gk - 1)
              case measure => have := unhide HJ; have := unhide HLT; omega
              case rel =>
                have := unhide HJ
                have := unhide HLT
                exact ⟨j + 1, A2, c2, r2, rfl, by first | (congr 1; omega) | (congr 1; push_cast; omega) | (rw [w64 _ (by omega) (by omega)]; congr 1; omega), by show _ = _; rw [unhide HR2, unhide hq, lens, unhide HX, List.append_assoc], by show j + 1 + (gk - 1) = _; omega, unhide HQ2, unhide K3⟩
            · have hje : j = 8 := by have := unhide HJ; omega
              subst hje
              have d0 : ¬ 0 ≤ 56 - 8 * ((8 : Nat) : Int) := by omega
              have hpd : q = padded l := by rw [unhide hq, unhide hr, padded, unhide HTL]
              obtain ⟨M, hM, hM2⟩ := padded_len l
              have hML : (padded l).length / 64 = M := by omega
              have HQ0 : Hid (q.length = 64 * M ∧ M ≤ 2) := by rw [hpd]; exact ⟨hM, hM2⟩
              have HPD := hide hpd
              have HMM := hide hML
              clear hql hj HJ hq hM hM2 hML hpd
              go_wp2
              clear d0
              go_loopg [5] M (fun kq v5 wr => ∃ (m : Nat) (A1 : Option Addr) (c1 : Nat) (y : List Int), v5 = .slice A1 y.length c1 ∧ Hid (y = q.drop (64 * m)) ∧ Hid (m + kq = M) ∧ Hid (Que wr w.heap.size (Ok3 w.heap.size ph pk) (.slice A1 y.length c1) y) ∧ Hid (Kept3 w.heap.size w wr w.heap.size ph pk (blocks hs m q)))
              case atStart => exact ⟨0, A4, c4, q, rfl, rfl, Nat.zero_add _, unhide HQ, unhide HK⟩
              case round =>
                clear HQ HK
                obtain ⟨m, A5, c5, y, rfl, hy, HJ, HQ, HK⟩ := hrel
                have hyl : y.length = 64 * M - 64 * m := by rw [unhide hy, List.length_drop, (unhide HQ0).1]
                by_cases hj : m < M
                · have d64 : 0 < (y.length : Int) := by omega
                  obtain ⟨ad, rfl⟩ := que_some (unhide HQ) (by omega)
                  obtain ⟨A6, hcut, hq3⟩ := que_drop (some ad) c5 64 y (by omega)
                  obtain ⟨y3, hy3⟩ : ∃ x, x = y.drop 64 := ⟨_, rfl⟩
                  obtain ⟨c6, hc6⟩ : ∃ x, x = c5 - 64 := ⟨_, rfl⟩
                  rw [← hy3, ← hc6] at hcut hq3
                  have HY3 := hide hy3
                  have HRL2 := hide (show 64 ≤ y.length ∧ y.length ≤ 1000000 by have := (unhide HQ0).2; omega)
                  have HLT := hide hj
                  have HCUT : Hid (∀ W : World, (Instr.slice 22 (.slice (some ad) y.length c5) (some (.int .i64 64)) none none).run Tryd.prog W = .ok (.slice A6 y3.length c6) W) := hcut
                  have HQ3 := hide hq3
                  clear hyl hj hq3 hcut hy3 hc6
                  go_wp2_with fail
                  refine (block_ok ph pk y.length c5 w.heap.size ad (blocks hs m q) KK y _ (unhide HK).h (by rw [blocks_len]; exact unhide HHL) (blocks_u _ (unhide HHU) _ _) (que_reads (unhide HQ)).2.2 (unhide HRL2).1 (unhide HRL2).2 (unhide HK).k KK_len (unhide BP)).mono ?_
                  rintro e w4 ⟨rfl, hW4, hB4, hK4⟩
                  have K4 : Hid (Kept3 w.heap.size w w4 w.heap.size ph pk (blocks hs (m + 1) q)) := by
                    show Kept3 _ _ _ _ _ _ _
                    rw [blocks_next, ← unhide hy]
                    exact (unhide HK).block hW4 hB4 hK4 (unhide NP).2 (Ne.symm (unhide NP).1)
                  have Q4 := hide ((unhide HQ3) _ _ _ (que_block (unhide HQ) hK4))
                  have hcut := unhide HCUT
                  clear hW4 hB4 hK4 HK HQ d64
                  go_wp2
                  go_roundg (gk - 1)
                  case measure => have := unhide HJ; have := unhide HLT; omega
                  case rel =>
                    have := unhide HJ
                    have := unhide HLT
                    have he : y3 = q.drop (64 * (m + 1)) := by rw [unhide HY3, unhide hy, List.drop_drop]; congr 1
                    exact ⟨m + 1, A6, c6, y3, rfl, he, by show m + 1 + (gk - 1) = _; omega, unhide Q4, unhide K4⟩
                · have hme : m = M := by have := unhide HJ; omega
                  subst hme
                  have d64 : ¬ 0 < (y.length : Int) := by omega
                  have K5 : Hid (Kept3 w.heap.size w wr w.heap.size ph pk (hash l)) := by
                    show Kept3 _ _ _ _ _ _ _
                    rw [hash, ← unhide HPD, ← unhide HHS, unhide HPD, unhide HMM, ← unhide HPD]
                    exact unhide HK
                  clear hyl hj HJ HK HQ
                  go_wp2
                  have O5 : Hid (Bs (wr.alloc (.cells (bys (List.replicate 32 0)) 28)) wr.heap.size 28 (outs (hash l) 0)) := blk_new _ _
                  have R5 : Hid (Bs (wr.alloc (.cells (bys (List.replicate 32 0)) 28)) w.heap.size 28 (List.replicate 32 0)) := (unhide K5).r.alloc _
                  have H5 : Hid (Ws (wr.alloc (.cells (bys (List.replicate 32 0)) 28)) ph 189 (hash l)) := (unhide K5).h.alloc _
                  have B5 : Hid (Below w.heap.size w (wr.alloc (.cells (bys (List.replicate 32 0)) 28))) := below_alloc (unhide K5).b _
                  have NG : Hid (ph < wr.heap.size ∧ w.heap.size < wr.heap.size) := ⟨(unhide K5).h.lt, (unhide K5).r.lt⟩
                  obtain ⟨go, hgo⟩ : ∃ g, g = wr.heap.size := ⟨_, rfl⟩
                  show Code.wp _ _ _ _ (wr.alloc (.cells (bys (List.replicate 32 0)) 28))
                  rw [← hgo] at O5 NG ⊢
                  generalize wr.alloc (.cells (bys (List.replicate 32 0)) 28) = w6 at O5 R5 H5 B5 ⊢
                  obtain ⟨hv, hhv⟩ : ∃ h, h = hash l := ⟨_, rfl⟩
                  rw [← hhv] at O5 H5
                  have HV8 := hide (show hv.length = 8 by rw [hhv]; exact hash_len l)
                  have HVU := hide (show Us hv by rw [hhv]; exact hash_u l)
                  have HHV := hide hhv
                  clear hgo hhv K5 d64
                  go_loopg [65] 32 (fun kq v65 wr => ∃ i : Nat, v65 = .int .i64 (i : Int) ∧ Hid (i + kq = 32) ∧ Hid (Bs wr go 28 (outs hv i)) ∧ Hid (Bs wr w.heap.size 28 (List.replicate 32 0)) ∧ Hid (Ws wr ph 189 hv) ∧ Hid (Below w.heap.size w wr))
                  case atStart => exact ⟨0, rfl, Nat.zero_add _, unhide O5, unhide R5, unhide H5, unhide B5⟩
                  case round =>
                    clear O5 R5 H5 B5
                    obtain ⟨i, rfl, HI, HO, HR5, HH5, HB5⟩ := hrel
                    by_cases hlt : i < 32
                    · obtain ⟨q4, hq4⟩ : ∃ q, q = i / 4 := ⟨_, rfl⟩
                      obtain ⟨m4, hm4⟩ : ∃ q, q = i % 4 := ⟨_, rfl⟩
                      have hx := (unhide HH5).cell q4 (by have := unhide HV8; omega)
                      obtain ⟨x, hxx⟩ : ∃ x, x = rd hv (q4 : Int) := ⟨_, rfl⟩
                      rw [← hxx] at hx
                      have hu : U32 x := by rw [hxx]; exact (unhide HVU).rd_ _
                      have hoc := (unhide HO).cell i (by rw [outs_len]; omega)
                      have hof := (unhide HO).frozen i
                      have ux0 := hu.1
                      have ux1 := hu.2
                      have d32 : (i : Int) < 32 := by omega
                      have e4 : (i : Int).tdiv 4 = (q4 : Int) := by rw [Int.tdiv_eq_ediv_of_nonneg (by omega)]; omega
                      have e5 : (i : Int).tmod 4 = (m4 : Int) := by rw [Int.tmod_eq_emod_of_nonneg (by omega)]; omega
                      have e6 : (i : Int) / 4 = (q4 : Int) := by omega
                      have e7 : (i : Int) % 4 = (m4 : Int) := by omega
                      have dq : (q4 : Int) < 8 := by omega
                      have dm : (m4 : Int) < 4 := by omega
                      have HLT := hide hlt
                      have HQM := hide (And.intro hq4 (And.intro hm4 hxx))
                      clear hlt hq4 hm4 hxx hu
                      go_wp2
                      have O6 : Hid (Bs (wr.setCell ⟨go, i, none⟩ (.int .u8 (x / 2 ^ (24 - 8 * m4) % 256))) go 28 (outs hv (i + 1))) := by
                        have h1 := (unhide HO).put i (x / 2 ^ (24 - 8 * m4) % 256)
                        show Bs _ _ _ _
                        rw [outs, outb, ← (unhide HQM).1, ← (unhide HQM).2.1, ← (unhide HQM).2.2]
                        exact h1
                      have R6 : Hid (Bs (wr.setCell ⟨go, i, none⟩ (.int .u8 (x / 2 ^ (24 - 8 * m4) % 256))) w.heap.size 28 (List.replicate 32 0)) := (unhide HR5).far (by have := (unhide NG).2; simp; omega) _
                      have H6 : Hid (Ws (wr.setCell ⟨go, i, none⟩ (.int .u8 (x / 2 ^ (24 - 8 * m4) % 256))) ph 189 hv) := (unhide HH5).far (by have := (unhide NG).1; simp; omega) _
                      have B6 : Hid (Below w.heap.size w (wr.setCell ⟨go, i, none⟩ (.int .u8 (x / 2 ^ (24 - 8 * m4) % 256)))) := below_set (unhide HB5) (Nat.le_of_lt (unhide NG).2)
                      clear hx hoc hof ux0 ux1 e4 e5 e6 e7 dq dm HO HR5 HH5 HB5
                      generalize wr.setCell ⟨go, i, none⟩ (.int .u8 (x / 2 ^ (24 - 8 * m4) % 256)) = w7 at O6 R6 H6 B6 ⊢
                      go_roundg (gk - 1)
                      case measure => have := unhide HI; have := unhide HLT; omega
                      case rel =>
                        have := unhide HI
                        have := unhide HLT
                        exact ⟨i + 1, by first | rw [Int.natCast_add, Int.natCast_one, w64 _ (by omega) (by omega)] | rw [Int.natCast_add, Int.natCast_one], by show i + 1 + (gk - 1) = 32; omega, unhide O6, unhide R6, unhide H6, unhide B6⟩
                    · have hi : i = 32 := by have := unhide HI; omega
                      subst hi
                      have SZ : Hid ((Tryd.prog.info? 28).map (·.size) = some (bys (outs hv 32)).size) := by show _ = _; rw [bys_size, outs_len]; exact size25
                      go_wp2_with (first | refine wpList_load_row rfl 28 _ rfl go rfl 28 _ (0, 0) _ (unhide HO) Tryd.underlying28 rfl (unhide SZ) ?_ | refine wpList_store_row rfl 28 _ _ rfl w.heap.size (bys (outs hv 32)) rfl rfl 28 _ (unhide HR5) (unhide SZ) (by rw [bys_size, bys_size, outs_len]; rfl) (bys_one _) ?_)
                      refine bodyPost_ret (v := .agg (bys (outs hv 32))) ?_ rfl ⟨?_, below_setRow (unhide HB5) (Nat.le_refl _) _⟩
                      · exact results_cell_row rfl _ _ w.heap.size 28 (bys (outs hv 32)) (0, 0) _ rfl (unhide HR5).row Tryd.underlying28 rfl (unhide SZ)
                      · rw [unhide HHV]; rfl
end Go.Proofs.YtgoephcembgmcaaDoor.Sh
namespace Go.Proofs.YtgoephcembgmcaaDoor.Sh
open Go.RowKit Go.Proofs.YtgoephcembgmcaaDoorW.PrintWords Go.Proofs.YtgoephcembgmcaaDoor.Wk Go.Proofs.YtgoephcembgmcaaDoor.FrM Go.Proofs.YtgoephcembgmcaaDoor.Fr
open Go.Proofs.YtgoephcembgmcaaDoor.WkM (w64 Bytes)
/-! A row of bytes appended to one that begins inside its block. -/
theorem que_row {w : World} {base : Nat} {ok : Nat → Prop} {v : Value} {xs : List Int} (h : Que w base ok v xs) : (∀ k, v.ownBlock = some k → ok k) ∧ QRow w base 5 1 v xs.length (xs.map (Value.int .u8)) := by
  obtain ⟨h0, inner, ho, hr⟩ := h
  refine ⟨h0, ?_⟩
  have : inner = xs.map (Value.int .u8) := by
    apply List.ext_getElem?
    intro j
    have hsz : (Kd.int .u8).sz = 1 := rfl
    have hlen : inner.length = xs.length := by have := hr.1; rw [hsz] at this; omega
    rcases Nat.lt_or_ge j xs.length with hj | hj
    · have h2 := hr.2 j _ (List.getElem?_eq_getElem hj)
      have hl : j < inner.length := by omega
      have h3 : (inner.drop (j * 1)).take 1 = [Value.int .u8 xs[j]] := h2
      rw [Nat.mul_one, List.drop_eq_getElem_cons hl] at h3
      have h4 : inner[j] = Value.int .u8 xs[j] := by
        have h5 := congrArg List.head? h3
        rw [List.take_succ_cons] at h5
        exact Option.some.inj h5
      rw [List.getElem?_eq_getElem hl, h4]
      simp [List.getElem?_eq_getElem hj]
    · rw [List.getElem?_eq_none (by omega), List.getElem?_eq_none (by rw [List.length_map]; omega)]
  rw [← this]
  exact ho
theorem row_que {w : World} {base : Nat} {ok : Nat → Prop} {v : Value} {xs : List Int} (h0 : ∀ k, v.ownBlock = some k → ok k) (h : QRow w base 5 1 v xs.length (xs.map (Value.int .u8))) : Que w base ok v xs := by
  refine ⟨h0, xs.map (Value.int .u8), h, ?_⟩
  exact Kd.reps_scalar (enc := Value.int .u8) xs
theorem C_cells {W : World} {ad : Addr} {l : List Int} (hC : Kd.C (Kd.int .u8) W (some ad) l.length l) : ∀ j u, (l.map (Value.int .u8))[j]? = some u → W.cell? (ad.add j) = some u := fun j u hj => by
  have hj2 : j < l.length := by
    have := (List.getElem?_eq_some_iff.1 hj).1
    rwa [List.length_map] at this
  obtain ⟨ad', ha, hc⟩ := Kd.at_int hC (j : Int) (by omega) (by omega)
  cases ha
  rw [Int.toNat_natCast] at hc
  rw [hc]
  rw [List.getElem?_map, List.getElem?_eq_getElem hj2] at hj
  rw [← hj]
  unfold rd
  rw [Int.toNat_natCast, List.getD_eq_getElem?_getD, List.getElem?_eq_getElem hj2]
  rfl
theorem que_append_run (W : World) (base : Nat) (ok : Nat → Prop) (A1 A : Option Addr) (c1 c : Nat) (xs ys : List Int) (hq : Que W base ok (.slice A1 xs.length c1) xs) (hr : Kd.C (Kd.int .u8) W A ys.length ys) (hfresh : ∀ k, W.heap.size ≤ k → ok k) (hbase : base ≤ W.heap.size) (hl : xs.length + ys.length ≤ 1000000) :
    ∃ v1 w1, (Builtin.append_ #[22, 22] 22 #[.slice A1 xs.length c1, .slice A ys.length c]).run Tryd.prog W = .ok v1 w1 ∧ Que w1 base ok v1 (xs ++ ys) ∧ Below base W w1 ∧ W.grownBy w1 (Value.slice A1 xs.length c1).ownBlock := by
  obtain ⟨i0, hi, hz, hsz, hby⟩ := info_parts info5
  have h22 := Tryd.underlying22
  have hcap : xs.length ≤ c1 := by
    obtain ⟨A', c', e, hc⟩ := Kd.Q_slice hq
    injection e with e1 e2 e3
    omega
  by_cases h0 : ys = []
  · subst h0
    refine ⟨.slice A1 xs.length c1, W, ?_, by rw [List.append_nil]; exact hq, Below.refl _ _, World.grownBy.refl W _⟩
    cases A1 with
    | none => cases A with
      | none => simp [Builtin.append_, run_underlying h22, sizeOf, typeInfo, hi, Builtin.lenOf, Builtin.firstCells, loadCells, loadCellsFrom, storeCells, hcap]
      | some a => simp [Builtin.append_, run_underlying h22, sizeOf, typeInfo, hi, Builtin.lenOf, Builtin.firstCells, loadCells, loadCellsFrom, storeCells, hcap]
    | some b => cases A with
      | none => simp [Builtin.append_, run_underlying h22, sizeOf, typeInfo, hi, Builtin.lenOf, Builtin.firstCells, loadCells, loadCellsFrom, storeCells, hcap]
      | some a => simp [Builtin.append_, run_underlying h22, sizeOf, typeInfo, hi, Builtin.lenOf, Builtin.firstCells, loadCells, loadCellsFrom, storeCells, hcap]
  · have hp := List.length_pos_iff.2 h0
    obtain ⟨a, rfl, _⟩ := hr.2.2 hp
    obtain ⟨g0, hrow⟩ := que_row hq
    obtain ⟨v1, w1, hr1, hq1, hg, hat⟩ := q_append (P := Tryd.prog) W base 22 22 5 i0 (.int .u8 0) 1 1 h22 hi hz hsz hby rfl (by decide) _ xs.length _ hrow a ys.length c (ys.map (Value.int .u8)) (by rw [List.length_map, Nat.mul_one]) (C_cells hr)
      (by intro u hu; obtain ⟨x, _, rfl⟩ := List.mem_map.1 hu; rfl) hp (by simp only [maxLen]; omega) (by omega) hbase
    refine ⟨v1, w1, hr1, row_que (fun k hk => ?_) (by rw [List.length_append, List.map_append]; exact hq1), (Below.refl base W).grown hg hbase (fun k hk => Kd.Q_base hq k hk), hg⟩
    rcases hat with hat | ⟨b, hb, hle⟩
    · exact g0 k (hat ▸ hk)
    · rw [hb] at hk
      injection hk with hk
      exact hfresh k (by omega)
theorem wpList_que_append {ops : Array Oper} {rest : List Oper} {o : Oper} {a : Act} {Q : Exit → Act → World → Prop} {W : World} (base : Nat) (ok : Nat → Prop) (hgd : o.guard = none) (s x : Operand)
    (ho : o.op = .call { callee := .builtin .append, args := #[s, x], argTypes := #[22, 22] }) (hty : o.type = 22) (A1 A : Option Addr) (c1 c : Nat) (xs ys : List Int) (hs : a.eval s = .slice A1 xs.length c1) (hx : a.eval x = .slice A ys.length c)
    (hq : Que W base ok (.slice A1 xs.length c1) xs) (hr : Kd.C (Kd.int .u8) W A ys.length ys) (hfresh : ∀ k, W.heap.size ≤ k → ok k) (hbase : base ≤ W.heap.size) (hl : xs.length + ys.length ≤ 1000000)
    (h : ∀ v1 w1, Que w1 base ok v1 (xs ++ ys) → Below base W w1 → W.grownBy w1 (Value.slice A1 xs.length c1).ownBlock → wpList Tryd.prog ops Q rest (a.put o.dst v1) w1) : wpList Tryd.prog ops Q (o :: rest) a W := by
  obtain ⟨v1, w1, hrun, h1, h2, h3⟩ := que_append_run W base ok A1 A c1 c xs ys hq hr hfresh hbase hl
  refine wpList_plain hgd fun K hK => ?_
  unfold Oper.wp execOp
  simp only [ho, resolve, invoke, builtin, Sem.run_bind, Sem.run_pure, Result.andThen_ok, List.map_toArray, List.map_cons, List.map_nil, hs, hx, hty, hrun]
  exact hK _ _ (h v1 w1 h1 h2 h3)
end Go.Proofs.YtgoephcembgmcaaDoor.Sh
namespace Go.Proofs.YtgoephcembgmcaaDoor.Sh
open Go.RowKit Go.Proofs.YtgoephcembgmcaaDoorW.PrintWords Go.Proofs.YtgoephcembgmcaaDoorW.PrintLast Go.Proofs.YtgoephcembgmcaaDoorW.PrintMore Go.Proofs.YtgoephcembgmcaaDoor.Wk Go.Proofs.YtgoephcembgmcaaDoor.FrM Go.Proofs.YtgoephcembgmcaaDoor.Fr
open Go.Proofs.YtgoephcembgmcaaDoor.WkM (w64 Bytes)
/-- Parts lie one behind the other, each a row of bytes. -/
def Parts (w : World) (ap : Addr) (ps : List (List Int)) : Prop := ∀ j l, ps[j]? = some l → ∃ A c, w.cell? (ap.add j) = some (.slice A l.length c) ∧ Kd.C (Kd.int .u8) w A l.length l
theorem rd_prefix (a b : List Int) (j : Nat) (h : j < a.length) : rd (a ++ b) ((j : Nat) : Int) = rd a ((j : Nat) : Int) := by
  unfold rd
  rw [Int.toNat_natCast, List.getD_eq_getElem?_getD, List.getD_eq_getElem?_getD, List.getElem?_append_left h]
theorem wrow_prefix (a b : List Int) (h : 64 ≤ a.length) : ∀ i, wrow (a ++ b) i = wrow a i
  | 0 => rfl
  | i + 1 => by
    rw [wrow, wrow, wrow_prefix a b h i]
    congr 1
    unfold wone
    split
    · rw [rd_prefix _ _ _ (by omega), rd_prefix _ _ _ (by omega), rd_prefix _ _ _ (by omega), rd_prefix _ _ _ (by omega)]
    · rfl
theorem comp_prefix (ks hs a b : List Int) (h : 64 ≤ a.length) : comp ks hs (a ++ b) = comp ks hs a := by
  unfold comp
  rw [wrow_prefix a b h]
theorem blocks_prefix : ∀ (h : List Int) (m : Nat) (a b : List Int), 64 * m ≤ a.length → blocks h m (a ++ b) = blocks h m a
  | h, 0, a, b, _ => rfl
  | h, m + 1, a, b, hm => by
    rw [blocks_next, blocks_next, blocks_prefix h m a b (by omega)]
    have e : (a ++ b).drop (64 * m) = a.drop (64 * m) ++ b := List.drop_append_of_le_length (by omega)
    rw [e]
    exact comp_prefix _ _ _ _ (by rw [List.length_drop]; omega)
set_option maxHeartbeats 2000000 in
set_option maxRecDepth 100000 in
theorem of_parts (ap : Addr) (pc n : Nat) (ps : List (List Int)) (l : List Int) (w : World) (hlp : l = ps.flatten) (hnp : n = ps.length) (hp : Parts w ap ps) (hl : Bytes l) (hn : l.length ≤ 100000) (hk : n ≤ 10) :
    Calls Tryd.prog 67 #[.slice (some ap) n pc] w fun e w' => e = .returned (.agg (bys (S l))) ∧ Below w.heap.size w w' := by
  have HP := hide hp
  have HL := hide hl
  have HLP := hide hlp
  have HNP := hide hnp
  have HK10 := hide hk
  clear hp hl hlp hnp hk
  go_enter Tryd.func67, Tryd.ntmps67
  go_wp2_with fail
  refine (words_any _).mono ?_
  rintro e w1 ⟨rfl, hb1⟩
  have r0 : Bs w1 w.heap.size 28 (List.replicate 32 0) := blk_below (blk_alloc (blk_new w (.cells (bys (List.replicate 32 0)) 28)) _) hb1
  have h0 : Ws w1 (w.heap.size + 1) 189 H0 := blk_below (heap_alloc2_new w _ (.cells (wds H0) 189)) hb1
  have b0 : Below w.heap.size w w1 := below_step (below_alloc (below_alloc (Below.refl _ _) _) _) hb1
  have K0 : Hid (Kept3 w.heap.size w (w1.alloc (.cells (wds KK) 190)) w.heap.size (w.heap.size + 1) w1.heap.size H0) := ⟨r0.alloc _, h0.alloc _, blk_new _ _, below_alloc b0 _⟩
  have N0 : Hid (w.heap.size + 1 < w1.heap.size) := h0.lt
  have NP : Hid (w.heap.size + 1 ≠ w1.heap.size ∧ w.heap.size ≠ w.heap.size + 1) := by have := unhide N0; show _ ∧ _; omega
  clear hb1 r0 h0 b0
  go_wp2_with (refine wpList_store_row rfl 190 _ _ rfl w1.heap.size (wds KK) rfl rfl 190 _ (blk_new _ _) (by rw [wds_size, KK_len]; exact size55) (by rw [wds_size, KK_len]; rfl) (wds_one _) ?_; rw [World.setRow_alloc_new])
  generalize w1.alloc (.cells (wds KK) 190) = w2 at K0 ⊢
  obtain ⟨pk, hpk⟩ : ∃ g, g = w1.heap.size := ⟨_, rfl⟩
  rw [← hpk] at K0 N0 NP ⊢
  obtain ⟨ph, hph⟩ : ∃ g, g = w.heap.size + 1 := ⟨_, rfl⟩
  rw [← hph] at K0 N0 NP ⊢
  have BP : Hid (w.heap.size ≤ ph) := by show _ ≤ _; omega
  clear hpk hph
  go_loopg [5, 6, 16] n (fun kq v5 v6 v16 wr => ∃ (i : Nat) (A1 : Option Addr) (c1 : Nat) (P : List Int), v16 = .int .i64 (i : Int) ∧ v5 = .slice A1 (tailOf P).length c1 ∧ v6 = .int .i64 (P.length : Int) ∧ Hid (i + kq = n) ∧ Hid (P = (ps.take i).flatten) ∧ Hid (Que wr w.heap.size (Ok3 w.heap.size ph pk) (.slice A1 (tailOf P).length c1) (tailOf P)) ∧ Hid (Kept3 w.heap.size w wr w.heap.size ph pk (blocks H0 (P.length / 64) P)))
  case atStart => exact ⟨0, none, 0, [], rfl, rfl, rfl, Nat.zero_add _, rfl, Kd.Q_nil _ _ _ _ _, unhide K0⟩
  case round =>
    clear K0
    obtain ⟨i, A1, c1, P, rfl, rfl, rfl, HI, HPP, HQ, HK⟩ := hrel
    by_cases hlt : i < n
    · obtain ⟨p, hpi⟩ : ∃ p, ps[i]? = some p := ⟨_, List.getElem?_eq_getElem (by rw [← unhide HNP]; exact hlt)⟩
      obtain ⟨A, c, hcell, hC⟩ := (unhide HP) i p hpi
      have hPn : P ++ p = (ps.take (i + 1)).flatten := by rw [List.take_add_one, hpi, List.flatten_append, ← unhide HPP]; simp
      have hPl : (P ++ p).length ≤ 100000 := by
        have h1 : (P ++ p).length ≤ l.length := by
          rw [hPn, unhide HLP]
          conv => rhs; rw [← List.take_append_drop (i + 1) ps]
          rw [List.flatten_append, List.length_append]
          omega
        omega
      have hPl2 := hPl
      rw [List.length_append] at hPl2
      have hp0 : wr.cell? (ap.add i) = some (.slice A p.length c) := ((unhide HK).b.cell (World.block_lt_of_cell? w _ hcell)).trans hcell
      have HC : Hid (Kd.C (Kd.int .u8) wr A p.length p) := Kd.C_below hC (unhide HK).b
      have d1 : (i : Int) < (n : Int) := by omega
      have hwn : wrap64 ((P.length : Int) + (p.length : Int)) = ((P ++ p).length : Int) := by rw [List.length_append, w64 _ (by omega) (by omega)]; omega
      have e1 : wrap64 ((i : Int) + 1) = ((i + 1 : Nat) : Int) := by have := unhide HK10; rw [w64 _ (by omega) (by omega)]; omega
      obtain ⟨tp, htp⟩ : ∃ z, z = tailOf P := ⟨_, rfl⟩
      rw [← htp] at HQ ⊢
      obtain ⟨tn, htn⟩ : ∃ z, z = tp.length := ⟨_, rfl⟩
      have htn2 : tn < 64 := by rw [htn, htp, tailOf_len]; omega
      obtain ⟨Pn, hPN⟩ : ∃ z, z = P ++ p := ⟨_, rfl⟩
      have hr0 : tp ++ p = Pn.drop (64 * (P.length / 64)) := by
        rw [hPN, htp]
        unfold tailOf
        rw [List.drop_append_of_le_length (by omega)]
      have hb0 : blocks H0 (P.length / 64) P = blocks H0 (P.length / 64) Pn := by rw [hPN]; exact (blocks_prefix _ _ _ _ (by omega)).symm
      rw [hb0] at HK
      rw [← hPN] at hPn hPl hwn
      have HPN := hide hPn
      have HPL := hide hPl
      have HPN2 := hide hPN
      have HR0 := hide hr0
      have HLT := hide hlt
      have E1 := hide e1
      have HTN := hide htn2
      have htn3 := hide htn
      have HHLE : Hid (P.length / 64 ≤ Pn.length / 64) := by show _ ≤ _; rw [hPN, List.length_append]; omega
      obtain ⟨n0, hn0⟩ : ∃ z, z = P.length / 64 := ⟨_, rfl⟩
      rw [← hn0] at HK HR0 HHLE
      obtain ⟨pl, hpl⟩ : ∃ z : Int, z = (P.length : Int) := ⟨_, rfl⟩
      rw [← hpl] at hwn ⊢
      clear hPn hPl hPl2 hPN hr0 hlt e1 htn2 hpi hC hcell hb0 htn htp hn0 hpl
      go_wp2_with (at_builtin; refine unhide ?_)
      refine hide ?_
      refine wpList_que_append w.heap.size (Ok3 w.heap.size ph pk) rfl (.tmp 24) (.tmp 25) rfl rfl A1 A c1 c tp p rfl rfl (unhide HQ) (unhide HC) (unhide HK).fresh (unhide HK).b.size (by have h1 := unhide HPL; have h2 := unhide HPN2; rw [h2, List.length_append] at h1; have := unhide HTN; have := unhide htn3; omega) ?_
      intro v2 w3 hQ2 hB2 hg2
      have K3 : Hid (Kept3 w.heap.size w w3 w.heap.size ph pk (blocks H0 n0 Pn)) := (unhide HK).grown (unhide HQ) hg2 ((unhide HK).b.trans hB2)
      rw [unhide HR0] at hQ2
      obtain ⟨r0, hr0⟩ : ∃ z, z = Pn.drop (64 * n0) := ⟨_, rfl⟩
      rw [← hr0] at hQ2
      obtain ⟨A2, c2, rfl, hc2⟩ := Kd.Q_slice hQ2
      have HQ2 := hide hQ2
      have HRR0 := hide hr0
      clear hQ2 hB2 hg2 hr0 HC HK HQ hp0
      go_wp2
      obtain ⟨gk1, h_⟩ : ∃ k, k = gk := ⟨_, rfl⟩
      subst h_
      obtain ⟨wr1, h_⟩ : ∃ k, k = wr := ⟨_, rfl⟩
      subst h_
      clear hwn d1
      go_loopg [5] (Pn.length / 64 - n0) (fun kq v5 wr => ∃ (j : Nat) (A3 : Option Addr) (c3 : Nat) (r : List Int), v5 = .slice A3 r.length c3 ∧ Hid (r = Pn.drop (64 * j)) ∧ Hid (j + kq = Pn.length / 64) ∧ Hid (Que wr w.heap.size (Ok3 w.heap.size ph pk) (.slice A3 r.length c3) r) ∧ Hid (Kept3 w.heap.size w wr w.heap.size ph pk (blocks H0 j Pn)))
      case atStart => exact ⟨n0, A2, c2, r0, rfl, HRR0, (by have := unhide HHLE; show _ = _; omega), unhide HQ2, unhide K3⟩
      case round =>
        clear HQ2 K3
        obtain ⟨j, A3, c3, r, rfl, hr, HJ, HQ, HK⟩ := hrel
        have hrl : r.length = Pn.length - 64 * j := by rw [unhide hr, List.length_drop]
        by_cases hj : j < Pn.length / 64
        · have hpl := unhide HPL
          have d64 : 64 ≤ (r.length : Int) := by omega
          obtain ⟨ad, rfl⟩ := que_some (unhide HQ) (by omega)
          obtain ⟨A4, hcut, hq4⟩ := que_drop (some ad) c3 64 r (by omega)
          obtain ⟨r4, hr4⟩ : ∃ x, x = r.drop 64 := ⟨_, rfl⟩
          obtain ⟨c4, hc4⟩ : ∃ x, x = c3 - 64 := ⟨_, rfl⟩
          rw [← hr4, ← hc4] at hcut hq4
          have HR4 := hide hr4
          have HRL := hide (show 64 ≤ r.length ∧ r.length ≤ 1000000 by omega)
          have HLT2 := hide hj
          have HCUT : Hid (∀ W : World, (Instr.slice 22 (.slice (some ad) r.length c3) (some (.int .i64 64)) none none).run Tryd.prog W = .ok (.slice A4 r4.length c4) W) := hcut
          have HQ4 := hide hq4
          clear hrl hj hq4 hcut hr4 hc4 hpl
          go_wp2_with fail
          refine (block_ok ph pk r.length c3 w.heap.size ad (blocks H0 j Pn) KK r _ (unhide HK).h (by rw [blocks_len]; rfl) (blocks_u _ H0_u _ _) (que_reads (unhide HQ)).2.2 (unhide HRL).1 (unhide HRL).2 (unhide HK).k KK_len (unhide BP)).mono ?_
          rintro e w4 ⟨rfl, hW4, hB4, hK4⟩
          have K4 : Hid (Kept3 w.heap.size w w4 w.heap.size ph pk (blocks H0 (j + 1) Pn)) := by
            show Kept3 _ _ _ _ _ _ _
            rw [blocks_next, ← unhide hr]
            exact (unhide HK).block hW4 hB4 hK4 (unhide NP).2 (Ne.symm (unhide NP).1)
          have Q4 := hide ((unhide HQ4) _ _ _ (que_block (unhide HQ) hK4))
          have hcut := unhide HCUT
          clear hW4 hB4 hK4 HK HQ
          go_wp2
          go_roundg (gk - 1)
          case measure => have := unhide HJ; have := unhide HLT2; omega
          case rel =>
            have := unhide HJ
            have := unhide HLT2
            have he : r4 = Pn.drop (64 * (j + 1)) := by rw [unhide HR4, unhide hr, List.drop_drop]; congr 1
            exact ⟨j + 1, A4, c4, r4, rfl, he, by show j + 1 + (gk - 1) = _; omega, unhide Q4, unhide K4⟩
        · have hje : j = Pn.length / 64 := by have := unhide HJ; omega
          subst hje
          have d64 : ¬ 64 ≤ (r.length : Int) := by omega
          have e1 := unhide E1
          clear hrl hj HJ
          go_wp2
          go_roundg (gk1 - 1)
          case measure => have := unhide HI; have := unhide HLT; omega
          case rel => exact ⟨i + 1, A3, c3, Pn, by first | exact congrArg (Value.int .i64) (unhide E1) | exact congrArg (Value.int .i64) (by omega), by rw [tailOf, ← unhide hr], rfl, by have := unhide HI; have := unhide HLT; show _ = _; omega, unhide HPN, by rw [tailOf, ← unhide hr]; exact unhide HQ, unhide HK⟩
    · have hi : i = n := by have := unhide HI; omega
      have hPl : l = P := by rw [unhide HPP, unhide HLP, List.take_of_length_le (by rw [← unhide HNP]; omega)]
      subst hPl
      have d1 : ¬ (i : Int) < (n : Int) := by omega
      clear hlt HP HPP HLP HNP hi HI
      go_wp2_with (at_builtin; refine unhide ?_)
      obtain ⟨tl, htl⟩ : ∃ t, t = tailOf l := ⟨_, rfl⟩
      rw [← htl] at HQ ⊢
      have htn : tl.length = l.length % 64 := by rw [htl]; exact tailOf_len l
      obtain ⟨hs, hhs⟩ : ∃ t, t = blocks H0 (l.length / 64) l := ⟨_, rfl⟩
      rw [← hhs] at HK
      have HTL := hide htl
      have HHS := hide hhs
      have HHL := hide (show hs.length = 8 by rw [hhs, blocks_len]; rfl)
      have HHU := hide (show Us hs by rw [hhs]; exact blocks_u _ H0_u _ _)
      clear htl hhs
      refine hide ?_
      refine Kd.Q_append (Kd.int .u8) (w0 := w) w.heap.size rfl (.tmp 35) (.tmp 36) 22 5 (.int .u8 0) 1 rfl Tryd.underlying22 info5 rfl (by decide) (by decide) (.slice A1 tl.length c1) tl 128 [.int .u8 128] (Ok3 w.heap.size ph pk) (fun _ => False) rfl rfl rfl (fun k h => h.elim) (unhide HK).fresh (unhide HQ) (unhide HK).b (unhide HK).b.size (by omega) ?_
      intro v2 w3 hQ2 hB2 hg2 hat2
      have K3 := hide ((unhide HK).grown (unhide HQ) hg2 hB2)
      obtain ⟨A2, c2, rfl, hc2⟩ := Kd.Q_slice hQ2
      obtain ⟨r1, hr1⟩ : ∃ r, r = tl ++ [(128 : Int)] := ⟨_, rfl⟩
      rw [← hr1] at hQ2 ⊢
      have HQ2 := hide hQ2
      have HR1 := hide hr1
      clear hB2 hg2 hat2 hQ2 HK HQ hr1 hc2 htn
      go_wp2
      go_loopg [5] (noughts l) (fun kq v5 wr => ∃ (z : Nat) (A1 : Option Addr) (c1 : Nat) (r : List Int), v5 = .slice A1 r.length c1 ∧ Hid (r = tl ++ [128] ++ List.replicate z 0) ∧ Hid (z + kq = noughts l) ∧ Hid (Que wr w.heap.size (Ok3 w.heap.size ph pk) (.slice A1 r.length c1) r) ∧ Hid (Kept3 w.heap.size w wr w.heap.size ph pk hs))
      case atStart => exact ⟨0, A2, c2, r1, rfl, by show _ = _; rw [unhide HR1]; simp, Nat.zero_add _, unhide HQ2, unhide K3⟩
      case round =>
        clear HQ2 K3
        obtain ⟨z, A3, c3, r, rfl, hr, HJ, HQ, HK⟩ := hrel
        have hrl : r.length = l.length % 64 + 1 + z := by rw [unhide hr, unhide HTL, List.length_append, List.length_append, List.length_replicate, tailOf_len]; rfl
        by_cases hj : z < noughts l
        · have hz : noughts l = (119 - l.length % 64) % 64 := rfl
          have d56 : ¬ (r.length : Int) % 64 = 56 := by omega
          have HRL := hide (show r.length ≤ 1000000 by omega)
          have HLT := hide hj
          clear hrl hj hz
          go_wp2_with (at_builtin; refine unhide ?_)
          refine hide ?_
          refine Kd.Q_append (Kd.int .u8) (w0 := w) w.heap.size rfl (.tmp 42) (.tmp 43) 22 5 (.int .u8 0) 1 rfl Tryd.underlying22 info5 rfl (by decide) (by decide) (.slice A3 r.length c3) r 0 [.int .u8 0] (Ok3 w.heap.size ph pk) (fun _ => False) rfl rfl rfl (fun k h => h.elim) (unhide HK).fresh (unhide HQ) (unhide HK).b (unhide HK).b.size (by have := unhide HRL; omega) ?_
          intro v2 w3 hQ2 hB2 hg2 hat2
          have K3 := hide ((unhide HK).grown (unhide HQ) hg2 hB2)
          obtain ⟨A2, c2, rfl, hc2⟩ := Kd.Q_slice hQ2
          obtain ⟨r2, hr2⟩ : ∃ r2, r2 = r ++ [(0 : Int)] := ⟨_, rfl⟩
          rw [← hr2] at hQ2 ⊢
          have HQ2 := hide hQ2
          have HR2 := hide hr2
          clear hB2 hg2 hat2 hQ2 HK HQ hr2 hc2
          go_wp2
          go_roundg (gk - 1)
          case measure => have := unhide HJ; have := unhide HLT; omega
          case rel =>
            have := unhide HJ
            have := unhide HLT
            exact ⟨z + 1, A2, c2, r2, rfl, by show _ = _; rw [unhide HR2, unhide hr, List.replicate_succ', List.append_assoc], by show z + 1 + (gk - 1) = _; omega, unhide HQ2, unhide K3⟩
        · have hz : noughts l = (119 - l.length % 64) % 64 := rfl
          have hze : z = noughts l := by have := unhide HJ; omega
          have d56 : (r.length : Int) % 64 = 56 := by omega
          have HRL := hide (show r.length ≤ 200 by omega)
          rw [hze] at hr
          clear hrl hj hz HJ hze
          go_wp2
          clear d56
          go_loopg [5, 9] 8 (fun kq v5 v9 wr => ∃ (j : Nat) (A1 : Option Addr) (c1 : Nat) (q : List Int), v5 = .slice A1 q.length c1 ∧ v9 = .int .i64 (56 - 8 * (j : Int)) ∧ Hid (q = r ++ lens l.length j) ∧ Hid (j + kq = 8) ∧ Hid (Que wr w.heap.size (Ok3 w.heap.size ph pk) (.slice A1 q.length c1) q) ∧ Hid (Kept3 w.heap.size w wr w.heap.size ph pk hs))
          case atStart => exact ⟨0, A3, c3, r, rfl, rfl, by show _ = _; rw [lens]; simp, Nat.zero_add _, unhide HQ, unhide HK⟩
          case round =>
            clear HQ HK
            obtain ⟨j, A4, c4, q, rfl, rfl, hq, HJ, HQ, HK⟩ := hrel
            have hql : q.length = r.length + j := by rw [unhide hq, List.length_append, lens_len]
            by_cases hj : j < 8
            · have d0 : 0 ≤ 56 - 8 * (j : Int) := by omega
              have d8 : 56 - 8 * (j : Int) < 64 := by omega
              have HQL := hide (show q.length ≤ 208 by have := unhide HRL; omega)
              have HLT := hide hj
              clear hql hj
              go_wp2_with (at_builtin; refine unhide ?_)
              have hx : (l.length : Int) * 8 / 2 ^ (56 - 8 * j) % 256 = lenb l.length j := by unfold lenb; push_cast; rfl
              rw [hx]
              clear hx
              obtain ⟨x, hx⟩ : ∃ x, lenb l.length j = x := ⟨_, rfl⟩
              rw [hx]
              refine hide ?_
              refine Kd.Q_append (Kd.int .u8) (w0 := w) w.heap.size rfl (.tmp 49) (.tmp 56) 22 5 (.int .u8 0) 1 rfl Tryd.underlying22 info5 rfl (by decide) (by decide) (.slice A4 q.length c4) q x [.int .u8 x] (Ok3 w.heap.size ph pk) (fun _ => False) rfl rfl rfl (fun k h => h.elim) (unhide HK).fresh (unhide HQ) (unhide HK).b (unhide HK).b.size (by have := unhide HQL; omega) ?_
              intro v2 w3 hQ2 hB2 hg2 hat2
              have K3 := hide ((unhide HK).grown (unhide HQ) hg2 hB2)
              obtain ⟨A2, c2, rfl, hc2⟩ := Kd.Q_slice hQ2
              obtain ⟨r2, hr2⟩ : ∃ r2, r2 = q ++ [x] := ⟨_, rfl⟩
              rw [← hr2] at hQ2 ⊢
              have HQ2 := hide hQ2
              have HR2 := hide hr2
              have HX := hide hx
              clear hB2 hg2 hat2 hQ2 HK HQ hr2 hc2 hx
              go_wp2
              go_roundg (gk - 1)
              case measure => have := unhide HJ; have := unhide HLT; omega
              case rel =>
                have := unhide HJ
                have := unhide HLT
                exact ⟨j + 1, A2, c2, r2, rfl, by first | (congr 1; omega) | (congr 1; push_cast; omega) | (rw [w64 _ (by omega) (by omega)]; congr 1; omega), by show _ = _; rw [unhide HR2, unhide hq, lens, unhide HX, List.append_assoc], by show j + 1 + (gk - 1) = _; omega, unhide HQ2, unhide K3⟩
            · have hje : j = 8 := by have := unhide HJ; omega
              subst hje
              have d0 : ¬ 0 ≤ 56 - 8 * ((8 : Nat) : Int) := by omega
              have hpd : q = padded l := by rw [unhide hq, unhide hr, padded, unhide HTL]
              obtain ⟨M, hM, hM2⟩ := padded_len l
              have hML : (padded l).length / 64 = M := by omega
              have HQ0 : Hid (q.length = 64 * M ∧ M ≤ 2) := by rw [hpd]; exact ⟨hM, hM2⟩
              have HPD := hide hpd
              have HMM := hide hML
              clear hql hj HJ hq hM hM2 hML hpd
              go_wp2
              clear d0
              go_loopg [5] M (fun kq v5 wr => ∃ (m : Nat) (A1 : Option Addr) (c1 : Nat) (y : List Int), v5 = .slice A1 y.length c1 ∧ Hid (y = q.drop (64 * m)) ∧ Hid (m + kq = M) ∧ Hid (Que wr w.heap.size (Ok3 w.heap.size ph pk) (.slice A1 y.length c1) y) ∧ Hid (Kept3 w.heap.size w wr w.heap.size ph pk (blocks hs m q)))
              case atStart => exact ⟨0, A4, c4, q, rfl, rfl, Nat.zero_add _, unhide HQ, unhide HK⟩
              case round =>
                clear HQ HK
                obtain ⟨m, A5, c5, y, rfl, hy, HJ, HQ, HK⟩ := hrel
                have hyl : y.length = 64 * M - 64 * m := by rw [unhide hy, List.length_drop, (unhide HQ0).1]
                by_cases hj : m < M
                · have d64 : 0 < (y.length : Int) := by omega
                  obtain ⟨ad, rfl⟩ := que_some (unhide HQ) (by omega)
                  obtain ⟨A6, hcut, hq3⟩ := que_drop (some ad) c5 64 y (by omega)
                  obtain ⟨y3, hy3⟩ : ∃ x, x = y.drop 64 := ⟨_, rfl⟩
                  obtain ⟨c6, hc6⟩ : ∃ x, x = c5 - 64 := ⟨_, rfl⟩
                  rw [← hy3, ← hc6] at hcut hq3
                  have HY3 := hide hy3
                  have HRL2 := hide (show 64 ≤ y.length ∧ y.length ≤ 1000000 by have := (unhide HQ0).2; omega)
                  have HLT := hide hj
                  have HCUT : Hid (∀ W : World, (Instr.slice 22 (.slice (some ad) y.length c5) (some (.int .i64 64)) none none).run Tryd.prog W = .ok (.slice A6 y3.length c6) W) := hcut
                  have HQ3 := hide hq3
                  clear hyl hj hq3 hcut hy3 hc6
                  go_wp2_with fail
                  refine (block_ok ph pk y.length c5 w.heap.size ad (blocks hs m q) KK y _ (unhide HK).h (by rw [blocks_len]; exact unhide HHL) (blocks_u _ (unhide HHU) _ _) (que_reads (unhide HQ)).2.2 (unhide HRL2).1 (unhide HRL2).2 (unhide HK).k KK_len (unhide BP)).mono ?_
                  rintro e w4 ⟨rfl, hW4, hB4, hK4⟩
                  have K4 : Hid (Kept3 w.heap.size w w4 w.heap.size ph pk (blocks hs (m + 1) q)) := by
                    show Kept3 _ _ _ _ _ _ _
                    rw [blocks_next, ← unhide hy]
                    exact (unhide HK).block hW4 hB4 hK4 (unhide NP).2 (Ne.symm (unhide NP).1)
                  have Q4 := hide ((unhide HQ3) _ _ _ (que_block (unhide HQ) hK4))
                  have hcut := unhide HCUT
                  clear hW4 hB4 hK4 HK HQ d64
                  go_wp2
                  go_roundg (gk - 1)
                  case measure => have := unhide HJ; have := unhide HLT; omega
                  case rel =>
                    have := unhide HJ
                    have := unhide HLT
                    have he : y3 = q.drop (64 * (m + 1)) := by rw [unhide HY3, unhide hy, List.drop_drop]; congr 1
                    exact ⟨m + 1, A6, c6, y3, rfl, he, by show m + 1 + (gk - 1) = _; omega, unhide Q4, unhide K4⟩
                · have hme : m = M := by have := unhide HJ; omega
                  subst hme
                  have d64 : ¬ 0 < (y.length : Int) := by omega
                  have K5 : Hid (Kept3 w.heap.size w wr w.heap.size ph pk (hash l)) := by
                    show Kept3 _ _ _ _ _ _ _
                    rw [hash, ← unhide HPD, ← unhide HHS, unhide HPD, unhide HMM, ← unhide HPD]
                    exact unhide HK
                  clear hyl hj HJ HK HQ
                  go_wp2
                  have O5 : Hid (Bs (wr.alloc (.cells (bys (List.replicate 32 0)) 28)) wr.heap.size 28 (outs (hash l) 0)) := blk_new _ _
                  have R5 : Hid (Bs (wr.alloc (.cells (bys (List.replicate 32 0)) 28)) w.heap.size 28 (List.replicate 32 0)) := (unhide K5).r.alloc _
                  have H5 : Hid (Ws (wr.alloc (.cells (bys (List.replicate 32 0)) 28)) ph 189 (hash l)) := (unhide K5).h.alloc _
                  have B5 : Hid (Below w.heap.size w (wr.alloc (.cells (bys (List.replicate 32 0)) 28))) := below_alloc (unhide K5).b _
                  have NG : Hid (ph < wr.heap.size ∧ w.heap.size < wr.heap.size) := ⟨(unhide K5).h.lt, (unhide K5).r.lt⟩
                  obtain ⟨go, hgo⟩ : ∃ g, g = wr.heap.size := ⟨_, rfl⟩
                  show Code.wp _ _ _ _ (wr.alloc (.cells (bys (List.replicate 32 0)) 28))
                  rw [← hgo] at O5 NG ⊢
                  generalize wr.alloc (.cells (bys (List.replicate 32 0)) 28) = w6 at O5 R5 H5 B5 ⊢
                  obtain ⟨hv, hhv⟩ : ∃ h, h = hash l := ⟨_, rfl⟩
                  rw [← hhv] at O5 H5
                  have HV8 := hide (show hv.length = 8 by rw [hhv]; exact hash_len l)
                  have HVU := hide (show Us hv by rw [hhv]; exact hash_u l)
                  have HHV := hide hhv
                  clear hgo hhv K5 d64
                  go_loopg [65] 32 (fun kq v65 wr => ∃ i : Nat, v65 = .int .i64 (i : Int) ∧ Hid (i + kq = 32) ∧ Hid (Bs wr go 28 (outs hv i)) ∧ Hid (Bs wr w.heap.size 28 (List.replicate 32 0)) ∧ Hid (Ws wr ph 189 hv) ∧ Hid (Below w.heap.size w wr))
                  case atStart => exact ⟨0, rfl, Nat.zero_add _, unhide O5, unhide R5, unhide H5, unhide B5⟩
                  case round =>
                    clear O5 R5 H5 B5
                    obtain ⟨i, rfl, HI, HO, HR5, HH5, HB5⟩ := hrel
                    by_cases hlt : i < 32
                    · obtain ⟨q4, hq4⟩ : ∃ q, q = i / 4 := ⟨_, rfl⟩
                      obtain ⟨m4, hm4⟩ : ∃ q, q = i % 4 := ⟨_, rfl⟩
                      have hx := (unhide HH5).cell q4 (by have := unhide HV8; omega)
                      obtain ⟨x, hxx⟩ : ∃ x, x = rd hv (q4 : Int) := ⟨_, rfl⟩
                      rw [← hxx] at hx
                      have hu : U32 x := by rw [hxx]; exact (unhide HVU).rd_ _
                      have hoc := (unhide HO).cell i (by rw [outs_len]; omega)
                      have hof := (unhide HO).frozen i
                      have ux0 := hu.1
                      have ux1 := hu.2
                      have d32 : (i : Int) < 32 := by omega
                      have e4 : (i : Int).tdiv 4 = (q4 : Int) := by rw [Int.tdiv_eq_ediv_of_nonneg (by omega)]; omega
                      have e5 : (i : Int).tmod 4 = (m4 : Int) := by rw [Int.tmod_eq_emod_of_nonneg (by omega)]; omega
                      have e6 : (i : Int) / 4 = (q4 : Int) := by omega
                      have e7 : (i : Int) % 4 = (m4 : Int) := by omega
                      have dq : (q4 : Int) < 8 := by omega
                      have dm : (m4 : Int) < 4 := by omega
                      have HLT := hide hlt
                      have HQM := hide (And.intro hq4 (And.intro hm4 hxx))
                      clear hlt hq4 hm4 hxx hu
                      go_wp2
                      have O6 : Hid (Bs (wr.setCell ⟨go, i, none⟩ (.int .u8 (x / 2 ^ (24 - 8 * m4) % 256))) go 28 (outs hv (i + 1))) := by
                        have h1 := (unhide HO).put i (x / 2 ^ (24 - 8 * m4) % 256)
                        show Bs _ _ _ _
                        rw [outs, outb, ← (unhide HQM).1, ← (unhide HQM).2.1, ← (unhide HQM).2.2]
                        exact h1
                      have R6 : Hid (Bs (wr.setCell ⟨go, i, none⟩ (.int .u8 (x / 2 ^ (24 - 8 * m4) % 256))) w.heap.size 28 (List.replicate 32 0)) := (unhide HR5).far (by have := (unhide NG).2; simp; omega) _
                      have H6 : Hid (Ws (wr.setCell ⟨go, i, none⟩ (.int .u8 (x / 2 ^ (24 - 8 * m4) % 256))) ph 189 hv) := (unhide HH5).far (by have := (unhide NG).1; simp; omega) _
                      have B6 : Hid (Below w.heap.size w (wr.setCell ⟨go, i, none⟩ (.int .u8 (x / 2 ^ (24 - 8 * m4) % 256)))) := below_set (unhide HB5) (Nat.le_of_lt (unhide NG).2)
                      clear hx hoc hof ux0 ux1 e4 e5 e6 e7 dq dm HO HR5 HH5 HB5
                      generalize wr.setCell ⟨go, i, none⟩ (.int .u8 (x / 2 ^ (24 - 8 * m4) % 256)) = w7 at O6 R6 H6 B6 ⊢
                      go_roundg (gk - 1)
                      case measure => have := unhide HI; have := unhide HLT; omega
                      case rel =>
                        have := unhide HI
                        have := unhide HLT
                        exact ⟨i + 1, by first | rw [Int.natCast_add, Int.natCast_one, w64 _ (by omega) (by omega)] | rw [Int.natCast_add, Int.natCast_one], by show i + 1 + (gk - 1) = 32; omega, unhide O6, unhide R6, unhide H6, unhide B6⟩
                    · have hi : i = 32 := by have := unhide HI; omega
                      subst hi
                      have SZ : Hid ((Tryd.prog.info? 28).map (·.size) = some (bys (outs hv 32)).size) := by show _ = _; rw [bys_size, outs_len]; exact size25
                      go_wp2_with (first | refine wpList_load_row rfl 28 _ rfl go rfl 28 _ (0, 0) _ (unhide HO) Tryd.underlying28 rfl (unhide SZ) ?_ | refine wpList_store_row rfl 28 _ _ rfl w.heap.size (bys (outs hv 32)) rfl rfl 28 _ (unhide HR5) (unhide SZ) (by rw [bys_size, bys_size, outs_len]; rfl) (bys_one _) ?_)
                      refine bodyPost_ret (v := .agg (bys (outs hv 32))) ?_ rfl ⟨?_, below_setRow (unhide HB5) (Nat.le_refl _) _⟩
                      · exact results_cell_row rfl _ _ w.heap.size 28 (bys (outs hv 32)) (0, 0) _ rfl (unhide HR5).row Tryd.underlying28 rfl (unhide SZ)
                      · rw [unhide HHV]; rfl
theorem size5 : (Tryd.prog.info? 5).map (·.size) = some 1 := by kernel_rfl
theorem wanted_none {o : Oper} {y : Nat → Option Bool} (h : o.guard = none) : Region.wanted o y = true := by unfold Region.wanted; rw [h]
end Go.Proofs.YtgoephcembgmcaaDoor.Sh
