/- Texts of the proof, merged: So2 So3 Sl1 Sl2 Sl3 Sl4. -/
import Derived.Test.YtgoephcembgmcaaDoorZ04
import Derived.Maps.StringElems
import Derived.Maps.RangeWalk
import Derived.Maps.OwnSet
import Derived.Carry
import Derived.Test.YtgoephcembgmcaaDoorWGuard
set_option linter.unusedSimpArgs false
set_option linter.unusedVariables false
namespace Go.Proofs.YtgoephcembgmcaaDoor.Sh
open Go.RowKit Go.Proofs.YtgoephcembgmcaaDoorW.PrintWords Go.Proofs.YtgoephcembgmcaaDoorW.PrintLast Go.Proofs.YtgoephcembgmcaaDoor.Wk Go.Proofs.YtgoephcembgmcaaDoor.FrM Go.Proofs.YtgoephcembgmcaaDoor.Fr
open Go.Proofs.YtgoephcembgmcaaDoor.WkM (w64 Bytes)
/-! The sum with a key. -/
def xr (k x : Int) : Int := bits .xor .u8 x k
def keyOf (key : List Int) : List Int := if 64 < key.length then S key else key
def padOf (key : List Int) : List Int := keyOf key ++ List.replicate (64 - (keyOf key).length) 0
def mac (key : List Int) (l : List Int) : List Int := S ((padOf key).map (xr 92) ++ S ((padOf key).map (xr 54) ++ l))
/-- The first i bytes done. -/
def xmap (k : Int) (p : List Int) (i : Nat) : List Int := (p.take i).map (xr k) ++ p.drop i
theorem xmap_zero (k : Int) (p : List Int) : xmap k p 0 = p := by simp [xmap]
theorem xmap_all (k : Int) (p : List Int) (i : Nat) (h : p.length ≤ i) : xmap k p i = p.map (xr k) := by unfold xmap; rw [List.take_of_length_le h, List.drop_of_length_le h, List.append_nil]
theorem xmap_len (k : Int) (p : List Int) (i : Nat) : (xmap k p i).length = p.length := by
  unfold xmap
  rw [List.length_append, List.length_map, List.length_take, List.length_drop]
  omega
theorem xmap_rd (k : Int) (p : List Int) (i : Nat) (h : i < p.length) : rd (xmap k p i) (i : Int) = rd p (i : Int) := by
  unfold rd xmap
  rw [Int.toNat_natCast, List.getD_eq_getElem?_getD, List.getD_eq_getElem?_getD, List.getElem?_append_right (by rw [List.length_map, List.length_take]; omega), List.length_map, List.length_take, List.getElem?_drop]
  congr 2
  omega
theorem xmap_set (k : Int) (p : List Int) (i : Nat) (h : i < p.length) : (xmap k p i).set i (xr k (rd p (i : Int))) = xmap k p (i + 1) := by
  have hx : rd p (i : Int) = p[i] := by
    unfold rd
    rw [Int.toNat_natCast, List.getD_eq_getElem?_getD, List.getElem?_eq_getElem h]
    rfl
  unfold xmap
  have hl : ((p.take i).map (xr k)).length = i := by rw [List.length_map, List.length_take]; omega
  rw [List.set_append_right _ _ (by omega), hl, Nat.sub_self, List.drop_eq_getElem_cons h, List.set_cons_zero, List.take_succ_eq_append_getElem h, List.map_append, List.append_assoc, hx]
  rfl
theorem xr_byte (k x : Int) : 0 ≤ xr k x ∧ xr k x ≤ 255 := by
  unfold xr bits
  have h1 : 0 ≤ IntKind.u8.wrap (Int.ofNat 0) ∨ True := .inr trivial
  simp only [IntKind.wrap_u8]
  omega
theorem xr_bytes (k : Int) (l : List Int) : Bytes (l.map (xr k)) := by
  intro y hy
  obtain ⟨x, _, rfl⟩ := List.mem_map.1 hy
  exact xr_byte k x
theorem keyOf_len (key : List Int) : (keyOf key).length ≤ 64 := by
  unfold keyOf
  split
  · rw [S_len]; decide
  · omega
theorem padOf_len (key : List Int) : (padOf key).length = 64 := by
  have := keyOf_len key
  unfold padOf
  rw [List.length_append, List.length_replicate]
  omega
theorem size179 : (Tryd.prog.info? 179).map (·.size) = some 64 := by kernel_rfl
/-- Some bytes copied to an array's head. -/
theorem copy_head (W : World) (g t : Nat) (xs : List Int) (h : Bs W g t xs) (hx : xs.length = 64) (A : Option Addr) (c : Nat) (ys : List Int) (hy : Kd.C (Kd.int .u8) W A ys.length ys) (hl : ys.length ≤ 64) :
    ∃ W1, (Builtin.copy_ #[22, 22] 3 #[.slice (some ⟨g, 0, none⟩) 64 64, .slice A ys.length c]).run Tryd.prog W = .ok (.int .i64 (ys.length : Int)) W1 ∧ Bs W1 g t (ys ++ xs.drop ys.length) ∧ (∀ k, k ≠ g → W1.heap[k]? = W.heap[k]?) ∧ ∀ B, B ≤ g → Below B W W1 := by
  have h22 := Tryd.underlying22
  obtain ⟨i0, hi, hz, hsz, hby⟩ := info_parts info5
  by_cases h0 : ys = []
  · subst h0
    refine ⟨W, ?_, by simpa using h, fun _ _ => rfl, fun B _ => Below.refl _ _⟩
    cases A with
    | none => simp [Builtin.copy_, run_underlying h22, sizeOf, typeInfo, hi, Builtin.lenOf, Builtin.firstCells, loadCells, loadCellsFrom, storeCells]; rfl
    | some a => simp [Builtin.copy_, run_underlying h22, sizeOf, typeInfo, hi, Builtin.lenOf, Builtin.firstCells, loadCells, loadCellsFrom, storeCells]; rfl
  · obtain ⟨a, rfl, _⟩ := hy.2.2 (List.length_pos_iff.2 h0)
    have h1 := run_copy_row Tryd.prog W 22 22 3 5 g 0 64 64 a ys.length c (bys xs) t (ys.map (Value.int .u8)) Tryd.underlying22 size5 h (by rw [List.length_map]; exact (Nat.min_eq_left hl).symm) (C_cells hy) (by rw [List.length_map, bys_size]; omega) (fun v hv => by
      obtain ⟨x, _, rfl⟩ := List.mem_map.1 hv
      rfl)
    rw [List.length_map] at h1
    refine ⟨_, h1, ?_, fun k hk => setRow_other W g k _ hk, fun B hB => below_setRow (Below.refl _ _) hB _⟩
    have e : ((bys xs).toList.take 0 ++ ys.map (Value.int .u8) ++ (bys xs).toList.drop (0 + ys.length)).toArray = bys (ys ++ xs.drop ys.length) := by
      unfold bys
      rw [List.take_zero, List.nil_append, Nat.zero_add, List.toList_toArray, ← List.map_drop, List.map_append]
    rw [e]
    exact h.row
def T51_14 : Bool × List (List Nat × List Nat) := (true, [([], []), ([], []), ([0, 1], [0, 1]), ([2], [2]), ([3, 3, 0, 1, 2, 3], [3])])
def BT51_14 : List Nat := [0, 0, 3, 7, 15]
theorem tabT51_14 : rtab .any (opsOf Tryd.f51 14) = T51_14 := by kernel_rfl
theorem bitsT51_14 : waitsOk T51_14.2 BT51_14 = true := by kernel_rfl

/-- A literal of slices of bytes: its parts. -/
theorem parts_one (W : World) (A : Option Addr) (c : Nat) (l : List Int) (h : Kd.C (Kd.int .u8) W A l.length l) : Parts (W.alloc (.cells #[.slice A l.length c] 22)) ⟨W.heap.size, 0, none⟩ [l] := by
  intro j x hj
  have hj0 : j = 0 := by
    rcases j with _ | j
    · rfl
    · simp at hj
  subst hj0
  simp only [List.getElem?_cons_zero, Option.some.injEq] at hj
  subst hj
  refine ⟨A, c, ?_, Kd.C_alloc h _⟩
  rw [add_plain]
  exact cell_of_row _ _ 0 #[.slice A l.length c] 22 (0, 0) (blk_new W _)
theorem Parts.below {w w1 : World} {ap : Addr} {ps : List (List Int)} (h : Parts w ap ps) (hb : Below w.heap.size w w1) : Parts w1 ap ps := fun j l hj => by
  obtain ⟨A, c, h1, h2⟩ := h j l hj
  exact ⟨A, c, pw_cell_below hb h1, Kd.C_below h2 hb⟩
theorem bs_C {W : World} {g t : Nat} {xs : List Int} (h : Bs W g t xs) (hx : xs.length ≤ 1000) : Kd.C (Kd.int .u8) W (some ⟨g, 0, none⟩) xs.length xs := by
  refine Kd.C_of_reads (d := (0 : Int)) (h1 := fun _ => rfl) ⟨rfl, by omega, fun hn => ⟨_, rfl, fun j hj => ?_⟩⟩
  rw [add_plain, h.cell j hj]
  unfold rd
  rw [Int.toNat_natCast]
theorem info22 : (Tryd.prog.info? 22).map (fun i => (i.zero, i.size, i.bytes)) = some (some (.slice none 0 0), 1, 24) := by kernel_rfl
/-- append([][]byte{a[:]}, parts...). -/
theorem parts_app (W : World) (g5 : Nat) (xs : List Int) (hI : Bs W g5 179 xs) (hx : xs.length = 64) (pp : Addr) (k pc : Nat) (ps : List (List Int)) (hP : Parts W pp ps) (hk : k = ps.length) (hk1 : k ≤ 8) :
    ∃ (g c1 : Nat) (W1 : World), (Builtin.append_ #[178, 178] 178 #[.slice (some ⟨W.heap.size, 0, none⟩) 1 1, .slice (some pp) k pc]).run Tryd.prog (W.alloc (.cells #[.slice (some ⟨g5, 0, none⟩) 64 64] 22)) = .ok (.slice (some ⟨g, 0, none⟩) (1 + k) c1) W1 ∧ Parts W1 ⟨g, 0, none⟩ (xs :: ps) ∧ Below W.heap.size W W1 := by
  obtain ⟨i0, hi, hz, hsz, hby⟩ := info_parts info22
  have hown : (W.alloc (.cells #[.slice (some ⟨g5, 0, none⟩) 64 64] 22)).ownsRow W.heap.size 22 1 (.slice (some ⟨W.heap.size, 0, none⟩) 1 1) 1 [.slice (some ⟨g5, 0, none⟩) 64 64] := by
    simpa using World.ownsRow_lit (base := W.heap.size) (e := 22) (size := 1) W #[.slice (some ⟨g5, 0, none⟩) 64 64] 1 (Nat.le_refl _) (by simp [maxLen]) rfl
  have hb0 : Below W.heap.size W (W.alloc (.cells #[.slice (some ⟨g5, 0, none⟩) 64 64] 22)) := below_alloc (Below.refl _ _) _
  have hP1 := hP.below hb0
  obtain ⟨news, hnl, hnews⟩ : ∃ news : List Value, news.length = k ∧ ∀ j u, news[j]? = some u → (W.alloc (.cells #[.slice (some ⟨g5, 0, none⟩) 64 64] 22)).cell? (pp.add j) = some u ∧ ∃ A c l, ps[j]? = some l ∧ u = .slice A l.length c ∧ Kd.C (Kd.int .u8) W A l.length l := by
    refine ⟨(List.range k).map fun j => ((W.cell? (pp.add j)).getD (.bool false)), by rw [List.length_map, List.length_range], fun j u hj => ?_⟩
    rw [List.getElem?_map] at hj
    obtain ⟨m, hm, hu⟩ := Option.map_eq_some_iff.1 hj
    obtain ⟨hjk, hm2⟩ := List.getElem?_eq_some_iff.1 hm
    rw [List.getElem_range] at hm2
    subst hm2
    rw [List.length_range] at hjk
    obtain ⟨l, hl⟩ : ∃ l, ps[j]? = some l := ⟨_, List.getElem?_eq_getElem (by omega)⟩
    obtain ⟨A, c, h1, h2⟩ := hP j l hl
    rw [h1] at hu
    exact ⟨by rw [← hu]; exact pw_cell_below hb0 h1, A, c, l, hl, hu.symm, h2⟩
  obtain ⟨v1, W1, hr, ho, hg, _, _⟩ := run_append_own_at (P := Tryd.prog) (w := W.alloc (.cells #[.slice (some ⟨g5, 0, none⟩) 64 64] 22)) W.heap.size 178 178 22 i0 (.slice none 0 0) 1 24 Tryd.underlying178 hi hz hsz hby rfl (by decide) _ 1 _ hown pp k pc news (by omega) (fun j u hj => (hnews j u hj).1)
    (fun u hu => by
      obtain ⟨j, hj⟩ := List.getElem?_of_mem hu
      obtain ⟨_, A, c, l, _, rfl, _⟩ := hnews j u hj
      rfl) (by simp only [maxLen]; omega) (by omega) (by simp)
  obtain ⟨g, cap, rfl, hbg, _⟩ := ho.form (by omega)
  have hb1 : Below W.heap.size W W1 := hb0.grown hg (by simp) (own_base hown)
  refine ⟨g, cap, W1, hr, fun j l hj => ?_, hb1⟩
  cases j with
  | zero =>
    simp only [List.getElem?_cons_zero, Option.some.injEq] at hj
    subst hj
    refine ⟨some ⟨g5, 0, none⟩, 64, ?_, ?_⟩
    · rw [hx]
      exact ho.cells (g := g) rfl 0 _ (by simp)
    · exact bs_C (hI.below hb1) (by omega)
  | succ j =>
    rw [List.getElem?_cons_succ] at hj
    have hjk : j < k := by have := (List.getElem?_eq_some_iff.1 hj).1; omega
    obtain ⟨u, hu⟩ : ∃ u, news[j]? = some u := ⟨_, List.getElem?_eq_getElem (by omega)⟩
    obtain ⟨_, A, c, l', hl', rfl, hC⟩ := hnews j u hu
    rw [hj] at hl'
    obtain rfl := Option.some.inj hl'
    exact ⟨A, c, ho.cells (g := g) rfl (j + 1) _ (by simpa using hu), Kd.C_below hC hb1⟩
theorem parts_two (W : World) (A B : Option Addr) (c d n m : Nat) (l r : List Int) (hn : n = l.length) (hm : m = r.length) (h : Kd.C (Kd.int .u8) W A l.length l) (h2 : Kd.C (Kd.int .u8) W B r.length r) : Parts (W.alloc (.cells #[.slice A n c, .slice B m d] 22)) ⟨W.heap.size, 0, none⟩ [l, r] := by
  subst hn hm
  intro j x hj
  rcases j with _ | _ | j
  · simp only [List.getElem?_cons_zero, Option.some.injEq] at hj
    subst hj
    refine ⟨A, c, ?_, Kd.C_alloc h _⟩
    rw [add_plain]
    exact cell_of_row _ _ 0 #[.slice A l.length c, .slice B r.length d] 22 (0, 0) (blk_new W _)
  · simp only [Nat.zero_add, List.getElem?_cons_succ, List.getElem?_cons_zero, Option.some.injEq] at hj
    subst hj
    refine ⟨B, d, ?_, Kd.C_alloc h2 _⟩
    rw [add_plain]
    exact cell_of_row _ _ 1 #[.slice A l.length c, .slice B r.length d] 22 (0, 0) (blk_new W _)
  · simp at hj
theorem wpList_append_178 {ops : Array Oper} {rest : List Oper} {o : Oper} {a : Act} {Q : Exit → Act → World → Prop} {W w1 : World} {v u v1 : Value} (hgd : o.guard = none) (s x : Operand)
    (ho : o.op = .call { callee := .builtin .append, args := #[s, x], argTypes := #[178, 178] }) (hty : o.type = 178) (hs : a.eval s = v) (hx : a.eval x = u)
    (hrun : (Builtin.append_ #[178, 178] 178 #[v, u]).run Tryd.prog W = .ok v1 w1) (h : wpList Tryd.prog ops Q rest (a.put o.dst v1) w1) : wpList Tryd.prog ops Q (o :: rest) a W := by
  refine wpList_plain hgd fun K hK => ?_
  unfold Oper.wp execOp
  simp only [ho, resolve, invoke, builtin, Sem.run_bind, Sem.run_pure, Result.andThen_ok, List.map_toArray, List.map_cons, List.map_nil, hs, hx, hty, hrun]
  exact hK _ _ h
theorem exec_store_bs {ev : Operand → Value} {o : Oper} {x y : Operand} {W : World} (ho : o.op = .store 28 x y) (g : Nat) (xs ys : List Int) (hx : ev x = .pointer (some ⟨g, 0, none⟩)) (hy : ev y = .agg (bys xs)) (h32 : xs.length = 32) (hg : Bs W g 28 ys) (hy2 : ys.length = 32) : (execOp ev o).run Tryd.prog W = .ok .skip (W.setRow g (bys xs)) := by
  unfold execOp
  simp only [ho, hx, hy, Instr.storeAt, Instr.sureAddr, Sem.run_bind, Sem.run_pure, Result.andThen_ok, run_storeVar_row W g 28 28 (bys ys) (bys xs) hg (by rw [bys_size, h32]; exact size25) (by rw [bys_size, bys_size, h32, hy2]) (bys_one _)]
/-- What sum.Mac keeps: the result's box, both arrays. -/
structure Mc (w wr : World) (g4 g5 g6 : Nat) (xs ys : List Int) : Prop where
  r : Bs wr g4 28 (List.replicate 32 0)
  i : Bs wr g5 179 xs
  o : Bs wr g6 179 ys
  b : Below w.heap.size w wr
  n : w.heap.size ≤ g4 ∧ g4 < g5 ∧ g5 < g6
theorem Mc.below {w wr w1 : World} {g4 g5 g6 : Nat} {xs ys : List Int} (h : Mc w wr g4 g5 g6 xs ys) (hb : Below wr.heap.size wr w1) : Mc w w1 g4 g5 g6 xs ys := ⟨h.r.below hb, h.i.below hb, h.o.below hb, below_step h.b hb, h.n⟩
set_option maxHeartbeats 4000000 in
set_option maxRecDepth 100000 in
theorem mac_ok (A : Option Addr) (c N : Nat) (key : List Int) (pp : Addr) (k pc : Nat) (ps : List (List Int)) (w : World) (hN : N = key.length) (hr : Kd.C (Kd.int .u8) w A key.length key) (hl : Bytes key) (hn : key.length ≤ 1000)
    (hp : Parts w pp ps) (hk : k = ps.length) (hk1 : 1 ≤ k ∧ k ≤ 8) (hpb : Bytes ps.flatten) (hpl : ps.flatten.length ≤ 10000) :
    Calls Tryd.prog 51 #[.slice A N c, .slice (some pp) k pc] w fun e w' => e = .returned (.agg (bys (mac key ps.flatten))) ∧ Below w.heap.size w w' := by
  have HR := hide hr
  have HL := hide hl
  have HN := hide hn
  have HNL := hide hN
  have HP := hide hp
  have HK := hide hk
  have HK1 := hide hk1
  have HPB := hide hpb
  have HPL := hide hpl
  have M0 : Hid (Mc w (((w.alloc (.cells (bys (List.replicate 32 0)) 28)).alloc (.cells (bys (List.replicate 64 0)) 179)).alloc (.cells (bys (List.replicate 64 0)) 179)) w.heap.size (w.heap.size + 1) (w.heap.size + 2) (List.replicate 64 0) (List.replicate 64 0)) := by
    refine ⟨blk_alloc (blk_alloc (blk_new _ _) _) _, blk_alloc ?_ _, ?_, below_alloc (below_alloc (below_alloc (Below.refl _ _) _) _) _, Nat.le_refl _, by omega, by omega⟩
    · have h := blk_new (w.alloc (.cells (bys (List.replicate 32 0)) 28)) (.cells (bys (List.replicate 64 0)) 179)
      rw [World.size_alloc] at h
      exact h
    · have h := blk_new ((w.alloc (.cells (bys (List.replicate 32 0)) 28)).alloc (.cells (bys (List.replicate 64 0)) 179)) (.cells (bys (List.replicate 64 0)) 179)
      rw [World.size_alloc, World.size_alloc] at h
      exact h
  clear hr hl hn hp hk hk1 hpb hpl hN
  have HG : Hid (w.heap.size + 1 ≠ w.heap.size + 2) := by show _ ≠ _; omega
  have SZ6 : Hid ((Tryd.prog.info? 179).map (·.size) = some (bys (padOf key)).size) := by show _ = _; rw [bys_size, padOf_len]; exact size179
  have SO6 : Hid ((bys (List.replicate 64 0)).size = (bys (padOf key)).size) := by show _ = _; rw [bys_size, bys_size, padOf_len, List.length_replicate]
  have SZ28 : Hid ((Tryd.prog.info? 28).map (·.size) = some 32) := size25
  by_cases hlong : 64 < key.length
  · have d1 : 64 < (N : Int) := by have := unhide HNL; omega
    have KEY : Hid (keyOf key = S key) := if_pos hlong
    have H32 : Hid ((S key).length = 32) := S_len key
    clear hlong
    go_enter Tryd.func51, Tryd.ntmps51
    go_wp2_with fail
    show Calls _ _ _ ((((w.alloc (.cells (bys (List.replicate 32 0)) 28)).alloc (.cells (bys (List.replicate 64 0)) 179)).alloc (.cells (bys (List.replicate 64 0)) 179)).alloc (.cells #[.slice A N c] 22)) _
    obtain ⟨q, hq⟩ : ∃ q, q = (((w.alloc (.cells (bys (List.replicate 32 0)) 28)).alloc (.cells (bys (List.replicate 64 0)) 179)).alloc (.cells (bys (List.replicate 64 0)) 179)).heap.size := ⟨_, rfl⟩
    have hq2 : q = w.heap.size + 1 + 1 + 1 := by rw [hq, World.size_alloc, World.size_alloc, World.size_alloc]
    rw [← hq2]
    generalize ((w.alloc (.cells (bys (List.replicate 32 0)) 28)).alloc (.cells (bys (List.replicate 64 0)) 179)).alloc (.cells (bys (List.replicate 64 0)) 179) = w3 at M0 hq ⊢
    have hPO := parts_one w3 A c key (Kd.C_below (unhide HR) (unhide M0).b)
    rw [← hq, ← unhide HNL] at hPO
    refine (of_parts ⟨q, 0, none⟩ 1 1 [key] key _ (by simp) rfl hPO (unhide HL) (by have := unhide HN; omega) (by decide)).mono ?_
    rintro e w4 ⟨rfl, hb4⟩
    obtain ⟨sk, hsk⟩ : ∃ z, z = S key := ⟨_, rfl⟩
    rw [← hsk] at KEY H32 ⊢
    have M5 : Mc w (w4.alloc (.cells (bys sk) 28)) w.heap.size (w.heap.size + 1) (w.heap.size + 2) (List.replicate 64 0) (List.replicate 64 0) := (((unhide M0).below (below_alloc (Below.refl _ _) _)).below hb4).below (below_alloc (Below.refl _ _) _)
    have K5 : Kd.C (Kd.int .u8) (w4.alloc (.cells (bys sk) 28)) (some ⟨w4.heap.size, 0, none⟩) sk.length sk := bs_C (t := 28) (blk_new _ _) (by rw [unhide H32]; decide)
    have P5 := hide ((unhide HP).below M5.b)
    obtain ⟨w6, hcp, hI, hoth, hbel⟩ := copy_head _ (w.heap.size + 1) 179 _ M5.i List.length_replicate (some ⟨w4.heap.size, 0, none⟩) 32 sk K5 (by rw [unhide H32]; decide)
    have hpad : sk ++ (List.replicate 64 (0 : Int)).drop sk.length = padOf key := by rw [List.drop_replicate, padOf, unhide KEY]
    rw [hpad] at hI
    rw [unhide H32] at hcp
    have SZS : Hid ((Tryd.prog.info? 28).map (·.size) = some (bys sk).size) := by show _ = _; rw [bys_size, unhide H32]; exact size25
    have SOS : Hid ((bys (List.replicate 32 0)).size = (bys sk).size) := by show _ = _; rw [bys_size, bys_size, unhide H32]; rfl
    have HSK := hide hsk
    have O6 : Hid (Bs w6 (w.heap.size + 1 + 1) 179 (List.replicate 64 0)) := (hoth (w.heap.size + 1 + 1) (by omega)).trans M5.o
    clear hPO hb4 K5 hpad hsk hq2
    go_wp2_with (first | (refine wpList_store_row rfl 28 (.tmp 7) (.tmp 15) rfl w4.heap.size (bys sk) rfl rfl 28 _ (blk_new _ _) (unhide SZS) (unhide SOS) (bys_one _) ?_; rw [World.setRow_alloc_new]) | refine wpList_load_row rfl 179 (.tmp 5) rfl (w.heap.size + 1) rfl 179 _ (0, 0) _ hI Tryd.underlying179 rfl (unhide SZ6) ?_ | refine wpList_store_row rfl 179 (.tmp 6) (.tmp 20) rfl (w.heap.size + 1 + 1) (bys (padOf key)) rfl rfl 179 _ (unhide O6) (unhide SZ6) (unhide SO6) (bys_one _) ?_)
    have M7 : Hid (Mc w (w6.setRow (w.heap.size + 1 + 1) (bys (padOf key))) w.heap.size (w.heap.size + 1) (w.heap.size + 1 + 1) (padOf key) (padOf key)) :=
      ⟨(setRow_other _ _ _ _ (by omega)).trans ((hoth w.heap.size (by omega)).trans M5.r), (setRow_other _ _ _ _ (by omega)).trans hI, (unhide O6).row, below_setRow (M5.b.trans (hbel _ (by omega))) (by omega) _, Nat.le_refl _, by omega, by omega⟩
    generalize w6.setRow (w.heap.size + 1 + 1) (bys (padOf key)) = w7 at M7 ⊢
    obtain ⟨g5, hg5⟩ : ∃ z, z = w.heap.size + 1 := ⟨_, rfl⟩
    rw [← hg5] at M7 ⊢
    obtain ⟨g6, hg6⟩ : ∃ z, z = g5 + 1 := ⟨_, rfl⟩
    rw [← hg6] at M7 ⊢
    obtain ⟨pad, hpd⟩ : ∃ z, z = padOf key := ⟨_, rfl⟩
    have H64 : Hid (pad.length = 64) := by show _ = _; rw [hpd]; exact padOf_len key
    rw [← hpd] at M7 SZ6 ⊢
    have HPD := hide hpd
    clear hcp hI hoth hbel M5 P5 hg5 hg6 O6 SO6 hpd
    go_loopg [21] 64 (fun kq v21 wr => ∃ (i : Nat), v21 = .int .i64 (i : Int) ∧ Hid (i + kq = 64) ∧ Hid (Mc w wr w.heap.size g5 g6 (xmap 54 pad i) (xmap 92 pad i)))
    case atStart => exact ⟨0, rfl, Nat.zero_add _, by rw [xmap_zero, xmap_zero]; exact M7⟩
    case round =>
      obtain ⟨i, rfl, HI, M8⟩ := hrel
      by_cases hlt : i < 64
      · have h64 := unhide H64
        have c5 := (unhide M8).i.cell i (by rw [xmap_len]; omega)
        have c6 := (unhide M8).o.cell i (by rw [xmap_len]; omega)
        rw [xmap_rd _ _ _ (by omega)] at c5 c6
        have f5 := (unhide M8).i.frozen i
        have f6 := (unhide M8).o.frozen i
        obtain ⟨x, hx⟩ : ∃ z, z = rd pad (i : Int) := ⟨_, rfl⟩
        rw [← hx] at c5 c6
        have d1 : (i : Int) < 64 := by omega
        have n56 : g5 ≠ g6 := by have := (unhide M8).n; omega
        have HLT := hide hlt
        have HX := hide hx
        have HH := hide h64
        clear hlt hx h64
        go_wp2
        go_roundg (gk - 1)
        case measure => have := unhide HI; have := unhide HLT; omega
        case rel =>
          have h64 := unhide HH
          have hlt := unhide HLT
          have n1 := (unhide M8).n
          refine ⟨i + 1, congrArg (Value.int .i64) (by omega), by have := unhide HI; show _ = _; omega, ?_⟩
          have e5 := xmap_set 54 pad i (by omega)
          have e6 := xmap_set 92 pad i (by omega)
          rw [← unhide HX] at e5 e6
          rw [← e5, ← e6]
          exact ⟨((unhide M8).r.far (p := ⟨g5, i, none⟩) (by show _ ≠ g5; omega) _).far (p := ⟨g6, i, none⟩) (by show _ ≠ g6; omega) _, ((unhide M8).i.put i _).far (p := ⟨g6, i, none⟩) (by show g5 ≠ g6; omega) _, ((unhide M8).o.far (p := ⟨g5, i, none⟩) (by show g6 ≠ g5; omega) _).put i _, ((unhide M8).b.setCell (p := ⟨g5, i, none⟩) (by show w.heap.size ≤ g5; omega) _).setCell (p := ⟨g6, i, none⟩) (by show w.heap.size ≤ g6; omega) _, n1⟩
      · have hi : 64 ≤ i := by omega
        have h64 := unhide H64
        have M9 : Mc w wr w.heap.size g5 g6 (pad.map (xr 54)) (pad.map (xr 92)) := by
          have h := unhide M8
          rw [xmap_all _ _ _ (by omega), xmap_all _ _ _ (by omega)] at h
          exact h
        have d1 : ¬ (i : Int) < 64 := by omega
        obtain ⟨xi, hxi⟩ : ∃ z, z = pad.map (xr 54) := ⟨_, rfl⟩
        obtain ⟨xo, hxo⟩ : ∃ z, z = pad.map (xr 92) := ⟨_, rfl⟩
        have li : xi.length = 64 := by rw [hxi, List.length_map, h64]
        have lo : xo.length = 64 := by rw [hxo, List.length_map, h64]
        have bi : Bytes xi := by rw [hxi]; exact xr_bytes _ _
        have bo : Bytes xo := by rw [hxo]; exact xr_bytes _ _
        rw [← hxi, ← hxo] at M9
        obtain ⟨ga, ca, wA, hrun, hPA, hbA⟩ := parts_app wr g5 xi M9.i li pp k pc ps ((unhide HP).below M9.b) (unhide HK) (unhide HK1).2
        have MA := hide (M9.below hbA)
        have HRUN := hide hrun
        have HPA := hide hPA
        have LI := hide li
        have LO := hide lo
        have BI := hide bi
        have BO := hide bo
        have HXI := hide hxi
        have HXO := hide hxo
        clear M8 M9 hrun hPA hbA li lo bi bo hxi hxo h64 hi hlt HI
        go_wp2_with (refine wpList_append_178 rfl (.tmp 36) (.tmp 37) rfl rfl rfl rfl (unhide HRUN) ?_)
        refine (of_parts ⟨ga, 0, none⟩ ca (1 + k) (xi :: ps) (xi ++ ps.flatten) wA (by rw [List.flatten_cons]) (by rw [List.length_cons, ← unhide HK]; omega) (unhide HPA) ((unhide BI).append (unhide HPB)) (by rw [List.length_append, unhide LI]; have := unhide HPL; omega) (by have := unhide HK1; omega)).mono ?_
        rintro e wB ⟨rfl, hbB⟩
        obtain ⟨s1, hs1⟩ : ∃ z, z = S (xi ++ ps.flatten) := ⟨_, rfl⟩
        have l1 : s1.length = 32 := by rw [hs1]; exact S_len _
        have b1 : Bytes s1 := by rw [hs1]; exact S_bytes _
        rw [← hs1]
        have SZ1 : Hid ((Tryd.prog.info? 28).map (·.size) = some (bys s1).size) := by show _ = _; rw [bys_size, l1]; exact size25
        have SO1 : Hid ((bys (List.replicate 32 0)).size = (bys s1).size) := by show _ = _; rw [bys_size, bys_size, l1]; rfl
        have MB : Hid (Mc w (wB.alloc (.cells (bys s1) 28)).drew w.heap.size g5 g6 xi xo) := ((unhide MA).below hbB).below (below_drew (below_alloc (Below.refl _ _) _))
        have S1 : Hid (Bs (wB.alloc (.cells (bys s1) 28)).drew wB.heap.size 28 s1) := blk_new _ _
        have HS1 := hide hs1
        have L1 := hide l1
        have BY1 := hide b1
        clear MA HRUN HPA hbB hs1 l1 b1
        go_wp2_with (refine wpList_store_row rfl 28 (.tmp 9) (.tmp 39) rfl wB.heap.size (bys s1) rfl rfl 28 _ (blk_new _ _) (unhide SZ1) (unhide SO1) (bys_one _) ?_; rw [World.setRow_alloc_new])
        obtain ⟨g9, hg9⟩ : ∃ z, z = wB.heap.size := ⟨_, rfl⟩
        rw [← hg9] at S1 ⊢
        generalize wB.alloc (.cells (bys s1) 28) = wC at MB S1 ⊢
        clear hg9
        refine start_ (n := 5) (S := fun _ => True) (ds := [4]) #[false, false, false, false, false] (by kernel_rfl) rfl rfl trivial (fun hHeld => ?_)
        refine with_tabW tabT51_14 bitsT51_14 (fun HT_ HW_ => ?_)
        refine pure_ (i := 0) (N := some 40) (v := ?_) (a' := ?_) #[true, false, false, false, false] rfl rfl (any_of HT_.out (by kernel_rfl)) (fun _ _ _ h => h) (Or.inl ⟨by rfl, ?_⟩) ?_ ?_
        rotate_left
        · intro w'
          go_simp
          with_reducible rfl
        rotate_left
        · simp only [Act.put, List.setIfInBounds_toArray, List.set_cons_zero, List.set_cons_succ, i64_w, i32_w]
          rfl
        refine pure_ (i := 1) (N := some 41) (v := ?_) (a' := ?_) #[true, true, false, false, false] rfl rfl (any_of HT_.out (by kernel_rfl)) (fun _ _ _ h => h) (Or.inl ⟨by rfl, ?_⟩) ?_ ?_
        rotate_left
        · intro w'
          go_simp
          with_reducible rfl
        rotate_left
        · simp only [Act.put, List.setIfInBounds_toArray, List.set_cons_zero, List.set_cons_succ, i64_w, i32_w]
          rfl
        refine one_ (i := 2) (N := some 42) #[true, true, true, false, false] rfl rfl (one_of HT_.out (by kernel_rfl)) (by decide) (fun K hK => ?_)
        refine value_ (v := .slice (some ⟨wC.heap.size, 0, none⟩) 2 2) (w1 := wC.drew.alloc (.cells #[.slice (some ⟨g6, 0, none⟩) 64 64, .slice (some ⟨g9, 0, none⟩) 32 32] 22)) (wanted_none rfl) rfl ?hrun ?_
        case hrun =>
          first | (go_simp; done) | (go_simp; rfl)
        have PE := hide (parts_two wC.drew (some ⟨g6, 0, none⟩) (some ⟨g9, 0, none⟩) 64 32 64 32 xo s1 (unhide LO).symm (unhide L1).symm (bs_C (unhide MB).o (by rw [unhide LO]; decide)) (bs_C (unhide S1) (by rw [unhide L1]; decide)))
        have MD : Hid (Mc w (wC.drew.alloc (.cells #[.slice (some ⟨g6, 0, none⟩) 64 64, .slice (some ⟨g9, 0, none⟩) 32 32] 22)) w.heap.size g5 g6 xi xo) := (unhide MB).below (below_alloc (Below.refl _ _) _)
        clear hHeld
        refine hK.out _ _ trivial (fun hHeld => ?_)
        clear hK K
        refine norm_ (a' := ?_) ?_ ?_
        rotate_left
        · show Act.put _ (some 42) _ = _
          simp only [Act.put, List.setIfInBounds_toArray, List.set_cons_zero, List.set_cons_succ, i64_w, i32_w]
          rfl
        refine one_ (i := 3) (N := some 43) #[true, true, true, true, false] rfl rfl (one_of HT_.out (by kernel_rfl)) (by decide) (fun K hK => ?_)
        refine goes_ Tryd.func67 (by kernel_rfl) rfl #[.slice (some ⟨wC.heap.size, 0, none⟩) 2 2] (by rfl) rfl rfl (by (try simp only [List.map_toArray, List.map_cons, List.map_nil]); first | done | rfl) ?_
        refine (of_parts ⟨wC.heap.size, 0, none⟩ 2 2 [xo, s1] (xo ++ s1) _ (by simp) rfl (unhide PE) ((unhide BO).append (unhide BY1)) (by rw [List.length_append, unhide LO, unhide L1]; decide) (by decide)).mono ?_
        rintro e wE ⟨rfl, hbE⟩
        refine ⟨_, rfl, ?_⟩
        obtain ⟨s2, hs2⟩ : ∃ z, z = S (xo ++ s1) := ⟨_, rfl⟩
        have L2 : Hid (s2.length = 32) := by show _ = _; rw [hs2]; exact S_len _
        rw [← hs2]
        have HS2 := hide hs2
        have ME := hide ((unhide MD).below hbE)
        clear hbE hs2 MD PE
        clear hHeld
        refine hK.out _ _ trivial (fun hHeld => ?_)
        clear hK K
        refine norm_ (a' := ?_) ?_ ?_
        rotate_left
        · show Act.put _ (some 43) _ = _
          simp only [Act.put, List.setIfInBounds_toArray, List.set_cons_zero, List.set_cons_succ, i64_w, i32_w]
          rfl
        refine last_ (i := 4) (N := none) #[true, true, true, true, true] rfl rfl (one_of HT_.out (by kernel_rfl)) (by decide) (fun K hK => ?_)
        refine skip_ (w1 := wE.setRow w.heap.size (bys s2)) (wanted_none rfl) rfl ?hrun ?_
        case hrun =>
          refine exec_store_bs (x := .tmp 4) (y := .tmp 43) ?_ w.heap.size s2 _ ?_ ?_ (unhide L2) (unhide ME).r List.length_replicate
          all_goals rfl
        refine hK.out _ _ ?_
        clear hK K
        refine done_ (done_of HT_.out (by kernel_rfl)) ?_
        clear HT_ HW_; (try clear hHeld)
        go_wp2_with fail
        have M14 := unhide ME
        refine bodyPost_ret (v := .agg (bys s2)) (results_cell_row rfl _ _ w.heap.size 28 (bys s2) (0, 0) _ rfl M14.r.row Tryd.underlying28 rfl (by rw [bys_size, unhide L2]; exact size25)) rfl ⟨?_, below_setRow M14.b (Nat.le_refl _) _⟩
        rw [unhide HS2, unhide HS1, unhide HXI, unhide HXO, unhide HPD]
        rfl

  · have d1 : ¬ 64 < (N : Int) := by have := unhide HNL; omega
    have KEY : Hid (keyOf key = key) := if_neg hlong
    have hle : key.length ≤ 64 := by omega
    have HLE := hide hle
    clear hlong
    go_enter Tryd.func51, Tryd.ntmps51
    have M5 : Mc w (((w.alloc (.cells (bys (List.replicate 32 0)) 28)).alloc (.cells (bys (List.replicate 64 0)) 179)).alloc (.cells (bys (List.replicate 64 0)) 179)) w.heap.size (w.heap.size + 1) (w.heap.size + 2) (List.replicate 64 0) (List.replicate 64 0) := unhide M0
    have K5 : Kd.C (Kd.int .u8) (((w.alloc (.cells (bys (List.replicate 32 0)) 28)).alloc (.cells (bys (List.replicate 64 0)) 179)).alloc (.cells (bys (List.replicate 64 0)) 179)) A key.length key := Kd.C_below (unhide HR) M5.b
    have P5 := hide ((unhide HP).below M5.b)
    obtain ⟨w6, hcp, hI, hoth, hbel⟩ := copy_head _ (w.heap.size + 1) 179 _ M5.i List.length_replicate A c key K5 hle
    have hpad : key ++ (List.replicate 64 (0 : Int)).drop key.length = padOf key := by rw [List.drop_replicate, padOf, unhide KEY]
    rw [hpad] at hI
    rw [← unhide HNL] at hcp
    have O6 : Hid (Bs w6 (w.heap.size + 1 + 1) 179 (List.replicate 64 0)) := (hoth (w.heap.size + 1 + 1) (by omega)).trans M5.o
    have hcp2 : Sem.run Tryd.prog (Builtin.copy_ #[22, 22] 3 #[Value.slice (some ⟨w.heap.size + 1, 0, none⟩) 64 64, Value.slice A N c]) (((w.alloc (Obj.cells #[Value.int IntKind.u8 0, Value.int IntKind.u8 0, Value.int IntKind.u8 0, Value.int IntKind.u8 0, Value.int IntKind.u8 0, Value.int IntKind.u8 0, Value.int IntKind.u8 0, Value.int IntKind.u8 0, Value.int IntKind.u8 0, Value.int IntKind.u8 0, Value.int IntKind.u8 0, Value.int IntKind.u8 0, Value.int IntKind.u8 0, Value.int IntKind.u8 0, Value.int IntKind.u8 0, Value.int IntKind.u8 0, Value.int IntKind.u8 0, Value.int IntKind.u8 0, Value.int IntKind.u8 0, Value.int IntKind.u8 0, Value.int IntKind.u8 0, Value.int IntKind.u8 0, Value.int IntKind.u8 0, Value.int IntKind.u8 0, Value.int IntKind.u8 0, Value.int IntKind.u8 0, Value.int IntKind.u8 0, Value.int IntKind.u8 0, Value.int IntKind.u8 0, Value.int IntKind.u8 0, Value.int IntKind.u8 0, Value.int IntKind.u8 0] 28)).alloc (Obj.cells #[Value.int IntKind.u8 0, Value.int IntKind.u8 0, Value.int IntKind.u8 0, Value.int IntKind.u8 0, Value.int IntKind.u8 0, Value.int IntKind.u8 0, Value.int IntKind.u8 0, Value.int IntKind.u8 0, Value.int IntKind.u8 0, Value.int IntKind.u8 0, Value.int IntKind.u8 0, Value.int IntKind.u8 0, Value.int IntKind.u8 0, Value.int IntKind.u8 0, Value.int IntKind.u8 0, Value.int IntKind.u8 0, Value.int IntKind.u8 0, Value.int IntKind.u8 0, Value.int IntKind.u8 0, Value.int IntKind.u8 0, Value.int IntKind.u8 0, Value.int IntKind.u8 0, Value.int IntKind.u8 0, Value.int IntKind.u8 0, Value.int IntKind.u8 0, Value.int IntKind.u8 0, Value.int IntKind.u8 0, Value.int IntKind.u8 0, Value.int IntKind.u8 0, Value.int IntKind.u8 0, Value.int IntKind.u8 0, Value.int IntKind.u8 0, Value.int IntKind.u8 0, Value.int IntKind.u8 0, Value.int IntKind.u8 0, Value.int IntKind.u8 0, Value.int IntKind.u8 0, Value.int IntKind.u8 0, Value.int IntKind.u8 0, Value.int IntKind.u8 0, Value.int IntKind.u8 0, Value.int IntKind.u8 0, Value.int IntKind.u8 0, Value.int IntKind.u8 0, Value.int IntKind.u8 0, Value.int IntKind.u8 0, Value.int IntKind.u8 0, Value.int IntKind.u8 0, Value.int IntKind.u8 0, Value.int IntKind.u8 0, Value.int IntKind.u8 0, Value.int IntKind.u8 0, Value.int IntKind.u8 0, Value.int IntKind.u8 0, Value.int IntKind.u8 0, Value.int IntKind.u8 0, Value.int IntKind.u8 0, Value.int IntKind.u8 0, Value.int IntKind.u8 0, Value.int IntKind.u8 0, Value.int IntKind.u8 0, Value.int IntKind.u8 0, Value.int IntKind.u8 0, Value.int IntKind.u8 0] 179)).alloc (Obj.cells #[Value.int IntKind.u8 0, Value.int IntKind.u8 0, Value.int IntKind.u8 0, Value.int IntKind.u8 0, Value.int IntKind.u8 0, Value.int IntKind.u8 0, Value.int IntKind.u8 0, Value.int IntKind.u8 0, Value.int IntKind.u8 0, Value.int IntKind.u8 0, Value.int IntKind.u8 0, Value.int IntKind.u8 0, Value.int IntKind.u8 0, Value.int IntKind.u8 0, Value.int IntKind.u8 0, Value.int IntKind.u8 0, Value.int IntKind.u8 0, Value.int IntKind.u8 0, Value.int IntKind.u8 0, Value.int IntKind.u8 0, Value.int IntKind.u8 0, Value.int IntKind.u8 0, Value.int IntKind.u8 0, Value.int IntKind.u8 0, Value.int IntKind.u8 0, Value.int IntKind.u8 0, Value.int IntKind.u8 0, Value.int IntKind.u8 0, Value.int IntKind.u8 0, Value.int IntKind.u8 0, Value.int IntKind.u8 0, Value.int IntKind.u8 0, Value.int IntKind.u8 0, Value.int IntKind.u8 0, Value.int IntKind.u8 0, Value.int IntKind.u8 0, Value.int IntKind.u8 0, Value.int IntKind.u8 0, Value.int IntKind.u8 0, Value.int IntKind.u8 0, Value.int IntKind.u8 0, Value.int IntKind.u8 0, Value.int IntKind.u8 0, Value.int IntKind.u8 0, Value.int IntKind.u8 0, Value.int IntKind.u8 0, Value.int IntKind.u8 0, Value.int IntKind.u8 0, Value.int IntKind.u8 0, Value.int IntKind.u8 0, Value.int IntKind.u8 0, Value.int IntKind.u8 0, Value.int IntKind.u8 0, Value.int IntKind.u8 0, Value.int IntKind.u8 0, Value.int IntKind.u8 0, Value.int IntKind.u8 0, Value.int IntKind.u8 0, Value.int IntKind.u8 0, Value.int IntKind.u8 0, Value.int IntKind.u8 0, Value.int IntKind.u8 0, Value.int IntKind.u8 0, Value.int IntKind.u8 0] 179)) = .ok (.int .i64 (N : Int)) w6 := hcp
    clear hle K5 hpad hcp
    go_wp2_with (first | refine wpList_load_row rfl 179 (.tmp 5) rfl (w.heap.size + 1) rfl 179 _ (0, 0) _ hI Tryd.underlying179 rfl (unhide SZ6) ?_ | refine wpList_store_row rfl 179 (.tmp 6) (.tmp 20) rfl (w.heap.size + 1 + 1) (bys (padOf key)) rfl rfl 179 _ (unhide O6) (unhide SZ6) (unhide SO6) (bys_one _) ?_)
    have M7 : Hid (Mc w (w6.setRow (w.heap.size + 1 + 1) (bys (padOf key))) w.heap.size (w.heap.size + 1) (w.heap.size + 1 + 1) (padOf key) (padOf key)) :=
      ⟨(setRow_other _ _ _ _ (by omega)).trans ((hoth w.heap.size (by omega)).trans M5.r), (setRow_other _ _ _ _ (by omega)).trans hI, (unhide O6).row, below_setRow (M5.b.trans (hbel _ (by omega))) (by omega) _, Nat.le_refl _, by omega, by omega⟩
    generalize w6.setRow (w.heap.size + 1 + 1) (bys (padOf key)) = w7 at M7 ⊢
    obtain ⟨g5, hg5⟩ : ∃ z, z = w.heap.size + 1 := ⟨_, rfl⟩
    rw [← hg5] at M7 ⊢
    obtain ⟨g6, hg6⟩ : ∃ z, z = g5 + 1 := ⟨_, rfl⟩
    rw [← hg6] at M7 ⊢
    obtain ⟨pad, hpd⟩ : ∃ z, z = padOf key := ⟨_, rfl⟩
    have H64 : Hid (pad.length = 64) := by show _ = _; rw [hpd]; exact padOf_len key
    rw [← hpd] at M7 SZ6 ⊢
    have HPD := hide hpd
    clear hcp2 hI hoth hbel M5 P5 hg5 hg6 O6 SO6 hpd
    go_loopg [21] 64 (fun kq v21 wr => ∃ (i : Nat), v21 = .int .i64 (i : Int) ∧ Hid (i + kq = 64) ∧ Hid (Mc w wr w.heap.size g5 g6 (xmap 54 pad i) (xmap 92 pad i)))
    case atStart => exact ⟨0, rfl, Nat.zero_add _, by rw [xmap_zero, xmap_zero]; exact M7⟩
    case round =>
      obtain ⟨i, rfl, HI, M8⟩ := hrel
      by_cases hlt : i < 64
      · have h64 := unhide H64
        have c5 := (unhide M8).i.cell i (by rw [xmap_len]; omega)
        have c6 := (unhide M8).o.cell i (by rw [xmap_len]; omega)
        rw [xmap_rd _ _ _ (by omega)] at c5 c6
        have f5 := (unhide M8).i.frozen i
        have f6 := (unhide M8).o.frozen i
        obtain ⟨x, hx⟩ : ∃ z, z = rd pad (i : Int) := ⟨_, rfl⟩
        rw [← hx] at c5 c6
        have d1 : (i : Int) < 64 := by omega
        have n56 : g5 ≠ g6 := by have := (unhide M8).n; omega
        have HLT := hide hlt
        have HX := hide hx
        have HH := hide h64
        clear hlt hx h64
        go_wp2
        go_roundg (gk - 1)
        case measure => have := unhide HI; have := unhide HLT; omega
        case rel =>
          have h64 := unhide HH
          have hlt := unhide HLT
          have n1 := (unhide M8).n
          refine ⟨i + 1, congrArg (Value.int .i64) (by omega), by have := unhide HI; show _ = _; omega, ?_⟩
          have e5 := xmap_set 54 pad i (by omega)
          have e6 := xmap_set 92 pad i (by omega)
          rw [← unhide HX] at e5 e6
          rw [← e5, ← e6]
          exact ⟨((unhide M8).r.far (p := ⟨g5, i, none⟩) (by show _ ≠ g5; omega) _).far (p := ⟨g6, i, none⟩) (by show _ ≠ g6; omega) _, ((unhide M8).i.put i _).far (p := ⟨g6, i, none⟩) (by show g5 ≠ g6; omega) _, ((unhide M8).o.far (p := ⟨g5, i, none⟩) (by show g6 ≠ g5; omega) _).put i _, ((unhide M8).b.setCell (p := ⟨g5, i, none⟩) (by show w.heap.size ≤ g5; omega) _).setCell (p := ⟨g6, i, none⟩) (by show w.heap.size ≤ g6; omega) _, n1⟩
      · have hi : 64 ≤ i := by omega
        have h64 := unhide H64
        have M9 : Mc w wr w.heap.size g5 g6 (pad.map (xr 54)) (pad.map (xr 92)) := by
          have h := unhide M8
          rw [xmap_all _ _ _ (by omega), xmap_all _ _ _ (by omega)] at h
          exact h
        have d1 : ¬ (i : Int) < 64 := by omega
        obtain ⟨xi, hxi⟩ : ∃ z, z = pad.map (xr 54) := ⟨_, rfl⟩
        obtain ⟨xo, hxo⟩ : ∃ z, z = pad.map (xr 92) := ⟨_, rfl⟩
        have li : xi.length = 64 := by rw [hxi, List.length_map, h64]
        have lo : xo.length = 64 := by rw [hxo, List.length_map, h64]
        have bi : Bytes xi := by rw [hxi]; exact xr_bytes _ _
        have bo : Bytes xo := by rw [hxo]; exact xr_bytes _ _
        rw [← hxi, ← hxo] at M9
        obtain ⟨ga, ca, wA, hrun, hPA, hbA⟩ := parts_app wr g5 xi M9.i li pp k pc ps ((unhide HP).below M9.b) (unhide HK) (unhide HK1).2
        have MA := hide (M9.below hbA)
        have HRUN := hide hrun
        have HPA := hide hPA
        have LI := hide li
        have LO := hide lo
        have BI := hide bi
        have BO := hide bo
        have HXI := hide hxi
        have HXO := hide hxo
        clear M8 M9 hrun hPA hbA li lo bi bo hxi hxo h64 hi hlt HI
        go_wp2_with (refine wpList_append_178 rfl (.tmp 36) (.tmp 37) rfl rfl rfl rfl (unhide HRUN) ?_)
        refine (of_parts ⟨ga, 0, none⟩ ca (1 + k) (xi :: ps) (xi ++ ps.flatten) wA (by rw [List.flatten_cons]) (by rw [List.length_cons, ← unhide HK]; omega) (unhide HPA) ((unhide BI).append (unhide HPB)) (by rw [List.length_append, unhide LI]; have := unhide HPL; omega) (by have := unhide HK1; omega)).mono ?_
        rintro e wB ⟨rfl, hbB⟩
        obtain ⟨s1, hs1⟩ : ∃ z, z = S (xi ++ ps.flatten) := ⟨_, rfl⟩
        have l1 : s1.length = 32 := by rw [hs1]; exact S_len _
        have b1 : Bytes s1 := by rw [hs1]; exact S_bytes _
        rw [← hs1]
        have SZ1 : Hid ((Tryd.prog.info? 28).map (·.size) = some (bys s1).size) := by show _ = _; rw [bys_size, l1]; exact size25
        have SO1 : Hid ((bys (List.replicate 32 0)).size = (bys s1).size) := by show _ = _; rw [bys_size, bys_size, l1]; rfl
        have MB : Hid (Mc w (wB.alloc (.cells (bys s1) 28)).drew w.heap.size g5 g6 xi xo) := ((unhide MA).below hbB).below (below_drew (below_alloc (Below.refl _ _) _))
        have S1 : Hid (Bs (wB.alloc (.cells (bys s1) 28)).drew wB.heap.size 28 s1) := blk_new _ _
        have HS1 := hide hs1
        have L1 := hide l1
        have BY1 := hide b1
        clear MA HRUN HPA hbB hs1 l1 b1
        go_wp2_with (refine wpList_store_row rfl 28 (.tmp 9) (.tmp 39) rfl wB.heap.size (bys s1) rfl rfl 28 _ (blk_new _ _) (unhide SZ1) (unhide SO1) (bys_one _) ?_; rw [World.setRow_alloc_new])
        obtain ⟨g9, hg9⟩ : ∃ z, z = wB.heap.size := ⟨_, rfl⟩
        rw [← hg9] at S1 ⊢
        generalize wB.alloc (.cells (bys s1) 28) = wC at MB S1 ⊢
        clear hg9
        refine start_ (n := 5) (S := fun _ => True) (ds := [4]) #[false, false, false, false, false] (by kernel_rfl) rfl rfl trivial (fun hHeld => ?_)
        refine with_tabW tabT51_14 bitsT51_14 (fun HT_ HW_ => ?_)
        refine pure_ (i := 0) (N := some 40) (v := ?_) (a' := ?_) #[true, false, false, false, false] rfl rfl (any_of HT_.out (by kernel_rfl)) (fun _ _ _ h => h) (Or.inl ⟨by rfl, ?_⟩) ?_ ?_
        rotate_left
        · intro w'
          go_simp
          with_reducible rfl
        rotate_left
        · simp only [Act.put, List.setIfInBounds_toArray, List.set_cons_zero, List.set_cons_succ, i64_w, i32_w]
          rfl
        refine pure_ (i := 1) (N := some 41) (v := ?_) (a' := ?_) #[true, true, false, false, false] rfl rfl (any_of HT_.out (by kernel_rfl)) (fun _ _ _ h => h) (Or.inl ⟨by rfl, ?_⟩) ?_ ?_
        rotate_left
        · intro w'
          go_simp
          with_reducible rfl
        rotate_left
        · simp only [Act.put, List.setIfInBounds_toArray, List.set_cons_zero, List.set_cons_succ, i64_w, i32_w]
          rfl
        refine one_ (i := 2) (N := some 42) #[true, true, true, false, false] rfl rfl (one_of HT_.out (by kernel_rfl)) (by decide) (fun K hK => ?_)
        refine value_ (v := .slice (some ⟨wC.heap.size, 0, none⟩) 2 2) (w1 := wC.drew.alloc (.cells #[.slice (some ⟨g6, 0, none⟩) 64 64, .slice (some ⟨g9, 0, none⟩) 32 32] 22)) (wanted_none rfl) rfl ?hrun ?_
        case hrun =>
          first | (go_simp; done) | (go_simp; rfl)
        have PE := hide (parts_two wC.drew (some ⟨g6, 0, none⟩) (some ⟨g9, 0, none⟩) 64 32 64 32 xo s1 (unhide LO).symm (unhide L1).symm (bs_C (unhide MB).o (by rw [unhide LO]; decide)) (bs_C (unhide S1) (by rw [unhide L1]; decide)))
        have MD : Hid (Mc w (wC.drew.alloc (.cells #[.slice (some ⟨g6, 0, none⟩) 64 64, .slice (some ⟨g9, 0, none⟩) 32 32] 22)) w.heap.size g5 g6 xi xo) := (unhide MB).below (below_alloc (Below.refl _ _) _)
        clear hHeld
        refine hK.out _ _ trivial (fun hHeld => ?_)
        clear hK K
        refine norm_ (a' := ?_) ?_ ?_
        rotate_left
        · show Act.put _ (some 42) _ = _
          simp only [Act.put, List.setIfInBounds_toArray, List.set_cons_zero, List.set_cons_succ, i64_w, i32_w]
          rfl
        refine one_ (i := 3) (N := some 43) #[true, true, true, true, false] rfl rfl (one_of HT_.out (by kernel_rfl)) (by decide) (fun K hK => ?_)
        refine goes_ Tryd.func67 (by kernel_rfl) rfl #[.slice (some ⟨wC.heap.size, 0, none⟩) 2 2] (by rfl) rfl rfl (by (try simp only [List.map_toArray, List.map_cons, List.map_nil]); first | done | rfl) ?_
        refine (of_parts ⟨wC.heap.size, 0, none⟩ 2 2 [xo, s1] (xo ++ s1) _ (by simp) rfl (unhide PE) ((unhide BO).append (unhide BY1)) (by rw [List.length_append, unhide LO, unhide L1]; decide) (by decide)).mono ?_
        rintro e wE ⟨rfl, hbE⟩
        refine ⟨_, rfl, ?_⟩
        obtain ⟨s2, hs2⟩ : ∃ z, z = S (xo ++ s1) := ⟨_, rfl⟩
        have L2 : Hid (s2.length = 32) := by show _ = _; rw [hs2]; exact S_len _
        rw [← hs2]
        have HS2 := hide hs2
        have ME := hide ((unhide MD).below hbE)
        clear hbE hs2 MD PE
        clear hHeld
        refine hK.out _ _ trivial (fun hHeld => ?_)
        clear hK K
        refine norm_ (a' := ?_) ?_ ?_
        rotate_left
        · show Act.put _ (some 43) _ = _
          simp only [Act.put, List.setIfInBounds_toArray, List.set_cons_zero, List.set_cons_succ, i64_w, i32_w]
          rfl
        refine last_ (i := 4) (N := none) #[true, true, true, true, true] rfl rfl (one_of HT_.out (by kernel_rfl)) (by decide) (fun K hK => ?_)
        refine skip_ (w1 := wE.setRow w.heap.size (bys s2)) (wanted_none rfl) rfl ?hrun ?_
        case hrun =>
          refine exec_store_bs (x := .tmp 4) (y := .tmp 43) ?_ w.heap.size s2 _ ?_ ?_ (unhide L2) (unhide ME).r List.length_replicate
          all_goals rfl
        refine hK.out _ _ ?_
        clear hK K
        refine done_ (done_of HT_.out (by kernel_rfl)) ?_
        clear HT_ HW_; (try clear hHeld)
        go_wp2_with fail
        have M14 := unhide ME
        refine bodyPost_ret (v := .agg (bys s2)) (results_cell_row rfl _ _ w.heap.size 28 (bys s2) (0, 0) _ rfl M14.r.row Tryd.underlying28 rfl (by rw [bys_size, unhide L2]; exact size25)) rfl ⟨?_, below_setRow M14.b (Nat.le_refl _) _⟩
        rw [unhide HS2, unhide HS1, unhide HXI, unhide HXO, unhide HPD]
        rfl

end Go.Proofs.YtgoephcembgmcaaDoor.Sh
namespace Go.Proofs.YtgoephcembgmcaaDoor.Sh
open Go.RowKit Go.Proofs.YtgoephcembgmcaaDoorW.PrintWords Go.Proofs.YtgoephcembgmcaaDoorW.PrintLast Go.Proofs.YtgoephcembgmcaaDoor.Wk Go.Proofs.YtgoephcembgmcaaDoor.FrM Go.Proofs.YtgoephcembgmcaaDoor.Fr
open Go.Proofs.YtgoephcembgmcaaDoor.WkM (w64 Bytes)
/-! auth.Answer. -/
def answer (sec m : ByteArray) (n : List Int) : List Int := mac (bytesOf sec) (n ++ bytesOf m)
theorem answer_len (sec m : ByteArray) (n : List Int) : (answer sec m n).length = 32 := by unfold answer mac; exact S_len _
theorem answer_bytes (sec m : ByteArray) (n : List Int) : Bytes (answer sec m n) := by unfold answer mac; exact S_bytes _
theorem conv_str (W : World) (s : ByteArray) (hs : s.size ≤ 100000) : ∃ (c : Nat) (W1 : World), (convert 9 22 (.string s)).run Tryd.prog W = .ok (.slice (some ⟨W.heap.size, 0, none⟩) s.size c) W1 ∧ Kd.C (Kd.int .u8) W1 (some ⟨W.heap.size, 0, none⟩) (bytesOf s).length (bytesOf s) ∧ Below W.heap.size W W1 := by
  refine ⟨_, _, print_bytes (P := Tryd.prog) 9 22 5 Tryd.underlying9 Tryd.underlying22 Tryd.underlying5 s W, ?_, bytes_below (Below.refl _ _) (Nat.le_refl _) 5 s⟩
  have h := bytes_reads W 5 s (by omega)
  rw [bytesOf_length]
  exact Kd.C_of_reads (d := (0 : Int)) (h1 := fun _ => rfl) ⟨h.1, h.2.1, fun hn => h.2.2 hn⟩
theorem size30 : (Tryd.prog.info? 30).map (·.size) = some 16 := by kernel_rfl
set_option maxHeartbeats 4000000 in
set_option maxRecDepth 100000 in
theorem answer_ok (sec m : ByteArray) (n : List Int) (w : World) (hn : n.length = 16) (hb : Bytes n) (h1 : sec.size ≤ 1000) (h2 : m.size ≤ 1000) :
    Calls Tryd.prog 15 #[.string sec, .string m, .agg (bys n)] w fun e w' => e = .returned (.agg (bys (answer sec m n))) ∧ Below w.heap.size w w' := by
  have SZ : Hid ((Tryd.prog.info? 30).map (·.size) = some (bys n).size) := by show _ = _; rw [bys_size, hn]; exact size30
  obtain ⟨w2, hw2⟩ : ∃ z, z = (w.alloc (.cells (bys n) 30)).alloc (.cells (bys (List.replicate 32 0)) 28) := ⟨_, rfl⟩
  obtain ⟨c3, w3, k3, C3, B3⟩ := conv_str w2 sec (by omega)
  obtain ⟨c4, w4, k4, C4, B4⟩ := conv_str w3 m (by omega)
  have s2 : w2.heap.size = w.heap.size + 1 + 1 := by rw [hw2, World.size_alloc, World.size_alloc]
  have N0 : Hid (Bs w2 w.heap.size 30 n) := by rw [hw2]; exact blk_alloc (blk_new _ _) _
  have R0 : Hid (Bs w2 (w.heap.size + 1) 28 (List.replicate 32 0)) := by
    rw [hw2]
    have h := blk_new (w.alloc (.cells (bys n) 30)) (.cells (bys (List.replicate 32 0)) 28)
    rw [World.size_alloc] at h
    exact h
  have B2 : Hid (Below w.heap.size w w2) := by rw [hw2]; exact below_alloc (below_alloc (Below.refl _ _) _) _
  have k3' : Sem.run Tryd.prog (convert 9 22 (Value.string sec)) ((w.alloc (Obj.cells (bys n) 30)).alloc (Obj.cells #[Value.int IntKind.u8 0, Value.int IntKind.u8 0, Value.int IntKind.u8 0, Value.int IntKind.u8 0, Value.int IntKind.u8 0, Value.int IntKind.u8 0, Value.int IntKind.u8 0, Value.int IntKind.u8 0, Value.int IntKind.u8 0, Value.int IntKind.u8 0, Value.int IntKind.u8 0, Value.int IntKind.u8 0, Value.int IntKind.u8 0, Value.int IntKind.u8 0, Value.int IntKind.u8 0, Value.int IntKind.u8 0, Value.int IntKind.u8 0, Value.int IntKind.u8 0, Value.int IntKind.u8 0, Value.int IntKind.u8 0, Value.int IntKind.u8 0, Value.int IntKind.u8 0, Value.int IntKind.u8 0, Value.int IntKind.u8 0, Value.int IntKind.u8 0, Value.int IntKind.u8 0, Value.int IntKind.u8 0, Value.int IntKind.u8 0, Value.int IntKind.u8 0, Value.int IntKind.u8 0, Value.int IntKind.u8 0, Value.int IntKind.u8 0] 28)) = .ok (.slice (some ⟨w.heap.size + 1 + 1, 0, none⟩) sec.size c3) w3 := by rw [← s2]; rw [hw2] at k3 ⊢; exact k3
  have HB := hide hb
  have HN := hide hn
  have H1 := hide h1
  have H2 := hide h2
  have C3' := hide (Kd.C_below C3 B4)
  have C4' := hide C4
  have N4 : Hid (Bs w4 w.heap.size 30 n) := ((unhide N0).below B3).below B4
  have R4 : Hid (Bs w4 (w.heap.size + 1) 28 (List.replicate 32 0)) := ((unhide R0).below B3).below B4
  have B4' : Hid (Below w.heap.size w w4) := below_step (below_step (unhide B2) B3) B4
  have S4 : Hid (w.heap.size + 1 < w4.heap.size) := by show _ < _; have h3 := B3.size; have h4 := B4.size; omega
  have S2 := hide s2
  obtain ⟨g4, hg4⟩ : ∃ z, z = w3.heap.size := ⟨_, rfl⟩
  rw [← hg4] at k4 C4'
  clear hw2 k3 hb hn h1 h2 C3 C4 N0 R0 B2 B3 B4 s2 hg4
  go_enter Tryd.func15, Tryd.ntmps15
  go_wp2_with fail
  have P5 := parts_two w4 (some ⟨w.heap.size, 0, none⟩) (some ⟨g4, 0, none⟩) 16 c4 16 m.size n (bytesOf m) (unhide HN).symm (bytesOf_length m).symm (bs_C (unhide N4) (by rw [unhide HN]; decide)) (unhide C4')
  have hb5 : Below w4.heap.size w4 (w4.alloc (.cells #[.slice (some ⟨w.heap.size, 0, none⟩) 16 16, .slice (some ⟨g4, 0, none⟩) m.size c4] 22)) := below_alloc (Below.refl _ _) _
  have C5 : Kd.C (Kd.int .u8) (w4.alloc (.cells #[.slice (some ⟨w.heap.size, 0, none⟩) 16 16, .slice (some ⟨g4, 0, none⟩) m.size c4] 22)) (some ⟨w.heap.size + 1 + 1, 0, none⟩) (bytesOf sec).length (bytesOf sec) := by
    have h := Kd.C_below (unhide C3') hb5
    rw [unhide S2] at h
    exact h
  refine (mac_ok (some ⟨w.heap.size + 1 + 1, 0, none⟩) c3 sec.size (bytesOf sec) ⟨w4.heap.size, 0, none⟩ 2 2 [n, bytesOf m] _ (bytesOf_length sec).symm C5 (bytesOf_bytes sec) (by rw [bytesOf_length]; exact unhide H1) P5 rfl (by decide) ?_ ?_).mono ?_
  · simp only [List.flatten_cons, List.flatten_nil, List.append_nil]
    exact (unhide HB).append (bytesOf_bytes m)
  · simp only [List.flatten_cons, List.flatten_nil, List.append_nil, List.length_append, bytesOf_length, unhide HN]
    have := unhide H2
    omega
  rintro e w6 ⟨rfl, hb6⟩
  have e6 : mac (bytesOf sec) [n, bytesOf m].flatten = answer sec m n := by
    unfold answer
    rw [List.flatten_cons, List.flatten_cons, List.flatten_nil, List.append_nil]
  rw [e6]
  obtain ⟨s6, hs6⟩ : ∃ z, z = answer sec m n := ⟨_, rfl⟩
  have L6 : s6.length = 32 := by rw [hs6]; exact answer_len _ _ _
  rw [← hs6]
  have R6 : Hid (Bs w6 (w.heap.size + 1) 28 (List.replicate 32 0)) := ((unhide R4).below hb5).below hb6
  have B6 : Hid (Below w.heap.size w w6) := below_step (below_step (unhide B4') hb5) hb6
  have SZ6 : Hid ((Tryd.prog.info? 28).map (·.size) = some (bys s6).size) := by show _ = _; rw [bys_size, L6]; exact size25
  have SO6 : Hid ((bys (List.replicate 32 0)).size = (bys s6).size) := by show _ = _; rw [bys_size, bys_size, L6, List.length_replicate]
  have HS6 := hide hs6
  clear P5 hb5 C5 hb6 e6 L6 hs6
  go_wp2_with (refine wpList_store_row rfl 28 (.tmp 6) (.tmp 13) rfl (w.heap.size + 1) (bys s6) rfl rfl 28 _ (unhide R6) (unhide SZ6) (unhide SO6) (bys_one _) ?_)
  refine bodyPost_ret (v := .agg (bys s6)) (results_cell_row rfl _ _ (w.heap.size + 1) 28 (bys s6) (0, 0) _ rfl (unhide R6).row Tryd.underlying28 rfl (unhide SZ6)) rfl ⟨?_, below_setRow (unhide B6) (by omega) _⟩
  rw [unhide HS6]
end Go.Proofs.YtgoephcembgmcaaDoor.Sh
namespace Go.Proofs.YtgoephcembgmcaaDoor.Sl
open Go.RowKit Go.Maps Go.Proofs.YtgoephcembgmcaaDoorW.PrintWords Go.Proofs.YtgoephcembgmcaaDoor.Wk

/-! Who is in which module: the map as a list of pairs, no key twice. -/
abbrev D1 := DataW Unit
def ent (x : Int × ByteArray) : Lit × D1 := (.int .i64 x.1, .lit (.string x.2.data.toList))
/-- The map's datum is just these pairs, in whatever order. -/
def Is (D : D1) (l : List (Int × ByteArray)) : Prop := ∃ es, D = .map es ∧ es.Perm (l.map ent)
theorem same_int (x y : Int) : (Lit.int .i64 x).sameKey (.int .i64 y) = (x == y) := by
  unfold Lit.sameKey
  rw [Bool.eq_iff_iff]
  simp
def at_ (l : List (Int × ByteArray)) (k : Int) : Bool := l.any (fun x => x.1 == k)
def out_ (l : List (Int × ByteArray)) (k : Int) : List (Int × ByteArray) := l.filter (fun x => !(x.1 == k))
def uniq_ (l : List (Int × ByteArray)) : Prop := l.Pairwise (fun x y => x.1 ≠ y.1)
def cnt_ (l : List (Int × ByteArray)) (m : ByteArray) : Nat := l.countP (fun x => decide (x.2 = m))
variable {D : D1} {l : List (Int × ByteArray)} {k : Int}
theorem Is.has (h : Is D l) (k : Int) : has D (.int .i64 k) = at_ l k := by
  obtain ⟨es, rfl, hp⟩ := h
  rw [has_eq, hp.any_eq, List.any_map]
  unfold at_
  congr 1
  funext x
  exact same_int x.1 k
theorem Is.size (h : Is D l) : Maps.size D = l.length := by
  obtain ⟨es, rfl, hp⟩ := h
  rw [size_eq, hp.length_eq, List.length_map]
theorem Is.del (h : Is D l) (k : Int) : Is (D.del (.int .i64 k)) (out_ l k) := by
  obtain ⟨es, rfl, hp⟩ := h
  refine ⟨es.filter fun p => !p.1.sameKey (.int .i64 k), rfl, (hp.filter _).trans ?_⟩
  rw [List.filter_map]
  unfold out_
  rw [show ((fun p : Lit × D1 => !p.1.sameKey (.int .i64 k)) ∘ ent) = fun x => !(x.1 == k) from funext fun x => congrArg not (same_int x.1 k)]
theorem out_none (h : at_ l k = false) : out_ l k = l := by
  unfold out_
  rw [List.filter_eq_self]
  intro x hx
  have := (List.any_eq_false.1 h) x hx
  simpa using this
theorem Is.put (h : Is D l) (k : Int) (m : ByteArray) (hk : at_ l k = false) : Is (D.put (.int .i64 k) (.lit (.string m.data.toList))) (l ++ [(k, m)]) := by
  have h2 := h.del k
  rw [out_none hk] at h2
  obtain ⟨es, rfl, hp⟩ := h
  obtain ⟨es2, he2, hp2⟩ := h2
  refine ⟨_, rfl, (Go.WideShapes.insert_perm _ _).trans ?_⟩
  have e : es.filter (fun p => !p.1.sameKey (.int .i64 k)) = es2 := by
    have := he2
    simpa [DataW.del] using this
  rw [e, List.map_append]
  exact (List.Perm.cons _ hp2).trans (List.perm_append_comm (l₁ := [ent (k, m)]))
theorem uniq_put (h : uniq_ l) (k : Int) (m : ByteArray) (hk : at_ l k = false) : uniq_ (l ++ [(k, m)]) := by
  unfold uniq_
  rw [List.pairwise_append]
  refine ⟨h, by simp, ?_⟩
  intro a ha b hb
  simp only [List.mem_singleton] at hb
  subst hb
  have := (List.any_eq_false.1 hk) a ha
  simpa using this
theorem uniq_out (h : uniq_ l) (k : Int) : uniq_ (out_ l k) := h.filter _
theorem at_put (j : Int) (m : ByteArray) : at_ (l ++ [(k, m)]) j = (at_ l j || (k == j)) := by simp [at_]
theorem at_out (j : Int) : at_ (out_ l k) j = (at_ l j && !(j == k)) := by
  unfold at_ out_
  rw [List.any_filter, Bool.eq_iff_iff]
  simp
theorem cnt_put (m m' : ByteArray) : cnt_ (l ++ [(k, m)]) m' = cnt_ l m' + (if m = m' then 1 else 0) := by
  unfold cnt_
  rw [List.countP_append]
  simp [List.countP_cons]
theorem cnt_le (m : ByteArray) : cnt_ l m ≤ l.length := List.countP_le_length
theorem len_out (h : uniq_ l) (hk : at_ l k = true) : (out_ l k).length + 1 = l.length := by
  unfold at_ out_ at *
  induction l with
  | nil => simp at hk
  | cons x r ih =>
    have hp := List.pairwise_cons.1 h
    by_cases hx : x.1 = k
    · have : r.filter (fun x => !(x.1 == k)) = r := by
        rw [List.filter_eq_self]
        intro y hy
        have := hp.1 y hy
        simp
        intro e
        exact this (hx.trans e.symm)
      simp [hx, this]
    · have hk' : r.any (fun x => x.1 == k) = true := by simpa [hx] using hk
      have := ih hp.2 hk'
      simp [hx]
      omega
/-- The module of somebody; nothing if he is nowhere. -/
def in_ (l : List (Int × ByteArray)) (k : Int) : ByteArray := match l.find? (fun x => x.1 == k) with | some x => x.2 | none => ByteArray.empty
theorem bytes_inj {a b : ByteArray} (h : a.data.toList = b.data.toList) : a = b := by
  cases a; cases b
  simp only [ByteArray.mk.injEq]
  exact Array.toList_inj.1 h
theorem pair_eq : ∀ {l : List (Lit × D1)}, l.Pairwise (fun a b => a.1 ≠ b.1) → ∀ a ∈ l, ∀ b ∈ l, a.1 = b.1 → a = b
  | [], _, a, ha, _, _, _ => by simp at ha
  | x :: r, h, a, ha, b, hb, e => by
    have hp := List.pairwise_cons.1 h
    rcases List.mem_cons.1 ha with h1 | h1
    · rcases List.mem_cons.1 hb with h2 | h2
      · rw [h1, h2]
      · exact absurd (h1 ▸ e) (hp.1 b h2)
    · rcases List.mem_cons.1 hb with h2 | h2
      · exact absurd (h2 ▸ e.symm) (hp.1 a h1)
      · exact pair_eq hp.2 a h1 b h2 e
theorem find_perm {es es' : List (Lit × D1)} (hp : es.Perm es') (hone : es'.Pairwise (fun a b => a.1 ≠ b.1)) (q : Lit) : es.find? (fun p => p.1.sameKey q) = es'.find? (fun p => p.1.sameKey q) := by
  have hone' : es.Pairwise (fun a b => a.1 ≠ b.1) := (hp.pairwise_iff (fun {a b} (h : a.1 ≠ b.1) => h.symm)).2 hone
  cases h : es.find? (fun p => p.1.sameKey q) with
  | none =>
    rw [List.find?_eq_none] at h
    symm
    rw [List.find?_eq_none]
    intro x hx
    exact h x (hp.mem_iff.2 hx)
  | some a =>
    cases h' : es'.find? (fun p => p.1.sameKey q) with
    | none =>
      rw [List.find?_eq_none] at h'
      have := h' a (hp.mem_iff.1 (List.mem_of_find?_eq_some h))
      exact absurd (List.find?_some h) this
    | some b =>
      have ha0 : a.1.sameKey q = true := List.find?_some (p := fun p : Lit × D1 => p.1.sameKey q) h
      have hb0 : b.1.sameKey q = true := List.find?_some (p := fun p : Lit × D1 => p.1.sameKey q) h'
      have ha := WideAt.sameKey_eq ha0
      have hb := WideAt.sameKey_eq hb0
      have hma := hp.mem_iff.1 (List.mem_of_find?_eq_some h)
      have hmb := List.mem_of_find?_eq_some h'
      rw [pair_eq hone a hma b hmb (ha.trans hb.symm)]
theorem Is.atKey (h : Is D l) (ho : uniq_ l) (k : Int) : D.atKey (.int .i64 k) (.lit (.string [])) = .lit (.string (in_ l k).data.toList) := by
  obtain ⟨es, rfl, hp⟩ := h
  have e := find_perm hp (by
    rw [List.pairwise_map]
    refine ho.imp ?_
    intro a b h1 h2
    simp only [ent, Lit.int.injEq, true_and] at h2
    exact h1 h2) (.int .i64 k)
  simp only [DataW.atKey]
  rw [e, List.find?_map]
  rw [show ((fun p : Lit × D1 => p.1.sameKey (.int .i64 k)) ∘ ent) = fun x => x.1 == k from funext fun x => same_int x.1 k]
  unfold in_
  cases l.find? (fun x => x.1 == k) <;> rfl
theorem Is.nil : Is (.map []) [] := ⟨[], rfl, by simp⟩
theorem uniq_nil : uniq_ [] := by simp [uniq_]
/-- What is left to count in. -/
def some_ (l : List (Int × ByteArray)) (left : Lit → Bool) (m : ByteArray) : Nat := l.countP (fun x => left (.int .i64 x.1) && decide (x.2 = m))
theorem some_all (h : Is D l) (m : ByteArray) : some_ l (Maps.has D) m = cnt_ l m := by
  unfold some_ cnt_
  apply List.countP_congr
  intro x hx
  have : Maps.has D (.int .i64 x.1) = true := by
    rw [Is.has h]
    exact List.any_eq_true.2 ⟨x, hx, by simp⟩
  simp [this]
theorem some_none {left : Lit → Bool} (h : ∀ kl, left kl = false) (m : ByteArray) : some_ l left m = 0 := by
  unfold some_
  simp [h]
theorem Is.mem {c : ByteArray} (h : Is D l) (hl : Maps.has D (.int .i64 k) = true) (ho : uniq_ l) (hat : D.atKey (.int .i64 k) (.lit (.string [])) = .lit (.string c.data.toList)) : (k, c) ∈ l := by
  rw [h.atKey ho k] at hat
  rw [h.has] at hl
  obtain ⟨x, hx, hk⟩ := List.any_eq_true.1 hl
  unfold in_ at hat
  cases hf : l.find? (fun x => x.1 == k) with
  | none =>
    rw [List.find?_eq_none] at hf
    exact absurd hk (hf x hx)
  | some y =>
    rw [hf] at hat
    have e : y.2 = c := by
      apply bytes_inj
      simpa using hat
    have := List.find?_some hf
    have hm := List.mem_of_find?_eq_some hf
    have e1 : y.1 = k := by simpa using this
    rw [← e1, ← e]
    exact hm
theorem some_step {left : Lit → Bool} {c m : ByteArray} (ho : uniq_ l) (hm : (k, c) ∈ l) (hl : left (.int .i64 k) = true) :
    some_ l left m = some_ l (fun z => left z && !z.sameKey (.int .i64 k)) m + (if c = m then 1 else 0) := by
  unfold some_
  simp only [same_int]
  induction l with
  | nil => simp at hm
  | cons x r ih =>
    have hp := List.pairwise_cons.1 ho
    rw [List.countP_cons, List.countP_cons]
    by_cases hx : x = (k, c)
    · subst hx
      have e : r.countP (fun x => left (.int .i64 x.1) && decide (x.2 = m)) = r.countP (fun x => left (.int .i64 x.1) && !(x.1 == k) && decide (x.2 = m)) := by
        apply List.countP_congr
        intro y hy
        have := hp.1 y hy
        have : (y.1 == k) = false := by
          simp
          exact fun e => this e.symm
        simp [this]
      simp [e, hl]
    · have hr : (k, c) ∈ r := by
        rcases List.mem_cons.1 hm with h | h
        · exact absurd h.symm hx
        · exact h
      have hne : (x.1 == k) = false := by
        have := hp.1 _ hr
        simpa using this
      rw [ih hp.2 hr]
      simp [hne]
      omega
end Go.Proofs.YtgoephcembgmcaaDoor.Sl
namespace Go.Proofs.YtgoephcembgmcaaDoor.Sl
open Go.RowKit Go.Maps Go.Proofs.YtgoephcembgmcaaDoorW.PrintWords Go.Proofs.YtgoephcembgmcaaDoorW.PrintLast Go.Proofs.YtgoephcembgmcaaDoor.Wk

/-! Package slot: each function once. Slots lie in block g, their map in block b. -/
theorem law3 : Keyed Tryd.prog 3 := int_keyed Tryd.underlying3
def Slots (w : World) (g b : Nat) (l : List (Int × ByteArray)) : Prop :=
  w.heap[g]? = some (.cells #[.map (some b)] 124 (0, 0)) ∧ (∃ D : D1, w.ownsMap Tryd.prog 3 (plainElem Tryd.prog 9) b l.length D ∧ Is D l) ∧ uniq_ l
theorem len_owns {w : World} {b n : Nat} {D : D1} (h : w.ownsMap Tryd.prog 3 (plainElem Tryd.prog 9) b n D) {l : List (Int × ByteArray)} (hi : Is D l) : w.ownsMap Tryd.prog 3 (plainElem Tryd.prog 9) b l.length D := by
  have hs := hi.size
  obtain ⟨es, clock, hb, F, h1, rfl⟩ := h
  refine ⟨es, clock, hb, F, ?_, rfl⟩
  rw [← hs]
  simp [Maps.size, length_sorted]
variable {w w' : World} {g b : Nat} {l : List (Int × ByteArray)}
theorem Slots.cell (h : Slots w g b l) : w.cell? ⟨g, 0, none⟩ = some (.map (some b)) ∧ w.frozen? ⟨g, 0, none⟩ = false ∧ g < w.heap.size :=
  ⟨(blk_cell h.1 0).trans rfl, blk_frozen h.1 0, blk_lt h.1⟩
theorem Slots.lt (h : Slots w g b l) : b < w.heap.size := by
  obtain ⟨_, ⟨D, h1, _⟩, _⟩ := h
  exact h1.lt
theorem Slots.ne (h : Slots w g b l) : g ≠ b := by
  obtain ⟨h0, ⟨D, ⟨es, clock, h1, _⟩, _⟩, _⟩ := h
  intro e
  rw [e, h1] at h0
  cases h0
theorem Slots.keep (h : Slots w g b l) (h1 : w'.heap[g]? = w.heap[g]?) (h2 : w'.heap[b]? = w.heap[b]?) : Slots w' g b l := by
  obtain ⟨h0, ⟨D, ⟨es, clock, h3, r⟩, hi⟩, ho⟩ := h
  exact ⟨h1.trans h0, ⟨D, ⟨es, clock, h2.trans h3, r⟩, hi⟩, ho⟩
theorem Slots.below (h : Slots w g b l) (hb : Below w.heap.size w w') : Slots w' g b l := h.keep (hb.block g h.cell.2.2) (hb.block b h.lt)
theorem Slots.alloc (h : Slots w g b l) (o : Obj) : Slots (w.alloc o) g b l := h.below (below_alloc (Below.refl _ _) o)
theorem Slots.set (h : Slots w g b l) {a : Addr} (u : Value) (h1 : g ≠ a.block) (h2 : b ≠ a.block) : Slots (w.setCell a u) g b l := h.keep (Below.heap_setCell w a u g h1) (Below.heap_setCell w a u b h2)

theorem new_ok (w : World) : Calls Tryd.prog 16 #[] w fun e w' => e = .returned (.pointer (some ⟨w.heap.size + 1, 0, none⟩)) ∧ Slots w' (w.heap.size + 1) w.heap.size [] ∧ Below w.heap.size w w' := by
  have hmm := @run_makeMap Tryd.prog
  go_enter Tryd.func16, Tryd.ntmps16
  go_wp2
  go_ret
  refine ⟨rfl, ⟨heap_alloc2_new _ _ _, ⟨.map [], (World.ownsMap_made w _ _ _).alloc _, Is.nil⟩, uniq_nil⟩, below_alloc (below_alloc (Below.refl _ _) _) _⟩

theorem zero9 (w : World) : (zeroValue 9).run Tryd.prog w = .ok (.string ByteArray.empty) w := by kernel_rfl
theorem Slots.look (h : Slots w g b l) (k : Int) (hk : (Lit.int .i64 k).wf = true) : (Instr.lookup 122 (.map (some b)) (.int .i64 k) true).run Tryd.prog w = .ok (.tuple #[.string (in_ l k), .bool (at_ l k)]) w := by
  obtain ⟨h0, ⟨D, hown, hi⟩, ho⟩ := h
  obtain ⟨v, ps, hr, hv⟩ := hown.look_ok law3 Tryd.underlying122 (zero9 w) (zd := .lit (.string [])) (zp := []) (plainElem_string Tryd.underlying9 (by decide)) (keyOf_int_mk Tryd.underlying3 hk)
  obtain ⟨s, rfl, hs, _⟩ := plainElem_string_inv Tryd.underlying9 hv
  rw [hi.atKey ho] at hs
  obtain rfl : s = in_ l k := bytes_inj (by simpa using (congrArg Prod.fst hs).symm)
  rw [hi.has] at hr
  exact hr
theorem Slots.long (h : Slots w g b l) : (Builtin.len_ #[122] 3 #[.map (some b)]).run Tryd.prog w = .ok (.int .i64 (l.length : Int)) w := by
  obtain ⟨h0, ⟨D, hown, hi⟩, ho⟩ := h
  rw [← hi.size]
  exact hown.len Tryd.underlying122 3
theorem Slots.turned (h : Slots w g b l) (ht : w.mapTurned w' b) : w'.heap[g]? = some (.cells #[.map (some b)] 124 (0, 0)) :=
  (ht.grown.block g h.cell.2.2 (fun e => h.ne (Option.some.inj e))).trans h.1
theorem Slots.drop_ (h : Slots w g b l) (k : Int) (hk : (Lit.int .i64 k).wf = true) (ty : TypeId) : ∃ w', (Builtin.delete_ #[122, 3] ty #[.map (some b), .int .i64 k]).run Tryd.prog w = .ok (.tuple #[]) w' ∧ Slots w' g b (out_ l k) ∧ w.mapTurned w' b := by
  have h' := h
  obtain ⟨h0, ⟨D, hown, hi⟩, ho⟩ := h
  obtain ⟨w', hr, h1, ht⟩ := hown.drop law3 Tryd.underlying122 (keyOf_int_mk Tryd.underlying3 hk) ty
  exact ⟨w', hr, ⟨h'.turned ht, ⟨_, len_owns h1 (hi.del k), hi.del k⟩, uniq_out ho k⟩, ht⟩
theorem Slots.store_ (h : Slots w g b l) (k : Int) (m : ByteArray) (hk : (Lit.int .i64 k).wf = true) (hm : m.size ≤ maxLen) (hl : l.length < maxLen) (ha : at_ l k = false) :
    ∃ w', (Instr.mapUpdate 122 (.map (some b)) (.int .i64 k) (.string m)).run Tryd.prog w = .ok () w' ∧ Slots w' g b (l ++ [(k, m)]) ∧ w.mapTurned w' b := by
  have h' := h
  obtain ⟨h0, ⟨D, hown, hi⟩, ho⟩ := h
  obtain ⟨w', hr, h1, ht⟩ := hown.store law3 Tryd.underlying122 hl (keyOf_int_mk Tryd.underlying3 hk) (plainElem_string Tryd.underlying9 hm)
  exact ⟨w', hr, ⟨h'.turned ht, ⟨_, len_owns h1 (hi.put k m ha), hi.put k m ha⟩, uniq_put ho k m ha⟩, ht⟩

end Go.Proofs.YtgoephcembgmcaaDoor.Sl
namespace Go.Proofs.YtgoephcembgmcaaDoor.Sl
open Go.RowKit Go.Maps Go.Proofs.YtgoephcembgmcaaDoorW.PrintWords Go.Proofs.YtgoephcembgmcaaDoorW.PrintLast Go.Proofs.YtgoephcembgmcaaDoor.Wk
open Go.Proofs.YtgoephcembgmcaaDoor.WkM (w64)

theorem str_eq {a b : ByteArray} (h : a = b) : (a.toList == b.toList) = true := by rw [h]; simp
theorem str_ne {a b : ByteArray} (h : ¬a = b) : (a.toList == b.toList) = false := by
  rw [ByteArray.toList_eq, ByteArray.toList_eq]
  cases hs : a.data.toList == b.data.toList
  · rfl
  · exact absurd (bytes_inj (by simpa using hs)) h
set_option maxRecDepth 100000 in
theorem count_ok (g b : Nat) (l : List (Int × ByteArray)) (m : ByteArray) (w : World) (h : Slots w g b l) (hl : l.length ≤ 1000) :
    Calls Tryd.prog 19 #[.pointer (some ⟨g, 0, none⟩), .string m] w fun e w' => e = .returned (.int .i64 (cnt_ l m : Int)) ∧ Below w.heap.size w w' := by
  have hu77 := Tryd.underlying124
  obtain ⟨c1, c2, c3⟩ := h.cell
  obtain ⟨h0, ⟨D, hown, hi⟩, ho⟩ := h
  have hcl := cnt_le (l := l) m
  have HI := hide hi
  have H1 := hide ho
  clear h0 hi ho
  go_enter Tryd.func19, Tryd.ntmps19
  go_wp2_with (first
    | (at_range; refine wpList_range_own _ rfl _ 122 rfl 3 9 law3 Tryd.underlying122 _ b l.length _ rfl hown ?_; intro w0 hrg0 hg0 hs0)
    | go_in)
  go_frame
  clear hown
  go_loopw [5] (fun v5 wr => ∃ (left : Lit → Bool) (cnt c : Nat), v5 = .int .i64 (c : Int) ∧ wr.ranges Tryd.prog 3 (plainElem Tryd.prog 9) b w.heap.size l.length D left cnt ∧ c + some_ l left m = cnt_ l m ∧ (∀ k, left (.int .i64 k) = true → Maps.has D (.int .i64 k) = true) ∧ Below w.heap.size w wr)
    (fun _ wr => wr.rangeLeft b w.heap.size)
  case atStart =>
    exact ⟨_, _, 0, rfl, hrg0, by rw [some_all (unhide HI), Nat.zero_add], fun _ h => h, (Below.refl _ _).grown hg0 (by simp) (fun j hj => by cases hj)⟩
  case round =>
    obtain ⟨left, cnt, c, rfl, hrg, hc, hlf, hB⟩ := hrel
    go_wp2_with (first
      | (at_next; refine wpList_next_ranges_is _ rfl _ rfl 3 9 .i64 law3 Tryd.underlying3 Tryd.underlying9 b w.heap.size l.length _ _ _ rfl hrg ?_ ?_)
      | go_in)
    · intro hc0 hl0
      rw [some_none hl0] at hc
      have e : c = cnt_ l m := by omega
      subst e
      go_wp2
      go_ret
      exact ⟨rfl, hB⟩
    · intro x s w1 cnt1 hwx hs hlx hat hrg1 hlt hg1 hs1 hen
      have hmem := (unhide HI).mem (hlf x hlx) (unhide H1) (hat _)
      have hst := some_step (m := m) (unhide H1) hmem hlx
      have hB1 := hide (hB.grown hg1 hB.size (fun j hj => by cases hj; exact Nat.le_refl _))
      have hlf1 : Hid (∀ k, (fun z : Lit => left z && !z.sameKey (.int .i64 x)) (.int .i64 k) = true → Maps.has D (.int .i64 k) = true) := fun k hk => hlf k (by
        simp only [Bool.and_eq_true] at hk
        exact hk.1)
      rw [hst] at hc
      have HR := hide hrg
      have HR1 := hide hrg1
      have HLT := hide hlt
      clear hst hlf hat hmem hrg hrg1 hB hlt hg1 hs1 hg0 hs0 hrg0 hwx hs hlx
      by_cases e : s = m
      · have hd := str_eq e
        rw [if_pos e] at hc
        have hw : wrap64 ((c : Int) + 1) = ((c + 1 : Nat) : Int) := by rw [w64 _ (by omega) (by omega)]; rfl
        have HX : Hid (c + 1 + some_ l (fun z => left z && !z.sameKey (.int .i64 x)) m = cnt_ l m) := by show _ = _; omega
        clear hc hl hcl
        go_wp2
        go_roundw
        case rel => exact ⟨_, cnt1, c + 1, congrArg _ hw, unhide HR1, unhide HX, unhide hlf1, unhide hB1⟩
        case measure => rw [(unhide HR1).left_eq, (unhide HR).left_eq]; exact unhide HLT
      · rw [if_neg e] at hc
        have hd := str_ne e
        have HX : Hid (c + some_ l (fun z => left z && !z.sameKey (.int .i64 x)) m = cnt_ l m) := by show _ = _; omega
        clear hc hl hcl
        go_wp2
        go_roundw
        case rel => exact ⟨_, cnt1, c, rfl, unhide HR1, unhide HX, unhide hlf1, unhide hB1⟩
        case measure => rw [(unhide HR1).left_eq, (unhide HR).left_eq]; exact unhide HLT
end Go.Proofs.YtgoephcembgmcaaDoor.Sl
namespace Go.Proofs.YtgoephcembgmcaaDoor.Sl
open Go.RowKit Go.Maps Go.Proofs.YtgoephcembgmcaaDoorW.PrintWords Go.Proofs.YtgoephcembgmcaaDoorW.PrintLast Go.Proofs.YtgoephcembgmcaaDoor.Wk

/-- A module's box: its name, its number of slots. -/
def Mod (w : World) (n : Nat) (m : ByteArray) (x1 x2 : Value) (c : Int) (x4 x5 : Value) : Prop := w.heap[n]? = some (.cells #[.string m, x1, x2, .int .i64 c, x4, x5] 65 (0, 0))
theorem Mod.cells {w : World} {n : Nat} {m : ByteArray} {x1 x2 x4 x5 : Value} {c : Int} (h : Mod w n m x1 x2 c x4 x5) :
    w.cell? ⟨n, 0, none⟩ = some (.string m) ∧ w.cell? ⟨n, 3, none⟩ = some (.int .i64 c) := ⟨(blk_cell h 0).trans rfl, (blk_cell h 3).trans rfl⟩
def T26_4 : Bool × List (List Nat × List Nat) := (true, [([], []), ([], []), ([1], [1]), ([0, 2], [0, 2]), ([], []), ([4], [4]), ([3, 5], [3, 5])])
def BT26_4 : List Nat := [0, 0, 2, 7, 0, 16, 63]
theorem tabT26_4 : rtab .any (opsOf Tryd.f18 4) = T26_4 := by kernel_rfl
theorem bitsT26_4 : waitsOk T26_4.2 BT26_4 = true := by kernel_rfl
def T26_6 : Bool × List (List Nat × List Nat) := (true, [([], []), ([0], [0]), ([1], [1]), ([2], [2]), ([], []), ([], []), ([5], [5]), ([3, 4, 6, 0, 1, 2, 3, 4, 5, 6], [3, 4, 6])])
def BT26_6 : List Nat := [0, 1, 3, 7, 0, 0, 32, 127]
theorem tabT26_6 : rtab .any (opsOf Tryd.f18 6) = T26_6 := by kernel_rfl
theorem bitsT26_6 : waitsOk T26_6.2 BT26_6 = true := by kernel_rfl

def eres (l : List (Int × ByteArray)) (k : Int) (m : ByteArray) (c : Int) : Int := if at_ l k then 5 else if c ≤ (cnt_ l m : Int) then 150 else 0
def eput (l : List (Int × ByteArray)) (k : Int) (m : ByteArray) (c : Int) : List (Int × ByteArray) := if at_ l k then l else if c ≤ (cnt_ l m : Int) then l else l ++ [(k, m)]
set_option maxRecDepth 100000 in
theorem enter_twice (g b : Nat) (l : List (Int × ByteArray)) (k : Int) (m : ByteArray) (x1 x2 x4 x5 : Value) (c : Int) (w : World) (h : Slots w g b l) (hk : (Lit.int .i64 k).wf = true) (ha : at_ l k = true) :
    Calls Tryd.prog 18 #[.pointer (some ⟨g, 0, none⟩), .int .i64 k, .agg #[.string m, x1, x2, .int .i64 c, x4, x5]] w fun e w' => e = .returned (.int .i64 5) ∧ Slots w' g b l ∧ Below w.heap.size w w' := by
  have hu77 := Tryd.underlying124
  have hu49 := Tryd.underlying65
  have h1 := h.alloc (.cells #[.string m, x1, x2, .int .i64 c, x4, x5] 65)
  obtain ⟨c1, c2, c3⟩ := h1.cell
  have hlook := h1.look k hk
  rw [ha] at hlook
  have H1 := hide h1
  clear h h1
  go_enter Tryd.func18, Tryd.ntmps18
  go_wp2
  go_ret
  exact ⟨rfl, unhide H1, below_alloc (Below.refl _ _) _⟩
set_option maxRecDepth 100000 in
set_option maxHeartbeats 1000000 in
theorem enter_full (g b : Nat) (l : List (Int × ByteArray)) (k : Int) (m : ByteArray) (x1 x2 x4 x5 : Value) (c : Int) (w : World) (h : Slots w g b l) (hk : (Lit.int .i64 k).wf = true) (hl : l.length ≤ 1000) (ha : at_ l k = false) (hc : c ≤ (cnt_ l m : Int)) :
    Calls Tryd.prog 18 #[.pointer (some ⟨g, 0, none⟩), .int .i64 k, .agg #[.string m, x1, x2, .int .i64 c, x4, x5]] w fun e w' => e = .returned (.int .i64 150) ∧ Slots w' g b l ∧ Below w.heap.size w w' := by
  have hu77 := Tryd.underlying124
  have hu49 := Tryd.underlying65
  have h1 := h.alloc (.cells #[.string m, x1, x2, .int .i64 c, x4, x5] 65)
  obtain ⟨c1, c2, c3⟩ := h1.cell
  have hlook := h1.look k hk
  rw [ha] at hlook
  have H1 := hide h1
  have M1 : Hid (Mod (w.alloc (.cells #[.string m, x1, x2, .int .i64 c, x4, x5] 65)) w.heap.size m x1 x2 c x4 x5) := blk_new _ _
  have B1 := hide (below_alloc (Below.refl w.heap.size w) (.cells #[.string m, x1, x2, .int .i64 c, x4, x5] 65))
  have HL := hide hl
  clear h h1
  go_enter Tryd.func18, Tryd.ntmps18
  go_wp2
  clear c1 c2 c3 hlook
  replace H1 : Hid (Slots (w.alloc (.cells #[.string m, x1, x2, .int .i64 c, x4, x5] 65)).drew g b l) := unhide H1
  replace M1 : Hid (Mod (w.alloc (.cells #[.string m, x1, x2, .int .i64 c, x4, x5] 65)).drew w.heap.size m x1 x2 c x4 x5) := unhide M1
  replace B1 := hide (below_drew1 (unhide B1))
  refine start_ (n := 7) (S := fun w' => Mod w' w.heap.size m x1 x2 c x4 x5) (ds := []) #[false, false, false, false, false, false, false] (by kernel_rfl) rfl rfl (unhide M1) (fun hHeld => ?_)
  refine with_tabW tabT26_4 bitsT26_4 (fun HT_ HW_ => ?_)
  refine pure_ (i := 0) (N := some 19) (v := ?_) (a' := ?_) #[true, false, false, false, false, false, false] rfl rfl (any_of HT_.out (by kernel_rfl)) (fun _ _ _ h => h) (Or.inl ⟨by rfl, ?_⟩) ?_ ?_
  rotate_left
  · intro w'
    go_simp
    with_reducible rfl
  rotate_left
  · simp only [Act.put, List.setIfInBounds_toArray, List.set_cons_zero, List.set_cons_succ, i64_w, i32_w]
    rfl
  refine pure_ (i := 1) (N := some 20) (v := ?_) (a' := ?_) #[true, true, false, false, false, false, false] rfl rfl (any_of HT_.out (by kernel_rfl)) (fun _ _ _ h => h) (Or.inl ⟨by rfl, ?_⟩) ?_ ?_
  rotate_left
  · intro w'
    go_simp
    with_reducible rfl
  rotate_left
  · simp only [Act.put, List.setIfInBounds_toArray, List.set_cons_zero, List.set_cons_succ, i64_w, i32_w]
    rfl
  refine take_ (i := 2) (N := some 21) (v := ?_) (a' := ?_) #[true, true, true, false, false, false, false] rfl rfl (take_ofW HT_.out HW_.out (by kernel_rfl)) (fun _ _ _ h => h) (Or.inl ⟨by rfl, ?_⟩) hHeld ?_ ?_
  rotate_left
  · rintro w' h1_
    obtain ⟨_, _⟩ := Mod.cells h1_
    go_simp
    with_reducible rfl
  rotate_left
  · simp only [Act.put, List.setIfInBounds_toArray, List.set_cons_zero, List.set_cons_succ, i64_w, i32_w]
    rfl
  refine pure_ (i := 4) (N := some 23) (v := ?_) (a' := ?_) #[true, true, true, false, true, false, false] rfl rfl (any_of HT_.out (by kernel_rfl)) (fun _ _ _ h => h) (Or.inl ⟨by rfl, ?_⟩) ?_ ?_
  rotate_left
  · intro w'
    go_simp
    with_reducible rfl
  rotate_left
  · simp only [Act.put, List.setIfInBounds_toArray, List.set_cons_zero, List.set_cons_succ, i64_w, i32_w]
    rfl
  refine take_ (i := 5) (N := some 24) (v := ?_) (a' := ?_) #[true, true, true, false, true, true, false] rfl rfl (take_ofW HT_.out HW_.out (by kernel_rfl)) (fun _ _ _ h => h) (Or.inl ⟨by rfl, ?_⟩) hHeld ?_ ?_
  rotate_left
  · rintro w' h1_
    obtain ⟨_, _⟩ := Mod.cells h1_
    go_simp
    with_reducible rfl
  rotate_left
  · simp only [Act.put, List.setIfInBounds_toArray, List.set_cons_zero, List.set_cons_succ, i64_w, i32_w]
    rfl
  refine one_ (i := 3) (N := some 22) #[true, true, true, true, true, true, false] rfl rfl (one_of HT_.out (by kernel_rfl)) (by decide) (fun K hK => ?_)
  refine goes_ Tryd.func19 (by kernel_rfl) rfl #[.pointer (some ⟨g, 0, none⟩), .string m] (by rfl) rfl rfl (by (try simp only [List.map_toArray, List.map_cons, List.map_nil]); first | done | rfl) ?_
  refine (count_ok g b l m _ (unhide H1) (unhide HL)).mono ?_
  rintro e w1 ⟨rfl, hb1⟩
  refine ⟨_, rfl, ?_⟩
  have H2 := hide ((unhide H1).below hb1)
  have M2 := hide (blk_below (unhide M1) hb1)
  have B2 := hide (below_step (unhide B1) hb1)
  clear hb1
  clear hHeld
  refine hK.out _ _ (unhide M2) (fun hHeld => ?_)
  clear hK K
  refine norm_ (a' := ?_) ?_ ?_
  rotate_left
  · show Act.put _ (some 22) _ = _
    simp only [Act.put, List.setIfInBounds_toArray, List.set_cons_zero, List.set_cons_succ, i64_w, i32_w]
    rfl
  refine pure_ (i := 6) (N := some 25) (v := ?_) (a' := ?_) #[true, true, true, true, true, true, true] rfl rfl (any_of HT_.out (by kernel_rfl)) (fun _ _ _ h => h) (Or.inl ⟨by rfl, ?_⟩) ?_ ?_
  rotate_left
  · intro w'
    go_simp
    with_reducible rfl
  rotate_left
  · simp only [Act.put, List.setIfInBounds_toArray, List.set_cons_zero, List.set_cons_succ, i64_w, i32_w]
    rfl
  refine done_ (done_of HT_.out (by kernel_rfl)) ?_
  clear HT_ HW_ hHeld
  go_wp2
  go_ret
  exact ⟨rfl, unhide H2, unhide B2⟩
set_option maxRecDepth 100000 in
set_option maxHeartbeats 1000000 in
theorem enter_put (g b base : Nat) (l : List (Int × ByteArray)) (k : Int) (m : ByteArray) (x1 x2 x4 x5 : Value) (c : Int) (w : World) (h : Slots w g b l) (hk : (Lit.int .i64 k).wf = true) (hl : l.length ≤ 1000) (ha : at_ l k = false) (hc : ¬ c ≤ (cnt_ l m : Int)) (hm : m.size ≤ maxLen) (hb : base ≤ b) (hbw : base ≤ w.heap.size) :
    Calls Tryd.prog 18 #[.pointer (some ⟨g, 0, none⟩), .int .i64 k, .agg #[.string m, x1, x2, .int .i64 c, x4, x5]] w fun e w' => e = .returned (.int .i64 0) ∧ Slots w' g b (l ++ [(k, m)]) ∧ Below base w w' ∧ KeepBut w w' b none := by
  have hu77 := Tryd.underlying124
  have hu49 := Tryd.underlying65
  have h1 := h.alloc (.cells #[.string m, x1, x2, .int .i64 c, x4, x5] 65)
  obtain ⟨c1, c2, c3⟩ := h1.cell
  have hlook := h1.look k hk
  rw [ha] at hlook
  have H1 := hide h1
  have M1 : Hid (Mod (w.alloc (.cells #[.string m, x1, x2, .int .i64 c, x4, x5] 65)) w.heap.size m x1 x2 c x4 x5) := blk_new _ _
  have B1 := hide (below_alloc (Below.refl w.heap.size w) (.cells #[.string m, x1, x2, .int .i64 c, x4, x5] 65))
  have HL := hide hl
  clear h h1
  go_enter Tryd.func18, Tryd.ntmps18
  go_wp2
  clear c1 c2 c3 hlook
  replace H1 : Hid (Slots (w.alloc (.cells #[.string m, x1, x2, .int .i64 c, x4, x5] 65)).drew g b l) := unhide H1
  replace M1 : Hid (Mod (w.alloc (.cells #[.string m, x1, x2, .int .i64 c, x4, x5] 65)).drew w.heap.size m x1 x2 c x4 x5) := unhide M1
  replace B1 := hide (below_drew1 (unhide B1))
  refine start_ (n := 7) (S := fun w' => Mod w' w.heap.size m x1 x2 c x4 x5) (ds := []) #[false, false, false, false, false, false, false] (by kernel_rfl) rfl rfl (unhide M1) (fun hHeld => ?_)
  refine with_tabW tabT26_4 bitsT26_4 (fun HT_ HW_ => ?_)
  refine pure_ (i := 0) (N := some 19) (v := ?_) (a' := ?_) #[true, false, false, false, false, false, false] rfl rfl (any_of HT_.out (by kernel_rfl)) (fun _ _ _ h => h) (Or.inl ⟨by rfl, ?_⟩) ?_ ?_
  rotate_left
  · intro w'
    go_simp
    with_reducible rfl
  rotate_left
  · simp only [Act.put, List.setIfInBounds_toArray, List.set_cons_zero, List.set_cons_succ, i64_w, i32_w]
    rfl
  refine pure_ (i := 1) (N := some 20) (v := ?_) (a' := ?_) #[true, true, false, false, false, false, false] rfl rfl (any_of HT_.out (by kernel_rfl)) (fun _ _ _ h => h) (Or.inl ⟨by rfl, ?_⟩) ?_ ?_
  rotate_left
  · intro w'
    go_simp
    with_reducible rfl
  rotate_left
  · simp only [Act.put, List.setIfInBounds_toArray, List.set_cons_zero, List.set_cons_succ, i64_w, i32_w]
    rfl
  refine take_ (i := 2) (N := some 21) (v := ?_) (a' := ?_) #[true, true, true, false, false, false, false] rfl rfl (take_ofW HT_.out HW_.out (by kernel_rfl)) (fun _ _ _ h => h) (Or.inl ⟨by rfl, ?_⟩) hHeld ?_ ?_
  rotate_left
  · rintro w' h1_
    obtain ⟨_, _⟩ := Mod.cells h1_
    go_simp
    with_reducible rfl
  rotate_left
  · simp only [Act.put, List.setIfInBounds_toArray, List.set_cons_zero, List.set_cons_succ, i64_w, i32_w]
    rfl
  refine pure_ (i := 4) (N := some 23) (v := ?_) (a' := ?_) #[true, true, true, false, true, false, false] rfl rfl (any_of HT_.out (by kernel_rfl)) (fun _ _ _ h => h) (Or.inl ⟨by rfl, ?_⟩) ?_ ?_
  rotate_left
  · intro w'
    go_simp
    with_reducible rfl
  rotate_left
  · simp only [Act.put, List.setIfInBounds_toArray, List.set_cons_zero, List.set_cons_succ, i64_w, i32_w]
    rfl
  refine take_ (i := 5) (N := some 24) (v := ?_) (a' := ?_) #[true, true, true, false, true, true, false] rfl rfl (take_ofW HT_.out HW_.out (by kernel_rfl)) (fun _ _ _ h => h) (Or.inl ⟨by rfl, ?_⟩) hHeld ?_ ?_
  rotate_left
  · rintro w' h1_
    obtain ⟨_, _⟩ := Mod.cells h1_
    go_simp
    with_reducible rfl
  rotate_left
  · simp only [Act.put, List.setIfInBounds_toArray, List.set_cons_zero, List.set_cons_succ, i64_w, i32_w]
    rfl
  refine one_ (i := 3) (N := some 22) #[true, true, true, true, true, true, false] rfl rfl (one_of HT_.out (by kernel_rfl)) (by decide) (fun K hK => ?_)
  refine goes_ Tryd.func19 (by kernel_rfl) rfl #[.pointer (some ⟨g, 0, none⟩), .string m] (by rfl) rfl rfl (by (try simp only [List.map_toArray, List.map_cons, List.map_nil]); first | done | rfl) ?_
  refine (count_ok g b l m _ (unhide H1) (unhide HL)).mono ?_
  rintro e w1 ⟨rfl, hb1⟩
  refine ⟨_, rfl, ?_⟩
  have H2 := hide ((unhide H1).below hb1)
  have M2 := hide (blk_below (unhide M1) hb1)
  have B2 := hide (below_step (unhide B1) hb1)
  clear hb1
  clear hHeld
  refine hK.out _ _ (unhide M2) (fun hHeld => ?_)
  clear hK K
  refine norm_ (a' := ?_) ?_ ?_
  rotate_left
  · show Act.put _ (some 22) _ = _
    simp only [Act.put, List.setIfInBounds_toArray, List.set_cons_zero, List.set_cons_succ, i64_w, i32_w]
    rfl
  refine pure_ (i := 6) (N := some 25) (v := ?_) (a' := ?_) #[true, true, true, true, true, true, true] rfl rfl (any_of HT_.out (by kernel_rfl)) (fun _ _ _ h => h) (Or.inl ⟨by rfl, ?_⟩) ?_ ?_
  rotate_left
  · intro w'
    go_simp
    with_reducible rfl
  rotate_left
  · simp only [Act.put, List.setIfInBounds_toArray, List.set_cons_zero, List.set_cons_succ, i64_w, i32_w]
    rfl
  refine done_ (done_of HT_.out (by kernel_rfl)) ?_
  clear HT_ HW_ hHeld
  go_wp2
  replace H2 : Hid (Slots w1.drew g b l) := unhide H2
  replace M2 : Hid (Mod w1.drew w.heap.size m x1 x2 c x4 x5) := unhide M2
  replace B2 := hide (below_drew1 (unhide B2))
  obtain ⟨w2, hst, hs2, ht⟩ := (unhide H2).store_ k m hk hm (by unfold maxLen; have := unhide HL; omega) ha
  have H3 := hide hs2
  have HT := hide ht
  have HST := hide hst
  clear hs2 ht hst
  refine start_ (n := 8) (S := fun w' => Mod w' w.heap.size m x1 x2 c x4 x5 ∧ Slots w' g b l) (ds := [7]) #[false, false, false, false, false, false, false, false] (by kernel_rfl) rfl rfl ⟨unhide M2, unhide H2⟩ (fun hHeld => ?_)
  refine with_tabW tabT26_6 bitsT26_6 (fun HT_ HW_ => ?_)
  refine pure_ (i := 0) (N := some 26) (v := ?_) (a' := ?_) #[true, false, false, false, false, false, false, false] rfl rfl (any_of HT_.out (by kernel_rfl)) (fun _ _ _ h => h) (Or.inl ⟨by rfl, ?_⟩) ?_ ?_
  rotate_left
  · intro w'
    go_simp
    with_reducible rfl
  rotate_left
  · simp only [Act.put, List.setIfInBounds_toArray, List.set_cons_zero, List.set_cons_succ, i64_w, i32_w]
    rfl
  refine pure_ (i := 1) (N := some 27) (v := ?_) (a' := ?_) #[true, true, false, false, false, false, false, false] rfl rfl (any_of HT_.out (by kernel_rfl)) (fun _ _ _ h => h) (Or.inl ⟨by rfl, ?_⟩) ?_ ?_
  rotate_left
  · intro w'
    go_simp
    with_reducible rfl
  rotate_left
  · simp only [Act.put, List.setIfInBounds_toArray, List.set_cons_zero, List.set_cons_succ, i64_w, i32_w]
    rfl
  refine pure_ (i := 2) (N := some 28) (v := ?_) (a' := ?_) #[true, true, true, false, false, false, false, false] rfl rfl (any_of HT_.out (by kernel_rfl)) (fun _ _ _ h => h) (Or.inl ⟨by rfl, ?_⟩) ?_ ?_
  rotate_left
  · intro w'
    go_simp
    with_reducible rfl
  rotate_left
  · simp only [Act.put, List.setIfInBounds_toArray, List.set_cons_zero, List.set_cons_succ, i64_w, i32_w]
    rfl
  refine take_ (i := 3) (N := some 29) (v := ?_) (a' := ?_) #[true, true, true, true, false, false, false, false] rfl rfl (take_ofW HT_.out HW_.out (by kernel_rfl)) (fun _ _ _ h => h) (Or.inl ⟨by rfl, ?_⟩) hHeld ?_ ?_
  rotate_left
  · rintro w' ⟨h1_, h2_⟩
    obtain ⟨_, _⟩ := Mod.cells h1_
    obtain ⟨_, _, _⟩ := h2_.cell
    go_simp
    with_reducible rfl
  rotate_left
  · simp only [Act.put, List.setIfInBounds_toArray, List.set_cons_zero, List.set_cons_succ, i64_w, i32_w]
    rfl
  refine pure_ (i := 4) (N := some 30) (v := ?_) (a' := ?_) #[true, true, true, true, true, false, false, false] rfl rfl (any_of HT_.out (by kernel_rfl)) (fun _ _ _ h => h) (Or.inl ⟨by rfl, ?_⟩) ?_ ?_
  rotate_left
  · intro w'
    go_simp
    with_reducible rfl
  rotate_left
  · simp only [Act.put, List.setIfInBounds_toArray, List.set_cons_zero, List.set_cons_succ, i64_w, i32_w]
    rfl
  refine pure_ (i := 5) (N := some 31) (v := ?_) (a' := ?_) #[true, true, true, true, true, true, false, false] rfl rfl (any_of HT_.out (by kernel_rfl)) (fun _ _ _ h => h) (Or.inl ⟨by rfl, ?_⟩) ?_ ?_
  rotate_left
  · intro w'
    go_simp
    with_reducible rfl
  rotate_left
  · simp only [Act.put, List.setIfInBounds_toArray, List.set_cons_zero, List.set_cons_succ, i64_w, i32_w]
    rfl
  refine take_ (i := 6) (N := some 32) (v := ?_) (a' := ?_) #[true, true, true, true, true, true, true, false] rfl rfl (take_ofW HT_.out HW_.out (by kernel_rfl)) (fun _ _ _ h => h) (Or.inl ⟨by rfl, ?_⟩) hHeld ?_ ?_
  rotate_left
  · rintro w' ⟨h1_, h2_⟩
    obtain ⟨_, _⟩ := Mod.cells h1_
    obtain ⟨_, _, _⟩ := h2_.cell
    go_simp
    with_reducible rfl
  rotate_left
  · simp only [Act.put, List.setIfInBounds_toArray, List.set_cons_zero, List.set_cons_succ, i64_w, i32_w]
    rfl
  refine last_ (i := 7) (N := none) #[true, true, true, true, true, true, true, true] rfl rfl (one_of HT_.out (by kernel_rfl)) (by decide) (fun K hK => ?_)
  have hst := unhide HST
  refine skip_ (w1 := w2) (by rfl) rfl ?hrun ?_
  case hrun =>
    go_simp
  refine hK.out _ _ ?_
  clear hst
  clear hK K
  refine done_ (done_of HT_.out (by kernel_rfl)) ?_
  clear HT_ HW_; (try clear hHeld)
  go_wp2
  go_ret
  refine ⟨rfl, unhide H3, ((unhide B2).mono (by omega)).grown (unhide HT).grown (by have := (unhide B2).size; omega) (fun j hj => by cases hj; exact hb), ?_⟩
  refine ⟨Nat.le_trans (unhide B2).size (unhide HT).grown.size, fun i hi hn _ => ((unhide HT).grown.block i (Nat.lt_of_lt_of_le hi (unhide B2).size) (fun e => hn (Option.some.inj e))).trans ((unhide B2).block i hi)⟩
/-- Enter. -/
theorem enter_ok (g b base : Nat) (l : List (Int × ByteArray)) (k : Int) (m : ByteArray) (x1 x2 x4 x5 : Value) (c : Int) (w : World) (h : Slots w g b l) (hk : (Lit.int .i64 k).wf = true) (hl : l.length ≤ 1000) (hm : m.size ≤ maxLen) (hb : base ≤ b) :
    Calls Tryd.prog 18 #[.pointer (some ⟨g, 0, none⟩), .int .i64 k, .agg #[.string m, x1, x2, .int .i64 c, x4, x5]] w fun e w' => e = .returned (.int .i64 (eres l k m c)) ∧ Slots w' g b (eput l k m c) ∧ Below base w w' ∧ KeepBut w w' b none := by
  have hbw : base ≤ w.heap.size := Nat.le_of_lt (Nat.lt_of_le_of_lt hb h.lt)
  unfold eres eput
  cases ha : at_ l k
  · by_cases hc : c ≤ (cnt_ l m : Int)
    · refine (enter_full g b l k m x1 x2 x4 x5 c w h hk hl ha hc).mono ?_
      rintro e w' ⟨rfl, h1, h2⟩
      exact ⟨by simp [hc], by simpa [hc] using h1, h2.mono hbw, KeepBut.of_below h2 _ _⟩
    · refine (enter_put g b base l k m x1 x2 x4 x5 c w h hk hl ha hc hm hb hbw).mono ?_
      rintro e w' ⟨rfl, h1, h2, h3⟩
      exact ⟨by simp [hc], by simpa [hc] using h1, h2, h3⟩
  · refine (enter_twice g b l k m x1 x2 x4 x5 c w h hk ha).mono ?_
    rintro e w' ⟨rfl, h1, h2⟩
    exact ⟨by simp, by simpa using h1, h2.mono hbw, KeepBut.of_below h2 _ _⟩
end Go.Proofs.YtgoephcembgmcaaDoor.Sl
