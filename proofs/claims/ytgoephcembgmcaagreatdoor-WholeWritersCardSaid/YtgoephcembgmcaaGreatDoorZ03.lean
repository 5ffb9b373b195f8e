/- Texts of the proof, merged: Pl1 Tr4 Tr5 Rw1 Tr6 Ch1 Ch2 Ch3 Co1. -/
import Derived.Test.YtgoephcembgmcaaGreatDoorZ02
import Derived.BigQuiet
import Derived.Sort.OwnSorted
set_option linter.unusedSimpArgs false
set_option linter.unusedVariables false
namespace Go.Proofs.YtgoephcembgmcaaGreatDoor.G
/-! Plain law: the last state at a version; what a tidying keeps. -/
def lastAt : List St → Int → Option St
  | [], _ => none
  | s :: rest, v => match lastAt rest v with
    | some y => some y
    | none => if (s.frm : Int) ≤ v then some s else none
theorem lastAt_hit {v : Int} : ∀ {ss : List St} {i : Nat} {s : St}, ss[i]? = some s → (s.frm : Int) ≤ v → (∀ (j : Nat) (y : St), i < j → ss[j]? = some y → ¬ (y.frm : Int) ≤ v) → lastAt ss v = some s
  | [], _, _, h, _, _ => by simp at h
  | y :: rest, 0, s, h, hs, hl => by
    obtain rfl : y = s := by simpa using h
    have hn : lastAt rest v = none := by
      have : ∀ (ss : List St), (∀ (j : Nat) (y : St), ss[j]? = some y → ¬ (y.frm : Int) ≤ v) → lastAt ss v = none := by
        intro ss
        induction ss with
        | nil => intro _; rfl
        | cons a ss ih =>
          intro h
          unfold lastAt
          rw [ih (fun j y hy => h (j + 1) y (by simpa using hy))]
          simp only
          rw [if_neg (h 0 a rfl)]
      exact this rest (fun j y hy => hl (j + 1) y (by omega) (by simpa using hy))
    unfold lastAt
    rw [hn]
    simp only
    rw [if_pos hs]
  | y :: rest, i + 1, s, h, hs, hl => by
    unfold lastAt
    rw [lastAt_hit (ss := rest) (i := i) (by simpa using h) hs (fun j y hj hy => hl (j + 1) y (by omega) (by simpa using hy))]
theorem lastAt_miss {v : Int} : ∀ {ss : List St}, (∀ (j : Nat) (y : St), ss[j]? = some y → ¬ (y.frm : Int) ≤ v) → lastAt ss v = none
  | [], _ => rfl
  | a :: ss, h => by
    unfold lastAt
    rw [lastAt_miss (ss := ss) (fun j y hy => h (j + 1) y (by simpa using hy))]
    simp only
    rw [if_neg (h 0 a rfl)]
theorem lastAt_mem {v : Int} : ∀ {ss : List St} {s : St}, lastAt ss v = some s → s ∈ ss
  | [], _, h => by cases h
  | a :: ss, s, h => by
    unfold lastAt at h
    cases hr : lastAt ss v with
    | some y =>
      rw [hr] at h
      cases h
      exact List.mem_cons_of_mem _ (lastAt_mem hr)
    | none =>
      rw [hr] at h
      simp only at h
      split at h
      · cases h; exact List.mem_cons_self ..
      · cases h
theorem lastAt_push_over {v : Int} {s : St} (h : ¬ (s.frm : Int) ≤ v) : ∀ ss : List St, lastAt (ss ++ [s]) v = lastAt ss v
  | [] => by
    show (match lastAt [] v with | some y => some y | none => if (s.frm : Int) ≤ v then some s else none) = _
    simp [lastAt, h]
  | a :: ss => by
    rw [List.cons_append]
    unfold lastAt
    rw [lastAt_push_over h ss]
theorem lastAt_push {v : Int} {s : St} (h : (s.frm : Int) ≤ v) : ∀ ss : List St, lastAt (ss ++ [s]) v = some s
  | [] => by simp [lastAt, h]
  | a :: ss => by
    rw [List.cons_append]
    unfold lastAt
    rw [lastAt_push h ss]
theorem lastAt_now {v : Int} : ∀ {ss : List St}, ss ≠ [] → (∀ s ∈ ss, (s.frm : Int) ≤ v) → ∃ s, lastAt ss v = some s
  | [], h, _ => absurd rfl h
  | a :: ss, _, h => by
    unfold lastAt
    cases hr : lastAt ss v with
    | some y => exact ⟨y, rfl⟩
    | none => exact ⟨a, by simp only; rw [if_pos (h a (List.mem_cons_self ..))]⟩
def upTo (now : Int) (nxt : Option St) : Int := match nxt with | some r => (r.frm : Int) - 1 | none => now
def inKeep (s : St) (hi v : Int) : Bool := decide ((s.frm : Int) ≤ v) && decide (v ≤ hi)
def need1 (now : Int) (ks : List Int) (s : St) (nxt : Option St) : Bool := decide (upTo now nxt = now) || ks.any (inKeep s (upTo now nxt))
def kept (now : Int) (ks : List Int) : List St → List St
  | [] => []
  | s :: rest => if need1 now ks s rest.head? = true then s :: kept now ks rest else kept now ks rest
theorem kept_sub (now : Int) (ks : List Int) : ∀ ss : List St, (kept now ks ss).Sublist ss
  | [] => List.Sublist.refl _
  | s :: rest => by
    unfold kept
    split
    · exact (kept_sub now ks rest).cons_cons s
    · exact (kept_sub now ks rest).cons s
theorem kept_last {now : Int} {ks : List Int} {v : Int} : ∀ {ss : List St}, ss.Pairwise (fun a b => a.frm < b.frm) → (∀ s ∈ ss, (s.frm : Int) ≤ now) → (v ∈ ks ∨ v = now) → lastAt (kept now ks ss) v = lastAt ss v
  | [], _, _, _ => rfl
  | s :: rest, hp, hn, hv => by
    have ih := kept_last (ss := rest) (List.pairwise_cons.1 hp).2 (fun x hx => hn x (List.mem_cons_of_mem _ hx)) hv
    unfold kept
    split
    · unfold lastAt
      rw [ih]
    · rename_i hneed
      rw [ih]
      conv => rhs; unfold lastAt
      cases hr : lastAt rest v with
      | some y => rfl
      | none =>
        simp only
        rw [if_neg]
        intro hs
        apply hneed
        unfold need1
        cases rest with
        | nil => simp [upTo]
        | cons r rest =>
          have hrv : ¬ (r.frm : Int) ≤ v := by
            intro h
            unfold lastAt at hr
            cases h2 : lastAt rest v with
            | some y => rw [h2] at hr; cases hr
            | none => rw [h2] at hr; simp only at hr; rw [if_pos h] at hr; cases hr
          have hle : v ≤ upTo now ((r :: rest).head?) := by show v ≤ (r.frm : Int) - 1; omega
          rcases hv with hv | hv
          · rw [Bool.or_eq_true]
            refine .inr (List.any_eq_true.2 ⟨v, hv, ?_⟩)
            unfold inKeep
            rw [decide_eq_true hs, decide_eq_true hle]
            rfl
          · exact absurd (hn r (by simp)) (by rw [← hv]; exact hrv)
theorem kept_some (now : Int) (ks : List Int) : ∀ {ss : List St}, ss ≠ [] → kept now ks ss ≠ []
  | [], h => absurd rfl h
  | [s], _ => by
    unfold kept
    rw [if_pos (by simp [need1, upTo])]
    simp
  | s :: r :: rest, _ => by
    unfold kept
    split
    · simp
    · exact kept_some now ks (ss := r :: rest) (by simp)
theorem kept_one {now : Int} : ∀ {ss : List St}, (∀ s ∈ ss, (s.frm : Int) ≤ now) → (kept now [] ss).length ≤ 1
  | [], _ => Nat.zero_le _
  | [s], _ => by
    unfold kept
    rw [if_pos (by simp [need1, upTo])]
    simp [kept]
  | s :: r :: rest, h => by
    unfold kept
    have hr := h r (by simp)
    rw [if_neg]
    · exact kept_one (ss := r :: rest) (fun x hx => h x (List.mem_cons_of_mem _ hx))
    · have e : upTo now ((r :: rest).head?) = (r.frm : Int) - 1 := rfl
      unfold need1
      rw [e, decide_eq_false (by omega)]
      simp
/-- The ghost of a tree that is as it should be. -/
structure WF (g : ByteArray → List St) (now : Nat) : Prop where
  rise : ∀ p, (g p).Pairwise (fun a b => a.frm < b.frm)
  le : ∀ p, ∀ s ∈ g p, s.frm ≤ now
  path : ∀ p, g p ≠ [] → pathOK p = true
def con (g : ByteArray → List St) (v : Int) (p : ByteArray) : Option Int := (lastAt (g p) v).map (·.mrk)
end Go.Proofs.YtgoephcembgmcaaGreatDoor.G
namespace Go.Proofs.YtgoephcembgmcaaGreatDoor.G
open Go.RowKit Go.Maps Go.Proofs.YtgoephcembgmcaaGreatDoorW.PrintWords Go.Proofs.YtgoephcembgmcaaGreatDoorW.PrintLast
/-! The tree in memory; Tree.at. -/
def nilS : Value := .slice none 0 0
/-- The map's rows. -/
def TR (w : World) (base b n : Nat) (F : ByteArray → Option Value) (g : ByteArray → List St) : Prop :=
  MF CS w b n F ∧ (∀ p, F p = none → g p = []) ∧ (∀ p v, F p = some v → g p ≠ [] ∧ SR w base v (g p)) ∧ ∀ p q v u, p ≠ q → F p = some v → F q = some u → v.ownBlock ≠ u.ownBlock
theorem TR.row {w : World} {base b n : Nat} {F : ByteArray → Option Value} {g : ByteArray → List St} (h : TR w base b n F g) (p : ByteArray) : SR w base ((F p).getD (.slice none 0 0)) (g p) := by
  cases hf : F p with
  | none => rw [h.2.1 p hf]; exact SR.nil _ _
  | some v => exact (h.2.2.1 p v hf).2
theorem TR.some_iff {w : World} {base b n : Nat} {F : ByteArray → Option Value} {g : ByteArray → List St} (h : TR w base b n F g) (p : ByteArray) : (F p).isSome = true ↔ g p ≠ [] := by
  cases hf : F p with
  | none => rw [h.2.1 p hf]; simp
  | some v => simp [(h.2.2.1 p v hf).1]
theorem TR.move {w w1 : World} {base b n : Nat} {F : ByteArray → Option Value} {g : ByteArray → List St} (h : TR w base b n F g) (hb : w1.heap[b]? = w.heap[b]?) (hk : ∀ k, base ≤ k → k < w.heap.size → (∃ cells q, (q = 100 ∨ q = 5) ∧ w.heap[k]? = some (.cells cells q (0, 0))) → w1.heap[k]? = w.heap[k]?) : TR w1 base b n F g := by
  refine ⟨h.1.kept hb, h.2.1, fun p v hp => ⟨(h.2.2.1 p v hp).1, (h.2.2.1 p v hp).2.move (fun k h1 h2 h3 => hk k h1 h2 ?_)⟩, h.2.2.2⟩
  rcases h3 with e | ⟨cells, hc⟩
  · obtain ⟨_, cells, hc⟩ := (h.2.2.1 p v hp).2.typed k e
    exact ⟨cells, 100, .inl rfl, hc⟩
  · exact ⟨cells, 5, .inr rfl, hc⟩
/-- A Tree's cells. -/
def TC (w : World) (T : Nat) (now : Int) (b : Nat) : Prop := w.heap[T]? = some (.cells #[.int .i64 now, .map (some b)] 83 (0, 0))
theorem TC.cells {w : World} {T b : Nat} {now : Int} (h : TC w T now b) : w.cell? ⟨T, 0, none⟩ = some (.int .i64 now) ∧ w.cell? ⟨T, 1, none⟩ = some (.map (some b)) := ⟨blk_cell h 0, blk_cell h 1⟩
theorem TC.lt {w : World} {T b : Nat} {now : Int} (h : TC w T now b) : T < w.heap.size := (Array.getElem?_eq_some_iff.1 h).1
structure TreeAt (w : World) (base T b n : Nat) (now : Nat) (F : ByteArray → Option Value) (g : ByteArray → List St) : Prop where
  c : TC w T (now : Int) b
  r : TR w base b n F g
  hT : base ≤ T
  hb : base ≤ b
section
variable {w w1 : World} {base T b n now : Nat} {F : ByteArray → Option Value} {g : ByteArray → List St}
theorem TreeAt.below (h : TreeAt w base T b n now F g) (hb : Below w.heap.size w w1) : TreeAt w1 base T b n now F g :=
  ⟨(hb.block T h.c.lt).trans h.c, h.r.move (hb.block b h.r.1.lt) (fun k _ hlt _ => hb.block k hlt), h.hT, h.hb⟩
theorem TreeAt.fr {base' : Nat} {ts : List TypeId} (h : TreeAt w base T b n now F g) (hf : Fr base' ts w w1) (h1 : 83 ∉ ts) (h2 : 100 ∉ ts) (h3 : 5 ∉ ts) : TreeAt w1 base T b n now F g := by
  obtain ⟨es, cl, hm⟩ := h.r.1.isMap
  refine ⟨(hf.k T h.c.lt (fun c t fz hc => by have := h.c; unfold TC at this; rw [this] at hc; cases hc; exact h1)).trans h.c, h.r.move (hf.k b h.r.1.lt (fun c t fz hc => by rw [hm] at hc; cases hc)) (fun k _ hlt hq => hf.k k hlt (fun c t fz hc => ?_)), h.hT, h.hb⟩
  obtain ⟨cells, q, hq, hc2⟩ := hq
  rw [hc2] at hc
  cases hc
  rcases hq with rfl | rfl
  · exact h2
  · exact h3
theorem zero90 (w : World) : (zeroValue 90).run Tryz.prog w = .ok (.slice none 0 0) w := by kernel_rfl
theorem TreeAt.look (h : TreeAt w base T b n now F g) (p : ByteArray) (hp : p.size ≤ maxLen) : (Instr.lookup 81 (.map (some b)) (.string p) false).run Tryz.prog w = .ok ((F p).getD (.slice none 0 0)) w :=
  h.r.1.look (t := 81) Tryz.underlying81 (zero90 w) (x := p) hp
end
def datV : Option St → Value
  | none => .slice none 0 0
  | some s => slv s.dat
set_option maxHeartbeats 2000000 in
set_option maxRecDepth 100000 in
theorem atq_ok (base T b n now : Nat) (F : ByteArray → Option Value) (g : ByteArray → List St) (ver : Int) (p : ByteArray) (w : World) (h : TreeAt w base T b n now F g) (hp : p.size ≤ maxLen) (hl : (g p).length ≤ 1000) :
    Calls Tryz.prog 25 #[.pointer (some ⟨T, 0, none⟩), .int .i64 ver, .string p] w fun e w' => e = .returned (.tuple #[datV (lastAt (g p) ver), .bool (lastAt (g p) ver).isSome]) ∧ ∃ m, w' = w.drewN m := by
  have hrow := h.r.row p
  have hlook := h.look p hp
  obtain ⟨c0, c1⟩ := h.c.cells
  obtain ⟨A, c, hv, _, _⟩ := hrow.slice
  rw [hv] at hrow hlook
  obtain ⟨ss, hss⟩ : ∃ z, z = g p := ⟨_, rfl⟩
  rw [← hss] at hrow hl hlook ⊢
  obtain ⟨m, hm⟩ : ∃ z, z = ss.length := ⟨_, rfl⟩
  rw [← hm] at hrow hl hlook
  have HROW := hide hrow
  have HL := hide hl
  have HM := hide hm
  obtain ⟨res, hres⟩ : ∃ z, z = lastAt ss ver := ⟨_, rfl⟩
  rw [← hres]
  have HRES := hide hres
  have hu83 := Tryz.underlying83
  have hu100 := Tryz.underlying100
  have hw : wrap64 ((m : Int) - 1) = (m : Int) - 1 := by unfold wrap64; omega
  have HW := hide hw
  clear h hp hv hss hrow hl hm hres c0 hw
  go_enter Tryz.func25, Tryz.ntmps25
  go_wp2_with fail
  go_loopg [9] m (fun kq v9 wr => ∃ x : Int, v9 = .int .i64 x ∧ Hid (x = (kq : Int) - 1) ∧ wr = w ∧ Hid (kq ≤ m) ∧ Hid (∀ (l : Nat) (y : St), kq ≤ l → ss[l]? = some y → ¬ (y.frm : Int) ≤ ver))
  case atStart => exact ⟨_, rfl, unhide HW, rfl, Nat.le_refl _, fun l y hl hy => by
    have := (List.getElem?_eq_some_iff.1 hy).1
    have := unhide HM
    omega⟩
  case round =>
    obtain ⟨x, rfl, HX, rfl, HK, HF⟩ := hrel
    rcases Nat.eq_zero_or_pos gk with h0 | h0
    · obtain rfl : x = -1 := by have := unhide HX; omega
      have hn : res = none := by
        rw [unhide HRES]
        exact lastAt_miss (fun j y hy => unhide HF j y (by omega) hy)
      subst hn
      clear HX h0
      go_wp2_with fail
      go_ret2
      exact ⟨rfl, 0, rfl⟩
    · obtain ⟨j, hj⟩ : ∃ j, gk = j + 1 := ⟨gk - 1, by omega⟩
      obtain rfl : x = (j : Int) := by have := unhide HX; omega
      obtain ⟨s, hs⟩ : ∃ s, ss[j]? = some s := ⟨_, List.getElem?_eq_getElem (by have := unhide HK; have := unhide HM; omega)⟩
      obtain ⟨ad, rfl, k0, k1, k2⟩ := (unhide HROW).at_ j s hs
      have HS := hide hs
      have HJ := hide hj
      have d0 : (j : Int) < (m : Int) := by have := unhide HK; omega
      clear hs hj h0
      by_cases hle : (s.frm : Int) ≤ ver
      · have hn : res = some s := by
          rw [unhide HRES]
          exact lastAt_hit (unhide HS) hle (fun l y hl hy => unhide HF l y (by have := unhide HJ; omega) hy)
        subst hn
        have HLE := hide hle
        go_wp2_with fail
        go_quiet (fail)
        go_wp2_with fail
        go_ret2
        exact ⟨rfl, _, rfl⟩
      · have HLE := hide hle
        go_wp2_with fail
        go_roundg (gk - 1)
        case measure => have := unhide HJ; omega
        case rel =>
          refine ⟨_, rfl, ?_, rfl, ?_, ?_⟩
          · show _ = _
            have := unhide HJ
            have := unhide HL
            unfold wrap64
            omega
          · have := unhide HJ
            have := unhide HK
            show _ ≤ _
            omega
          · intro l y hl hy
            by_cases e : l = j
            · subst e
              rw [unhide HS] at hy
              obtain rfl := Option.some.inj hy
              exact unhide HLE
            · exact unhide HF l y (by have := unhide HJ; omega) hy
theorem below_drawn (w : World) (m : Nat) : Below w.heap.size w (w.drewN m) := ⟨rfl, rfl, rfl, Nat.le_refl _, fun _ _ => rfl⟩
theorem at_ok (base T b n now : Nat) (F : ByteArray → Option Value) (g : ByteArray → List St) (ver : Int) (p : ByteArray) (w : World) (h : TreeAt w base T b n now F g) (hp : p.size ≤ maxLen) (hl : (g p).length ≤ 1000) :
    Calls Tryz.prog 25 #[.pointer (some ⟨T, 0, none⟩), .int .i64 ver, .string p] w fun e w' => e = .returned (.tuple #[datV (lastAt (g p) ver), .bool (lastAt (g p) ver).isSome]) ∧ Below w.heap.size w w' :=
  (atq_ok base T b n now F g ver p w h hp hl).mono fun _ _ ⟨h1, m, h2⟩ => ⟨h1, by rw [h2]; exact below_drawn _ _⟩
end Go.Proofs.YtgoephcembgmcaaGreatDoor.G
namespace Go.Proofs.YtgoephcembgmcaaGreatDoor.G
open Go.RowKit Go.Maps Go.Proofs.YtgoephcembgmcaaGreatDoorW.PrintWords Go.Proofs.YtgoephcembgmcaaGreatDoorW.PrintLast
/-! slices.Clone of a byte; Tree.Read, Now, New, States. -/
theorem info5 : (Tryz.prog.info? 5).map (fun i => (i.zero, i.size, i.bytes)) = some (some (.int .u8 0), 1, 1) := by kernel_rfl
theorem eql47_some (ad : Addr) (n c : Nat) (W : World) : (binOp .eql 47 (.slice (some ad) n c) (.slice none 0 0)).run Tryz.prog W = .ok (.bool false) W := by kernel_rfl
theorem clone_app (w : World) (base : Nat) (d : Sc) (m : Int) (h : DR w base d m) :
    ∃ d1 w1, (Builtin.append_ #[47, 47] 47 #[.slice (some ⟨w.heap.size, 0, none⟩) 0 0, slv d]).run Tryz.prog (w.alloc (.cells #[] 5)) = .ok (slv d1) w1 ∧ DR w1 w.heap.size d1 m ∧ Below w.heap.size w w1 := by
  obtain ⟨i0, hi, hz, hsz, hby⟩ := info_parts info5
  have ha := below_alloc (Below.refl w.heap.size w) (.cells #[] 5)
  have hown : (w.alloc (.cells #[] 5)).ownsRow w.heap.size 5 1 (.slice (some ⟨w.heap.size, 0, none⟩) 0 0) 0 [] := World.ownsRow_lit w #[] 0 (Nat.le_refl _) (Nat.zero_le _) rfl
  obtain ⟨g, c, rfl, hc, hbg, hlt, _⟩ := h.form
  have hc1 : (w.alloc (.cells #[] 5)).cell? ⟨g, 0, none⟩ = some (.int .u8 m) := (ha.cell (p := ⟨g, 0, none⟩) hlt).trans hc
  obtain ⟨v1, w1, hr, ho, hg, _, hloc⟩ := run_append_own_at (P := Tryz.prog) (w := w.alloc (.cells #[] 5)) w.heap.size 47 47 5 i0 _ 1 1 Tryz.underlying47 hi hz hsz hby rfl (by decide) _ 0 _ hown
    ⟨g, 0, none⟩ 1 c [.int .u8 m] rfl (fun j u hj => by
      have hj0 : j = 0 := by
        rcases j with _ | j
        · rfl
        · simp at hj
      subst hj0
      simp only [List.getElem?_cons_zero, Option.some.injEq] at hj
      rw [add_plain, ← hj]
      exact hc1) (by intro u hu; simp only [List.mem_cons, List.mem_nil_iff, or_false] at hu; subst hu; rfl) (by simp only [maxLen]; omega) (by omega) (by rw [World.size_alloc]; omega)
  have hb : Below w.heap.size w w1 := ⟨hg.os.trans ha.os, hg.tape.trans ha.tape, hg.output.trans ha.output, Nat.le_trans ha.size hg.size, fun k hk => (hg.block k (Nat.lt_of_lt_of_le hk ha.size) (fun e => by
    have e2 : k = w.heap.size := Option.some.inj e
    omega)).trans (ha.block k hk)⟩
  rcases ho.2 with ⟨_, h0⟩ | ⟨g1, cap, cur, rfl, _⟩
  · omega
  · exact ⟨(some ⟨g1, 0, none⟩, 1, cap), w1, hr, ho, hb⟩
set_option maxHeartbeats 1000000 in
theorem clone_ok (w : World) (base : Nat) (d : Sc) (m : Int) (h : DR w base d m) :
    Calls Tryz.prog 44 #[slv d] w fun e w' => ∃ d1, e = .returned (slv d1) ∧ DR w' w.heap.size d1 m ∧ Below w.heap.size w w' := by
  obtain ⟨d1, w1, hr, hd, hb⟩ := clone_app w base d m h
  obtain ⟨g, c, rfl, _⟩ := h.form
  have hq := eql47_some ⟨g, 0, none⟩ 1 c
  have HR := hide hr
  have HD := hide hd
  have HB := hide hb
  clear h hr hd hb
  show Calls Tryz.prog 44 #[.slice (some ⟨g, 0, none⟩) 1 c] w _
  go_enter Tryz.func44, Tryz.ntmps44
  go_wp2_with (at_builtin; refine unhide ?_)
  refine hide ?_
  refine wpList_app rfl (.tmp 5) (.tmp 6) rfl rfl rfl rfl (unhide HR) ?_
  go_wp2_with fail
  go_ret
  exact ⟨d1, rfl, unhide HD, unhide HB⟩
theorem now_ok (base T b n now : Nat) (F : ByteArray → Option Value) (g : ByteArray → List St) (w : World) (h : TreeAt w base T b n now F g) :
    Calls Tryz.prog 16 #[.pointer (some ⟨T, 0, none⟩)] w fun e w' => e = .returned (.int .i64 (now : Int)) ∧ w' = w := by
  obtain ⟨c0, c1⟩ := h.c.cells
  have hu83 := Tryz.underlying83
  clear h
  go_enter Tryz.func16, Tryz.ntmps16
  go_wp2_with fail
  go_ret
  exact ⟨rfl, rfl⟩
theorem tnew_ok (w : World) : Calls Tryz.prog 18 #[] w fun e w' => e = .returned (.pointer (some ⟨w.heap.size + 1, 0, none⟩)) ∧ w' = (w.alloc (.map #[] 0)).alloc (.cells #[.int .i64 0, .map (some w.heap.size)] 83) := by
  have hu83 := Tryz.underlying83
  have hmm := @run_makeMap Tryz.prog
  go_enter Tryz.func18, Tryz.ntmps18
  go_wp2_with fail
  go_ret
  exact ⟨rfl, rfl⟩
set_option maxHeartbeats 2000000 in
theorem read_ok (base T b n now : Nat) (F : ByteArray → Option Value) (g : ByteArray → List St) (ver : Int) (p : ByteArray) (s : St) (w : World) (h : TreeAt w base T b n now F g) (hp : p.size ≤ maxLen) (hl : (g p).length ≤ 1000)
    (h0 : 0 ≤ ver) (h1 : ver ≤ (now : Int)) (hs : lastAt (g p) ver = some s) :
    Calls Tryz.prog 48 #[.pointer (some ⟨T, 0, none⟩), .int .i64 ver, .string p] w fun e w' => (∃ d1, e = .returned (.tuple #[slv d1, .int .i64 0]) ∧ DR w' w.heap.size d1 s.mrk) ∧ Below w.heap.size w w' := by
  obtain ⟨c0, c1⟩ := h.c.cells
  have hat := at_ok base T b n now F g ver p w h hp hl
  rw [hs] at hat
  have hd : DR w base s.dat s.mrk := (h.r.row p).2 s (lastAt_mem hs)
  have hu83 := Tryz.underlying83
  have d0 : ¬ ver < 0 := by omega
  have d1 : ¬ (now : Int) < ver := by omega
  have HD := hide hd
  have HAT := hide hat
  obtain ⟨dd, hdd⟩ : ∃ z, z = s.dat := ⟨_, rfl⟩
  rw [← hdd] at HD
  have HDD := hide hdd
  clear h hp hl hs hd hat h0 h1 hdd
  go_enter Tryz.func48, Tryz.ntmps48
  go_wp2_with fail
  refine (unhide HAT).mono ?_
  rintro e w1 ⟨rfl, hb⟩
  have HB := hide hb
  have hcl := clone_ok w1 base dd s.mrk ((unhide HD).below hb)
  have HCL := hide hcl
  clear hb hcl
  rw [show datV (some s) = slv dd from by rw [unhide HDD]; rfl]
  go_wp2_with fail
  refine (unhide HCL).mono ?_
  rintro e w2 ⟨d2, rfl, hd2, hb2⟩
  have HD2 := hide hd2
  have HB2 := hide hb2
  clear hd2 hb2
  go_wp2_with fail
  go_ret2
  exact ⟨⟨d2, rfl, by
    have h := unhide HD2
    exact World.ownsRow.mono h (unhide HB).size⟩, below_step (unhide HB) (unhide HB2)⟩
/-- How many states there are. -/
def total (g : ByteArray → List St) (ks : List ByteArray) : Nat := (ks.map fun p => (g p).length).sum
theorem total_snoc (g : ByteArray → List St) (ks : List ByteArray) (p : ByteArray) : total g (ks ++ [p]) = total g ks + (g p).length := by unfold total; rw [List.map_append, List.sum_append]; rfl
set_option maxHeartbeats 2000000 in
set_option maxRecDepth 100000 in
theorem states_ok (base T b n now : Nat) (F : ByteArray → Option Value) (g : ByteArray → List St) (w : World) (h : TreeAt w base T b n now F g) (hn : n ≤ 1000) (hg : ∀ p, (g p).length ≤ 1000) :
    Calls Tryz.prog 17 #[.pointer (some ⟨T, 0, none⟩)] w fun e w' => (∃ ks, Keys F ks ∧ e = .returned (.int .i64 (total g ks : Int))) ∧ Below w.heap.size w w' := by
  obtain ⟨c0, c1⟩ := h.c.cells
  have hmf := h.r.1
  have hu83 := Tryz.underlying83
  have HT := hide h
  have HG := hide hg
  have HN := hide hn
  clear h hg hn
  go_enter Tryz.func17, Tryz.ntmps17
  go_wp2_with (first
    | (at_range; refine range_w _ CS rfl _ 81 90 rfl Tryz.underlying81 b n F rfl hmf ?_; intro w0 cnt0 hrg0 hg0 hs0)
    | go_in)
  go_frame
  have HR0 := hide hrg0
  have B0 : Hid (Below w.heap.size w w0) := (Below.refl _ _).grown hg0 (by simp) (fun j hj => by cases hj)
  clear hmf hrg0 hg0 hs0 c0 c1
  go_loopg [3] cnt0 (fun kq v3 wr => ∃ (vis : List ByteArray) (x : Nat), v3 = .int .i64 (x : Int) ∧ Hid (x = total g vis) ∧ Hid (x ≤ vis.length * 1000) ∧ Hid (MG CS wr b w.heap.size n F vis kq) ∧ Hid (Below w.heap.size w wr))
  case atStart => exact ⟨[], 0, rfl, rfl, Nat.zero_le _, unhide HR0, unhide B0⟩
  case round =>
    obtain ⟨vis, x, rfl, HX, HXB, HRG, HB⟩ := hrel
    have hrg := unhide HRG
    have hvis := hrg.visited
    have HV := hide hvis
    clear hvis
    go_wp2_with (first
      | (at_next; refine next_s _ rfl _ rfl b w.heap.size n F vis _ rfl hrg ?_ ?_)
      | go_in)
    · intro hdone
      have hk : Keys F vis := ⟨(unhide HV).1, fun y => ⟨(unhide HV).2.1 y, hdone y⟩⟩
      have HK := hide hk
      clear hk hdone hrg
      go_wp2
      go_ret
      exact ⟨⟨vis, unhide HK, by rw [← unhide HX]; rfl⟩, unhide HB⟩
    · intro p v w1 cnt1 hok hnv hfp hrg1 hlt hg1 hen
      have HRG1 := hide hrg1
      have HLT := hide hlt
      have hB1 : Hid (Below w.heap.size w w1) := (unhide HB).grown hg1 (unhide HB).size (fun j hj => by cases hj; exact Nat.le_refl _)
      have hrow := ((unhide HT).r.2.2.1 p v hfp).2
      obtain ⟨A, c, rfl, _, _⟩ := hrow.slice
      obtain ⟨m, hm⟩ : ∃ z, z = (g p).length := ⟨_, rfl⟩
      rw [← hm]  at hen ⊢
      have HM := hide hm
      have hmb := unhide HG p
      rw [← hm] at hmb
      have hvb := (unhide HV).2.2
      have hw : wrap64 ((x : Int) + (m : Int)) = ((x + m : Nat) : Int) := by
        have := unhide HXB
        have := unhide HN
        unfold wrap64
        omega
      clear hok hnv hfp hrg1 hlt hg1 hrow hm hmb hvb hrg
      go_wp2
      go_roundg cnt1
      case measure => exact unhide HLT
      case rel =>
        refine ⟨vis ++ [p], x + m, congrArg _ hw, ?_, ?_, unhide HRG1, unhide hB1⟩
        · show _ = _
          rw [total_snoc, ← unhide HX, ← unhide HM]
        · show _ ≤ _
          have := unhide HXB
          have := unhide HG p
          have := unhide HM
          rw [List.length_append]
          simp only [List.length_cons, List.length_nil]
          omega
end Go.Proofs.YtgoephcembgmcaaGreatDoor.G
namespace Go.Proofs.YtgoephcembgmcaaGreatDoor.G
open Go.RowKit Go.Maps Go.Proofs.YtgoephcembgmcaaGreatDoorW.PrintWords Go.Proofs.YtgoephcembgmcaaGreatDoorW.PrintLast
/-! Rows of one cell an element, of any type; slices.Sort of strings. -/
def V1 (w : World) (base e : Nat) (v : Value) (us : List Value) : Prop := w.ownsRow base e 1 v us.length us
section
variable {w w1 : World} {base e : Nat} {v : Value} {us : List Value}
theorem V1.nil (w : World) (base e : Nat) : V1 w base e (.slice none 0 0) [] := World.ownsRow_nil _ _ _ _
theorem V1.typed (h : V1 w base e v us) : ∀ g, v.ownBlock = some g → base ≤ g ∧ ∃ cells, w.heap[g]? = some (.cells cells e (0, 0)) := owns_typed h
theorem V1.lt (h : V1 w base e v us) : ∀ g, v.ownBlock = some g → base ≤ g ∧ g < w.heap.size := World.ownsRow.lt h
theorem V1.block (h : V1 w base e v us) (hk : ∀ g, v.ownBlock = some g → w1.heap[g]? = w.heap[g]?) : V1 w1 base e v us := owns_block h hk
theorem V1.below (h : V1 w base e v us) (hb : Below w.heap.size w w1) : V1 w1 base e v us := V1.block h (fun g hg => hb.block g (V1.lt h g hg).2)
theorem V1.fr {base' : Nat} {ts : List TypeId} (h : V1 w base e v us) (hf : Fr base' ts w w1) (he : e ∉ ts) : V1 w1 base e v us :=
  V1.block h (fun g hg => hf.k g (V1.lt h g hg).2 (fun cells t fz hc => by
    obtain ⟨_, c2, hc2⟩ := V1.typed h g hg
    rw [hc2] at hc
    cases hc
    exact he))
theorem V1.slice (h : V1 w base e v us) : ∃ A c, v = .slice A us.length c ∧ (0 < us.length → ∃ g, A = some ⟨g, 0, none⟩ ∧ base ≤ g ∧ g < w.heap.size) ∧ us.length ≤ c := by
  rcases h.2 with ⟨hv, h0⟩ | ⟨g, cap, cur, rfl, hb, hg, hc, _⟩
  · refine ⟨none, 0, by rw [h0]; exact hv, fun hp => ?_, by omega⟩
    omega
  · exact ⟨_, cap, rfl, fun _ => ⟨g, rfl, hb, (Array.getElem?_eq_some_iff.1 hg).1⟩, hc⟩
theorem V1.at_ {A : Option Addr} {n c : Nat} (h : V1 w base e (.slice A n c) us) (j : Nat) (u : Value) (hu : us[j]? = some u) : ∃ ad, A = some ad ∧ w.cell? (ad.add j) = some u := by
  have hj : j < us.length := (List.getElem?_eq_some_iff.1 hu).1
  rcases h.2 with ⟨hv, h0⟩ | ⟨g, cap, cur, hv, hb, hg, hc, h5⟩
  · omega
  · cases hv
    exact ⟨_, rfl, World.ownsRow.cells h (g := g) rfl j u hu⟩
theorem V1.lower {base' : Nat} (h : V1 w base e v us) (hb : base' ≤ base) : V1 w base' e v us := World.ownsRow.mono h hb
theorem V1.append_at (h : V1 w base e v us) (hb : base ≤ w.heap.size) (hl : us.length ≤ 100000) (t : TypeId) (z : Value) (bytes : Nat) (ht : Tryz.prog.underlying t = some (.slice e)) (hinfo : (Tryz.prog.info? e).map (fun i => (i.zero, i.size, i.bytes)) = some (some z, 1, bytes)) (hz1 : z.cells.size = 1) (hby : bytes ≤ 1000) (u : Value) (hu : u.oneCell' = true) :
    ∃ A c w1, (Builtin.append_ #[t, t] t #[v, .slice (some ⟨w.heap.size, 0, none⟩) 1 1]).run Tryz.prog (w.alloc (.cells #[u] e)) = .ok (.slice A (us.length + 1) c) w1 ∧ V1 w1 base e (.slice A (us.length + 1) c) (us ++ [u]) ∧ w.grownBy w1 v.ownBlock ∧ ∀ g, A = some g → v.ownBlock = some g.block ∨ w.heap.size ≤ g.block := by
  obtain ⟨i0, hi, hz, hsz, hby1⟩ := info_parts hinfo
  have ha := below_alloc (Below.refl w.heap.size w) (.cells #[u] e)
  have hown := V1.below h ha
  have hnew := blk_new w (.cells #[u] e)
  obtain ⟨v1, w1, hr, ho, hg, _, hloc⟩ := run_append_own_at (P := Tryz.prog) (w := w.alloc (.cells #[u] e)) base t t e i0 _ 1 bytes ht hi hz hsz hby1 hz1 (by decide) v us.length _ hown
    ⟨w.heap.size, 0, none⟩ 1 1 [u] rfl (fun j x hj => by
      rw [add_plain, blk_cell hnew]
      simpa using hj) (by intro x hx; rw [List.mem_singleton.1 hx]; exact hu) (by simp only [maxLen]; omega) (Nat.le_trans (Nat.mul_le_mul (show us.length + 1 ≤ 100001 by omega) hby) (by decide)) (by rw [World.size_alloc]; omega)
  have hI : V1 w1 base e v1 (us ++ [u]) := by
    unfold V1
    rw [List.length_append]
    exact ho
  obtain ⟨A, c, rfl, _⟩ := V1.slice hI
  rw [List.length_append] at hr hI hloc
  refine ⟨A, c, w1, hr, hI, ⟨hg.os.trans ha.os, hg.tape.trans ha.tape, hg.output.trans ha.output, Nat.le_trans ha.size hg.size, fun k hk hne => (hg.block k (Nat.lt_of_lt_of_le hk ha.size) hne).trans (ha.block k hk)⟩, fun g hA => ?_⟩
  subst hA
  rcases hloc with e | e
  · exact .inl e.symm
  · have e2 : g.block = (w.alloc (.cells #[u] _)).heap.size := Option.some.inj e
    rw [World.size_alloc] at e2
    exact .inr (by omega)
theorem V1.append (h : V1 w base e v us) (hb : base ≤ w.heap.size) (hl : us.length ≤ 100000) (t : TypeId) (z : Value) (bytes : Nat) (ht : Tryz.prog.underlying t = some (.slice e)) (hinfo : (Tryz.prog.info? e).map (fun i => (i.zero, i.size, i.bytes)) = some (some z, 1, bytes)) (hz1 : z.cells.size = 1) (hby : bytes ≤ 1000) (u : Value) (hu : u.oneCell' = true) :
    ∃ A c w1, (Builtin.append_ #[t, t] t #[v, .slice (some ⟨w.heap.size, 0, none⟩) 1 1]).run Tryz.prog (w.alloc (.cells #[u] e)) = .ok (.slice A (us.length + 1) c) w1 ∧ V1 w1 base e (.slice A (us.length + 1) c) (us ++ [u]) ∧ w.grownBy w1 v.ownBlock := by
  obtain ⟨A, c, w1, h1, h2, h3, _⟩ := V1.append_at h hb hl t z bytes ht hinfo hz1 hby u hu
  exact ⟨A, c, w1, h1, h2, h3⟩
end
/-- A row of strings. -/
def XR (w : World) (base : Nat) (v : Value) (xs : List ByteArray) : Prop := V1 w base 9 v (xs.map Value.string)
theorem XR.append_at {w : World} {base : Nat} {v : Value} {xs : List ByteArray} (h : XR w base v xs) (hb : base ≤ w.heap.size) (hl : xs.length ≤ 100000) (x : ByteArray) :
    ∃ A c w1, (Builtin.append_ #[36, 36] 36 #[v, .slice (some ⟨w.heap.size, 0, none⟩) 1 1]).run Tryz.prog (w.alloc (.cells #[.string x] 9)) = .ok (.slice A (xs.length + 1) c) w1 ∧ XR w1 base (.slice A (xs.length + 1) c) (xs ++ [x]) ∧ w.grownBy w1 v.ownBlock ∧ ∀ g, A = some g → v.ownBlock = some g.block ∨ w.heap.size ≤ g.block := by
  obtain ⟨A, c, w1, h1, h2, h3⟩ := V1.append_at (us := xs.map Value.string) h hb (by rw [List.length_map]; exact hl) 36 (.string ⟨#[]⟩) 16 Tryz.underlying36 info9 rfl (by decide) (.string x) rfl
  rw [List.length_map] at h1 h2
  refine ⟨A, c, w1, h1, ?_, h3⟩
  unfold XR
  rw [List.map_append]
  exact h2
theorem XR.append {w : World} {base : Nat} {v : Value} {xs : List ByteArray} (h : XR w base v xs) (hb : base ≤ w.heap.size) (hl : xs.length ≤ 100000) (x : ByteArray) :
    ∃ A c w1, (Builtin.append_ #[36, 36] 36 #[v, .slice (some ⟨w.heap.size, 0, none⟩) 1 1]).run Tryz.prog (w.alloc (.cells #[.string x] 9)) = .ok (.slice A (xs.length + 1) c) w1 ∧ XR w1 base (.slice A (xs.length + 1) c) (xs ++ [x]) ∧ w.grownBy w1 v.ownBlock := by
  obtain ⟨A, c, w1, h1, h2, h3, _⟩ := XR.append_at h hb hl x
  exact ⟨A, c, w1, h1, h2, h3⟩
theorem XR.slice {w : World} {base : Nat} {v : Value} {xs : List ByteArray} (h : XR w base v xs) : ∃ A c, v = .slice A xs.length c ∧ (0 < xs.length → ∃ g, A = some ⟨g, 0, none⟩ ∧ base ≤ g ∧ g < w.heap.size) ∧ xs.length ≤ c := by
  have := V1.slice h
  rw [List.length_map] at this
  exact this
theorem XR.at_ {w : World} {base : Nat} {A : Option Addr} {n c : Nat} {xs : List ByteArray} (h : XR w base (.slice A n c) xs) (j : Nat) (x : ByteArray) (hx : xs[j]? = some x) : ∃ ad, A = some ad ∧ w.cell? (ad.add j) = some (.string x) :=
  V1.at_ h j _ (by rw [List.getElem?_map, hx]; rfl)
def unB (l : List UInt8) : ByteArray := ⟨l.toArray⟩
theorem unB_enc (l : List UInt8) : Value.string (unB l) = encStr l := rfl
theorem enc_map (xs : List ByteArray) : xs.map Value.string = (xs.map (·.data.toList)).map encStr := by
  rw [List.map_map]
  refine List.map_congr_left (fun x _ => ?_)
  show Value.string x = Value.string ⟨x.data.toList.toArray⟩
  rw [Array.toArray_toList]
theorem unB_map (xs : List ByteArray) : (xs.map (·.data.toList)).map unB = xs := by
  rw [List.map_map]
  conv => rhs; rw [← List.map_id xs]
  refine List.map_congr_left (fun x _ => ?_)
  show (⟨x.data.toList.toArray⟩ : ByteArray) = x
  rw [Array.toArray_toList]
theorem sort_ok {w : World} {base : Nat} {v : Value} {xs : List ByteArray} (h : XR w base v xs) (hl : xs.length ≤ 100000) :
    Calls Tryz.prog 42 #[v] w fun e w' => e = .returned (.tuple #[]) ∧ (∃ ys : List ByteArray, ys.Perm xs ∧ XR w' base v ys) ∧ w.grownBy w' v.ownBlock := by
  rcases Nat.eq_zero_or_pos xs.length with h0 | h0
  · obtain ⟨A, c, rfl, _⟩ := XR.slice h
    obtain rfl := List.length_eq_zero_iff.1 h0
    refine (Tryz.slices_Sort_string_none A c w).mono ?_
    rintro e w' ⟨rfl, rfl⟩
    exact ⟨rfl, ⟨[], List.Perm.refl _, h⟩, rfl, rfl, rfl, Nat.le_refl _, fun _ _ _ => rfl⟩
  · have hh := h
    rcases hh.2 with ⟨_, hz⟩ | ⟨g, cap, cur, rfl, hb, hg, h1, h2, h3, h4⟩
    · rw [List.length_map] at hz; omega
    · rw [List.length_map] at h1 h4 ⊢
      rw [enc_map] at h4
      rw [Nat.mul_one] at h4
      have hlen : (xs.map (·.data.toList)).length = xs.length := List.length_map _
      have hc := Tryz.slices_Sort_string g 0 cap (xs.map (·.data.toList)) w (holds_of_block hg (by rw [hlen]; exact h4)) ((Array.getElem?_eq_some_iff.1 hg).1) (by rw [hlen]; omega)
      rw [hlen] at hc
      refine hc.mono ?_
      rintro e w' ⟨rfl, nn, os, rfl⟩
      refine ⟨rfl, ⟨((xs.map (·.data.toList)).mergeSort fun x y => decide (x ≤ y)).map unB, ?_, ?_⟩, grownBy_sorted _⟩
      · have hp := (List.mergeSort_perm (xs.map (·.data.toList)) fun x y => decide (x ≤ y)).map unB
        rw [unB_map] at hp
        exact hp
      · have hs := ownsRow_sorted (w := w) (base := base) (g := g) (cap := cap) (n := nn) (e := 9) (os := os) (cur := cur) (ss := xs.map (·.data.toList)) (ts := (xs.map (·.data.toList)).mergeSort fun x y => decide (x ≤ y)) (List.length_mergeSort ..) hb hg (by rw [hlen]; exact h1) h2 (by rw [h3, Nat.mul_one])
        rw [hlen] at hs
        have e : ∀ L : List (List UInt8), (L.map unB).map Value.string = L.map encStr := fun L => by rw [List.map_map]; rfl
        unfold XR V1
        rw [e, List.length_map, List.length_mergeSort, hlen]
        exact hs
end Go.Proofs.YtgoephcembgmcaaGreatDoor.G
namespace Go.Proofs.YtgoephcembgmcaaGreatDoor.G
open Go.RowKit Go.Maps Go.Proofs.YtgoephcembgmcaaGreatDoorW.PrintWords Go.Proofs.YtgoephcembgmcaaGreatDoorW.PrintLast
/-! Tree.List at the root. -/
section
variable {κ : Type} {C : KC κ} {w w1 : World} {b r n cnt base e : Nat} {F : κ → Option Value} {vis : List κ} {v : Value} {us : List Value}
theorem V1.iter (h : V1 w base e v us) (hm : MG C w b r n F vis cnt) (hg : w.grownBy w1 (some r)) : V1 w1 base e v us :=
  V1.block h (fun g hgv => hg.block g (V1.lt h g hgv).2 (fun e2 => by
    obtain rfl : g = r := Option.some.inj e2
    obtain ⟨_, cells, hc⟩ := V1.typed h g hgv
    obtain ⟨_, _, _, hi⟩ := hm.isIter
    rw [hc] at hi
    cases hi))
theorem MG.row (hm : MG C w b r n F vis cnt) (h : V1 w base e v us) (hg : w.grownBy w1 v.ownBlock) : MG C w1 b r n F vis cnt := by
  refine hm.kept (hg.block b hm.owns.lt (fun e2 => ?_)) (hg.block r hm.iter.2 (fun e2 => ?_))
  · obtain ⟨_, cells, hc⟩ := V1.typed h b e2.symm
    obtain ⟨_, _, hi⟩ := hm.owns.isMap
    rw [hc] at hi
    cases hi
  · obtain ⟨_, cells, hc⟩ := V1.typed h r e2.symm
    obtain ⟨_, _, _, hi⟩ := hm.isIter
    rw [hc] at hi
    cases hi
theorem MG.drewN (hm : MG C w b r n F vis cnt) {k : Nat} : MG C (w.drewN k) b r n F vis cnt := hm.kept rfl rfl
end
/-- A row of the call's own is written. -/
theorem below_row {B : Nat} {w wr w1 : World} {row : Option Nat} (h : Below B w wr) (hB : B ≤ wr.heap.size) (hg : wr.grownBy w1 row) (hr : ∀ g, row = some g → B ≤ g) : Below B w w1 := h.grown hg hB hr
def ListSays (w : World) (g : ByteArray → List St) (ver : Int) (e : Ending) (w' : World) : Prop :=
  (∃ v ls, e = .returned (.tuple #[v, .int .i64 0]) ∧ XR w' w.heap.size v ls ∧ ls.Nodup ∧ ∀ p, p ∈ ls ↔ (lastAt (g p) ver).isSome = true) ∧ Below w.heap.size w w'
def seen_ (g : ByteArray → List St) (ver : Int) (vis : List ByteArray) : List ByteArray := vis.filter fun p => (lastAt (g p) ver).isSome
theorem seen_snoc (g : ByteArray → List St) (ver : Int) (vis : List ByteArray) (p : ByteArray) (o : Option St) (h : o = lastAt (g p) ver) : seen_ g ver (vis ++ [p]) = seen_ g ver vis ++ (if o.isSome = true then [p] else []) := by
  unfold seen_
  rw [List.filter_append, h]
  congr 1
  cases hl : lastAt (g p) ver <;> simp [hl]
set_option maxHeartbeats 4000000 in
set_option maxRecDepth 100000 in
theorem list_ok (base T b n now : Nat) (F : ByteArray → Option Value) (g : ByteArray → List St) (ver : Int) (w : World) (h : TreeAt w base T b n now F g) (hn : n ≤ 1000) (hg : ∀ p, (g p).length ≤ 1000) (hne : ∀ p, g p ≠ [] → p.toList.isEmpty = false) (h0 : 0 ≤ ver) (h1 : ver ≤ (now : Int)) :
    Calls Tryz.prog 26 #[.pointer (some ⟨T, 0, none⟩), .int .i64 ver, .string ⟨#[]⟩] w (ListSays w g ver) := by
  obtain ⟨c0, c1⟩ := h.c.cells
  have hmf := h.r.1
  have hu83 := Tryz.underlying83
  have d0 : ¬ ver < 0 := by omega
  have d1 : ¬ (now : Int) < ver := by omega
  have HT := hide h
  have HG := hide hg
  have HN := hide hn
  have HNE := hide hne
  clear h hg hn hne h0 h1
  go_enter Tryz.func26, Tryz.ntmps26
  go_wp2_with (first
    | (at_range; refine range_w _ CS rfl _ 81 90 rfl Tryz.underlying81 b n F rfl hmf ?_; intro w0 cnt0 hrg0 hg0 hs0)
    | go_in)
  (try go_frame)
  have HR0 := hide hrg0
  have B0 : Hid (Below w.heap.size w w0) := (Below.refl _ _).grown hg0 (by simp) (fun j hj => by cases hj)
  clear hmf hrg0 hg0 hs0 c0 c1 d0 d1
  go_loopg [8] cnt0 (fun kq v8 wr => ∃ (vis ls : List ByteArray) (A : Option Addr) (q c : Nat), v8 = .slice A q c ∧ Hid (XR wr w.heap.size (.slice A q c) ls) ∧ Hid (ls = seen_ g ver vis) ∧ Hid (MG CS wr b w.heap.size n F vis kq) ∧ Hid (Below w.heap.size w wr))
  case atStart => exact ⟨[], [], none, 0, 0, rfl, V1.nil _ _ _, rfl, unhide HR0, unhide B0⟩
  case round =>
    obtain ⟨vis, ls, A, q, c, rfl, HXR, HLS, HRG, HB⟩ := hrel
    have hrg := unhide HRG
    have hvis := hrg.visited
    have HV := hide hvis
    clear hvis
    go_wp2_with (first
      | (at_next; refine next_s _ rfl _ rfl b w.heap.size n F vis _ rfl hrg ?_ ?_)
      | go_in)
    · intro hdone
      have HD := hide hdone
      have hlen : ls.length ≤ 1000 := by
        rw [unhide HLS]
        have h1 : (seen_ g ver vis).length ≤ vis.length := List.length_filter_le _ _
        have := (unhide HV).2.2
        have := unhide HN
        omega
      have HSO := hide (sort_ok (unhide HXR) (by omega))
      clear hdone hrg hlen
      go_wp2_with fail
      refine (unhide HSO).mono ?_
      rintro e w2 ⟨rfl, ⟨ys, hys, hx2⟩, hg2⟩
      have hb2 := below_row (unhide HB) (unhide HB).size hg2 (fun k hk => (V1.lt (unhide HXR) k hk).1)
      have HYS := hide hys
      have HX2 := hide hx2
      have HB2 := hide hb2
      clear hys hx2 hg2 hb2 HSO
      go_wp2_with fail
      go_ret2
      refine ⟨⟨_, ys, rfl, unhide HX2, (unhide HYS).nodup_iff.2 (by rw [unhide HLS]; exact (unhide HV).1.filter _), fun p => ?_⟩, unhide HB2⟩
      rw [(unhide HYS).mem_iff, unhide HLS]
      unfold seen_
      rw [List.mem_filter]
      refine ⟨fun h => h.2, fun h => ⟨unhide HD p ?_, h⟩⟩
      rw [(unhide HT).r.some_iff]
      intro e
      rw [e] at h
      cases h
    · intro p v w1 cnt1 hok hnv hfp hrg1 hlt hg1 hen
      have HRG1 := hide hrg1
      have HLT := hide hlt
      have hB1 : Hid (Below w.heap.size w w1) := (unhide HB).grown hg1 (unhide HB).size (fun j hj => by cases hj; exact Nat.le_refl _)
      have HX1 : Hid (XR w1 w.heap.size (.slice A q c) ls) := V1.iter (unhide HXR) hrg hg1
      have hgp := ((unhide HT).r.2.2.1 p v hfp).1
      have hpe := unhide HNE p hgp
      have hat := at_ok base T b n now F g ver p w1 ((unhide HT).below (unhide hB1)) (show p.size ≤ maxLen from hok) (unhide HG p)
      obtain ⟨o, ho⟩ : ∃ z, z = lastAt (g p) ver := ⟨_, rfl⟩
      rw [← ho] at hat
      have HAT := hide hat
      have HO := hide ho
      have hlen : ls.length ≤ 1000 := by
        rw [unhide HLS]
        have h1 : (seen_ g ver vis).length ≤ vis.length := List.length_filter_le _ _
        have := (unhide HV).2.2
        have := unhide HN
        omega
      have HLEN := hide hlen
      clear hok hnv hfp hrg1 hlt hg1 hgp hat ho hrg hlen
      go_wp2_with fail
      refine (beneath_root p _).mono ?_
      rintro e w2 ⟨rfl, rfl⟩
      go_wp2_with fail
      refine (unhide HAT).mono ?_
      rintro e w3 ⟨rfl, hb3⟩
      have HB3 := hide (below_step (unhide hB1) hb3)
      have HX3 : Hid (XR w3 w.heap.size (.slice A q c) ls) := V1.below (unhide HX1) hb3
      have HRG3 := hide ((unhide HRG1).below hb3)
      clear hb3 HAT hen hpe
      cases o with
      | none =>
        have HS := hide (seen_snoc g ver vis p none (unhide HO))
        go_wp2_with fail
        go_roundg cnt1
        case measure => exact unhide HLT
        case rel => exact ⟨vis ++ [p], ls, A, q, c, rfl, unhide HX3, (by show _ = _; rw [unhide HS, unhide HLS]; simp), unhide HRG3, unhide HB3⟩
      | some s =>
        have HS := hide (seen_snoc g ver vis p (some s) (unhide HO))
        obtain ⟨A5, c5, w5, hr5, hx5, hg5⟩ := XR.append (unhide HX3) (unhide HB3).size (by have := unhide HLEN; omega) p
        have HR5 := hide hr5
        have HX5 := hide hx5
        have HB5 := hide (below_row (unhide HB3) (unhide HB3).size hg5 (fun k hk => (V1.lt (unhide HX3) k hk).1))
        have HRG5 := hide ((unhide HRG3).row (unhide HX3) hg5)
        clear hr5 hx5 hg5
        go_wp2_with (at_builtin; refine unhide ?_)
        refine hide ?_
        refine wpList_app rfl (.tmp 49) (.tmp 51) rfl rfl rfl rfl (unhide HR5) ?_
        go_wp2_with fail
        go_roundg cnt1
        case measure => exact unhide HLT
        case rel => exact ⟨vis ++ [p], ls ++ [p], A5, _, c5, rfl, unhide HX5, (by show _ = _; rw [unhide HS, unhide HLS]; simp), unhide HRG5, unhide HB5⟩
end Go.Proofs.YtgoephcembgmcaaGreatDoor.G
namespace Go.Proofs.YtgoephcembgmcaaGreatDoor.G
open Go.RowKit Go.Maps Go.Proofs.YtgoephcembgmcaaGreatDoorW.PrintWords Go.Proofs.YtgoephcembgmcaaGreatDoorW.PrintLast
/-! Rows of changes; their data are rows of one byte. -/
theorem info49 : (Tryz.prog.info? 49).map (fun i => (i.zero, i.size, i.bytes)) = some (some (.agg #[.string ⟨#[]⟩, .slice none 0 0, .bool false]), 3, 48) := by kernel_rfl
structure Ch where
  pth : ByteArray
  dat : Sc
  mrk : Int
def chc (s : Ch) : List Value := [.string s.pth, slv s.dat, .bool false]
/-- A row of changes. -/
def HR_ (w : World) (base : Nat) (v : Value) (ss : List Ch) : Prop := w.ownsRow base 49 3 v ss.length (ss.flatMap chc) ∧ ∀ s ∈ ss, DR w base s.dat s.mrk
theorem cs_get : ∀ (ss : List Ch) (j : Nat) (s : Ch), ss[j]? = some s → ∀ l u, (chc s)[l]? = some u → (ss.flatMap chc)[j * 3 + l]? = some u
  | [], j, s, h, _, _, _ => by simp at h
  | y :: ss, 0, s, h, l, u, hu => by
    obtain rfl : y = s := by simpa using h
    have hl : l < 3 := (List.getElem?_eq_some_iff.1 hu).1
    rw [List.flatMap_cons, Nat.zero_mul, Nat.zero_add, List.getElem?_append_left (show l < (chc y).length from hl)]
    exact hu
  | y :: ss, j + 1, s, h, l, u, hu => by
    rw [List.flatMap_cons, List.getElem?_append_right (show (chc y).length ≤ (j + 1) * 3 + l from by show 3 ≤ _; omega)]
    rw [show (j + 1) * 3 + l - (chc y).length = j * 3 + l from by show _ - 3 = _; omega]
    exact cs_get ss j s (by simpa using h) l u hu
section
variable {w w1 : World} {base : Nat} {v : Value} {ss : List Ch}
/-- Only that row and rows of bytes count. -/
theorem HR_.move (h : HR_ w base v ss) (hk : ∀ k, base ≤ k → k < w.heap.size → (v.ownBlock = some k ∨ ∃ cells, w.heap[k]? = some (.cells cells 5 (0, 0))) → w1.heap[k]? = w.heap[k]?) : HR_ w1 base v ss := by
  refine ⟨owns_block h.1 (fun k hb => ?_), fun s hs => DR.block (h.2 s hs) (fun g hg => ?_)⟩
  · have hl := h.1.lt k hb
    exact hk k hl.1 hl.2 (.inl hb)
  · have ht := owns_typed (h.2 s hs) g hg
    exact hk g ht.1 (DR.lt (h.2 s hs) g hg) (.inr ht.2)
theorem HR_.below (h : HR_ w base v ss) (hb : Below w.heap.size w w1) : HR_ w1 base v ss := h.move (fun k _ hlt _ => hb.block k hlt)
theorem HR_.nil (w : World) (base : Nat) : HR_ w base (.slice none 0 0) [] := ⟨World.ownsRow_nil _ _ _ _, by simp⟩
theorem HR_.slice (h : HR_ w base v ss) : ∃ A c, v = .slice A ss.length c ∧ (0 < ss.length → ∃ g, A = some ⟨g, 0, none⟩ ∧ base ≤ g ∧ g < w.heap.size) ∧ ss.length ≤ c := by
  rcases h.1.2 with ⟨hv, h0⟩ | ⟨g, cap, cur, rfl, hb, hg, hc, _⟩
  · refine ⟨none, 0, by rw [h0]; exact hv, fun hp => ?_, by omega⟩
    omega
  · exact ⟨_, cap, rfl, fun _ => ⟨g, rfl, hb, (Array.getElem?_eq_some_iff.1 hg).1⟩, hc⟩
theorem HR_.lt (h : HR_ w base v ss) : ∀ g, v.ownBlock = some g → base ≤ g ∧ g < w.heap.size := h.1.lt
theorem HR_.typed (h : HR_ w base v ss) : ∀ g, v.ownBlock = some g → base ≤ g ∧ ∃ cells, w.heap[g]? = some (.cells cells 49 (0, 0)) := owns_typed h.1
theorem HR_.at_ {A : Option Addr} {n c : Nat} (h : HR_ w base (.slice A n c) ss) (j : Nat) (s : Ch) (hs : ss[j]? = some s) :
    ∃ ad, A = some ad ∧ w.cell? (ad.add (j * 3)) = some (.string s.pth) ∧ w.cell? ⟨(ad.add (j * 3)).block, (ad.add (j * 3)).off + 1, none⟩ = some (slv s.dat) ∧ w.cell? ⟨(ad.add (j * 3)).block, (ad.add (j * 3)).off + 2, none⟩ = some (.bool false) := by
  have hj : j < ss.length := (List.getElem?_eq_some_iff.1 hs).1
  rcases h.1.2 with ⟨hv, h0⟩ | ⟨g, cap, cur, hv, hb, hg, hc, h5⟩
  · omega
  · cases hv
    have hcell := h.1.cells (g := g) rfl
    refine ⟨_, rfl, ?_, ?_, ?_⟩
    · have := hcell (j * 3 + 0) _ (cs_get ss j s hs 0 _ rfl)
      exact this
    · have := hcell (j * 3 + 1) _ (cs_get ss j s hs 1 _ rfl)
      rw [add_plain] at this ⊢
      exact this
    · have := hcell (j * 3 + 2) _ (cs_get ss j s hs 2 _ rfl)
      rw [add_plain] at this ⊢
      exact this
/-- A change put behind the row. -/
theorem HR_.append (h : HR_ w base v ss) (hb : base ≤ w.heap.size) (hl : ss.length ≤ 1000) (s : Ch) (hd : DR w base s.dat s.mrk) :
    ∃ g c w1, (Builtin.append_ #[44, 44] 44 #[v, .slice (some ⟨w.heap.size, 0, none⟩) 1 1]).run Tryz.prog (w.alloc (.cells #[.string s.pth, slv s.dat, .bool false] 49)) = .ok (.slice (some ⟨g, 0, none⟩) (ss.length + 1) c) w1 ∧
      HR_ w1 base (.slice (some ⟨g, 0, none⟩) (ss.length + 1) c) (ss ++ [s]) ∧ w.grownBy w1 v.ownBlock ∧ (v.ownBlock = some g ∨ w.heap.size ≤ g) := by
  obtain ⟨i0, hi, hz, hsz, hby⟩ := info_parts info49
  have ha := below_alloc (Below.refl w.heap.size w) (.cells #[.string s.pth, slv s.dat, .bool false] 49)
  have hown := (h.below ha).1
  have hnew := blk_new w (.cells #[.string s.pth, slv s.dat, .bool false] 49)
  obtain ⟨v1, w1, hr, ho, hg, _, hloc⟩ := run_append_own_at (P := Tryz.prog) (w := w.alloc (.cells #[.string s.pth, slv s.dat, .bool false] 49)) base 44 44 49 i0 _ 3 48 Tryz.underlying44 hi hz hsz hby rfl (by decide) v ss.length _ hown
    ⟨w.heap.size, 0, none⟩ 1 1 [.string s.pth, slv s.dat, .bool false] rfl (fun j u hj => by
      rw [add_plain, blk_cell hnew]
      simpa using hj) (by intro u hu; simp only [List.mem_cons, List.mem_nil_iff, or_false] at hu; rcases hu with rfl | rfl | rfl <;> rfl) (by simp only [maxLen]; omega) (by omega) (by rw [World.size_alloc]; omega)
  have hrow : (ss ++ [s]).flatMap chc = ss.flatMap chc ++ [.string s.pth, slv s.dat, .bool false] := by rw [List.flatMap_append]; rfl
  rw [← hrow] at ho
  have hgw : w.grownBy w1 v.ownBlock := ⟨hg.os.trans ha.os, hg.tape.trans ha.tape, hg.output.trans ha.output, Nat.le_trans ha.size hg.size, fun k hk hne => (hg.block k (Nat.lt_of_lt_of_le hk ha.size) hne).trans (ha.block k hk)⟩
  have hkeep : ∀ (d : Sc) (m : Int), DR w base d m → DR w1 base d m := fun d m hd => DR.block hd (fun g hg2 => hgw.block g (DR.lt hd g hg2) (fun e => by
    obtain ⟨_, c1, h1⟩ := owns_typed hd g hg2
    obtain ⟨_, c2, h2⟩ := h.typed g e.symm
    rw [h1] at h2
    cases h2))
  have hSR : HR_ w1 base v1 (ss ++ [s]) := by
    refine ⟨by rw [List.length_append]; exact ho, fun z hz => ?_⟩
    rcases List.mem_append.1 hz with hz | hz
    · exact hkeep _ _ (h.2 z hz)
    · rw [List.mem_singleton.1 hz]
      exact hkeep _ _ hd
  obtain ⟨A, c, rfl, hA, _⟩ := hSR.slice
  obtain ⟨g, rfl, _⟩ := hA (by simp)
  rw [List.length_append] at hr hSR hloc
  refine ⟨g, c, w1, hr, hSR, hgw, ?_⟩
  rcases hloc with e | e
  · exact .inl e.symm
  · have : g = (w.alloc (.cells #[.string s.pth, slv s.dat, .bool false] 49)).heap.size := Option.some.inj e
    rw [World.size_alloc] at this
    exact .inr (by omega)
end
end Go.Proofs.YtgoephcembgmcaaGreatDoor.G
namespace Go.Proofs.YtgoephcembgmcaaGreatDoor.G
open Go.RowKit Go.Maps Go.Proofs.YtgoephcembgmcaaGreatDoorW.PrintWords Go.Proofs.YtgoephcembgmcaaGreatDoorW.PrintLast
/-! Tree.Check: what it asks, exactly (plain law). -/
def inB (ps : List ByteArray) (p : ByteArray) : Bool := ps.any fun q => decide (q = p)
theorem inB_iff {ps : List ByteArray} {p : ByteArray} : inB ps p = true ↔ p ∈ ps := by
  unfold inB
  rw [List.any_eq_true]
  exact ⟨fun ⟨q, h1, h2⟩ => by rw [← of_decide_eq_true h2]; exact h1, fun h => ⟨p, h, by simp⟩⟩
def after_ (ps ls : List ByteArray) : List ByteArray := ps ++ ls.filter fun p => !inB ps p
/-- Can files be put at ps, where the files ls are? -/
def CanL (ps ls : List ByteArray) : Prop := (∀ p ∈ ps, pathOK p = true) ∧ ps.Nodup ∧ (after_ ps ls).Pairwise (fun a b => clash b a = false) ∧ (after_ ps ls).length ≤ 64
theorem CanL.perm {ps ls ls' : List ByteArray} (hp : ls.Perm ls') (h : CanL ps ls) : CanL ps ls' := by
  have ha : (after_ ps ls).Perm (after_ ps ls') := (List.Perm.refl ps).append (hp.filter _)
  exact ⟨h.1, h.2.1, (ha.pairwise_iff (fun {a b} hab => by rw [clash_comm]; exact hab)).1 h.2.2.1, by rw [← ha.length_eq]; exact h.2.2.2⟩
def Lists (g : ByteArray → List St) (ver : Int) (ls : List ByteArray) : Prop := ls.Nodup ∧ ∀ p, p ∈ ls ↔ (lastAt (g p) ver).isSome = true
theorem Lists.perm {g : ByteArray → List St} {ver : Int} {ls ls' : List ByteArray} (h : Lists g ver ls) (h' : Lists g ver ls') : ls.Perm ls' := (List.perm_ext_iff_of_nodup h.1 h'.1).2 fun p => by rw [h.2, h'.2]
theorem TreeAt.lists {w : World} {base T b n now : Nat} {F : ByteArray → Option Value} {g : ByteArray → List St} (h : TreeAt w base T b n now F g) (ver : Int) : ∃ ls, Lists g ver ls ∧ ls.length ≤ n := by
  obtain ⟨ks, hk, hn⟩ := h.r.1.keys
  refine ⟨seen_ g ver ks, ⟨hk.1.filter _, fun p => ?_⟩, Nat.le_trans (List.length_filter_le _ _) hn⟩
  unfold seen_
  rw [List.mem_filter]
  refine ⟨fun h => h.2, fun hs => ⟨(hk.2 p).2 ((h.r.some_iff p).2 (fun e => ?_)), hs⟩⟩
  rw [e] at hs
  cases hs
def ToldP (P : Prop) (v : Value) : Prop := (P ∧ v = .nilIface) ∨ (¬ P ∧ ∃ g, v = .iface 76 (.pointer (some ⟨g, 0, none⟩)))
def CheckSays (w : World) (g : ByteArray → List St) (now : Int) (ps : List ByteArray) (e : Ending) (w' : World) : Prop := (∃ v ls, e = .returned v ∧ Lists g now ls ∧ ToldP (CanL ps ls) v) ∧ Below w.heap.size w w'
/-- The map of those seen. -/
def SeenAt (Fs : ByteArray → Option Value) (ps : List ByteArray) : Prop := ∀ p, (p ∈ ps ∧ Fs p = some (.bool true)) ∨ (p ∉ ps ∧ Fs p = none)
theorem SeenAt.put {Fs : ByteArray → Option Value} {ps : List ByteArray} (h : SeenAt Fs ps) (p : ByteArray) : SeenAt (upd Fs p (some (.bool true))) (ps ++ [p]) := by
  intro q
  by_cases e : q = p
  · subst e
    exact .inl ⟨by simp, upd_same _ _ _⟩
  · rw [upd_other e]
    rcases h q with ⟨h1, h2⟩ | ⟨h1, h2⟩
    · exact .inl ⟨List.mem_append_left _ h1, h2⟩
    · exact .inr ⟨by simp [h1, e], h2⟩
theorem SeenAt.hit {Fs : ByteArray → Option Value} {ps : List ByteArray} (h : SeenAt Fs ps) {p : ByteArray} (hp : p ∈ ps) : (Fs p).getD (.bool false) = .bool true := by
  rcases h p with ⟨_, h2⟩ | ⟨h1, _⟩
  · rw [h2]; rfl
  · exact absurd hp h1
theorem SeenAt.miss {Fs : ByteArray → Option Value} {ps : List ByteArray} (h : SeenAt Fs ps) {p : ByteArray} (hp : p ∉ ps) : (Fs p).getD (.bool false) = .bool false := by
  rcases h p with ⟨h1, _⟩ | ⟨_, h2⟩
  · exact absurd h1 hp
  · rw [h2]; rfl
theorem zero4 (w : World) : (zeroValue 4).run Tryz.prog w = .ok (.bool false) w := by kernel_rfl
section
variable {κ : Type} {C : KC κ} {w w1 : World} {b n base e : Nat} {F : κ → Option Value} {v : Value} {us : List Value}
theorem MF.row (hm : MF C w b n F) (h : V1 w base e v us) (hg : w.grownBy w1 v.ownBlock) : MF C w1 b n F :=
  hm.kept (hg.block b hm.lt (fun e2 => by
    obtain ⟨_, cells, hc⟩ := V1.typed h b e2.symm
    obtain ⟨_, _, hi⟩ := hm.isMap
    rw [hc] at hi
    cases hi))
theorem V1.map (h : V1 w base e v us) (hm : MF C w b n F) (hg : w.grownBy w1 (some b)) : V1 w1 base e v us :=
  V1.block h (fun g hgv => hg.block g (V1.lt h g hgv).2 (fun e2 => by
    obtain rfl : g = b := Option.some.inj e2
    obtain ⟨_, cells, hc⟩ := V1.typed h g hgv
    obtain ⟨_, _, hi⟩ := hm.isMap
    rw [hc] at hi
    cases hi))
/-- A row that lies elsewhere is kept. -/
theorem V1.beside {row : Option Nat} (h : V1 w base e v us) (hg : w.grownBy w1 row) (hne : ∀ g, v.ownBlock = some g → row ≠ some g) : V1 w1 base e v us :=
  V1.block h (fun g hgv => hg.block g (V1.lt h g hgv).2 (fun e2 => hne g hgv e2.symm))
end
theorem upto36 (a : Option Addr) (n c k : Nat) (hk : k ≤ c) (W : World) : (Instr.slice 36 (.slice a n c) none (some (.int .i64 (k : Int))) none).run Tryz.prog W = .ok (.slice a k c) W := by
  obtain ⟨i0, hi, hz, hsz, hby⟩ := info_parts info9
  have ha : (a.map fun x => x.add 0) = a := by cases a <;> simp [Addr.add]
  rw [run_slice_h W 36 a n c slice36 .i64 (k : Int) (by omega) (by omega), elem36]
  simp [sizeOf, typeInfo, hi, hsz, sliced, Result.andThen, ha]
end Go.Proofs.YtgoephcembgmcaaGreatDoor.G
namespace Go.Proofs.YtgoephcembgmcaaGreatDoor.G
open Go.RowKit Go.Maps Go.Proofs.YtgoephcembgmcaaGreatDoorW.PrintWords Go.Proofs.YtgoephcembgmcaaGreatDoorW.PrintLast
/-! Tree.Check. -/
theorem not_path {ps ls : List ByteArray} {p : ByteArray} (hp : p ∈ ps) (h : pathOK p = false) : ¬ CanL ps ls := fun hc => by
  have := hc.1 p hp
  rw [h] at this
  cases this
theorem not_twice {ps ls : List ByteArray} {p : ByteArray} {j : Nat} (hj : ps[j]? = some p) (h : p ∈ ps.take j) : ¬ CanL ps ls := fun hc => by
  have hn := hc.2.1
  obtain ⟨i, hi⟩ := List.mem_iff_getElem?.1 h
  rw [List.getElem?_take] at hi
  split at hi
  · rename_i hij
    have h1 := (List.getElem?_eq_some_iff.1 hi).1
    have h2 := (List.getElem?_eq_some_iff.1 hj).1
    have e1 := (List.getElem?_eq_some_iff.1 hi).2
    have e2 := (List.getElem?_eq_some_iff.1 hj).2
    exact absurd (e1.trans e2.symm) (List.pairwise_iff_getElem.1 hn i j h1 h2 hij)
  · cases hi
theorem take_mem_snoc {α : Type} {l : List α} {j : Nat} {x : α} (h : l[j]? = some x) : l.take (j + 1) = l.take j ++ [x] := by
  rw [List.take_add_one, h]
  rfl
theorem not_clash {ps ls aft : List ByteArray} {i l : Nat} {p y : ByteArray} (ha : aft = after_ ps ls) (hi : aft[i]? = some p) (hl : aft[l]? = some y) (hli : l < i) (h : clash p y = true) : ¬ CanL ps ls := fun hc => by
  have hp := hc.2.2.1
  rw [← ha] at hp
  have h1 := (List.getElem?_eq_some_iff.1 hi)
  have h2 := (List.getElem?_eq_some_iff.1 hl)
  have := List.pairwise_iff_getElem.1 hp l i h2.1 h1.1 hli
  rw [h2.2, h1.2, h] at this
  cases this
theorem pair_snoc {aft : List ByteArray} {i : Nat} {p : ByteArray} (hi : aft[i]? = some p) (h : (aft.take i).Pairwise (fun a b => clash b a = false)) (hl : ∀ (l : Nat) (y : ByteArray), l < i → aft[l]? = some y → clash p y = false) : (aft.take (i + 1)).Pairwise (fun a b => clash b a = false) := by
  rw [take_mem_snoc hi]
  refine List.pairwise_append.2 ⟨h, by simp, fun a ha b hb => ?_⟩
  rw [List.mem_singleton.1 hb]
  obtain ⟨l, hl2⟩ := List.mem_iff_getElem?.1 ha
  rw [List.getElem?_take] at hl2
  split at hl2
  · rename_i h2
    exact hl l a h2 hl2
  · cases hl2
theorem told_not {P : Prop} {g : Nat} (h : ¬ P) : ToldP P (.iface 76 (.pointer (some ⟨g, 0, none⟩))) := .inr ⟨h, g, rfl⟩
set_option maxHeartbeats 8000000 in
set_option maxRecDepth 100000 in
theorem check_ok (base T b n now : Nat) (F : ByteArray → Option Value) (g : ByteArray → List St) (cs : List Ch) (A0 : Option Addr) (c0 : Nat) (w : World) (hG : Glob w) (h : TreeAt w base T b n now F g) (hn : n ≤ 1000) (hg : ∀ p, (g p).length ≤ 1000) (hwf : WF g now) (hnow : now ≤ 1000)
    (hC : HR_ w base (.slice A0 cs.length c0) cs) (hm : cs.length ≤ 1000) (hps : ∀ c ∈ cs, c.pth.size ≤ 10000) :
    Calls Tryz.prog 11 #[.pointer (some ⟨T, 0, none⟩), .slice A0 cs.length c0] w (CheckSays w g (now : Int) (cs.map (·.pth))) := by
  obtain ⟨ls0, hls0, hls0n⟩ := h.lists (now : Int)
  obtain ⟨ps, hpsd⟩ : ∃ z, z = cs.map (·.pth) := ⟨_, rfl⟩
  rw [← hpsd]
  obtain ⟨m, hmd⟩ : ∃ z, z = cs.length := ⟨_, rfl⟩
  rw [← hmd] at hC hm ⊢
  have HLS0 := hide hls0
  have HPSD := hide hpsd
  have HM := hide hmd
  have HG := hide hG
  have HT := hide h
  have HN := hide hn
  have HGL := hide hg
  have HWF := hide hwf
  have HNOW := hide hnow
  have HC := hide hC
  have HML := hide hm
  have HPS := hide hps
  have hu83 := Tryz.underlying83
  have hu49 := Tryz.underlying49
  have hu78 := Tryz.underlying78
  have hmm := @run_makeMap Tryz.prog
  have HMF := hide (MF.made (C := CS) w)
  have HB0 := hide (below_alloc (Below.refl w.heap.size w) (.map #[] 0))
  clear hls0 hls0n hpsd hmd hG h hn hg hwf hnow hC hm hps
  go_enter Tryz.func11, Tryz.ntmps11
  go_wp2_with fail
  generalize w.alloc (.map #[] 0) = w1 at HMF HB0 ⊢
  clear hmm
  go_loopg [6, 7, 25] m (fun kq v6 v7 v25 wr => ∃ (j : Nat) (A : Option Addr) (q c : Nat) (Fs : ByteArray → Option Value), v6 = .slice A q c ∧ v7 = .int .i64 (j : Int) ∧ v25 = .int .i64 (j : Int) ∧ Hid (j + kq = m) ∧ Hid (XR wr w.heap.size (.slice A q c) (ps.take j)) ∧ Hid (MF CS wr w.heap.size j Fs) ∧ Hid (SeenAt Fs (ps.take j)) ∧ Hid (Below w.heap.size w wr) ∧ Hid ((∀ p ∈ ps.take j, pathOK p = true) ∧ (ps.take j).Nodup))
  case atStart => exact ⟨0, none, 0, 0, _, rfl, rfl, rfl, Nat.zero_add _, V1.nil _ _ _, unhide HMF, fun p => .inr ⟨by simp, rfl⟩, unhide HB0, ⟨by simp, by simp⟩⟩
  case round =>
    obtain ⟨j, A, q, c, Fs, rfl, rfl, rfl, HI, HX, HF, HS, HB, HOK⟩ := hrel
    by_cases hlt : j < m
    · have d1 : (j : Int) < (m : Int) := by omega
      obtain ⟨ch, hch⟩ : ∃ z, cs[j]? = some z := ⟨_, List.getElem?_eq_getElem (by rw [← unhide HM]; exact hlt)⟩
      have hrow := (unhide HC).below ((unhide HB))
      replace hrow : HR_ wr base (.slice A0 m c0) cs := hrow
      obtain ⟨ad, rfl, k0, k1, k2⟩ := hrow.at_ j ch hch
      have hdr := hrow.2 ch (List.mem_of_getElem? hch)
      have hpz := unhide HPS ch (List.mem_of_getElem? hch)
      replace hpj : ps[j]? = some ch.pth := by rw [unhide HPSD, List.getElem?_map, hch]; rfl
      obtain ⟨p, d, mk⟩ := ch
      obtain ⟨dg, dc, rfl, _, _, _, _⟩ := DR.form hdr
      replace k0 : wr.cell? (ad.add (j * 3)) = some (.string p) := k0
      replace k1 : wr.cell? ⟨(ad.add (j * 3)).block, (ad.add (j * 3)).off + 1, none⟩ = some (.slice (some ⟨dg, 0, none⟩) 1 dc) := k1
      replace k2 : wr.cell? ⟨(ad.add (j * 3)).block, (ad.add (j * 3)).off + 2, none⟩ = some (.bool false) := k2
      replace hpz : p.size ≤ 10000 := hpz
      replace hpj : ps[j]? = some p := hpj
      have hb1 := below_alloc (unhide HB) (.cells #[.string p, .slice (some ⟨dg, 0, none⟩) 1 dc, .bool false] 49)
      have hnb := blk_new wr (.cells #[.string p, .slice (some ⟨dg, 0, none⟩) 1 dc, .bool false] 49)
      have e0 : (wr.alloc (.cells #[.string p, .slice (some ⟨dg, 0, none⟩) 1 dc, .bool false] 49)).cell? ⟨wr.heap.size, 0, none⟩ = some (.string p) := blk_cell hnb 0
      have HX1 : Hid (XR (wr.alloc (.cells #[.string p, .slice (some ⟨dg, 0, none⟩) 1 dc, .bool false] 49)) w.heap.size (.slice A q c) (ps.take j)) := V1.below (unhide HX) (below_alloc (Below.refl _ _) _)
      have HF1 : Hid (MF CS (wr.alloc (.cells #[.string p, .slice (some ⟨dg, 0, none⟩) 1 dc, .bool false] 49)) w.heap.size j Fs) := (unhide HF).below (below_alloc (Below.refl _ _) _)
      have hpc := pathcheck_ok p (wr.alloc (.cells #[.string p, .slice (some ⟨dg, 0, none⟩) 1 dc, .bool false] 49)) ((unhide HG).below hb1) hpz
      have HPZ := hide hpz
      have HPJ := hide hpj
      have HLT := hide hlt
      have HB1 := hide hb1
      have HNB := hide hnb
      have HPC := hide hpc
      have HSZ : Hid (wr.heap.size < (wr.alloc (.cells #[.string p, .slice (some ⟨dg, 0, none⟩) 1 dc, .bool false] 49)).heap.size) := by show _ < _; rw [World.size_alloc]; omega
      clear hlt hch hrow hdr hpz hpj hb1 hnb hpc
      go_wp2_with fail
      generalize wr.alloc (.cells #[.string p, .slice (some ⟨dg, 0, none⟩) 1 dc, .bool false] 49) = W1 at HX1 HF1 HPC HB1 HNB HSZ e0 ⊢
      refine (unhide HPC).mono ?_
      rintro e W2 ⟨v, rfl, htold, hb2⟩
      have hnb2 := (hb2.block wr.heap.size (unhide HSZ)).trans (unhide HNB)
      have HB2 := hide (below_step (unhide HB1) hb2)
      have HX2 := hide (V1.below (unhide HX1) hb2)
      have HF2 := hide ((unhide HF1).below hb2)
      have HNB2 := hide hnb2
      clear HPC HX1 HF1 HB1 HNB hb2 e0 k0 k1 k2
      have e0 : W2.cell? ⟨wr.heap.size, 0, none⟩ = some (.string p) := blk_cell hnb2 0
      have e1 : W2.cell? ⟨wr.heap.size, 1, none⟩ = some (.slice (some ⟨dg, 0, none⟩) 1 dc) := blk_cell hnb2 1
      have e2 : W2.cell? ⟨wr.heap.size, 2, none⟩ = some (.bool false) := blk_cell hnb2 2
      clear hnb2 HSZ
      cases hq : pathOK p with
      | false =>
        rw [hq] at htold
        obtain ⟨gv, rfl⟩ := htold
        have HQ := hide hq
        clear hq
        go_wp2_with fail
        go_ret
        exact ⟨⟨_, ls0, rfl, unhide HLS0, told_not (not_path (List.mem_of_getElem? (unhide HPJ)) (unhide HQ))⟩, below_alloc (unhide HB2) _⟩
      | true =>
        rw [hq] at htold
        obtain rfl : v = .nilIface := htold
        have HQ := hide hq
        clear hq
        have hlk := (unhide HF2).look (t := 74) Tryz.underlying74 (zero4 W2) (x := p) (show p.size ≤ maxLen from by have := unhide HPZ; simp only [maxLen]; omega)
        replace hlk : (Instr.lookup 74 (.map (some w.heap.size)) (.string p) false).run Tryz.prog W2 = .ok ((Fs p).getD (.bool false)) W2 := hlk
        by_cases hin : p ∈ ps.take j
        · rw [(unhide HS).hit hin] at hlk
          have HIN := hide hin
          clear hin
          go_wp2_with fail
          go_ret
          exact ⟨⟨_, ls0, rfl, unhide HLS0, told_not (not_twice (unhide HPJ) (unhide HIN))⟩, below_alloc (unhide HB2) _⟩
        · rw [(unhide HS).miss hin] at hlk
          have HIN := hide hin
          obtain ⟨W3, hr3, hf3, ht3⟩ := (unhide HF2).put (t := 74) Tryz.underlying74 (by have := unhide HLT; have := unhide HML; simp only [maxLen]; omega) (x := p) (show p.size ≤ maxLen from by have := unhide HPZ; simp only [maxLen]; omega) (.bool true)
          replace hr3 : (Instr.mapUpdate 74 (.map (some w.heap.size)) (.string p) (.bool true)).run Tryz.prog W2 = .ok () W3 := hr3
          have hgr3 := ht3.grown
          have hne : wr.heap.size ≠ w.heap.size := by have := (unhide HF).lt; omega
          have hlt2 : wr.heap.size < W2.heap.size := (Array.getElem?_eq_some_iff.1 (unhide HNB2)).1
          have hnb3 := (hgr3.block wr.heap.size hlt2 (fun e => hne (Option.some.inj e))).trans (unhide HNB2)
          have HB3 := hide (below_row (unhide HB2) (unhide HB2).size hgr3 (fun k hk => by cases hk; exact Nat.le_refl _))
          have HX3 := hide (V1.map (unhide HX2) (unhide HF2) hgr3)
          have HF3 := hide hf3
          have HS3 := hide ((unhide HS).put p)
          have f0 : W3.cell? ⟨wr.heap.size, 0, none⟩ = some (.string p) := blk_cell hnb3 0
          have f1 : W3.cell? ⟨wr.heap.size, 1, none⟩ = some (.slice (some ⟨dg, 0, none⟩) 1 dc) := blk_cell hnb3 1
          have f2 : W3.cell? ⟨wr.heap.size, 2, none⟩ = some (.bool false) := blk_cell hnb3 2
          obtain ⟨t0, t1⟩ := ((unhide HT).below (unhide HB3)).c.cells
          have HAT : Hid (∀ k, Calls Tryz.prog 25 #[.pointer (some ⟨T, 0, none⟩), .int .i64 (now : Int), .string p] (W3.drewN k) fun e w' => e = .returned (.tuple #[datV (lastAt (g p) (now : Int)), .bool (lastAt (g p) (now : Int)).isSome]) ∧ ∃ m, w' = (W3.drewN k).drewN m) :=
            fun k => atq_ok base T b n now F g (now : Int) p (W3.drewN k) (((unhide HT).below (unhide HB3)).below (below_drawn _ _)) (by have := unhide HPZ; simp only [maxLen]; omega) (unhide HGL p)
          have HNB3 := hide hnb3
          clear hin hf3 ht3 hgr3 hne hlt2 hnb3 t1
          go_wp2_with fail
          go_quiet (first | (go_at_call 25; exact Calls.quiet_of (unhide HAT _)))
          have HB4 : Hid (Below w.heap.size w (W3.drewN nq)) := below_step (unhide HB3) (below_drawn _ _)
          have HX4 : Hid (XR (W3.drewN nq) w.heap.size (.slice A q c) (ps.take j)) := V1.below (unhide HX3) (below_drawn _ _)
          have HF4 : Hid (MF CS (W3.drewN nq) w.heap.size (j + 1) (upd Fs p (some (.bool true)))) := (unhide HF3).below (below_drawn _ _)
          have HNB4 : Hid ((W3.drewN nq).heap[wr.heap.size]? = some (.cells #[.string p, .slice (some ⟨dg, 0, none⟩) 1 dc, .bool false] 49 (0, 0))) := unhide HNB3
          replace f0 : (W3.drewN nq).cell? ⟨wr.heap.size, 0, none⟩ = some (.string p) := f0
          replace f2 : (W3.drewN nq).cell? ⟨wr.heap.size, 2, none⟩ = some (.bool false) := f2
          generalize W3.drewN nq = W4 at HB4 HX4 HF4 HNB4 f0 f2 ⊢
          clear HX3 HF3 HNB3 HB3 HAT f1 t0 hr3 hlk HX2 HF2 HNB2 HB2 e0 e1 e2
          obtain ⟨A5, c5, W5, hr5, hx5, hg5⟩ := XR.append (unhide HX4) (unhide HB4).size (by have := unhide HML; have := unhide HLT; rw [List.length_take]; omega) p
          have hne5 : some wr.heap.size ≠ (Value.slice A q c).ownBlock := fun e => by
            obtain ⟨_, cells, hc⟩ := V1.typed (unhide HX4) _ e.symm
            have := unhide HNB4
            rw [hc] at this
            cases this
          have hnb5 := (hg5.block wr.heap.size (Array.getElem?_eq_some_iff.1 (unhide HNB4)).1 hne5).trans (unhide HNB4)
          have f1 : W5.cell? ⟨wr.heap.size, 1, none⟩ = some (.slice (some ⟨dg, 0, none⟩) 1 dc) := blk_cell hnb5 1
          have hj : (ps.take j).length = j := by
            rw [List.length_take]
            have := (List.getElem?_eq_some_iff.1 (unhide HPJ)).1
            omega
          rw [hj] at hr5 hx5
          have HR5 := hide hr5
          have HB5 := hide (below_row (unhide HB4) (unhide HB4).size hg5 (fun k hk => (V1.lt (unhide HX4) k hk).1))
          have HF5 := hide ((unhide HF4).row (unhide HX4) hg5)
          rw [← take_mem_snoc (unhide HPJ)] at hx5
          have HX5 := hide hx5
          have hw : wrap64 ((j : Int) + 1) = ((j + 1 : Nat) : Int) := by have := unhide HML; have := unhide HLT; unfold wrap64; omega
          clear hr5 hx5 hg5 hne5 hnb5 hj
          go_wp2_with (at_builtin; refine unhide ?_)
          refine hide ?_
          refine wpList_app rfl (.tmp 88) (.tmp 91) rfl rfl rfl rfl (unhide HR5) ?_
          go_wp2_with fail
          go_roundg (gk - 1)
          case measure => have := unhide HI; have := unhide HLT; omega
          case rel =>
            refine ⟨j + 1, A5, _, c5, _, rfl, congrArg (Value.int .i64) hw, congrArg (Value.int .i64) hw, (by have := unhide HI; have := unhide HLT; show _ = _; omega), unhide HX5, unhide HF5, ?_, unhide HB5, ?_, ?_⟩
            · show SeenAt _ _
              rw [take_mem_snoc (unhide HPJ)]
              exact unhide HS3
            · intro x hx
              rw [take_mem_snoc (unhide HPJ)] at hx
              rcases List.mem_append.1 hx with hx | hx
              · exact (unhide HOK).1 x hx
              · rw [List.mem_singleton.1 hx]; exact unhide HQ
            · rw [take_mem_snoc (unhide HPJ)]
              exact List.nodup_append.2 ⟨(unhide HOK).2, by simp, fun a ha c hc => by rw [List.mem_singleton.1 hc]; exact fun e => unhide HIN (e ▸ ha)⟩
    · have d1 : ¬ (j : Int) < (m : Int) := by omega
      have hjm : j = m := by have := unhide HI; omega
      have htk : ps.take j = ps := List.take_of_length_le (by rw [unhide HPSD, List.length_map, ← unhide HM]; omega)
      rw [htk] at HX HS HOK
      have hlist := list_ok base T b n now F g (now : Int) wr ((unhide HT).below (unhide HB)) (unhide HN) (unhide HGL) (fun p hp => by
        have := (unhide HWF).path p hp
        unfold pathOK at this
        simp only [Bool.and_eq_true, Bool.not_eq_true'] at this
        exact this.1.1.1) (by omega) (Int.le_refl _)
      obtain ⟨t0, _⟩ := ((unhide HT).below (unhide HB)).c.cells
      have HLI := hide hlist
      have HJM := hide hjm
      clear hlt hjm htk hlist
      go_wp2_with fail
      refine (unhide HLI).mono ?_
      rintro e W2 ⟨⟨lv, ls, rfl, hx2, hnd, hmem⟩, hb2⟩
      obtain ⟨LA, lc, rfl, _, _⟩ := XR.slice hx2
      have hls : Lists g (now : Int) ls := ⟨hnd, hmem⟩
      have hll : ls.length ≤ 1000 := by
        rw [((unhide HLS0).perm hls).length_eq.symm]
        obtain ⟨l9, h9, h9n⟩ := (unhide HT).lists (now : Int)
        rw [((unhide HLS0).perm h9).length_eq]
        have := unhide HN
        omega
      obtain ⟨L2, hL2⟩ : ∃ z, z = ls.length := ⟨_, rfl⟩
      rw [← hL2] at hx2 hll ⊢
      have HAPART : Hid (∀ k, (Value.slice A q c).ownBlock = some k → (Value.slice LA L2 lc).ownBlock ≠ some k) := fun k hk e => by
        have h1 := (V1.lt (unhide HX) k hk).2
        have h2 := (V1.lt hx2 k e).1
        omega
      have HX2 := hide (V1.below (unhide HX) hb2)
      have HLX2 : Hid (XR W2 w.heap.size (.slice LA L2 lc) ls) := V1.lower hx2 (unhide HB).size
      have HF2 := hide ((unhide HF).below hb2)
      have HB2 := hide (below_step (unhide HB) hb2)
      have HLS := hide hls
      have HL2 := hide hL2
      have HLL := hide hll
      clear hx2 hnd hmem hb2 hls hL2 hll t0 d1 HX HF HLI HB HI
      go_wp2_with fail
      obtain ⟨Xm, hXm⟩ : ∃ z, z = m := ⟨_, rfl⟩
      have HXM := hide hXm
      go_loopg [6, 7, 110] L2 (fun kq v6 v7 v110 wq => ∃ (k : Nat) (A : Option Addr) (q c : Nat) (y : Nat), v6 = .slice A q c ∧ v7 = .int .i64 (y : Int) ∧ v110 = .int .i64 (k : Int) ∧ Hid (k + kq = L2) ∧ Hid (y = (after_ ps (ls.take k)).length) ∧ Hid (XR wq w.heap.size (.slice A q c) (after_ ps (ls.take k))) ∧ Hid (XR wq w.heap.size (.slice LA L2 lc) ls) ∧ Hid (∀ k, (Value.slice A q c).ownBlock = some k → (Value.slice LA L2 lc).ownBlock ≠ some k) ∧ Hid (MF CS wq w.heap.size j Fs) ∧ Hid (Below w.heap.size w wq))
      case atStart =>
        have e : after_ ps (ls.take 0) = ps := by unfold after_; simp
        refine ⟨0, A, q, c, j, rfl, rfl, rfl, Nat.zero_add _, ?_, ?_, unhide HLX2, unhide HAPART, unhide HF2, unhide HB2⟩
        · show _ = _
          rw [e, unhide HPSD, List.length_map, ← unhide HM]
          exact unhide HJM
        · rw [e]; exact unhide HX2
      case round =>
        obtain ⟨k, A, q, c, y, rfl, rfl, rfl, HI, HY, HX, HLX, HAPART, HF, HB⟩ := hrel
        obtain ⟨wz, hwz⟩ : ∃ z, z = wr := ⟨_, rfl⟩
        have hyb : y ≤ 2000 := by
          rw [unhide HY]
          unfold after_
          have h1 := List.length_filter_le (fun p => !inB ps p) (ls.take k)
          have h2 := List.length_take_le' k ls
          have h3 : ps.length = m := by rw [unhide HPSD, List.length_map, ← unhide HM]
          have := unhide HLL
          have := unhide HL2
          have := unhide HML
          rw [List.length_append]
          omega
        have HYB := hide hyb
        clear hyb hwz
        by_cases hlt : k < L2
        · have d1 : (k : Int) < (L2 : Int) := by omega
          obtain ⟨p, hp⟩ : ∃ z, ls[k]? = some z := ⟨_, List.getElem?_eq_getElem (by rw [← unhide HL2]; exact hlt)⟩
          obtain ⟨ad, rfl, k0⟩ := XR.at_ (unhide HLX) k p hp
          have hsome := ((unhide HLS).2 p).1 (List.mem_of_getElem? hp)
          obtain ⟨s, hs⟩ := Option.isSome_iff_exists.1 hsome
          have hpok : pathOK p = true := (unhide HWF).path p (fun e => by rw [e] at hs; cases hs)
          have hpz := path_size hpok
          have hlk := (unhide HF).look (t := 74) Tryz.underlying74 (zero4 _) (x := p) (show p.size ≤ maxLen from by simp only [maxLen]; omega)
          replace hlk : (Instr.lookup 74 (.map (some w.heap.size)) (.string p) false).run Tryz.prog wr = .ok ((Fs p).getD (.bool false)) wr := hlk
          have hTw := (unhide HT).below (unhide HB)
          obtain ⟨t0, _⟩ := hTw.c.cells
          have hat := at_ok base T b n now F g (now : Int) p wr hTw (by simp only [maxLen]; omega) (unhide HGL p)
          rw [hs] at hat
          have hdr := (hTw.r.row p).2 s (lastAt_mem hs)
          obtain ⟨sf, sd, sm⟩ := s
          obtain ⟨dg, dc, rfl, _, _, _, _⟩ := DR.form hdr
          replace hat : Calls Tryz.prog 25 #[.pointer (some ⟨T, 0, none⟩), .int .i64 (now : Int), .string p] wr fun e w' => e = .returned (.tuple #[.slice (some ⟨dg, 0, none⟩) 1 dc, .bool true]) ∧ Below wr.heap.size wr w' := hat
          have HAT := hide hat
          have HP := hide hp
          have HLT := hide hlt
          have hw1 : wrap64 ((k : Int) + 1) = ((k + 1 : Nat) : Int) := by have := unhide HLL; unfold wrap64; omega
          have hw2 : wrap64 ((y : Int) + 1) = ((y + 1 : Nat) : Int) := by have := unhide HYB; unfold wrap64; omega
          have HW1 := hide hw1
          have HW2 := hide hw2
          clear hat hp hlt hsome hs hpok hpz hTw hdr hw1 hw2
          by_cases hin : p ∈ ps
          · rw [(unhide HS).hit hin] at hlk
            have htk : after_ ps (ls.take (k + 1)) = after_ ps (ls.take k) := by
              rw [take_mem_snoc (unhide HP)]
              unfold after_
              rw [List.filter_append]
              simp [inB_iff.2 hin]
            have HTK := hide htk
            clear hin htk HAT
            go_wp2_with fail
            go_roundg (gk - 1)
            case measure => have := unhide HI; have := unhide HLT; omega
            case rel => exact ⟨k + 1, A, q, c, y, rfl, rfl, congrArg (Value.int .i64) (unhide HW1), (by have := unhide HI; have := unhide HLT; show _ = _; omega), (by show _ = _; rw [unhide HTK]; exact unhide HY), (by rw [unhide HTK]; exact unhide HX), unhide HLX, unhide HAPART, unhide HF, unhide HB⟩
          · rw [(unhide HS).miss hin] at hlk
            have hnb : inB ps p = false := by
              cases hq : inB ps p
              · rfl
              · exact absurd (inB_iff.1 hq) hin
            have htk : after_ ps (ls.take (k + 1)) = after_ ps (ls.take k) ++ [p] := by
              rw [take_mem_snoc (unhide HP)]
              unfold after_
              rw [List.filter_append, List.append_assoc]
              simp [hnb]
            have HTK := hide htk
            clear hin hnb htk
            go_wp2_with fail
            refine (unhide HAT).mono ?_
            rintro e W3 ⟨rfl, hb3⟩
            have HB3 := hide (below_step (unhide HB) hb3)
            have HX3 := hide (V1.below (unhide HX) hb3)
            have HLX3 := hide (V1.below (unhide HLX) hb3)
            have HF3 := hide ((unhide HF).below hb3)
            obtain ⟨A5, c5, W5, hr5, hx5, hg5, hloc⟩ := XR.append_at (unhide HX3) (unhide HB3).size (by rw [← unhide HY]; have := unhide HYB; omega) p
            have hlx5 := V1.beside (unhide HLX3) hg5 (fun k hk e => unhide HAPART k e hk)
            have hap : ∀ k, (Value.slice A5 (y + 1) c5).ownBlock = some k → (Value.slice (some ad) L2 lc).ownBlock ≠ some k := by
              intro k hk e
              cases A5 with
              | none => cases hk
              | some a5 =>
                obtain rfl : a5.block = k := Option.some.inj hk
                rcases hloc a5 rfl with h | h
                · exact unhide HAPART _ h e
                · have := (V1.lt (unhide HLX3) _ e).2
                  omega
            rw [← unhide HY] at hr5 hx5
            rw [← unhide HTK] at hx5
            have HR5 := hide hr5
            have HX5 := hide hx5
            have HLX5 := hide hlx5
            have HAP := hide hap
            have HB5 := hide (below_row (unhide HB3) (unhide HB3).size hg5 (fun k hk => (V1.lt (unhide HX3) k hk).1))
            have HF5 := hide ((unhide HF3).row (unhide HX3) hg5)
            clear hb3 HAT hr5 hx5 hg5 hloc hlx5 hap t0 k0 hlk
            go_wp2_with (at_builtin; refine unhide ?_)
            refine hide ?_
            refine wpList_app rfl (.tmp 128) (.tmp 130) rfl rfl rfl rfl (unhide HR5) ?_
            go_wp2_with fail
            go_roundg (gk - 1)
            case measure => have := unhide HI; have := unhide HLT; omega
            case rel => exact ⟨k + 1, A5, _, c5, y + 1, rfl, congrArg (Value.int .i64) (unhide HW2), congrArg (Value.int .i64) (unhide HW1), (by have := unhide HI; have := unhide HLT; show _ = _; omega), (by show _ = _; rw [unhide HTK, List.length_append, ← unhide HY]; rfl), unhide HX5, unhide HLX5, unhide HAP, unhide HF5, unhide HB5⟩
        · have d1 : ¬ (k : Int) < (L2 : Int) := by omega
          have htk : ls.take k = ls := List.take_of_length_le (by have := unhide HI; have := unhide HL2; omega)
          rw [htk] at HX HY
          obtain ⟨aft, haft⟩ : ∃ z, z = after_ ps ls := ⟨_, rfl⟩
          rw [← haft] at HX HY
          have HAFT := hide haft
          have hq : q = y := by
            obtain ⟨_, _, e, _⟩ := XR.slice (unhide HX)
            injection e with _ e2 _
            rw [unhide HY, e2]
          subst hq
          have hqc : q ≤ c := by
            obtain ⟨_, _, e, _, h3⟩ := XR.slice (unhide HX)
            injection e with _ e2 e3
            rw [e3, e2]
            exact h3
          have HQC := hide hqc
          have hup := fun (i : Nat) (hi : i ≤ c) (W : World) => upto36 A q c i hi W
          have HUP := hide hup
          clear htk haft hlt hqc hup HLX HAPART HF
          go_wp2_with fail
          obtain ⟨W, hW⟩ : ∃ z, z = wr := ⟨_, rfl⟩
          rw [← hW] at HX HB ⊢
          clear hW
          have hsz : Hid (∀ x ∈ aft, x.size ≤ 10000) := by
            intro x hx
            rw [unhide HAFT] at hx
            unfold after_ at hx
            rcases List.mem_append.1 hx with hx | hx
            · rw [unhide HPSD] at hx
              obtain ⟨c, hc, rfl⟩ := List.mem_map.1 hx
              exact unhide HPS c hc
            · have h1 := ((unhide HLS).2 x).1 (List.mem_filter.1 hx).1
              have := path_size ((unhide HWF).path x (fun e => by rw [e] at h1; cases h1))
              omega
          obtain ⟨gk2, hgk2⟩ : ∃ z, z = gk := ⟨_, rfl⟩
          have HGK2 := hide hgk2
          clear hgk2
          go_loopg [139] q (fun kq v139 wq => ∃ (i : Nat), v139 = .int .i64 (i : Int) ∧ Hid (i + kq = q) ∧ wq = W ∧ Hid ((aft.take i).Pairwise (fun a b => clash b a = false)))
          case atStart => exact ⟨0, rfl, Nat.zero_add _, rfl, (by show List.Pairwise _ (aft.take 0); rw [List.take_zero]; exact List.Pairwise.nil)⟩
          case round =>
            obtain ⟨i, rfl, HI2, rfl, HPW⟩ := hrel
            by_cases hlt : i < q
            · have d2 : (i : Int) < (q : Int) := by omega
              have d3 : (i : Int) ≤ (c : Int) := by have := unhide HQC; omega
              obtain ⟨p, hp⟩ : ∃ z, aft[i]? = some z := ⟨_, List.getElem?_eq_getElem (by rw [← unhide HY]; exact hlt)⟩
              obtain ⟨ad, rfl, k0⟩ := XR.at_ (unhide HX) i p hp
              have hup := unhide HUP i (by have := unhide HQC; omega)
              have HP := hide hp
              have HLT := hide hlt
              clear hp hlt
              go_wp2_with fail
              obtain ⟨gk3, hgk3⟩ : ∃ z, z = gk := ⟨_, rfl⟩
              have HGK3 := hide hgk3
              obtain ⟨Wo, rfl⟩ : ∃ z, z = wr := ⟨_, rfl⟩
              clear hgk3 k0 hup d2 d3
              go_loopg [148] i (fun kp v148 wp => ∃ (l : Nat), v148 = .int .i64 (l : Int) ∧ Hid (l + kp = i) ∧ wp = Wo ∧ Hid (∀ (l2 : Nat) (y : ByteArray), l2 < l → aft[l2]? = some y → clash p y = false))
              case atStart => exact ⟨0, rfl, Nat.zero_add _, rfl, fun l2 y h => absurd h (Nat.not_lt_zero _)⟩
              case round =>
                obtain ⟨l, rfl, HI3, rfl, HCL⟩ := hrel
                by_cases hlt : l < i
                · have d2 : (l : Int) < (i : Int) := by omega
                  obtain ⟨y, hy⟩ : ∃ z, aft[l]? = some z := ⟨_, List.getElem?_eq_getElem (by rw [← unhide HY]; have := unhide HLT; omega)⟩
                  obtain ⟨ad2, e2, k0⟩ := XR.at_ (unhide HX) l y hy
                  cases e2
                  have hcl := clash_ok p y wr (unhide hsz p (List.mem_of_getElem? (unhide HP))) (unhide hsz y (List.mem_of_getElem? hy))
                  have HYY := hide hy
                  have HLT3 := hide hlt
                  have HCLO := hide hcl
                  clear hy hlt hcl
                  go_wp2_with fail
                  refine (unhide HCLO).mono ?_
                  rintro e w5 ⟨rfl, rfl⟩
                  cases hcc : clash p y with
                  | true =>
                    have HCC := hide hcc
                    clear hcc
                    go_wp2_with fail
                    go_ret
                    exact ⟨⟨_, ls, rfl, unhide HLS, told_not (not_clash (unhide HAFT) (unhide HP) (unhide HYY) (unhide HLT3) (unhide HCC))⟩, below_alloc (unhide HB) _⟩
                  | false =>
                    have HCC := hide hcc
                    clear hcc
                    go_wp2_with fail
                    go_roundg (gk - 1)
                    case measure => have := unhide HI3; have := unhide HLT3; omega
                    case rel =>
                      refine ⟨l + 1, congrArg (Value.int .i64) (by have := unhide HYB; have := unhide HLT3; have := unhide HLT; (try unfold wrap64); omega), (by have := unhide HI3; have := unhide HLT3; show _ = _; omega), rfl, ?_⟩
                      intro l2 y2 h2 hy2
                      by_cases e : l2 = l
                      · subst e
                        rw [unhide HYY] at hy2
                        rw [← Option.some.inj hy2]
                        exact unhide HCC
                      · exact unhide HCL l2 y2 (by omega) hy2
                · have d2 : ¬ (l : Int) < (i : Int) := by omega
                  have hli : l = i := by have := unhide HI3; omega
                  subst hli
                  have HPW2 := hide (pair_snoc (unhide HP) (unhide HPW) (unhide HCL))
                  clear hlt
                  go_wp2_with fail
                  go_roundg (gk3 - 1)
                  case measure => have := unhide HI2; have := unhide HLT; have := unhide HGK3; omega
                  case rel => exact ⟨l + 1, congrArg (Value.int .i64) (by have := unhide HYB; have := unhide HLT; (try unfold wrap64); omega), (by have := unhide HI2; have := unhide HLT; have := unhide HGK3; show _ = _; omega), rfl, unhide HPW2⟩
            · have d2 : ¬ (i : Int) < (q : Int) := by omega
              have hpw : aft.Pairwise (fun a b => clash b a = false) := by
                have h := unhide HPW
                rw [List.take_of_length_le (by rw [← unhide HY]; omega)] at h
                exact h
              have HPWA := hide hpw
              obtain ⟨t0, _⟩ := ((unhide HT).below (unhide HB)).c.cells
              clear hpw hlt
              by_cases h64 : 64 < q
              · have d4 : (64 : Int) < (q : Int) := by omega
                have d5 : decide ((64 : Int) < (q : Int)) = true := decide_eq_true d4
                have H64 := hide h64
                go_wp2_with fail
                go_ret
                refine ⟨⟨_, ls, rfl, unhide HLS, told_not (fun hc => ?_)⟩, below_alloc (unhide HB) _⟩
                have h1 := hc.2.2.2
                rw [← unhide HAFT, ← unhide HY] at h1
                have := unhide H64
                omega
              · have d4 : ¬ (64 : Int) < (q : Int) := by omega
                have d6 : ¬ (262144 : Int) < (q : Int) := by omega
                have d7 : ((now : Int) == 1048576) = false := by
                  have := unhide HNOW
                  simp
                  omega
                have H64 := hide h64
                go_wp2_with fail
                go_ret
                refine ⟨⟨_, ls, rfl, unhide HLS, .inl ⟨⟨(unhide HOK).1, (unhide HOK).2, by rw [← unhide HAFT]; exact unhide HPWA, ?_⟩, rfl⟩⟩, unhide HB⟩
                rw [← unhide HAFT, ← unhide HY]
                have := unhide H64
                omega
end Go.Proofs.YtgoephcembgmcaaGreatDoor.G
namespace Go.Proofs.YtgoephcembgmcaaGreatDoor.G
open Go.RowKit Go.Maps Go.Proofs.YtgoephcembgmcaaGreatDoorW.PrintWords Go.Proofs.YtgoephcembgmcaaGreatDoorW.PrintLast
/-! A frame with maps; a state put behind a file's row. -/
/-- Below base nothing turns; behind it only rows of the types ts, and the maps ms. -/
structure Fm (base : Nat) (ts : List TypeId) (ms : List Nat) (w w1 : World) : Prop where
  b : Below base w w1
  k : ∀ k, k < w.heap.size → k ∉ ms → (∀ cells t fz, w.heap[k]? = some (.cells cells t fz) → t ∉ ts) → w1.heap[k]? = w.heap[k]?
section
variable {base : Nat} {ts ts' : List TypeId} {ms ms' : List Nat} {w w1 w2 : World}
theorem Fm.refl (base : Nat) (ts : List TypeId) (ms : List Nat) (w : World) : Fm base ts ms w w := ⟨Below.refl _ _, fun _ _ _ _ => rfl⟩
theorem Fm.of_below (h : Below w.heap.size w w1) (hb : base ≤ w.heap.size) : Fm base ts ms w w1 := ⟨h.mono hb, fun k hk _ _ => h.block k hk⟩
theorem Fm.trans (h : Fm base ts ms w w1) (h2 : Fm base ts ms w1 w2) : Fm base ts ms w w2 :=
  ⟨h.b.trans h2.b, fun k hk hm hn => by
    have e := h.k k hk hm hn
    refine (h2.k k (Nat.lt_of_lt_of_le hk h.b.size) hm (fun cells t fz hc => hn cells t fz (e ▸ hc))).trans e⟩
theorem Fm.more (h : Fm base ts ms w w1) (hs : ∀ t ∈ ts, t ∈ ts') (hm : ∀ m ∈ ms, m ∈ ms') : Fm base ts' ms' w w1 := ⟨h.b, fun k hk h1 hn => h.k k hk (fun h2 => h1 (hm k h2)) (fun c t f hc ht => hn c t f hc (hs t ht))⟩
theorem Fm.fr (h : Fr base ts w w1) : Fm base ts ms w w1 := ⟨h.b, fun k hk _ hn => h.k k hk hn⟩
/-- One row, or one map, of one's own is written. -/
theorem Fm.grown {row : Option Nat} (h : w.grownBy w1 row) (hb : base ≤ w.heap.size) (hv : ∀ g, row = some g → base ≤ g ∧ (g ∈ ms ∨ ∃ cells t fz, w.heap[g]? = some (.cells cells t fz) ∧ t ∈ ts)) : Fm base ts ms w w1 :=
  ⟨⟨h.os, h.tape, h.output, h.size, fun k hk => h.block k (Nat.lt_of_lt_of_le hk hb) (fun e => by have := (hv k e.symm).1; omega)⟩,
   fun k hk hm hn => h.block k hk (fun e => by
    obtain ⟨_, h2 | ⟨cells, t, fz, hc, ht⟩⟩ := hv k e.symm
    · exact hm h2
    · exact hn cells t fz hc ht)⟩
/-- What was made since the start counts for nothing. -/
theorem Fm.rest (h : Fm base ts ms w w1) (h2 : Fm w.heap.size ts' ms' w1 w2) (hb : base ≤ w.heap.size) : Fm base ts ms w w2 :=
  ⟨h.b.trans (h2.b.mono hb), fun k hk hm hn => (h2.b.block k hk).trans (h.k k hk hm hn)⟩
theorem Fm.set {a : Addr} {cells : Array Value} {t : TypeId} {fz : Nat × Nat} (u : Value) (hb : base ≤ a.block) (hc : w.heap[a.block]? = some (.cells cells t fz)) (ht : t ∈ ts) : Fm base ts ms w (w.setCell a u) := Fm.fr (Fr.set u hb hc ht)
end
def updG (g : ByteArray → List St) (p : ByteArray) (l : List St) : ByteArray → List St := fun q => if q = p then l else g q
theorem updG_same (g : ByteArray → List St) (p : ByteArray) (l : List St) : updG g p l p = l := by unfold updG; rw [if_pos rfl]
theorem updG_other {g : ByteArray → List St} {p q : ByteArray} {l : List St} (h : q ≠ p) : updG g p l q = g q := by unfold updG; rw [if_neg h]
section
variable {w w1 w2 : World} {base T b n now : Nat} {F : ByteArray → Option Value} {g : ByteArray → List St}
theorem own_some {g : Nat} {n c : Nat} : (Value.slice (some ⟨g, 0, none⟩) n c).ownBlock = some g := rfl
/-- A file's row is replaced by one that lies apart from all others. -/
theorem TreeAt.change {p : ByteArray} (h : TreeAt w base T b n now F g) {row : Option Nat} (hg : w.grownBy w1 row) (hr : ∀ k, row = some k → (∃ cells, w.heap[k]? = some (.cells cells 100 (0, 0))) ∧ ∀ q u, q ≠ p → F q = some u → u.ownBlock ≠ some k)
    (hp : p.size ≤ maxLen) {v1 : Value} {l : List St} (hl : l ≠ []) (hS : SR w1 base v1 l) (hap : ∀ q u, q ≠ p → F q = some u → u.ownBlock ≠ v1.ownBlock) (hm : w1.grownBy w2 (some b)) {n' : Nat} (hmf : MF CS w2 b n' (upd F p (some v1))) :
    TreeAt w2 base T b n' now (upd F p (some v1)) (updG g p l) := by
  obtain ⟨es, cl, hmb⟩ := h.r.1.isMap
  have hbr : some b ≠ row := fun e => by
    obtain ⟨⟨cells, hc⟩, _⟩ := hr b e.symm
    rw [hmb] at hc
    cases hc
  have hb1 : w1.heap[b]? = some (.map es cl) := (hg.block b h.r.1.lt hbr).trans hmb
  have hTr : some T ≠ row := fun e => by
    obtain ⟨⟨cells, hc⟩, _⟩ := hr T e.symm
    have := h.c
    unfold TC at this
    rw [this] at hc
    cases hc
  have hT1 : w1.heap[T]? = w.heap[T]? := hg.block T h.c.lt hTr
  have hTb : some T ≠ some b := fun e => by
    have := h.c
    unfold TC at this
    rw [Option.some.inj e, hmb] at this
    cases this
  have hT2 : w2.heap[T]? = w1.heap[T]? := hm.block T (Nat.lt_of_lt_of_le h.c.lt hg.size) hTb
  have stay : ∀ {W W' : World} {v : Value} {ss : List St}, W.grownBy W' (some b) → W.heap[b]? = some (.map es cl) → SR W base v ss → SR W' base v ss := by
    intro W W' v ss hgm hmw hs
    refine hs.move (fun k _ hlt hk => hgm.block k hlt (fun e => ?_))
    obtain rfl : k = b := Option.some.inj e
    rcases hk with hk | ⟨cells, hk⟩
    · obtain ⟨_, cells, hc⟩ := hs.typed k hk
      rw [hmw] at hc
      cases hc
    · rw [hmw] at hk
      cases hk
  refine ⟨hT2.trans (hT1.trans h.c), ⟨hmf, fun q hq => ?_, fun q u hq => ?_, fun q q' u u' hne hq hq' => ?_⟩, h.hT, h.hb⟩
  · by_cases e : q = p
    · subst e
      rw [upd_same] at hq
      cases hq
    · rw [upd_other e] at hq
      rw [updG_other e]
      exact h.r.2.1 q hq
  · by_cases e : q = p
    · subst e
      rw [upd_same] at hq
      obtain rfl := Option.some.inj hq
      rw [updG_same]
      exact ⟨hl, stay hm hb1 hS⟩
    · rw [upd_other e] at hq
      rw [updG_other e]
      obtain ⟨h1, h2⟩ := h.r.2.2.1 q u hq
      refine ⟨h1, stay hm hb1 (h2.move (fun k _ hlt hk => hg.block k hlt (fun e2 => ?_)))⟩
      obtain ⟨⟨cells, hc⟩, h3⟩ := hr k e2.symm
      rcases hk with hk | ⟨cells2, hk⟩
      · exact h3 q u e hq hk
      · rw [hc] at hk
        cases hk
  · by_cases e : q = p
    · subst e
      rw [upd_same] at hq
      obtain rfl := Option.some.inj hq
      rw [upd_other (fun e2 => hne e2.symm)] at hq'
      exact fun e3 => hap q' u' (fun e2 => hne e2.symm) hq' e3.symm
    · rw [upd_other e] at hq
      by_cases e' : q' = p
      · subst e'
        rw [upd_same] at hq'
        obtain rfl := Option.some.inj hq'
        exact hap q u e hq
      · rw [upd_other e'] at hq'
        exact h.r.2.2.2 q q' u u' hne hq hq'
/-- A state is put behind a file's row, and the row into the map. -/
theorem TreeAt.push (h : TreeAt w base T b n now F g) (hb : base ≤ w.heap.size) (hn : n < 100000) (p : ByteArray) (hp : p.size ≤ 10000) (hl : (g p).length ≤ 1000) (s : St) (hd : DR w base s.dat s.mrk) :
    ∃ v1 w1 w2, (Builtin.append_ #[90, 90] 90 #[(F p).getD (.slice none 0 0), .slice (some ⟨w.heap.size, 0, none⟩) 1 1]).run Tryz.prog (w.alloc (.cells #[.int .i64 (s.frm : Int), slv s.dat, .bool false] 100)) = .ok v1 w1 ∧
      (Instr.mapUpdate 81 (.map (some b)) (.string p) v1).run Tryz.prog w1 = .ok () w2 ∧ TreeAt w2 base T b (n + 1) now (upd F p (some v1)) (updG g p (g p ++ [s])) ∧ Fm base [100] [b] w w2 ∧ w.grownBy w1 ((F p).getD (.slice none 0 0)).ownBlock ∧ TC w1 T (now : Int) b ∧ MF CS w1 b n F ∧ (∀ k, ((F p).getD (.slice none 0 0)).ownBlock = some k → ∃ cells, w.heap[k]? = some (.cells cells 100 (0, 0))) := by
  have hrow := h.r.row p
  obtain ⟨gg, c, w1, hr1, hS1, hg1, hloc⟩ := hrow.append hb hl s hd
  have hmf1 : MF CS w1 b n F := h.r.1.kept (hg1.block b h.r.1.lt (fun e => by
    obtain ⟨_, cells, hc⟩ := hrow.typed b e.symm
    obtain ⟨_, _, hm⟩ := h.r.1.isMap
    rw [hm] at hc
    cases hc))
  obtain ⟨w2, hr2, hmf2, ht2⟩ := hmf1.put (t := 81) Tryz.underlying81 (by simp only [maxLen]; omega) (x := p) (show p.size ≤ maxLen from by simp only [maxLen]; omega) (.slice (some ⟨gg, 0, none⟩) ((g p).length + 1) c)
  have hT1 : TC w1 T (now : Int) b := (hg1.block T h.c.lt (fun e => by
    obtain ⟨_, cells, hc⟩ := hrow.typed T e.symm
    have := h.c
    unfold TC at this
    rw [this] at hc
    cases hc)).trans h.c
  have hown : ∀ q u, q ≠ p → F q = some u → ∀ k, ((F p).getD (.slice none 0 0)).ownBlock = some k → u.ownBlock ≠ some k := by
    intro q u hne hq k hk
    cases hf : F p with
    | none =>
      rw [hf] at hk
      cases hk
    | some v =>
      rw [hf] at hk
      intro e
      exact h.r.2.2.2 q p u v hne hq hf (e.trans hk.symm)
  refine ⟨_, w1, w2, hr1, hr2, h.change (p := p) hg1 (fun k hk => ⟨(hrow.typed k hk).2, fun q u hne hq => hown q u hne hq k hk⟩) (by simp only [maxLen]; omega) (by simp) hS1 (fun q u hne hq e => ?_) ht2.grown hmf2, ?_, hg1, hT1, hmf1, fun k hk => (hrow.typed k hk).2⟩
  · rw [own_some] at e
    rcases hloc with e2 | e2
    · exact hown q u hne hq gg e2 e
    · have := ((h.r.2.2.1 q u hq).2.lt gg e).2
      omega
  · refine (Fm.grown hg1 hb (fun k hk => ?_)).trans (Fm.grown ht2.grown (Nat.le_trans hb hg1.size) (fun k hk => ?_))
    · obtain ⟨h1, cells, hc⟩ := hrow.typed k hk
      exact ⟨h1, .inr ⟨cells, 100, _, hc, by simp⟩⟩
    · cases hk
      exact ⟨h.hb, .inl (by simp)⟩
end
theorem exec_update {P : Program} {ev : Operand → Value} {o : Oper} {t : TypeId} {m x v : Operand} {mv xv vv : Value} {W w1 : World} (ho : o.op = .mapUpdate t m x v) (hm : ev m = mv) (hx : ev x = xv) (hv : ev v = vv)
    (hrun : (Instr.mapUpdate t mv xv vv).run P W = .ok () w1) : (execOp ev o).run P W = .ok .skip w1 := by
  unfold execOp
  simp only [ho, hm, hx, hv, Sem.run_bind, Sem.run_pure, Sem.run_map, hrun, Result.andThen_ok]
theorem MF.tight {κ : Type} {C : KC κ} {w : World} {b n : Nat} {F : κ → Option Value} {ks : List κ} (h : MF C w b n F) (hk : Keys F ks) : MF C w b ks.length F := by
  obtain ⟨D, hown, hf⟩ := h
  obtain ⟨ks', h1, h2⟩ := MF.keys' hown hf
  obtain ⟨es, clock, hb, Ft, hs, rfl⟩ := hown
  refine ⟨_, ⟨es, clock, hb, Ft, ?_, rfl⟩, hf⟩
  rw [(hk.perm h1).length_eq, ← h2]
  simp [Maps.size, length_sorted]
end Go.Proofs.YtgoephcembgmcaaGreatDoor.G
