import Derived.Test.YtjdkeicjhmdcfaaSl5
import Derived.Deep.Slices
set_option linter.unusedSimpArgs false
set_option linter.unusedVariables false
namespace Go.Proofs.Ytjdkeicjhmdcfaa.SlP
open Go.RowKit Go.Maps Go.Proofs.YtjdkeicjhmdcfaaW.PrintWords Go.Proofs.YtjdkeicjhmdcfaaW.PrintLast Go.Proofs.YtjdkeicjhmdcfaaW.PrintMore Go.Proofs.Ytjdkeicjhmdcfaa.Wk Go.Proofs.Ytjdkeicjhmdcfaa.Sl

/-! The definition's list: who is where, in the order of coming; searched from its start to its end. -/
def gt (l : List (Int × ByteArray)) (j : Nat) : Int × ByteArray := l.getD j (0, ⟨#[]⟩)
def ps (l : List (Int × ByteArray)) (k : Int) : Nat → Int
  | 0 => -1
  | j + 1 => if (gt l j).1 = k then (j : Int) else ps l k j
def cq (l : List (Int × ByteArray)) (m : ByteArray) : Nat → Nat
  | 0 => 0
  | j + 1 => cq l m j + (if (gt l j).2 = m then 1 else 0)
def wl (l : List (Int × ByteArray)) (k : Int) : Nat → ByteArray × Bool
  | 0 => (⟨#[]⟩, false)
  | j + 1 => if (gt l j).1 = k then ((gt l j).2, true) else wl l k j
variable {l : List (Int × ByteArray)} {k : Int}
theorem take_gt {j : Nat} (h : j < l.length) : l.take (j + 1) = l.take j ++ [gt l j] := by
  unfold gt
  rw [List.take_add_one, List.getElem?_eq_getElem h, List.getD_eq_getElem?_getD, List.getElem?_eq_getElem h]
  rfl
theorem gt_at {j : Nat} (h : j < l.length) : l[j]? = some (gt l j) := by
  unfold gt
  rw [List.getElem?_eq_getElem h, List.getD_eq_getElem?_getD, List.getElem?_eq_getElem h]
  rfl
theorem cq_take (m : ByteArray) : ∀ j, j ≤ l.length → cq l m j = cnt_ (l.take j) m
  | 0, _ => by simp [cq, cnt_]
  | j + 1, h => by
    rw [take_gt h]
    unfold cq
    rw [cq_take m j (by omega), show gt l j = ((gt l j).1, (gt l j).2) from rfl, cnt_put]
theorem cq_all (m : ByteArray) : cq l m l.length = cnt_ l m := by rw [cq_take m _ (Nat.le_refl _), List.take_length]
theorem ps_take : ∀ j, j ≤ l.length → (at_ (l.take j) k = true ∧ ∃ p : Nat, ps l k j = (p : Int) ∧ p < j ∧ (gt l p).1 = k) ∨ (at_ (l.take j) k = false ∧ ps l k j = -1)
  | 0, _ => .inr ⟨by simp [at_], rfl⟩
  | j + 1, h => by
    rw [take_gt h, show gt l j = ((gt l j).1, (gt l j).2) from rfl, at_put]
    unfold ps
    by_cases e : (gt l j).1 = k
    · left
      rw [if_pos e]
      exact ⟨by simp [e], j, rfl, by omega, e⟩
    · rw [if_neg e]
      rcases ps_take j (by omega) with ⟨h1, p, h2, h3, h4⟩ | ⟨h1, h2⟩
      · exact .inl ⟨by simp [h1], p, h2, by omega, h4⟩
      · exact .inr ⟨by simp [h1, e], h2⟩
theorem ps_all (l : List (Int × ByteArray)) (k : Int) : (at_ l k = true ∧ ∃ p : Nat, ps l k l.length = (p : Int) ∧ p < l.length ∧ (gt l p).1 = k) ∨ (at_ l k = false ∧ ps l k l.length = -1) := by
  have := ps_take (l := l) (k := k) l.length (Nat.le_refl _)
  rwa [List.take_length] at this
theorem ps_low (l : List (Int × ByteArray)) (k : Int) (j : Nat) : -1 ≤ ps l k j ∧ ps l k j < (j : Int) := by
  induction j with
  | zero => simp [ps]
  | succ j ih =>
    unfold ps
    split <;> omega
theorem cq_low (l : List (Int × ByteArray)) (m : ByteArray) (j : Nat) : cq l m j ≤ j := by
  induction j with
  | zero => simp [cq]
  | succ j ih =>
    unfold cq
    split <;> omega
theorem cut_out : ∀ {l : List (Int × ByteArray)} {k : Int}, uniq_ l → ∀ p, p < l.length → (gt l p).1 = k → l.take p ++ l.drop (p + 1) = out_ l k
  | [], _, _, p, h, _ => by simp at h
  | x :: r, k, hu, 0, _, h0 => by
    have hp := List.pairwise_cons.1 hu
    have e : x.1 = k := h0
    unfold out_
    simp only [List.take_zero, List.nil_append, List.drop_succ_cons, List.drop_zero]
    rw [List.filter_cons, if_neg (by simp [e])]
    symm
    rw [List.filter_eq_self]
    intro y hy
    have := hp.1 y hy
    simp
    intro e2
    exact this (e.trans e2.symm)
  | x :: r, k, hu, p + 1, h, h0 => by
    have hp := List.pairwise_cons.1 hu
    have h1 : (gt r p).1 = k := h0
    have hl : p < r.length := by simpa using h
    have ih := cut_out hp.2 p hl h1
    have hm : gt r p ∈ r := List.mem_of_getElem? (gt_at hl)
    have hne : x.1 ≠ k := by
      rw [← h1]
      exact hp.1 _ hm
    have e2 : out_ (x :: r) k = x :: out_ r k := by
      unfold out_
      rw [List.filter_cons, if_pos (by simpa using hne)]
    rw [e2, ← ih]
    rfl
theorem in_put {q : Int} {m : ByteArray} (hu : q = k → at_ l k = false) : in_ (l ++ [(q, m)]) k = if q = k then m else in_ l k := by
  unfold in_
  rw [List.find?_append]
  by_cases e : q = k
  · have h := hu e
    have : l.find? (fun x => x.1 == k) = none := by
      rw [List.find?_eq_none]
      intro x hx
      have := (List.any_eq_false.1 h) x hx
      simpa using this
    rw [this]
    simp [e]
  · cases l.find? (fun x => x.1 == k) <;> simp [e]
theorem wl_take (hu : uniq_ l) : ∀ j, j ≤ l.length → wl l k j = (in_ (l.take j) k, at_ (l.take j) k)
  | 0, _ => by simp [wl, in_, at_]; rfl
  | j + 1, h => by
    have ih := wl_take hu j (by omega)
    rw [take_gt h]
    have hu2 : uniq_ (l.take (j + 1)) := List.Pairwise.sublist (List.take_sublist _ _) hu
    rw [take_gt h] at hu2
    have hq : (gt l j).1 = k → at_ (l.take j) k = false := by
      intro e
      unfold at_
      rw [List.any_eq_false]
      intro x hx
      have := (List.pairwise_append.1 hu2).2.2 x hx (gt l j) (by simp)
      simp
      rw [← e]
      exact this
    unfold wl
    rw [show gt l j = ((gt l j).1, (gt l j).2) from rfl, in_put hq, at_put, ih]
    by_cases e : (gt l j).1 = k
    · simp [e]
    · simp [e]
theorem wl_all (hu : uniq_ l) : wl l k l.length = (in_ l k, at_ l k) := by rw [wl_take hu _ (Nat.le_refl _), List.take_length]

/-! The list as a row of one's own. -/
def dL : Kd (Int × ByteArray) := Kd.pair (Kd.int .i64) Kd.string
theorem dL_M (w : World) (base : Nat) (ok : Nat → Prop) (k : Int) (m : ByteArray) : dL.M w base ok (k, m) [.int .i64 k, .string m] := ⟨[.int .i64 k], [.string m], rfl, rfl, rfl⟩
theorem dL_KM {w : World} {base : Nat} {ok : Nat → Prop} (x : Int × ByteArray) (cs : List Value) (h : dL.K w x cs) : dL.M w base ok x cs := h
theorem info68 : (Try.prog.info? 68).map (fun i => (i.zero, i.size, i.bytes)) = some (some (.agg #[.int .i64 0, .string ⟨#[]⟩]), 2, 24) := by kernel_rfl
theorem row_cell {w : World} {A : Option Addr} {n j : Nat} (h : dL.C w A n l) (hj : j < n) :
    ∃ ad, A = some ad ∧ w.cell? (ad.add (j * 2)) = some (.int .i64 (gt l j).1) ∧ w.cell? ⟨(ad.add (j * 2)).block, (ad.add (j * 2)).off + 1, none⟩ = some (.string (gt l j).2) := by
  obtain ⟨ad, c, hA, hl, hK, hc⟩ := Kd.C_get h (0, ⟨#[]⟩) (j : Int) (by omega) (by omega)
  rw [Int.toNat_natCast] at hK hc
  obtain ⟨c0, c1, rfl, h0, h1⟩ := hK
  have h0' : c0 = [.int .i64 (gt l j).1] := h0
  have h1' : c1 = [.string (gt l j).2] := h1
  subst h0' h1'
  refine ⟨ad, hA, hc 0 _ rfl, ?_⟩
  have := hc 1 _ rfl
  rw [← this, show j * dL.sz + 1 = j * 2 + 1 from rfl, ← Go.Deep.add_add]
  rfl
theorem row_take {w : World} {A : Option Addr} {n m : Nat} (h : dL.C w A n l) (hm : m ≤ n) : dL.C w A m (l.take m) := by
  obtain ⟨h1, h2, h3⟩ := h
  refine ⟨by rw [List.length_take]; omega, by omega, fun h0 => ?_⟩
  obtain ⟨ad, hA, hc⟩ := h3 (by omega)
  refine ⟨ad, hA, fun j p hj => ?_⟩
  rw [List.getElem?_take] at hj
  split at hj
  · exact hc j p hj
  · cases hj
theorem row_drop {w : World} {A : Option Addr} {n m c : Nat} (h : dL.C w A n l) (hm : m ≤ n) (hc : n ≤ c) : dL.C w (if c = m then A else A.map (·.add (m * 2))) (n - m) (l.drop m) := by
  obtain ⟨h1, h2, h3⟩ := h
  refine ⟨by rw [List.length_drop, h1], by omega, fun h0 => ?_⟩
  obtain ⟨ad, hA, hcs⟩ := h3 (by omega)
  rw [if_neg (by omega), hA]
  refine ⟨ad.add (m * 2), rfl, fun j p hj => ?_⟩
  rw [List.getElem?_drop] at hj
  obtain ⟨c, hl, hr, hi⟩ := hcs (m + j) p hj
  refine ⟨c, hl, hr, fun i u hu => ?_⟩
  rw [Go.Deep.add_add, ← hi i u hu]
  congr 2
  show m * 2 + (j * 2 + i) = (m + j) * 2 + i
  omega
end Go.Proofs.Ytjdkeicjhmdcfaa.SlP
