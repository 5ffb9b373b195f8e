import Derived.Test.YtjdkeicjhmdcfaaWi3
import Derived.Maps.StringElems
import Derived.Maps.RangeWalk
import Derived.Maps.OwnSet
import Derived.Carry
set_option linter.unusedSimpArgs false
set_option linter.unusedVariables false
namespace Go.Proofs.Ytjdkeicjhmdcfaa.Sl
open Go.RowKit Go.Maps Go.Proofs.YtjdkeicjhmdcfaaW.PrintWords Go.Proofs.Ytjdkeicjhmdcfaa.Wk

/-! Who is in which module: the map as a list of pairs, no key twice. -/
abbrev D1 := DataW Unit
def ent (x : Int × ByteArray) : Lit × D1 := (.int .i64 x.1, .lit (.string x.2.data.toList))
/-- The map's datum is just these pairs, in whatever order. -/
def Is (D : D1) (l : List (Int × ByteArray)) : Prop := ∃ es, D = .map es ∧ es.Perm (l.map ent)
theorem same_int (x y : Int) : (Lit.int .i64 x).sameKey (.int .i64 y) = (x == y) := by
  unfold Lit.sameKey
  rw [Bool.eq_iff_iff]
  simp
def at_ (l : List (Int × ByteArray)) (k : Int) : Bool := l.any (fun x => x.1 == k)
def out_ (l : List (Int × ByteArray)) (k : Int) : List (Int × ByteArray) := l.filter (fun x => !(x.1 == k))
def uniq_ (l : List (Int × ByteArray)) : Prop := l.Pairwise (fun x y => x.1 ≠ y.1)
def cnt_ (l : List (Int × ByteArray)) (m : ByteArray) : Nat := l.countP (fun x => decide (x.2 = m))
variable {D : D1} {l : List (Int × ByteArray)} {k : Int}
theorem Is.has (h : Is D l) (k : Int) : has D (.int .i64 k) = at_ l k := by
  obtain ⟨es, rfl, hp⟩ := h
  rw [has_eq, hp.any_eq, List.any_map]
  unfold at_
  congr 1
  funext x
  exact same_int x.1 k
theorem Is.size (h : Is D l) : Maps.size D = l.length := by
  obtain ⟨es, rfl, hp⟩ := h
  rw [size_eq, hp.length_eq, List.length_map]
theorem Is.del (h : Is D l) (k : Int) : Is (D.del (.int .i64 k)) (out_ l k) := by
  obtain ⟨es, rfl, hp⟩ := h
  refine ⟨es.filter fun p => !p.1.sameKey (.int .i64 k), rfl, (hp.filter _).trans ?_⟩
  rw [List.filter_map]
  unfold out_
  rw [show ((fun p : Lit × D1 => !p.1.sameKey (.int .i64 k)) ∘ ent) = fun x => !(x.1 == k) from funext fun x => congrArg not (same_int x.1 k)]
theorem out_none (h : at_ l k = false) : out_ l k = l := by
  unfold out_
  rw [List.filter_eq_self]
  intro x hx
  have := (List.any_eq_false.1 h) x hx
  simpa using this
theorem Is.put (h : Is D l) (k : Int) (m : ByteArray) (hk : at_ l k = false) : Is (D.put (.int .i64 k) (.lit (.string m.data.toList))) (l ++ [(k, m)]) := by
  have h2 := h.del k
  rw [out_none hk] at h2
  obtain ⟨es, rfl, hp⟩ := h
  obtain ⟨es2, he2, hp2⟩ := h2
  refine ⟨_, rfl, (Go.WideShapes.insert_perm _ _).trans ?_⟩
  have e : es.filter (fun p => !p.1.sameKey (.int .i64 k)) = es2 := by
    have := he2
    simpa [DataW.del] using this
  rw [e, List.map_append]
  exact (List.Perm.cons _ hp2).trans (List.perm_append_comm (l₁ := [ent (k, m)]))
theorem uniq_put (h : uniq_ l) (k : Int) (m : ByteArray) (hk : at_ l k = false) : uniq_ (l ++ [(k, m)]) := by
  unfold uniq_
  rw [List.pairwise_append]
  refine ⟨h, by simp, ?_⟩
  intro a ha b hb
  simp only [List.mem_singleton] at hb
  subst hb
  have := (List.any_eq_false.1 hk) a ha
  simpa using this
theorem uniq_out (h : uniq_ l) (k : Int) : uniq_ (out_ l k) := h.filter _
theorem at_put (j : Int) (m : ByteArray) : at_ (l ++ [(k, m)]) j = (at_ l j || (k == j)) := by simp [at_]
theorem at_out (j : Int) : at_ (out_ l k) j = (at_ l j && !(j == k)) := by
  unfold at_ out_
  rw [List.any_filter, Bool.eq_iff_iff]
  simp
theorem cnt_put (m m' : ByteArray) : cnt_ (l ++ [(k, m)]) m' = cnt_ l m' + (if m = m' then 1 else 0) := by
  unfold cnt_
  rw [List.countP_append]
  simp [List.countP_cons]
theorem cnt_le (m : ByteArray) : cnt_ l m ≤ l.length := List.countP_le_length
theorem len_out (h : uniq_ l) (hk : at_ l k = true) : (out_ l k).length + 1 = l.length := by
  unfold at_ out_ at *
  induction l with
  | nil => simp at hk
  | cons x r ih =>
    have hp := List.pairwise_cons.1 h
    by_cases hx : x.1 = k
    · have : r.filter (fun x => !(x.1 == k)) = r := by
        rw [List.filter_eq_self]
        intro y hy
        have := hp.1 y hy
        simp
        intro e
        exact this (hx.trans e.symm)
      simp [hx, this]
    · have hk' : r.any (fun x => x.1 == k) = true := by simpa [hx] using hk
      have := ih hp.2 hk'
      simp [hx]
      omega
/-- The module of somebody; nothing if he is nowhere. -/
def in_ (l : List (Int × ByteArray)) (k : Int) : ByteArray := match l.find? (fun x => x.1 == k) with | some x => x.2 | none => ByteArray.empty
theorem bytes_inj {a b : ByteArray} (h : a.data.toList = b.data.toList) : a = b := by
  cases a; cases b
  simp only [ByteArray.mk.injEq]
  exact Array.toList_inj.1 h
theorem pair_eq : ∀ {l : List (Lit × D1)}, l.Pairwise (fun a b => a.1 ≠ b.1) → ∀ a ∈ l, ∀ b ∈ l, a.1 = b.1 → a = b
  | [], _, a, ha, _, _, _ => by simp at ha
  | x :: r, h, a, ha, b, hb, e => by
    have hp := List.pairwise_cons.1 h
    rcases List.mem_cons.1 ha with h1 | h1
    · rcases List.mem_cons.1 hb with h2 | h2
      · rw [h1, h2]
      · exact absurd (h1 ▸ e) (hp.1 b h2)
    · rcases List.mem_cons.1 hb with h2 | h2
      · exact absurd (h2 ▸ e.symm) (hp.1 a h1)
      · exact pair_eq hp.2 a h1 b h2 e
theorem find_perm {es es' : List (Lit × D1)} (hp : es.Perm es') (hone : es'.Pairwise (fun a b => a.1 ≠ b.1)) (q : Lit) : es.find? (fun p => p.1.sameKey q) = es'.find? (fun p => p.1.sameKey q) := by
  have hone' : es.Pairwise (fun a b => a.1 ≠ b.1) := (hp.pairwise_iff (fun {a b} (h : a.1 ≠ b.1) => h.symm)).2 hone
  cases h : es.find? (fun p => p.1.sameKey q) with
  | none =>
    rw [List.find?_eq_none] at h
    symm
    rw [List.find?_eq_none]
    intro x hx
    exact h x (hp.mem_iff.2 hx)
  | some a =>
    cases h' : es'.find? (fun p => p.1.sameKey q) with
    | none =>
      rw [List.find?_eq_none] at h'
      have := h' a (hp.mem_iff.1 (List.mem_of_find?_eq_some h))
      exact absurd (List.find?_some h) this
    | some b =>
      have ha0 : a.1.sameKey q = true := List.find?_some (p := fun p : Lit × D1 => p.1.sameKey q) h
      have hb0 : b.1.sameKey q = true := List.find?_some (p := fun p : Lit × D1 => p.1.sameKey q) h'
      have ha := WideAt.sameKey_eq ha0
      have hb := WideAt.sameKey_eq hb0
      have hma := hp.mem_iff.1 (List.mem_of_find?_eq_some h)
      have hmb := List.mem_of_find?_eq_some h'
      rw [pair_eq hone a hma b hmb (ha.trans hb.symm)]
theorem Is.atKey (h : Is D l) (ho : uniq_ l) (k : Int) : D.atKey (.int .i64 k) (.lit (.string [])) = .lit (.string (in_ l k).data.toList) := by
  obtain ⟨es, rfl, hp⟩ := h
  have e := find_perm hp (by
    rw [List.pairwise_map]
    refine ho.imp ?_
    intro a b h1 h2
    simp only [ent, Lit.int.injEq, true_and] at h2
    exact h1 h2) (.int .i64 k)
  simp only [DataW.atKey]
  rw [e, List.find?_map]
  rw [show ((fun p : Lit × D1 => p.1.sameKey (.int .i64 k)) ∘ ent) = fun x => x.1 == k from funext fun x => same_int x.1 k]
  unfold in_
  cases l.find? (fun x => x.1 == k) <;> rfl
theorem Is.nil : Is (.map []) [] := ⟨[], rfl, by simp⟩
theorem uniq_nil : uniq_ [] := by simp [uniq_]
/-- What is left to count in. -/
def some_ (l : List (Int × ByteArray)) (left : Lit → Bool) (m : ByteArray) : Nat := l.countP (fun x => left (.int .i64 x.1) && decide (x.2 = m))
theorem some_all (h : Is D l) (m : ByteArray) : some_ l (Maps.has D) m = cnt_ l m := by
  unfold some_ cnt_
  apply List.countP_congr
  intro x hx
  have : Maps.has D (.int .i64 x.1) = true := by
    rw [Is.has h]
    exact List.any_eq_true.2 ⟨x, hx, by simp⟩
  simp [this]
theorem some_none {left : Lit → Bool} (h : ∀ kl, left kl = false) (m : ByteArray) : some_ l left m = 0 := by
  unfold some_
  simp [h]
theorem Is.mem {c : ByteArray} (h : Is D l) (hl : Maps.has D (.int .i64 k) = true) (ho : uniq_ l) (hat : D.atKey (.int .i64 k) (.lit (.string [])) = .lit (.string c.data.toList)) : (k, c) ∈ l := by
  rw [h.atKey ho k] at hat
  rw [h.has] at hl
  obtain ⟨x, hx, hk⟩ := List.any_eq_true.1 hl
  unfold in_ at hat
  cases hf : l.find? (fun x => x.1 == k) with
  | none =>
    rw [List.find?_eq_none] at hf
    exact absurd hk (hf x hx)
  | some y =>
    rw [hf] at hat
    have e : y.2 = c := by
      apply bytes_inj
      simpa using hat
    have := List.find?_some hf
    have hm := List.mem_of_find?_eq_some hf
    have e1 : y.1 = k := by simpa using this
    rw [← e1, ← e]
    exact hm
theorem some_step {left : Lit → Bool} {c m : ByteArray} (ho : uniq_ l) (hm : (k, c) ∈ l) (hl : left (.int .i64 k) = true) :
    some_ l left m = some_ l (fun z => left z && !z.sameKey (.int .i64 k)) m + (if c = m then 1 else 0) := by
  unfold some_
  simp only [same_int]
  induction l with
  | nil => simp at hm
  | cons x r ih =>
    have hp := List.pairwise_cons.1 ho
    rw [List.countP_cons, List.countP_cons]
    by_cases hx : x = (k, c)
    · subst hx
      have e : r.countP (fun x => left (.int .i64 x.1) && decide (x.2 = m)) = r.countP (fun x => left (.int .i64 x.1) && !(x.1 == k) && decide (x.2 = m)) := by
        apply List.countP_congr
        intro y hy
        have := hp.1 y hy
        have : (y.1 == k) = false := by
          simp
          exact fun e => this e.symm
        simp [this]
      simp [e, hl]
    · have hr : (k, c) ∈ r := by
        rcases List.mem_cons.1 hm with h | h
        · exact absurd h.symm hx
        · exact h
      have hne : (x.1 == k) = false := by
        have := hp.1 _ hr
        simpa using this
      rw [ih hp.2 hr]
      simp [hne]
      omega
end Go.Proofs.Ytjdkeicjhmdcfaa.Sl
