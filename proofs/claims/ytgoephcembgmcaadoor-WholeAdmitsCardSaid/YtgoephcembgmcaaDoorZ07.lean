/- Texts of the proof, merged: Cm3 Cm4 Cm5 Cp1 Cp2 Cp3 Cp4. -/
import Derived.Test.YtgoephcembgmcaaDoorZ06
set_option linter.unusedSimpArgs false
set_option linter.unusedVariables false
namespace Go.Proofs.YtgoephcembgmcaaDoor.Cf
open Go.RowKit Go.Maps Go.Proofs.YtgoephcembgmcaaDoorW.PrintWords Go.Proofs.YtgoephcembgmcaaDoorW.PrintLast Go.Proofs.YtgoephcembgmcaaDoor.Wk Go.Proofs.YtgoephcembgmcaaDoor.Fr Go.Proofs.YtgoephcembgmcaaDoor.Sh Go.Proofs.YtgoephcembgmcaaDoor.Sl
/-! Module.set: write, slots, quota; a key twice; an unknown key. -/
def writeF (m : Md) (value : ByteArray) : Option Md :=
  if (value.toList == [121, 101, 115]) = true then some (m.1, m.2.1, true, m.2.2.2) else if (value.toList == [116, 114, 117, 101]) = true then some (m.1, m.2.1, true, m.2.2.2) else if (value.toList == [110, 111]) = true then some m else if (value.toList == [102, 97, 108, 115, 101]) = true then some m else none
theorem set_self {α : Type} {l : List α} {i : Nat} {x : α} (h : l[i]? = some x) : l.set i x = l := by
  obtain ⟨h1, h2⟩ := List.getElem?_eq_some_iff.1 h
  rw [← h2]
  exact List.set_getElem_self h1
set_option maxHeartbeats 1000000 in
set_option maxRecDepth 100000 in
theorem set_write {w0 w : World} {base g n cap b sn i : Nat} {f : ByteArray → Bool} {ms : List Md} {nm rt : ByteArray} {bw : Bool} {sl q : Int} {us : List Usr} (I : In w0 w base g n cap b sn i f ms (nm, rt, bw, sl, q, us)) (hn : sn ≤ 100000) (value : ByteArray) (hf : f ⟨#[119, 114, 105, 116, 101]⟩ = false) :
    Calls Tryd.prog 47 #[.pointer (some ⟨g, i * 6, none⟩), .string ⟨#[119, 114, 105, 116, 101]⟩, .string value, .map (some b)] w fun e w' => Out w base g n cap b sn i f ms ⟨#[119, 114, 105, 116, 101]⟩ (writeF (nm, rt, bw, sl, q, us) value) e w' := by
  have hlook := I.S.look ⟨#[119, 114, 105, 116, 101]⟩ (by decide)
  rw [hf] at hlook
  obtain ⟨w1, hput, I1, B1⟩ := I.keyed hn ⟨#[119, 114, 105, 116, 101]⟩ (by decide)
  obtain ⟨A1, c1, hl, hU, k0, k1, k2, k3, k4, k5, hfr⟩ := I1.R.at_ i nm rt bw sl q us I1.mi
  have fr2 := hfr 2
  obtain ⟨I2, B2⟩ := I1.put (nm, rt, true, sl, q, us) 2 (by decide) (.bool true) (fun _ => rfl) rfl
  have H2 := hide I2
  have H1 : Hid (In w0 w1 base g n cap b (sn + 1) i (with_ f ⟨#[119, 114, 105, 116, 101]⟩) (ms.set i (nm, rt, bw, sl, q, us)) (nm, rt, bw, sl, q, us)) := by
    rw [set_self I.mi]
    exact I1
  have HB1 := hide B1
  obtain ⟨o, ho⟩ : ∃ z, z = i * 6 := ⟨_, rfl⟩
  rw [← ho] at k2 fr2 H2 B2 ⊢
  have HB2 := hide (B1.trans B2)
  clear I I1 I2 B1 B2 hl hU k0 k1 k3 k4 k5 hfr hf hn ho
  go_enter Tryd.func47, Tryd.ntmps47
  unfold writeF
  cases e1 : (value.toList == [121, 101, 115]) with
  | true =>
    go_wp2_with fail
    go_ret
    exact ⟨unhide HB2, rfl, (unhide H2).R, (unhide H2).S⟩
  | false =>
    cases e2 : (value.toList == [116, 114, 117, 101]) with
    | true =>
      go_wp2_with fail
      go_ret
      exact ⟨unhide HB2, rfl, (unhide H2).R, (unhide H2).S⟩
    | false =>
      cases e3 : (value.toList == [110, 111]) with
      | true =>
        go_wp2_with fail
        go_ret
        exact ⟨unhide HB1, rfl, (unhide H1).R, (unhide H1).S⟩
      | false =>
        cases e4 : (value.toList == [102, 97, 108, 115, 101]) with
        | true =>
          go_wp2_with fail
          go_ret
          exact ⟨unhide HB1, rfl, (unhide H1).R, (unhide H1).S⟩
        | false =>
          go_wp2_with fail
          go_ret
          exact out_none (unhide HB1) (by decide)
set_option maxHeartbeats 1000000 in
set_option maxRecDepth 100000 in
theorem set_slots {w0 w : World} {base g n cap b sn i : Nat} {f : ByteArray → Bool} {ms : List Md} {nm rt : ByteArray} {bw : Bool} {sl q : Int} {us : List Usr} (I : In w0 w base g n cap b sn i f ms (nm, rt, bw, sl, q, us)) (hn : sn ≤ 100000) (value : ByteArray) (hv : value.size ≤ 10000) (hf : f ⟨#[115, 108, 111, 116, 115]⟩ = false) :
    Calls Tryd.prog 47 #[.pointer (some ⟨g, i * 6, none⟩), .string ⟨#[115, 108, 111, 116, 115]⟩, .string value, .map (some b)] w fun e w' => Out w base g n cap b sn i f ms ⟨#[115, 108, 111, 116, 115]⟩ (if (numOf value 1 16).2 = true then some (nm, rt, bw, (numOf value 1 16).1, q, us) else none) e w' := by
  have hlook := I.S.look ⟨#[115, 108, 111, 116, 115]⟩ (by decide)
  rw [hf] at hlook
  obtain ⟨w1, hput, I1, B1⟩ := I.keyed hn ⟨#[115, 108, 111, 116, 115]⟩ (by decide)
  have HI := hide I1
  have HB1 := hide B1
  have HV := hide hv
  have hnum := number_ok value 1 16 w1 (unhide HI).glob (by have := unhide HV; omega)
  obtain ⟨z, hz⟩ : ∃ z, z = (numOf value 1 16) := ⟨_, rfl⟩
  rw [← hz] at hnum ⊢
  obtain ⟨x, y⟩ := z
  clear I I1 B1 hf hn hv hz
  go_enter Tryd.func47, Tryd.ntmps47
  go_wp2_with fail
  refine hnum.mono ?_
  rintro e w2 ⟨rfl, hb⟩
  clear hnum
  have I1 := (unhide HI).below hb
  have B1 := (unhide HB1).trans (hb.mono (unhide HI).bw)
  clear hb HB1 HI
  obtain ⟨A1, c1, hl, hU, k0, k1, k2, k3, k4, k5, hfr⟩ := I1.R.at_ i nm rt bw sl q us I1.mi
  have fr3 := hfr 3
  obtain ⟨I2, B2⟩ := I1.put (nm, rt, bw, x, q, us) 3 (by decide) (.int .i64 x) (fun _ => rfl) rfl
  have H2 := hide I2
  obtain ⟨o, ho⟩ : ∃ z, z = i * 6 := ⟨_, rfl⟩
  rw [← ho] at k3 fr3 H2 B2 ⊢
  have HB2 := hide (B1.trans B2)
  clear I1 I2 B1 B2 hl hU k0 k1 k2 k4 k5 hfr ho
  cases y with
  | true =>
    go_wp2_with fail
    go_ret
    exact ⟨unhide HB2, rfl, (unhide H2).R, (unhide H2).S⟩
  | false =>
    go_wp2_with fail
    go_ret
    exact out_none (unhide HB2) (by decide)
set_option maxHeartbeats 1000000 in
set_option maxRecDepth 100000 in
theorem set_quota {w0 w : World} {base g n cap b sn i : Nat} {f : ByteArray → Bool} {ms : List Md} {nm rt : ByteArray} {bw : Bool} {sl q : Int} {us : List Usr} (I : In w0 w base g n cap b sn i f ms (nm, rt, bw, sl, q, us)) (hn : sn ≤ 100000) (value : ByteArray) (hv : value.size ≤ 10000) (hf : f ⟨#[113, 117, 111, 116, 97]⟩ = false) :
    Calls Tryd.prog 47 #[.pointer (some ⟨g, i * 6, none⟩), .string ⟨#[113, 117, 111, 116, 97]⟩, .string value, .map (some b)] w fun e w' => Out w base g n cap b sn i f ms ⟨#[113, 117, 111, 116, 97]⟩ (if (numOf value 0 262144).2 = true then some (nm, rt, bw, sl, (numOf value 0 262144).1, us) else none) e w' := by
  have hlook := I.S.look ⟨#[113, 117, 111, 116, 97]⟩ (by decide)
  rw [hf] at hlook
  obtain ⟨w1, hput, I1, B1⟩ := I.keyed hn ⟨#[113, 117, 111, 116, 97]⟩ (by decide)
  have HI := hide I1
  have HB1 := hide B1
  have HV := hide hv
  have hnum := number_ok value 0 262144 w1 (unhide HI).glob (by have := unhide HV; omega)
  obtain ⟨z, hz⟩ : ∃ z, z = (numOf value 0 262144) := ⟨_, rfl⟩
  rw [← hz] at hnum ⊢
  obtain ⟨x, y⟩ := z
  clear I I1 B1 hf hn hv hz
  go_enter Tryd.func47, Tryd.ntmps47
  go_wp2_with fail
  refine hnum.mono ?_
  rintro e w2 ⟨rfl, hb⟩
  clear hnum
  have I1 := (unhide HI).below hb
  have B1 := (unhide HB1).trans (hb.mono (unhide HI).bw)
  clear hb HB1 HI
  obtain ⟨A1, c1, hl, hU, k0, k1, k2, k3, k4, k5, hfr⟩ := I1.R.at_ i nm rt bw sl q us I1.mi
  have fr4 := hfr 4
  obtain ⟨I2, B2⟩ := I1.put (nm, rt, bw, sl, x, us) 4 (by decide) (.int .i64 x) (fun _ => rfl) rfl
  have H2 := hide I2
  obtain ⟨o, ho⟩ : ∃ z, z = i * 6 := ⟨_, rfl⟩
  rw [← ho] at k4 fr4 H2 B2 ⊢
  have HB2 := hide (B1.trans B2)
  clear I1 I2 B1 B2 hl hU k0 k1 k2 k3 k5 hfr ho
  cases y with
  | true =>
    go_wp2_with fail
    go_ret
    exact ⟨unhide HB2, rfl, (unhide H2).R, (unhide H2).S⟩
  | false =>
    go_wp2_with fail
    go_ret
    exact out_none (unhide HB2) (by decide)
set_option maxHeartbeats 1000000 in
set_option maxRecDepth 100000 in
theorem set_twice {w0 w : World} {base g n cap b sn i : Nat} {f : ByteArray → Bool} {ms : List Md} {nm rt : ByteArray} {bw : Bool} {sl q : Int} {us : List Usr} (I : In w0 w base g n cap b sn i f ms (nm, rt, bw, sl, q, us)) (hn : sn ≤ 100000) (key value : ByteArray) (hk : key.size ≤ maxLen) (hu : (key.toList == [117, 115, 101, 114]) = false) (hf : f key = true) :
    Calls Tryd.prog 47 #[.pointer (some ⟨g, i * 6, none⟩), .string key, .string value, .map (some b)] w fun e w' => Out w base g n cap b sn i f ms key none e w' := by
  have hlook := I.S.look key hk
  rw [hf] at hlook
  clear I hf hn
  go_enter Tryd.func47, Tryd.ntmps47
  go_wp2_with fail
  go_ret
  exact out_none (Below.refl _ _) (by decide)
set_option maxHeartbeats 1000000 in
set_option maxRecDepth 100000 in
theorem set_other {w0 w : World} {base g n cap b sn i : Nat} {f : ByteArray → Bool} {ms : List Md} {nm rt : ByteArray} {bw : Bool} {sl q : Int} {us : List Usr} (I : In w0 w base g n cap b sn i f ms (nm, rt, bw, sl, q, us)) (hn : sn ≤ 100000) (key value : ByteArray) (hk : key.size ≤ maxLen) (hu : (key.toList == [117, 115, 101, 114]) = false) (h1 : (key.toList == [114, 111, 111, 116]) = false) (h2 : (key.toList == [119, 114, 105, 116, 101]) = false) (h3 : (key.toList == [115, 108, 111, 116, 115]) = false) (h4 : (key.toList == [113, 117, 111, 116, 97]) = false) (hf : f key = false) :
    Calls Tryd.prog 47 #[.pointer (some ⟨g, i * 6, none⟩), .string key, .string value, .map (some b)] w fun e w' => Out w base g n cap b sn i f ms key none e w' := by
  have hlook := I.S.look key hk
  rw [hf] at hlook
  obtain ⟨w1, hput, I1, B1⟩ := I.keyed hn key hk
  have HB1 := hide B1
  clear I I1 B1 hf hn hk
  go_enter Tryd.func47, Tryd.ntmps47
  go_wp2_with fail
  go_ret
  exact out_none (unhide HB1) (by decide)
end Go.Proofs.YtgoephcembgmcaaDoor.Cf
namespace Go.Proofs.YtgoephcembgmcaaDoor.Cf
open Go.RowKit Go.Maps Go.Proofs.YtgoephcembgmcaaDoorW.PrintWords Go.Proofs.YtgoephcembgmcaaDoorW.PrintLast Go.Proofs.YtgoephcembgmcaaDoor.Wk Go.Proofs.YtgoephcembgmcaaDoor.Fr Go.Proofs.YtgoephcembgmcaaDoor.Sh Go.Proofs.YtgoephcembgmcaaDoor.Sl
/-! Module.set: user. -/
def cutB (s : ByteArray) (c : UInt8) : ByteArray × ByteArray × Bool := (⟨(Lib.cut s.data.toList [c]).1.toArray⟩, ⟨(Lib.cut s.data.toList [c]).2.1.toArray⟩, (Lib.cut s.data.toList [c]).2.2)
theorem cut_ok (s : ByteArray) (c : UInt8) (w : World) (hG : Glob w) (hs : s.size ≤ 10000) :
    Calls Tryd.prog 44 #[.string s, .string ⟨#[c]⟩] w fun e w' => e = .returned (.tuple #[.string (cutB s c).1, .string (cutB s c).2.1, .bool (cutB s c).2.2]) ∧ Below w.heap.size w w' := by
  obtain ⟨m, hm⟩ := hG.max
  refine (Tryd.strings_Cut s ⟨#[c]⟩ m w (by omega) hm).mono ?_
  rintro e w' ⟨rfl, k, rfl⟩
  exact ⟨rfl, pw_below_drewN (Below.refl _ _) k⟩
def userF (m : Md) (z : ByteArray × ByteArray × Bool) : Option Md :=
  if z.2.2 = false then none else if z.2.1.toList.isEmpty = true then none else if 16 < z.2.1.size then none else if nameOK z.1 = false then none else if (secretOf m.2.2.2.2.2 z.1).2 = true then none else if m.2.2.2.2.2.length = 8 then none
  else some (m.1, m.2.1, m.2.2.1, m.2.2.2.1, m.2.2.2.2.1, m.2.2.2.2.2 ++ [(z.1, z.2.1)])
theorem lt_of_cell {w : World} {p : Addr} {v : Value} (h : w.cell? p = some v) : p.block < w.heap.size := by
  rcases Nat.lt_or_ge p.block w.heap.size with h1 | h1
  · exact h1
  · unfold World.cell? at h
    simp [Array.getElem?_eq_none h1] at h
theorem map_ne {α : Type} {d : Kd α} {e : Nat} {w : World} {base : Nat} {ok : Nat → Prop} {v : Value} {xs : List α} (h : d.R e w base ok v xs) {b : Nat} (hb : ∃ es clock, w.heap[b]? = some (.map es clock)) : some b ≠ v.ownBlock := by
  intro e
  obtain ⟨cells, hc⟩ := Kd.R_typed h b e.symm
  obtain ⟨es, clock, hb⟩ := hb
  rw [hc] at hb
  cases hb
theorem info126 : (Tryd.prog.info? 126).map (fun i => (i.zero, i.size, i.bytes)) = some (some (.agg #[.string ⟨#[]⟩, .string ⟨#[]⟩]), 2, 32) := by kernel_rfl
set_option maxHeartbeats 1000000 in
set_option maxRecDepth 100000 in
theorem set_user {w0 w : World} {base g n cap b sn i : Nat} {f : ByteArray → Bool} {ms : List Md} {nm rt : ByteArray} {bw : Bool} {sl q : Int} {us : List Usr} (I : In w0 w base g n cap b sn i f ms (nm, rt, bw, sl, q, us)) (hn : sn ≤ 100000) (hus : us.length ≤ 8) (value : ByteArray) (hv : value.size ≤ 10000) :
    Calls Tryd.prog 47 #[.pointer (some ⟨g, i * 6, none⟩), .string ⟨#[117, 115, 101, 114]⟩, .string value, .map (some b)] w fun e w' => Out w base g n cap b sn i f ms ⟨#[117, 115, 101, 114]⟩ (userF (nm, rt, bw, sl, q, us) (cutB value 58)) e w' := by
  obtain ⟨w1, hput, I1, B1⟩ := I.keyed hn ⟨#[117, 115, 101, 114]⟩ (by decide)
  have hcut := cut_ok value 58 w1 I1.glob hv
  obtain ⟨z, hz⟩ : ∃ z, z = cutB value 58 := ⟨_, rfl⟩
  rw [← hz] at hcut ⊢
  obtain ⟨who, sec, there⟩ := z
  have HI := hide I1
  have HB1 := hide B1
  have HUS := hide hus
  clear I I1 B1 hn hv hus hz
  obtain ⟨r, hr⟩ : ∃ r, r = userF (nm, rt, bw, sl, q, us) (who, sec, there) := ⟨_, rfl⟩
  rw [← hr]
  have HR := hide hr
  clear hr
  go_enter Tryd.func47, Tryd.ntmps47
  go_wp2_with fail
  refine hcut.mono ?_
  rintro e w2 ⟨rfl, hb⟩
  have HI2 := hide ((unhide HI).below hb)
  have HB2 := hide ((unhide HB1).trans (hb.mono (unhide HI).bw))
  clear hcut hb HB1 HI
  cases there with
  | false =>
    go_wp2_with fail
    go_ret
    rw [show r = none by rw [unhide HR]; rfl]
    exact out_none (unhide HB2) (by decide)
  | true =>
    cases he : sec.toList.isEmpty with
    | true =>
      go_wp2_with fail
      go_ret
      rw [show r = none by rw [unhide HR]; unfold userF; simp [he]]
      exact out_none (unhide HB2) (by decide)
    | false =>
      by_cases h16 : 16 < sec.size
      · have d1 : 16 < (sec.size : Int) := by omega
        go_wp2_with fail
        go_ret
        rw [show r = none by rw [unhide HR]; unfold userF; simp [h16]]
        exact out_none (unhide HB2) (by decide)
      · have d1 : ¬ 16 < (sec.size : Int) := by omega
        have H16 := hide h16
        clear h16
        go_wp2_with fail
        refine (name_ok who w2).mono ?_
        rintro e w3 ⟨rfl, hb⟩
        have HI3 := hide ((unhide HI2).below hb)
        have HB3 := hide ((unhide HB2).trans (hb.mono (unhide HI2).bw))
        clear hb HB2 HI2
        cases hname : nameOK who with
        | false =>
          go_wp2_with fail
          go_ret
          rw [show r = none by rw [unhide HR]; unfold userF; simp [hname]]
          exact out_none (unhide HB3) (by decide)
        | true =>
          obtain ⟨A1, c1, hl, hU, k0, k1, k2, k3, k4, k5, hfr⟩ := (unhide HI3).R.at_ i nm rt bw sl q us (unhide HI3).mi
          have fr5 := hfr 5
          have hC := (Kd.R_reads' hU).2.2
          have hsec := secret_ok nm rt who (.bool bw) (.int .i64 sl) (.int .i64 q) A1 c1 us w3 hC (by have := unhide HUS; omega)
          obtain ⟨N, hN⟩ : ∃ z, z = us.length := ⟨_, rfl⟩
          obtain ⟨o, ho⟩ : ∃ z, z = i * 6 := ⟨_, rfl⟩
          obtain ⟨y, hy⟩ : ∃ y, y = secretOf us who := ⟨_, rfl⟩
          rw [← hN] at hl hU k5 hsec
          rw [← ho] at k0 k1 k2 k3 k4 k5 fr5 ⊢
          rw [← hy] at hsec
          obtain ⟨y1, tw⟩ := y
          have HU := hide hU
          have HN := hide hN
          have HO := hide ho
          have HY := hide hy
          have HL := hide hl
          clear hfr hC hl hU hN ho hy
          go_wp2_with fail
          refine hsec.mono ?_
          rintro e w4 ⟨rfl, hb⟩
          have HI4 := hide ((unhide HI3).below hb)
          have HB4 := hide ((unhide HB3).trans (hb.mono (unhide HI3).bw))
          have r5 := pw_cell_below hb k5
          have fz5 : w4.frozen? ⟨g, o + 5, none⟩ = false := by
            have := (hb.frozen (p := ⟨g, o + 5, none⟩) (lt_of_cell k5)).trans fr5
            exact this
          have HU4 := hide (Kd.R_below (unhide HU) hb)
          clear hsec hb HB3 HI3 HU k0 k1 k2 k3 k4 k5 fr5
          cases tw with
          | true =>
            go_wp2_with fail
            go_ret
            have e1 : (secretOf us who).2 = true := by rw [← unhide HY]
            rw [show r = none by rw [unhide HR]; unfold userF; simp [e1]]
            exact out_none (unhide HB4) (by decide)
          | false =>
            by_cases h8 : N = 8
            · have e8 : us.length = 8 := by rw [← unhide HN]; exact h8
              subst h8
              go_wp2_with fail
              go_ret
              rw [show r = none by rw [unhide HR]; unfold userF; simp [e8]]
              exact out_none (unhide HB4) (by decide)
            · have d2 : ((N : Int) == 8) = false := by simpa using (by omega : ¬ (N : Int) = 8)
              have H8 := hide h8
              clear h8
              obtain ⟨cells, hty⟩ := (unhide HI4).R.typed
              have hne : some g ≠ (Value.slice A1 N c1).ownBlock := Kd.R_ne (unhide HU4) hty (by decide)
              have HTY := hide hty
              have HNE := hide hne
              clear hty hne
              go_wp2_with (at_builtin; refine Kd.R_append KU (w0 := w) base rfl (.tmp 109) (.tmp 113) 63 126 (.agg #[.string ⟨#[]⟩, .string ⟨#[]⟩]) 32 rfl Tryd.underlying63 info126 rfl (by decide) (by decide) (.slice A1 N c1) us (who, sec) [.string who, .string sec] (fun _ => True) (fun _ => False) rfl rfl ⟨_, _, rfl, rfl, rfl⟩ (fun _ h => h.elim) (fun _ _ => trivial) (unhide HU4) (unhide HB4) (unhide HI4).bw (by have := unhide HUS; omega) ?_)
              intro v5 w5 hU5 hb5 hg5 hat5
              obtain ⟨A5, c5, hv5⟩ := Kd.R_slice hU5
              obtain ⟨N5, hN5⟩ : ∃ z, z = (us ++ [(who, sec)]).length := ⟨_, rfl⟩
              rw [← hN5] at hv5
              have hblk := hg5.block g (lt_of_cell r5) (unhide HNE)
              have q5 : w5.cell? ⟨g, o + 5, none⟩ = some (.slice A1 N c1) := (World.cell?_of_block (w := w4) hblk).trans r5
              have f5 : w5.frozen? ⟨g, o + 5, none⟩ = false := (World.frozen?_of_block (w := w4) hblk).trans fz5
              have hM := (unhide HI4).R.grow nm rt bw sl q us (us ++ [(who, sec)]) (unhide HI4).mi (.slice A1 N c1) v5 (by rw [← unhide HO]; exact r5) hU5 hg5 hat5
              rw [← unhide HO] at hM
              have hS := ((unhide HI4).S.kept hg5 (map_ne (unhide HU4) (unhide HI4).S.isMap)).set (a := ⟨g, o + 5, none⟩) v5 (fun e => (unhide HI4).gb e.symm)
              have HM := hide hM
              have HS := hide hS
              have HB6 := hide (hb5.setCell (p := ⟨g, o + 5, none⟩) (unhide HI4).bg v5)
              subst hv5
              clear hU5 hb5 hg5 hat5 hblk r5 fz5 hM hS hN5
              go_wp2_with fail
              go_ret
              rw [show r = some (nm, rt, bw, sl, q, us ++ [(who, sec)]) by
                have e1 : (secretOf us who).2 = false := by rw [← unhide HY]
                have e2 : ¬ us.length = 8 := by rw [← unhide HN]; exact unhide H8
                have e3 := unhide H16
                rw [unhide HR]; unfold userF; simp [e1, e2, e3, he, hname]]
              exact ⟨unhide HB6, rfl, unhide HM, unhide HS⟩
end Go.Proofs.YtgoephcembgmcaaDoor.Cf
namespace Go.Proofs.YtgoephcembgmcaaDoor.Cf
open Go.RowKit Go.Maps Go.Proofs.YtgoephcembgmcaaDoorW.PrintWords Go.Proofs.YtgoephcembgmcaaDoorW.PrintLast Go.Proofs.YtgoephcembgmcaaDoor.Wk Go.Proofs.YtgoephcembgmcaaDoor.Fr Go.Proofs.YtgoephcembgmcaaDoor.Sh Go.Proofs.YtgoephcembgmcaaDoor.Sl
/-! Module.set, whole. -/
/-- What set makes of a module; nothing where it answers an error. pk: what path.Check says of the value; sn: the key has been there. -/
def setF (pk sn : Bool) (m : Md) (key value : ByteArray) : Option Md :=
  if key = ⟨#[117, 115, 101, 114]⟩ then userF m (cutB value 58) else if sn = true then none
  else if key = ⟨#[114, 111, 111, 116]⟩ then (if pk = true then some (m.1, value, m.2.2) else none)
  else if key = ⟨#[119, 114, 105, 116, 101]⟩ then writeF m value
  else if key = ⟨#[115, 108, 111, 116, 115]⟩ then (if (numOf value 1 16).2 = true then some (m.1, m.2.1, m.2.2.1, (numOf value 1 16).1, m.2.2.2.2) else none)
  else if key = ⟨#[113, 117, 111, 116, 97]⟩ then (if (numOf value 0 262144).2 = true then some (m.1, m.2.1, m.2.2.1, m.2.2.2.1, (numOf value 0 262144).1, m.2.2.2.2.2) else none)
  else none
theorem lit_ne {key : ByteArray} {l : List UInt8} (h : ¬ key = ⟨l.toArray⟩) : (key.toList == l) = false := by
  have := str_ne h
  rw [ByteArray.toList_eq (bs := (⟨l.toArray⟩ : ByteArray))] at this
  exact this
theorem set_ok {w0 w : World} {base g n cap b sn i : Nat} {f : ByteArray → Bool} {ms : List Md} {nm rt : ByteArray} {bw : Bool} {sl q : Int} {us : List Usr} (I : In w0 w base g n cap b sn i f ms (nm, rt, bw, sl, q, us)) (hn : sn ≤ 100000) (hus : us.length ≤ 8) (key value : ByteArray) (hk : key.size ≤ 10000) (hv : value.size ≤ 10000) :
    Calls Tryd.prog 47 #[.pointer (some ⟨g, i * 6, none⟩), .string key, .string value, .map (some b)] w fun e w' => ∃ pk : Bool, (value = ⟨#[114]⟩ → pk = true) ∧ Out w base g n cap b sn i f ms key (setF pk (f key) (nm, rt, bw, sl, q, us) key value) e w' := by
  have hkm : key.size ≤ maxLen := by unfold maxLen; omega
  unfold setF
  by_cases h0 : key = ⟨#[117, 115, 101, 114]⟩
  · subst h0
    refine (set_user I hn hus value hv).mono ?_
    intro e w' h
    exact ⟨true, fun _ => rfl, by rw [if_pos rfl]; exact h⟩
  · simp only [if_neg h0]
    cases hf : f key with
    | true =>
      refine (set_twice I hn key value hkm (lit_ne h0) hf).mono ?_
      intro e w' h
      exact ⟨true, fun _ => rfl, h⟩
    | false =>
      simp only [Bool.false_eq_true, if_false]
      by_cases h1 : key = ⟨#[114, 111, 111, 116]⟩
      · subst h1
        refine (set_root I hn value hv hf).mono ?_
        rintro e w' ⟨pk, hpk, h⟩
        exact ⟨pk, hpk, by rw [if_pos rfl]; exact h⟩
      · by_cases h2 : key = ⟨#[119, 114, 105, 116, 101]⟩
        · subst h2
          refine (set_write I hn value hf).mono ?_
          intro e w' h
          exact ⟨true, fun _ => rfl, by rw [if_neg h1, if_pos rfl]; exact h⟩
        · by_cases h3 : key = ⟨#[115, 108, 111, 116, 115]⟩
          · subst h3
            refine (set_slots I hn value hv hf).mono ?_
            intro e w' h
            exact ⟨true, fun _ => rfl, by rw [if_neg h1, if_neg h2, if_pos rfl]; exact h⟩
          · by_cases h4 : key = ⟨#[113, 117, 111, 116, 97]⟩
            · subst h4
              refine (set_quota I hn value hv hf).mono ?_
              intro e w' h
              exact ⟨true, fun _ => rfl, by rw [if_neg h1, if_neg h2, if_neg h3, if_pos rfl]; exact h⟩
            · refine (set_other I hn key value hkm (lit_ne h0) (lit_ne h1) (lit_ne h2) (lit_ne h3) (lit_ne h4) hf).mono ?_
              intro e w' h
              exact ⟨true, fun _ => rfl, by rw [if_neg h1, if_neg h2, if_neg h3, if_neg h4]; exact h⟩
/-! What stays within its bounds. -/
/-- A module's name, root and users are short, and no more than may be. -/
def Good (m : Md) : Prop := m.1.size ≤ 16 ∧ m.2.1.size ≤ 10000 ∧ m.2.2.2.2.2.length ≤ 8 ∧ ∀ x ∈ m.2.2.2.2.2, x.2.size ≤ 16
theorem setF_good {pk sn : Bool} {m m' : Md} {key value : ByteArray} (h : setF pk sn m key value = some m') (hm : Good m) (hv : value.size ≤ 10000) : Good m' ∧ m'.1 = m.1 := by
  obtain ⟨g1, g2, g3, g4⟩ := hm
  unfold setF at h
  split at h
  · unfold userF at h
    split at h
    · cases h
    · split at h
      · cases h
      · split at h
        · cases h
        · rename_i h16
          split at h
          · cases h
          · split at h
            · cases h
            · split at h
              · cases h
              · rename_i h8
                obtain rfl := Option.some.inj h
                refine ⟨⟨g1, g2, ?_, ?_⟩, rfl⟩
                · simp only [List.length_append, List.length_singleton]
                  omega
                · intro x hx
                  rcases List.mem_append.1 hx with hx | hx
                  · exact g4 x hx
                  · rw [List.mem_singleton.1 hx]
                    simp only
                    omega
  · split at h
    · cases h
    · split at h
      · split at h
        · obtain rfl := Option.some.inj h
          exact ⟨⟨g1, hv, g3, g4⟩, rfl⟩
        · cases h
      · split at h
        · unfold writeF at h
          split at h
          · obtain rfl := Option.some.inj h
            exact ⟨⟨g1, g2, g3, g4⟩, rfl⟩
          · split at h
            · obtain rfl := Option.some.inj h
              exact ⟨⟨g1, g2, g3, g4⟩, rfl⟩
            · split at h
              · obtain rfl := Option.some.inj h
                exact ⟨⟨g1, g2, g3, g4⟩, rfl⟩
              · split at h
                · obtain rfl := Option.some.inj h
                  exact ⟨⟨g1, g2, g3, g4⟩, rfl⟩
                · cases h
        · split at h
          · split at h
            · obtain rfl := Option.some.inj h
              exact ⟨⟨g1, g2, g3, g4⟩, rfl⟩
            · cases h
          · split at h
            · split at h
              · obtain rfl := Option.some.inj h
                exact ⟨⟨g1, g2, g3, g4⟩, rfl⟩
              · cases h
            · cases h
/-! The fixed text's lines. -/
def mFix (rt : ByteArray) (sl : Int) (us : List Usr) : Md := (⟨#[109]⟩, rt, false, sl, 262144, us)
theorem fix_root : setF true false (mFix ⟨#[]⟩ 16 []) ⟨#[114, 111, 111, 116]⟩ ⟨#[114]⟩ = some (mFix ⟨#[114]⟩ 16 []) := by kernel_rfl
theorem fix_slots (pk : Bool) : setF pk false (mFix ⟨#[114]⟩ 16 []) ⟨#[115, 108, 111, 116, 115]⟩ ⟨#[49]⟩ = some (mFix ⟨#[114]⟩ 1 []) := by kernel_rfl
theorem fix_user (pk sn : Bool) : setF pk sn (mFix ⟨#[114]⟩ 1 []) ⟨#[117, 115, 101, 114]⟩ ⟨#[117, 58, 120]⟩ = some (mFix ⟨#[114]⟩ 1 [(⟨#[117]⟩, ⟨#[120]⟩)]) := by kernel_rfl
end Go.Proofs.YtgoephcembgmcaaDoor.Cf
namespace Go.Proofs.YtgoephcembgmcaaDoor.Cf
open Go.RowKit Go.Maps Go.Proofs.YtgoephcembgmcaaDoorW.PrintWords Go.Proofs.YtgoephcembgmcaaDoorW.PrintLast Go.Proofs.YtgoephcembgmcaaDoor.Wk Go.Proofs.YtgoephcembgmcaaDoor.Fr Go.Proofs.YtgoephcembgmcaaDoor.Sh Go.Proofs.YtgoephcembgmcaaDoor.Sl
/-! Config.Check. -/
set_option maxHeartbeats 1000000 in
set_option maxRecDepth 100000 in
theorem cfg_ok (A : Option Addr) (c : Nat) (ms : List Md) (w : World) (hC : KM.C w A ms.length ms) (hc : ms.length ≤ c) (hl : ms.length ≤ 1000) (hrt : ∀ m ∈ ms, m.2.1.size ≤ 10000) :
    Calls Tryd.prog 50 #[.agg #[.slice A ms.length c]] w fun e w' => ∃ v, e = .returned v ∧ IsErr v ∧ (ms.length = 1 → (∀ m ∈ ms, m.2.1.toList.isEmpty = false) → v = .nilIface) ∧ Below w.heap.size w w' := by
  obtain ⟨n, hn⟩ : ∃ z, z = ms.length := ⟨_, rfl⟩
  rw [← hn] at hC hl hc ⊢
  have HC := hide hC
  have HL := hide hl
  have HN := hide hn
  have HCC := hide hc
  have HRT := hide hrt
  have hu65 := Tryd.underlying65
  have hu60 := Tryd.underlying60
  have B1 : Hid (Below w.heap.size w (w.alloc (.cells #[.slice A n c] 60))) := below_alloc (Below.refl _ _) _
  have X1 : Hid ((w.alloc (.cells #[.slice A n c] 60)).cell? ⟨w.heap.size, 0, none⟩ = some (.slice A n c)) := (blk_cell (blk_new w (.cells #[.slice A n c] 60)) 0).trans rfl
  clear hC hl hn hc hrt
  go_enter Tryd.func50, Tryd.ntmps50
  go_wp2_with fail
  go_loopg [10] n (fun kq v10 wr => ∃ (i : Nat), v10 = .int .i64 (i : Int) ∧ Hid (i + kq = n) ∧ Hid (Below w.heap.size w wr) ∧ Hid (wr.cell? ⟨w.heap.size, 0, none⟩ = some (.slice A n c)))
  case atStart => exact ⟨0, rfl, Nat.zero_add _, B1, X1⟩
  case round =>
    obtain ⟨i, rfl, HI, HB, HX⟩ := hrel
    by_cases hlt : i < n
    · have hu : i < ms.length := by have := unhide HN; omega
      obtain ⟨⟨nm, rt, b, sl, q, us⟩, hm⟩ : ∃ m, ms[i]? = some m := ⟨_, List.getElem?_eq_getElem hu⟩
      obtain ⟨ad, A1, c1, rfl, h1, h2, q0, q1, q2, q3, q4, q5⟩ := KM_at (unhide HC) i nm rt b sl q us hm
      have k0 := pw_cell_below (unhide HB) q0
      have k1 := pw_cell_below (unhide HB) q1
      have k2 := pw_cell_below (unhide HB) q2
      have k3 := pw_cell_below (unhide HB) q3
      have k4 := pw_cell_below (unhide HB) q4
      have k5 := pw_cell_below (unhide HB) q5
      have hrm : rt.size ≤ 10000 := unhide HRT (nm, rt, b, sl, q, us) (List.mem_of_getElem? hm)
      clear q0 q1 q2 q3 q4 q5
      obtain ⟨N, hN⟩ : ∃ z, z = us.length := ⟨_, rfl⟩
      rw [← hN] at k5
      have d1 : (i : Int) < (n : Int) := by omega
      have HM := hide hm
      have HLT := hide hlt
      have HRM := hide hrm
      obtain ⟨wb, hwb⟩ : ∃ z, z = wr.alloc (.cells #[.string nm, .string rt, .bool b, .int .i64 sl, .int .i64 q, .slice A1 N c1] 65) := ⟨_, rfl⟩
      have B2 : Hid (Below w.heap.size w wb) := by rw [hwb]; exact below_alloc (unhide HB) _
      have B3 : Below wr.heap.size wr wb := by rw [hwb]; exact below_alloc (Below.refl _ _) _
      have X2 : wb.cell? ⟨w.heap.size, 0, none⟩ = some (.slice (some ad) n c) := pw_cell_below B3 (unhide HX)
      have Y2 : wb.cell? ⟨wr.heap.size, 1, none⟩ = some (.string rt) := by rw [hwb]; exact (blk_cell (blk_new wr _) 1).trans rfl
      have HWB := hide hwb
      have HX2 := hide X2
      have HY2 := hide Y2
      rw [hwb] at X2 Y2
      clear hm hlt hu h1 h2 hN hrm HX B3 hwb
      cases he : rt.toList.isEmpty with
      | true =>
        have HE := hide he
        go_wp2_with fail
        go_ret
        refine ⟨_, rfl, .inr ⟨_, rfl⟩, fun _ h2 => ?_, below_alloc (below_alloc (unhide HB) _) _⟩
        have := h2 (nm, rt, b, sl, q, us) (List.mem_of_getElem? (unhide HM))
        rw [unhide HE] at this
        cases this
      | false =>
        have d3 : (i : Int) ≤ (c : Int) := by have := unhide HCC; have := unhide HLT; omega
        have d4 : ¬ c = 0 := by have := unhide HCC; have := unhide HLT; omega
        have HI0 := hide d3
        go_wp2_with fail
        rw [← unhide HWB]
        clear X2 Y2 k0 k1 k2 k3 k4 k5 HWB
        have X2 := unhide HX2
        have Y2 := unhide HY2
        obtain ⟨gk1, hk1⟩ : ∃ z, z = gk := ⟨_, rfl⟩
        have HK1 := hide hk1
        clear hk1 d1 d3 d4
        obtain ⟨wo, rfl⟩ : ∃ z, z = wr := ⟨_, rfl⟩
        go_loopg [27] i (fun kp v27 wp => ∃ (j : Nat), v27 = .int .i64 (j : Int) ∧ Hid (j + kp = i) ∧ Hid (Below wb.heap.size wb wp))
        case atStart => exact ⟨0, rfl, Nat.zero_add _, Below.refl _ _⟩
        case round =>
          obtain ⟨j, rfl, HJ, HB5⟩ := hrel
          have BW : Hid (Below w.heap.size w wr) := below_step (unhide B2) (unhide HB5)
          have X5 := pw_cell_below (unhide HB5) X2
          have Y5 := pw_cell_below (unhide HB5) Y2
          clear X2 Y2
          by_cases hjt : j < i
          · have hu : j < ms.length := by have := unhide HN; have := unhide HLT; omega
            obtain ⟨⟨nm', rt', b', sl', q', us'⟩, hm⟩ : ∃ m, ms[j]? = some m := ⟨_, List.getElem?_eq_getElem hu⟩
            obtain ⟨ad', A1', c1', had, h1, h2, q0, q1, q2, q3, q4, q5⟩ := KM_at (unhide HC) j nm' rt' b' sl' q' us' hm
            obtain rfl := Option.some.inj had
            have k0 := pw_cell_below (unhide BW) q0
            have k1 := pw_cell_below (unhide BW) q1
            have k2 := pw_cell_below (unhide BW) q2
            have k3 := pw_cell_below (unhide BW) q3
            have k4 := pw_cell_below (unhide BW) q4
            have k5 := pw_cell_below (unhide BW) q5
            have hrm : rt'.size ≤ 10000 := unhide HRT (nm', rt', b', sl', q', us') (List.mem_of_getElem? hm)
            obtain ⟨N', hN⟩ : ∃ z, z = us'.length := ⟨_, rfl⟩
            rw [← hN] at k5
            have d1 : (j : Int) < (i : Int) := by omega
            have HRM' := hide hrm
            have HJT := hide hjt
            have Bx : Below wr.heap.size wr (wr.alloc (.cells #[.string nm', .string rt', .bool b', .int .i64 sl', .int .i64 q', .slice A1' N' c1'] 65)) := below_alloc (Below.refl _ _) _
            have Y6 := pw_cell_below Bx Y5
            have B6 := hide (below_step (unhide BW) Bx)
            have B7 := hide (below_step (unhide HB5) Bx)
            clear q0 q1 q2 q3 q4 q5 hrm hjt hu h1 h2 hN had hm Bx
            cases hq : (rt'.toList == rt.toList) with
            | true =>
              go_wp2_with fail
              go_ret
              exact ⟨_, rfl, .inr ⟨_, rfl⟩, fun h1 _ => by have := unhide HJT; have := unhide HLT; omega, below_alloc (unhide B6) _⟩
            | false =>
              go_wp2_with fail
              refine (clash_ok rt' rt _ (unhide HRM') (unhide HRM)).mono ?_
              rintro e w9 ⟨cl, rfl, rfl⟩
              cases cl with
              | true =>
                go_wp2_with fail
                go_ret
                exact ⟨_, rfl, .inr ⟨_, rfl⟩, fun h1 _ => by have := unhide HJT; have := unhide HLT; omega, below_alloc (unhide B6) _⟩
              | false =>
                go_wp2_with fail
                go_roundg (gk - 1)
                case measure => have := unhide HJ; have := unhide HJT; omega
                case rel => exact ⟨j + 1, congrArg (Value.int .i64) (by have := unhide HL; have := unhide HJT; have := unhide HLT; (try unfold wrap64); omega), by have := unhide HJ; have := unhide HJT; show _ = _; omega, B7⟩
          · have d1 : ¬ (j : Int) < (i : Int) := by omega
            go_wp2_with fail
            go_roundg (gk1 - 1)
            case measure => have := unhide HI; have := unhide HLT; have := unhide HK1; omega
            case rel =>
              exact ⟨i + 1, congrArg (Value.int .i64) (by have := unhide HLT; have := unhide HL; (try unfold wrap64); omega), by have := unhide HI; have := unhide HLT; have := unhide HK1; show _ = _; omega, BW, X5⟩
    · have d1 : ¬ (i : Int) < (n : Int) := by omega
      go_wp2_with fail
      go_ret
      exact ⟨_, rfl, .inl rfl, fun _ _ => rfl, unhide HB⟩
end Go.Proofs.YtgoephcembgmcaaDoor.Cf
namespace Go.Proofs.YtgoephcembgmcaaDoor.Cf
open Go.RowKit Go.Maps Go.Proofs.YtgoephcembgmcaaDoorW.PrintWords Go.Proofs.YtgoephcembgmcaaDoorW.PrintLast Go.Proofs.YtgoephcembgmcaaDoor.Wk Go.Proofs.YtgoephcembgmcaaDoor.Fr Go.Proofs.YtgoephcembgmcaaDoor.Sh Go.Proofs.YtgoephcembgmcaaDoor.Sl
/-! What a line makes of the modules: a plain law. -/
def trimS (s : ByteArray) : ByteArray := ⟨(Lib.trimB s.data.toList 32).toArray⟩
def trimL (s : ByteArray) : ByteArray := ⟨(Lib.trimLeftB s.data.toList 32).toArray⟩
def trimR (s : ByteArray) : ByteArray := ⟨(Lib.trimRightB s.data.toList 32).toArray⟩
def sufB (s : ByteArray) : ByteArray × Bool := (⟨(Lib.trimSuffix s.data.toList [93]).toArray⟩, Lib.hasSuffix s.data.toList [93])
def hdOf (s : ByteArray) : Int := if h : 0 < s.size then (s[0].toNat : Int) else 0
def newM (nm : ByteArray) : Md := (nm, ⟨#[]⟩, false, 16, 262144, [])
def keyOf_ (line : ByteArray) : ByteArray := trimR (cutB (trimS line) 61).1
def valOf_ (line : ByteArray) : ByteArray := trimL (cutB (trimS line) 61).2.1
def inOf_ (line : ByteArray) : ByteArray × Bool := sufB ((trimS line).extract 1 (trimS line).size)
/-- The modules, and the keys that the last one has had, behind a line; nothing where the line is an error. -/
def lineF (pk : Bool) (ms : List Md) (f : ByteArray → Bool) (line : ByteArray) : Option (List Md × (ByteArray → Bool)) :=
  if (trimS line).toList.isEmpty = true then some (ms, f)
  else if (hdOf (trimS line) == 35) = true then some (ms, f)
  else if (hdOf (trimS line) == 91) = true then
    (if (inOf_ line).2 = false then none else if nameOK (inOf_ line).1 = false then none else if (found ms (inOf_ line).1).2 = true then none else if ms.length = 8 then none
     else some (ms ++ [newM (inOf_ line).1], fun _ => false))
  else if (cutB (trimS line) 61).2.2 = false then none
  else if ms.length = 0 then none
  else match setF pk (f (keyOf_ line)) (ms.getD (ms.length - 1) noM) (keyOf_ line) (valOf_ line) with
    | none => none
    | some m' => some (ms.set (ms.length - 1) m', with_ f (keyOf_ line))
theorem mk_size (l : List UInt8) : (⟨l.toArray⟩ : ByteArray).size = l.length := rfl
theorem trimS_size (s : ByteArray) : (trimS s).size ≤ s.size := by
  unfold trimS
  rw [mk_size, ← data_length]
  unfold Lib.trimB Lib.trimLeftB Lib.trimRightB
  have h1 := (List.dropWhile_sublist (l := (s.data.toList.reverse.dropWhile (· == 32)).reverse) (· == (32 : UInt8))).length_le
  have h2 := (List.dropWhile_sublist (l := s.data.toList.reverse) (· == (32 : UInt8))).length_le
  rw [List.length_reverse] at h1 h2
  omega
theorem trimL_size (s : ByteArray) : (trimL s).size ≤ s.size := by
  unfold trimL
  rw [mk_size, ← data_length]
  exact (List.dropWhile_sublist _).length_le
theorem trimR_size (s : ByteArray) : (trimR s).size ≤ s.size := by
  unfold trimR
  rw [mk_size, ← data_length]
  unfold Lib.trimRightB
  have h2 := (List.dropWhile_sublist (l := s.data.toList.reverse) (· == (32 : UInt8))).length_le
  rw [List.length_reverse] at h2 ⊢
  exact h2
theorem cut_len (l s : List UInt8) : (Lib.cut l s).1.length ≤ l.length ∧ (Lib.cut l s).2.1.length ≤ l.length := by
  unfold Lib.cut
  split
  · simp only [List.length_take, List.length_drop]
    omega
  · simp
theorem cutB_size (s : ByteArray) (c : UInt8) : (cutB s c).1.size ≤ s.size ∧ (cutB s c).2.1.size ≤ s.size := by
  unfold cutB
  simp only [mk_size]
  rw [← data_length]
  exact cut_len _ _
theorem key_size (line : ByteArray) : (keyOf_ line).size ≤ line.size := Nat.le_trans (trimR_size _) (Nat.le_trans (cutB_size _ _).1 (trimS_size _))
theorem val_size (line : ByteArray) : (valOf_ line).size ≤ line.size := Nat.le_trans (trimL_size _) (Nat.le_trans (cutB_size _ _).2 (trimS_size _))
theorem split_size (sep : ByteArray) : ∀ (k : Nat) (s p : ByteArray), p ∈ Lib.splitB sep 0 k s → p.size ≤ s.size
  | 0, s, p, h => by
    rw [Lib.splitB_zero] at h
    rw [List.mem_singleton.1 h]
    exact Nat.le_refl _
  | k + 1, s, p, h => by
    unfold Lib.splitB at h
    split at h
    · rw [List.mem_singleton.1 h]
      exact Nat.le_refl _
    · rcases List.mem_cons.1 h with h | h
      · rw [h, ByteArray.size_extract]
        omega
      · have := split_size sep k _ p h
        rw [ByteArray.size_extract] at this
        omega
theorem name_size {s : ByteArray} (h : nameOK s = true) : s.size ≤ 16 := by
  unfold nameOK at h
  simp only [Bool.and_eq_true, decide_eq_true_eq] at h
  exact h.1.2
theorem lineF_good {pk : Bool} {ms ms' : List Md} {f f' : ByteArray → Bool} {line : ByteArray} (h : lineF pk ms f line = some (ms', f')) (hl : line.size ≤ 8192) (hg : ∀ m ∈ ms, Good m) (h8 : ms.length ≤ 8) : (∀ m ∈ ms', Good m) ∧ ms'.length ≤ 8 := by
  unfold lineF at h
  split at h
  · cases h; exact ⟨hg, h8⟩
  · split at h
    · cases h; exact ⟨hg, h8⟩
    · split at h
      · split at h
        · cases h
        · split at h
          · cases h
          · rename_i hnm
            split at h
            · cases h
            · split at h
              · cases h
              · rename_i hne
                cases h
                refine ⟨?_, by rw [List.length_append, List.length_singleton]; omega⟩
                intro m hm
                rcases List.mem_append.1 hm with hm | hm
                · exact hg m hm
                · rw [List.mem_singleton.1 hm]
                  refine ⟨name_size (by show nameOK (inOf_ line).1 = true; simpa using hnm), Nat.zero_le _, Nat.zero_le _, ?_⟩
                  intro x hx
                  cases hx
      · split at h
        · cases h
        · split at h
          · cases h
          · rename_i hn0
            split at h
            · cases h
            · rename_i m' hs
              cases h
              rw [List.length_set]
              refine ⟨?_, h8⟩
              have hlt : ms.length - 1 < ms.length := by omega
              have hG : Good (ms.getD (ms.length - 1) noM) := by
                rw [List.getD_eq_getElem?_getD, List.getElem?_eq_getElem hlt]
                exact hg _ (List.getElem_mem _)
              have hm' := (setF_good hs hG (Nat.le_trans (val_size line) (by omega))).1
              intro m hm
              rcases List.mem_or_eq_of_mem_set hm with hm | hm
              · exact hg m hm
              · rw [hm]; exact hm'
/-! The fixed text. -/
def fixT : ByteArray := ⟨#[91, 109, 93, 10, 114, 111, 111, 116, 32, 61, 32, 114, 10, 115, 108, 111, 116, 115, 32, 61, 32, 49, 10, 117, 115, 101, 114, 32, 61, 32, 117, 58, 120]⟩
def fixL : List ByteArray := [⟨#[91, 109, 93]⟩, ⟨#[114, 111, 111, 116, 32, 61, 32, 114]⟩, ⟨#[115, 108, 111, 116, 115, 32, 61, 32, 49]⟩, ⟨#[117, 115, 101, 114, 32, 61, 32, 117, 58, 120]⟩]
theorem fix_lines : Lib.splitB ⟨#[10]⟩ 0 (Lib.countB fixT ⟨#[10]⟩) fixT = fixL := by kernel_rfl
def f1 : ByteArray → Bool := with_ (fun _ => false) ⟨#[114, 111, 111, 116]⟩
def f2 : ByteArray → Bool := with_ f1 ⟨#[115, 108, 111, 116, 115]⟩
def f3 : ByteArray → Bool := with_ f2 ⟨#[117, 115, 101, 114]⟩
def finM : Md := mFix ⟨#[114]⟩ 1 [(⟨#[117]⟩, ⟨#[120]⟩)]
/-- How it stands with the fixed text behind j lines. -/
def Fx (j : Nat) (ms : List Md) (f : ByteArray → Bool) : Prop :=
  match j with
  | 0 => ms = []
  | 1 => ms = [mFix ⟨#[]⟩ 16 []] ∧ f = fun _ => false
  | 2 => ms = [mFix ⟨#[114]⟩ 16 []] ∧ f = f1
  | 3 => ms = [mFix ⟨#[114]⟩ 1 []] ∧ f = f2
  | _ => ms = [finM]
theorem fx0 (pk : Bool) (f : ByteArray → Bool) : lineF pk [] f ⟨#[91, 109, 93]⟩ = some ([mFix ⟨#[]⟩ 16 []], fun _ => false) := by kernel_rfl
theorem fx1 : lineF true [mFix ⟨#[]⟩ 16 []] (fun _ => false) ⟨#[114, 111, 111, 116, 32, 61, 32, 114]⟩ = some ([mFix ⟨#[114]⟩ 16 []], f1) := by kernel_rfl
theorem fx1v : valOf_ ⟨#[114, 111, 111, 116, 32, 61, 32, 114]⟩ = ⟨#[114]⟩ := by kernel_rfl
theorem fx2 (pk : Bool) : lineF pk [mFix ⟨#[114]⟩ 16 []] f1 ⟨#[115, 108, 111, 116, 115, 32, 61, 32, 49]⟩ = some ([mFix ⟨#[114]⟩ 1 []], f2) := by kernel_rfl
theorem fx3 (pk : Bool) : lineF pk [mFix ⟨#[114]⟩ 1 []] f2 ⟨#[117, 115, 101, 114, 32, 61, 32, 117, 58, 120]⟩ = some ([finM], f3) := by kernel_rfl
theorem fx_step {pk : Bool} {j : Nat} {ms : List Md} {f : ByteArray → Bool} {line : ByteArray} (hF : Fx j ms f) (hl : fixL[j]? = some line) (hpk : valOf_ line = ⟨#[114]⟩ → pk = true) : ∃ ms' f', lineF pk ms f line = some (ms', f') ∧ Fx (j + 1) ms' f' := by
  rcases j with _ | _ | _ | _ | j
  · obtain rfl : ms = [] := hF
    obtain rfl := Option.some.inj hl
    exact ⟨_, _, fx0 pk f, rfl, rfl⟩
  · obtain ⟨rfl, rfl⟩ := hF
    obtain rfl := Option.some.inj hl
    rw [hpk fx1v]
    exact ⟨_, _, fx1, rfl, rfl⟩
  · obtain ⟨rfl, rfl⟩ := hF
    obtain rfl := Option.some.inj hl
    exact ⟨_, _, fx2 pk, rfl, rfl⟩
  · obtain ⟨rfl, rfl⟩ := hF
    obtain rfl := Option.some.inj hl
    exact ⟨_, _, fx3 pk, rfl⟩
  · simp [fixL] at hl
/-- What is so behind j lines of a text. -/
def Rel (text : ByteArray) (j : Nat) (ms : List Md) (f : ByteArray → Bool) : Prop := (∀ m ∈ ms, Good m) ∧ ms.length ≤ 8 ∧ (text = fixT → Fx j ms f)
theorem Rel.step {text line : ByteArray} {j : Nat} {ms ms' : List Md} {f f' : ByteArray → Bool} {pk : Bool} (h : Rel text j ms f) (hl : (Lib.splitB ⟨#[10]⟩ 0 (Lib.countB text ⟨#[10]⟩) text)[j]? = some line) (hs : line.size ≤ 8192) (hpk : valOf_ line = ⟨#[114]⟩ → pk = true) (hF : lineF pk ms f line = some (ms', f')) : Rel text (j + 1) ms' f' := by
  obtain ⟨h1, h2, h3⟩ := h
  obtain ⟨g1, g2⟩ := lineF_good hF hs h1 h2
  refine ⟨g1, g2, ?_⟩
  rintro rfl
  rw [fix_lines] at hl
  obtain ⟨ms2, f2, e, hx⟩ := fx_step (h3 rfl) hl hpk
  rw [e] at hF
  cases hF
  exact hx
theorem Rel.stop {text line : ByteArray} {j : Nat} {ms : List Md} {f : ByteArray → Bool} {pk : Bool} (h : Rel text j ms f) (hl : (Lib.splitB ⟨#[10]⟩ 0 (Lib.countB text ⟨#[10]⟩) text)[j]? = some line) (hpk : valOf_ line = ⟨#[114]⟩ → pk = true) (hF : lineF pk ms f line = none) : ¬ text = fixT := by
  rintro rfl
  rw [fix_lines] at hl
  obtain ⟨ms2, f2, e, hx⟩ := fx_step (h.2.2 rfl) hl hpk
  rw [e] at hF
  cases hF
end Go.Proofs.YtgoephcembgmcaaDoor.Cf
namespace Go.Proofs.YtgoephcembgmcaaDoor.Cf
open Go.RowKit Go.Maps Go.Proofs.YtgoephcembgmcaaDoorW.PrintWords Go.Proofs.YtgoephcembgmcaaDoorW.PrintLast Go.Proofs.YtgoephcembgmcaaDoor.Wk Go.Proofs.YtgoephcembgmcaaDoor.Fr Go.Proofs.YtgoephcembgmcaaDoor.Sh Go.Proofs.YtgoephcembgmcaaDoor.Sl
/-! Parse's memory: the result's box at r, the config's at q, the lines at l; the modules lie behind these. -/
structure Ps (w0 wr : World) (r q l : Nat) (ls : List ByteArray) (A : Option Addr) (n c : Nat) : Prop where
  er : r = w0.heap.size
  eq : q = r + 1
  el : l = r + 2
  hr : wr.heap[r]? = some (.cells #[.slice none 0 0] 60 (0, 0))
  hq : wr.heap[q]? = some (.cells #[.slice A n c] 60 (0, 0))
  hl : wr.heap[l]? = some (.cells (ls.map Value.string).toArray 9 (0, 0))
  B : Below w0.heap.size w0 wr
  G : Glob w0
section
variable {w0 wr w1 : World} {r q l : Nat} {ls : List ByteArray} {A : Option Addr} {n c : Nat}
theorem Ps.over (h : Ps w0 wr r q l ls A n c) (hb : Below (l + 1) wr w1) : Ps w0 w1 r q l ls A n c := by
  obtain ⟨e1, e2, e3, h1, h2, h3, h4, h5⟩ := h
  exact ⟨e1, e2, e3, (hb.block r (by omega)).trans h1, (hb.block q (by omega)).trans h2, (hb.block l (by omega)).trans h3, h4.trans (hb.mono (by omega)), h5⟩
theorem Ps.size (h : Ps w0 wr r q l ls A n c) : l + 1 ≤ wr.heap.size := blk_lt h.hl
theorem Ps.below (h : Ps w0 wr r q l ls A n c) (hb : Below wr.heap.size wr w1) : Ps w0 w1 r q l ls A n c := h.over (hb.mono h.size)
theorem Ps.put (h : Ps w0 wr r q l ls A n c) (A' : Option Addr) (n' c' : Nat) : Ps w0 (wr.setCell ⟨q, 0, none⟩ (.slice A' n' c')) r q l ls A' n' c' := by
  obtain ⟨e1, e2, e3, h1, h2, h3, h4, h5⟩ := h
  exact ⟨e1, e2, e3, blk_far h1 (by show r ≠ q; omega) _, blk_put h2 0 _ rfl, blk_far h3 (by show l ≠ q; omega) _, h4.setCell (by show w0.heap.size ≤ q; omega) _, h5⟩
theorem Ps.line (h : Ps w0 wr r q l ls A n c) {j : Nat} {s : ByteArray} (hs : ls[j]? = some s) : wr.cell? ⟨l, j, none⟩ = some (.string s) := by
  rw [blk_cell h.hl]
  simp [hs]
theorem Ps.cfg (h : Ps w0 wr r q l ls A n c) : wr.cell? ⟨q, 0, none⟩ = some (.slice A n c) ∧ wr.frozen? ⟨q, 0, none⟩ = false ∧ wr.cell? ⟨r, 0, none⟩ = some (.slice none 0 0) ∧ wr.frozen? ⟨r, 0, none⟩ = false :=
  ⟨(blk_cell h.hq 0).trans rfl, blk_frozen h.hq 0, (blk_cell h.hr 0).trans rfl, blk_frozen h.hr 0⟩
theorem Ps.glob (h : Ps w0 wr r q l ls A n c) : Glob wr := h.G.below h.B
/-- The modules. -/
def Mo (wr : World) (base : Nat) (A : Option Addr) (n c : Nat) (sb : Option Nat) (sn : Nat) (f : ByteArray → Bool) (ms : List Md) : Prop :=
  (ms = [] ∧ A = none ∧ n = 0 ∧ c = 0 ∧ sb = none) ∨
  (∃ g b i, A = some ⟨g, 0, none⟩ ∧ n = i + 1 ∧ sb = some b ∧ MR wr base g n c i ms ∧ Seen wr b sn f ∧ base ≤ b ∧ base ≤ g)
variable {base sn : Nat} {sb : Option Nat} {f : ByteArray → Bool} {ms : List Md}
theorem Mo.below (h : Mo wr base A n c sb sn f ms) (hb : Below wr.heap.size wr w1) : Mo w1 base A n c sb sn f ms := by
  rcases h with h | ⟨g, b, i, h1, h2, h3, h4, h5, h6⟩
  · exact .inl h
  · exact .inr ⟨g, b, i, h1, h2, h3, h4.below hb, h5.below hb, h6⟩
theorem Mo.more (h : Mo wr base A n c sb sn f ms) {m : Nat} (hm : sn ≤ m) : Mo wr base A n c sb m f ms := by
  rcases h with h | ⟨g, b, i, h1, h2, h3, h4, h5, h6⟩
  · exact .inl h
  · exact .inr ⟨g, b, i, h1, h2, h3, h4, h5.more hm, h6⟩
theorem Mo.len (h : Mo wr base A n c sb sn f ms) : n = ms.length := by
  rcases h with ⟨rfl, _, h, _⟩ | ⟨g, b, i, h1, h2, h3, h4, h5, h6⟩
  · exact h
  · exact h4.len
theorem Mo.reads (h : Mo wr base A n c sb sn f ms) : n ≤ c ∧ KM.C wr A n ms := by
  have hl := h.len
  rcases h with ⟨rfl, rfl, rfl, rfl, _⟩ | ⟨g, b, i, h1, h2, h3, h4, h5, h6⟩
  · exact ⟨Nat.le_refl _, Kd.C_nil KM _⟩
  · subst h1
    rw [hl]
    obtain ⟨a1, a2⟩ := h4.reads
    exact ⟨by omega, a2⟩
theorem MR.low {g i : Nat} (h : MR wr base g n c i ms) {p : Addr} (hp : p.block < base) (u : Value) : MR (wr.setCell p u) base g n c i ms :=
  h.move (fun k _ hk _ => Below.heap_setCell wr p u k (by omega))
theorem Mo.low (h : Mo wr base A n c sb sn f ms) {p : Addr} (hp : p.block < base) (u : Value) : Mo (wr.setCell p u) base A n c sb sn f ms := by
  rcases h with h | ⟨g, b, i, h1, h2, h3, h4, h5, h6, h7⟩
  · exact .inl h
  · exact .inr ⟨g, b, i, h1, h2, h3, h4.low hp u, h5.set u (by omega), h6, h7⟩
theorem Mo.move (h : Mo wr base A n c sb sn f ms) (hm : ∀ k, base ≤ k → k < wr.heap.size → w1.heap[k]? = wr.heap[k]?) : Mo w1 base A n c sb sn f ms := by
  rcases h with h | ⟨g, b, i, h1, h2, h3, h4, ⟨D, ⟨es, clock, h5, r⟩, hf⟩, h6, h7⟩
  · exact .inl h
  · exact .inr ⟨g, b, i, h1, h2, h3, h4.move (fun k hk hb _ => hm k hb hk), ⟨D, ⟨es, clock, (hm b h6 (Array.getElem?_eq_some_iff.1 h5).1).trans h5, r⟩, hf⟩, h6, h7⟩
/-- The row behind the modules, for an append. -/
theorem Mo.row (h : Mo wr base A n c sb sn f ms) : ∃ zs : List (Md × Sc), ms = zs.map Prod.fst ∧ KZ.R 65 wr base (fun _ => True) (.slice A n c) zs ∧ ∀ (j : Nat) (z : Md × Sc), zs[j]? = some z → KU.R 126 wr base (fun _ => True) (slv z.2) z.1.2.2.2.2.2 := by
  rcases h with ⟨rfl, rfl, rfl, rfl, _⟩ | ⟨g, b, i, h1, h2, h3, ⟨zs, e1, hR, hU⟩, h5, h6⟩
  · exact ⟨[], rfl, Kd.R_nil _ _ _ _ _, fun j z hz => by simp at hz⟩
  · subst h1
    exact ⟨zs, e1, hR, fun j z hz => Kd.R_mono (hU j z hz) (fun _ _ => trivial)⟩
theorem MR.snoc {zs : List (Md × Sc)} {v : Value} {g' n' c' : Nat} {nm : ByteArray} (hU : ∀ (j : Nat) (z : Md × Sc), zs[j]? = some z → KU.R 126 wr base (fun _ => True) (slv z.2) z.1.2.2.2.2.2) (hv : KZ.R 65 wr base (fun _ => True) v zs)
    (hR : KZ.R 65 w1 base (fun _ => True) (.slice (some ⟨g', 0, none⟩) n' c') (zs ++ [(newM nm, (none, 0, 0))])) (hg : wr.grownBy w1 v.ownBlock) : MR w1 base g' n' c' zs.length (zs.map Prod.fst ++ [newM nm]) := by
  refine ⟨zs ++ [(newM nm, (none, 0, 0))], by rw [List.map_append]; rfl, hR, fun j z hz => ?_⟩
  by_cases hj : j < zs.length
  · rw [List.getElem?_append_left hj] at hz
    have h1 := Kd.R_bound (hU j z hz)
    refine Kd.R_mono (Kd.R_grown h1 hg (fun k hk e => ?_)) (fun k hk => .inr (fun y hy => ?_))
    · obtain ⟨_, _, _, q, hq, cells, hc⟩ := hk
      obtain ⟨cells', hc'⟩ := Kd.R_typed hv k e.symm
      rw [hc] at hc'
      injection hc' with hc'
      injection hc' with _ hc'
      exact no65 q hq hc'
    · rw [List.getElem?_append_right (Nat.le_refl _), Nat.sub_self] at hy
      obtain rfl := Option.some.inj hy
      simp [slv, Value.ownBlock]
  · have hj' : j = zs.length := by
      have := (List.getElem?_eq_some_iff.1 hz).1
      rw [List.length_append, List.length_singleton] at this
      omega
    subst hj'
    rw [List.getElem?_append_right (Nat.le_refl _), Nat.sub_self] at hz
    obtain rfl := Option.some.inj hz
    exact Kd.R_nil KU 126 _ _ _
end
theorem size60 : (Tryd.prog.info? 60).map (·.size) = some (#[Value.slice none 0 0] : Array Value).size := by kernel_rfl
theorem info65 : (Tryd.prog.info? 65).map (fun i => (i.zero, i.size, i.bytes)) = some (some (.agg #[.string ⟨#[]⟩, .string ⟨#[]⟩, .bool false, .int .i64 0, .int .i64 0, .slice none 0 0]), 6, 80) := by kernel_rfl
end Go.Proofs.YtgoephcembgmcaaDoor.Cf
namespace Go.Proofs.YtgoephcembgmcaaDoor.Cf
open Go.RowKit Go.Maps Go.Proofs.YtgoephcembgmcaaDoorW.PrintWords Go.Proofs.YtgoephcembgmcaaDoorW.PrintLast Go.Proofs.YtgoephcembgmcaaDoor.Wk Go.Proofs.YtgoephcembgmcaaDoor.Fr Go.Proofs.YtgoephcembgmcaaDoor.Sh Go.Proofs.YtgoephcembgmcaaDoor.Sl
/-! conf.Parse. -/
def Parsed (w0 : World) (text : ByteArray) (e : Ending) (w' : World) : Prop :=
  ∃ (A : Option Addr) (n c : Nat) (ms : List Md) (v : Value), e = .returned (.tuple #[.agg #[.slice A n c], v]) ∧ IsErr v ∧ (v ≠ .nilIface → n = 0) ∧ n = ms.length ∧ n ≤ c ∧ (∀ w'' : World, (∀ k, w0.heap.size ≤ k → k < w'.heap.size → w''.heap[k]? = w'.heap[k]?) → KM.C w'' A n ms) ∧ n ≤ 8 ∧ (∀ m ∈ ms, Good m) ∧ (text = fixT → v = .nilIface ∧ ms = [finM]) ∧ Below w0.heap.size w0 w'
theorem parsed_err {w0 w' : World} {text : ByteArray} {g : Nat} (h : ¬ text = fixT) (hb : Below w0.heap.size w0 w') : Parsed w0 text (.returned (.tuple #[.agg #[.slice none 0 0], .iface 95 (.pointer (some ⟨g, 0, none⟩))])) w' :=
  ⟨none, 0, 0, [], _, rfl, .inr ⟨g, rfl⟩, fun _ => rfl, rfl, Nat.le_refl _, (fun _ _ => Kd.C_nil KM _), by decide, (fun m hm => by cases hm), fun e => absurd e h, hb⟩
theorem finM_root : finM.2.1.toList.isEmpty = false := by kernel_rfl
/-- What a line makes, from its parts. -/
def lineG (pk : Bool) (ms : List Md) (f : ByteArray → Bool) (tr k v : ByteArray) (pr : Bool) (inn : ByteArray) (sf : Bool) : Option (List Md × (ByteArray → Bool)) :=
  if tr.toList.isEmpty = true then some (ms, f)
  else if (hdOf tr == 35) = true then some (ms, f)
  else if (hdOf tr == 91) = true then
    (if sf = false then none else if nameOK inn = false then none else if (found ms inn).2 = true then none else if ms.length = 8 then none
     else some (ms ++ [newM inn], fun _ => false))
  else if pr = false then none
  else if ms.length = 0 then none
  else match setF pk (f (trimR k)) (ms.getD (ms.length - 1) noM) (trimR k) (trimL v) with
    | none => none
    | some m' => some (ms.set (ms.length - 1) m', with_ f (trimR k))
theorem lineG_eq (pk : Bool) (ms : List Md) (f : ByteArray → Bool) (line : ByteArray) : lineF pk ms f line = lineG pk ms f (trimS line) (cutB (trimS line) 61).1 (cutB (trimS line) 61).2.1 (cutB (trimS line) 61).2.2 (sufB ((trimS line).extract 1 (trimS line).size)).1 (sufB ((trimS line).extract 1 (trimS line).size)).2 := rfl
theorem suf_ok (s : ByteArray) (w : World) (hs : s.size ≤ 100000) : Calls Tryd.prog 45 #[.string s, .string ⟨#[93]⟩] w fun e w' => e = .returned (.tuple #[.string (sufB s).1, .bool (sufB s).2]) ∧ w' = w := Tryd.strings_CutSuffix s ⟨#[93]⟩ w (by omega)
theorem trim_ok (s : ByteArray) (w : World) (hs : s.size ≤ 100000) : Calls Tryd.prog 43 #[.string s, .string ⟨#[32]⟩] w fun e w' => e = .returned (.string (trimS s)) ∧ Below w.heap.size w w' := by
  refine (Tryd.strings_Trim_one s 32 (by decide) w (by omega)).mono ?_
  rintro e w' ⟨rfl, rfl | rfl⟩
  · exact ⟨rfl, Below.refl _ _⟩
  · exact ⟨rfl, (Below.refl _ _).drew⟩
set_option maxHeartbeats 4000000 in
set_option maxRecDepth 100000 in
theorem parse_ok (text : ByteArray) (w : World) (hG : Glob w) (ht : text.size ≤ 8192) :
    Calls Tryd.prog 12 #[.string text] w (Parsed w text) := by
  have HT := hide ht
  have d0 : ¬ (8192 : Int) < (text.size : Int) := by omega
  obtain ⟨r, hr⟩ : ∃ z, z = w.heap.size := ⟨_, rfl⟩
  obtain ⟨q, hq⟩ : ∃ z, z = r + 1 := ⟨_, rfl⟩
  obtain ⟨w1, hw1⟩ : ∃ z, z = (w.alloc (.cells #[.slice none 0 0] 60)).alloc (.cells #[.slice none 0 0] 60) := ⟨_, rfl⟩
  have B1 : Below w.heap.size w w1 := by rw [hw1]; exact below_alloc (below_alloc (Below.refl _ _) _) _
  obtain ⟨l, hl⟩ : ∃ z, z = w1.heap.size := ⟨_, rfl⟩
  have S1 : l = r + 2 := by rw [hl, hw1, World.size_alloc, World.size_alloc, hr]
  have R1 : w1.heap[r]? = some (.cells #[.slice none 0 0] 60 (0, 0)) := by rw [hw1, hr]; exact blk_alloc (blk_new _ _) _
  have Q1 : w1.heap[q]? = some (.cells #[.slice none 0 0] 60 (0, 0)) := by
    have h := blk_new (w.alloc (.cells #[.slice none 0 0] 60)) (.cells #[.slice none 0 0] 60)
    rw [World.size_alloc] at h
    rw [hw1, hq, hr]
    exact h
  obtain ⟨mx, hmx⟩ := (hG.below B1).max
  have hsp := Tryd.strings_Split text ⟨#[10]⟩ mx w1 (by omega) hmx (by decide)
  obtain ⟨ls, hls⟩ : ∃ z, z = Lib.splitB ⟨#[10]⟩ 0 (Lib.countB text ⟨#[10]⟩) text := ⟨_, rfl⟩
  have hlen : (Lib.splitB ⟨#[10]⟩ 0 (Lib.countB text ⟨#[10]⟩) text).length = Lib.countB text ⟨#[10]⟩ + 1 := Lib.splitB_all ⟨#[10]⟩ (by decide) 0 _ text rfl
  have hcnt := Lib.countB_le ⟨#[10]⟩ (by decide) text.size text (Nat.le_refl _)
  have hsz : ∀ s ∈ ls, s.size ≤ text.size := by rw [hls]; exact fun s hs => split_size _ _ _ s hs
  obtain ⟨L, hL⟩ : ∃ z, z = Lib.countB text ⟨#[10]⟩ + 1 := ⟨_, rfl⟩
  rw [← hls, ← hL] at hlen
  rw [← hls, ← hL, ← hl] at hsp
  have HLB : Hid (L ≤ 8193) := by show _ ≤ _; omega
  have HSZ := hide hsz
  have HLEN := hide hlen
  have HLS := hide hls
  have PS : Hid (Ps w (w1.alloc (.cells (ls.map Value.string).toArray 9)) r q l ls none 0 0) := by
    refine ⟨hr, hq, S1, blk_alloc R1 _, blk_alloc Q1 _, ?_, below_alloc B1 _, hG⟩
    rw [hl]
    exact blk_new _ _
  clear hG ht B1 S1 R1 Q1 hmx hlen hcnt hsz hL hls
  go_enter Tryd.func12, Tryd.ntmps12
  go_wp2_with fail
  rw [← hw1, ← hr, ← hq]
  clear hw1 hr hq hl
  refine hsp.mono ?_
  rintro e w2 ⟨rfl, rfl⟩
  clear hsp
  go_wp2_with fail
  go_loopg [5, 30] L (fun kq v5 v30 wr => ∃ (j : Nat) (A : Option Addr) (n c : Nat) (sb : Option Nat) (sn : Nat) (f : ByteArray → Bool) (ms : List Md), v30 = .int .i64 (j : Int) ∧ v5 = .map sb ∧ Hid (j + kq = L) ∧ Hid (Ps w wr r q l ls A n c) ∧ Hid (Mo wr (l + 1) A n c sb sn f ms) ∧ Hid (sn ≤ j) ∧ Hid (Rel text j ms f))
  case atStart => exact ⟨0, none, 0, 0, none, 0, fun _ => false, [], rfl, rfl, Nat.zero_add _, PS, .inl ⟨rfl, rfl, rfl, rfl, rfl⟩, Nat.le_refl _, (fun m hm => by cases hm), by decide, fun _ => rfl⟩
  case round =>
    obtain ⟨j, A, n, c, sb, sn, f, ms, rfl, rfl, HI, HP, HM, HSN, HREL⟩ := hrel
    clear PS
    by_cases hlt : j < L
    · have d1 : (j : Int) < (L : Int) := by omega
      have hj : j < ls.length := by rw [unhide HLEN]; exact hlt
      obtain ⟨line, hline⟩ : ∃ s, ls[j]? = some s := ⟨_, List.getElem?_eq_getElem hj⟩
      have kl := (unhide HP).line hline
      have hsl : line.size ≤ 8192 := Nat.le_trans (unhide HSZ line (List.mem_of_getElem? hline)) (unhide HT)
      have HLINE : Hid ((Lib.splitB ⟨#[10]⟩ 0 (Lib.countB text ⟨#[10]⟩) text)[j]? = some line) := by show _ = _; rw [← unhide HLS]; exact hline
      have htrim := trim_ok line wr (by omega)
      obtain ⟨tr, htr⟩ : ∃ z, z = trimS line := ⟨_, rfl⟩
      have hts : tr.size ≤ 8192 := by rw [htr]; exact Nat.le_trans (trimS_size line) hsl
      have hlf : ∀ pk, lineF pk ms f line = lineG pk ms f tr (cutB tr 61).1 (cutB tr 61).2.1 (cutB tr 61).2.2 (sufB (tr.extract 1 tr.size)).1 (sufB (tr.extract 1 tr.size)).2 := by rw [htr]; exact fun pk => lineG_eq pk ms f line
      have hvl : valOf_ line = trimL (cutB tr 61).2.1 := by rw [htr]; rfl
      have hks := cutB_size tr 61
      rw [← htr] at htrim
      have HLT := hide hlt
      have HSL := hide hsl
      have HTS := hide hts
      clear htr hlt hj hline hsl hts
      go_wp2_with fail
      refine htrim.mono ?_
      rintro e w3 ⟨rfl, hb⟩
      have HP3 := hide ((unhide HP).below hb)
      have HM3 := hide ((unhide HM).below hb)
      clear htrim hb HP HM kl
      have hcut := cut_ok tr 61 w3 (unhide HP3).glob (by have := unhide HTS; omega)
      obtain ⟨z, hz⟩ : ∃ z, z = cutB tr 61 := ⟨_, rfl⟩
      rw [← hz] at hcut hlf hvl hks
      obtain ⟨k, v, pr⟩ := z
      have HLF0 := hide hlf
      have HVL := hide hvl
      have HKS := hide hks
      clear hz hlf hvl hks
      go_wp2_with fail
      refine hcut.mono ?_
      rintro e w4 ⟨rfl, hb⟩
      have HP4 := hide ((unhide HP3).below hb)
      have HM4 := hide ((unhide HM3).below hb)
      clear hcut hb HP3 HM3
      cases he : tr.toList.isEmpty with
      | true =>
        have HE := hide he
        go_wp2_with fail
        go_roundg (gk - 1)
        case measure => have := unhide HI; have := unhide HLT; omega
        case rel =>
          refine ⟨j + 1, A, n, c, sb, sn, f, ms, congrArg (Value.int .i64) (by have := unhide HLT; have := unhide HLB; (try unfold wrap64); omega), rfl, (by have := unhide HI; have := unhide HLT; show _ = _; omega), HP4, HM4, (by have := unhide HSN; show _ ≤ _; omega), (unhide HREL).step (pk := true) (unhide HLINE) (unhide HSL) (fun _ => rfl) ?_⟩
          rw [unhide HLF0]
          unfold lineG
          rw [if_pos (unhide HE)]
      | false =>
        have hpos : 0 < tr.size := Nat.pos_of_ne_zero (size_of tr he)
        have hhd : hdOf tr = (tr[0].toNat : Int) := by unfold hdOf; rw [dif_pos hpos]
        have HE := hide he
        have HHD := hide hhd
        clear hhd
        cases h35 : ((tr[0].toNat : Int) == 35) with
        | true =>
          have H35 := hide h35
          go_wp2_with fail
          go_roundg (gk - 1)
          case measure => have := unhide HI; have := unhide HLT; omega
          case rel =>
            refine ⟨j + 1, A, n, c, sb, sn, f, ms, congrArg (Value.int .i64) (by have := unhide HLT; have := unhide HLB; (try unfold wrap64); omega), rfl, (by have := unhide HI; have := unhide HLT; show _ = _; omega), HP4, HM4, (by have := unhide HSN; show _ ≤ _; omega), (unhide HREL).step (pk := true) (unhide HLINE) (unhide HSL) (fun _ => rfl) ?_⟩
            rw [unhide HLF0]
            unfold lineG
            rw [if_neg (by rw [unhide HE]; decide), if_pos (by rw [unhide HHD]; exact unhide H35)]
        | false =>
          have H35 := hide h35
          cases h91 : ((tr[0].toNat : Int) == 91) with
          | true =>
            have H91 := hide h91
            go_wp2_with fail
            refine (suf_ok (tr.extract 1 tr.size) w4 (by rw [ByteArray.size_extract]; have := unhide HTS; omega)).mono ?_
            have hlf := unhide HLF0
            rintro e w5 ⟨rfl, rfl⟩
            obtain ⟨si, hsi⟩ : ∃ z, z = sufB (tr.extract 1 tr.size) := ⟨_, rfl⟩
            rw [← hsi] at hlf ⊢
            obtain ⟨inn, sf⟩ := si
            have hn := (unhide HM4).len
            have h8 := (unhide HREL).2.1
            have hfind := find_ok inn A c ms w5 (by rw [← hn]; exact (unhide HM4).reads.2) (by omega)
            rw [← hn] at hfind h8
            obtain ⟨fo, hfo⟩ : ∃ z, z = found ms inn := ⟨_, rfl⟩
            rw [← hfo] at hfind
            obtain ⟨⟨nm, rt, b, sl, qq, us⟩, fb⟩ := fo
            have HLF := hide hlf
            have HN := hide hn
            have H8 := hide h8
            have HFO := hide hfo
            obtain ⟨x1, x2, x3, x4⟩ := (unhide HP4).cfg
            clear hsi hlf hn h8 hfo HLF0 h35 h91
            go_wp2_with fail
            refine hfind.mono ?_
            rintro e w6 ⟨A1, c1, rfl, hb⟩
            replace hb := hb.2.2
            obtain ⟨N, hN⟩ : ∃ z, z = us.length := ⟨_, rfl⟩
            simp only [mv, ← hN]
            have PX : Hid (Ps w (w6.alloc (.cells #[.string nm, .string rt, .bool b, .int .i64 sl, .int .i64 qq, .slice A1 N c1] 65)) r q l ls A n c) := (((unhide HP4).below hb).below (below_alloc (Below.refl _ _) _))
            have MX : Hid (Mo (w6.alloc (.cells #[.string nm, .string rt, .bool b, .int .i64 sl, .int .i64 qq, .slice A1 N c1] 65)) (l + 1) A n c sb sn f ms) := (((unhide HM4).below hb).below (below_alloc (Below.refl _ _) _))
            clear hfind hb hN x1 x2 x3 x4 HP4 HM4
            cases sf with
            | false =>
              obtain ⟨x1, x2, x3, x4⟩ := (unhide PX).cfg
              obtain ⟨y1, y2, y3, y4⟩ := ((unhide PX).below (below_alloc (Below.refl _ _) (.cells #[.int .i64 (j : Int), .int .i64 130] 98))).cfg
              go_wp2_with fail
              refine bodyPost_ret (v := .tuple #[.agg #[.slice none 0 0], .iface 95 (.pointer (some ⟨_, 0, none⟩))]) (results_cell_and rfl _ _ r 60 #[.slice none 0 0] (0, 0) _ _ rfl rfl ?_ Tryd.underlying60 rfl size60) rfl (parsed_err ((unhide HREL).stop (pk := true) (unhide HLINE) (fun _ => rfl) ?_) ?_)
              · first | exact blk_alloc (blk_put (unhide PX).hr 0 _ rfl) _ | exact blk_put (blk_alloc (unhide PX).hr _) 0 _ rfl
              · rw [unhide HLF]
                unfold lineG
                rw [if_neg (by rw [unhide HE]; decide), if_neg (by rw [unhide HHD, unhide H35]; decide), if_pos (by rw [unhide HHD]; exact unhide H91), if_pos rfl]
              · first | exact below_alloc ((unhide PX).B.setCell (Nat.le_of_eq (unhide PX).er.symm) _) _ | exact (below_alloc (unhide PX).B _).setCell (Nat.le_of_eq (unhide PX).er.symm) _
            | true =>
              go_wp2_with fail
              refine (name_ok inn _).mono ?_
              rintro e w7 ⟨rfl, hb⟩
              have P7 := hide ((unhide PX).below hb)
              have M7 := hide ((unhide MX).below hb)
              clear hb PX MX
              cases hnm : nameOK inn with
              | false =>
                have HNM := hide hnm
                obtain ⟨x1, x2, x3, x4⟩ := (unhide P7).cfg
                obtain ⟨y1, y2, y3, y4⟩ := ((unhide P7).below (below_alloc (Below.refl _ _) (.cells #[.int .i64 (j : Int), .int .i64 131] 98))).cfg
                go_wp2_with fail
                refine bodyPost_ret (v := .tuple #[.agg #[.slice none 0 0], .iface 95 (.pointer (some ⟨_, 0, none⟩))]) (results_cell_and rfl _ _ r 60 #[.slice none 0 0] (0, 0) _ _ rfl rfl ?_ Tryd.underlying60 rfl size60) rfl (parsed_err ((unhide HREL).stop (pk := true) (unhide HLINE) (fun _ => rfl) ?_) ?_)
                · first | exact blk_alloc (blk_put (unhide P7).hr 0 _ rfl) _ | exact blk_put (blk_alloc (unhide P7).hr _) 0 _ rfl
                · rw [unhide HLF]
                  unfold lineG
                  rw [if_neg (by rw [unhide HE]; decide), if_neg (by rw [unhide HHD, unhide H35]; decide), if_pos (by rw [unhide HHD]; exact unhide H91), if_neg (by decide), if_pos (unhide HNM)]
                · first | exact below_alloc ((unhide P7).B.setCell (Nat.le_of_eq (unhide P7).er.symm) _) _ | exact (below_alloc (unhide P7).B _).setCell (Nat.le_of_eq (unhide P7).er.symm) _
              | true =>
                have HNM := hide hnm
                cases fb with
                | true =>
                  obtain ⟨x1, x2, x3, x4⟩ := (unhide P7).cfg
                  obtain ⟨y1, y2, y3, y4⟩ := ((unhide P7).below (below_alloc (Below.refl _ _) (.cells #[.int .i64 (j : Int), .int .i64 5] 98))).cfg
                  go_wp2_with fail
                  refine bodyPost_ret (v := .tuple #[.agg #[.slice none 0 0], .iface 95 (.pointer (some ⟨_, 0, none⟩))]) (results_cell_and rfl _ _ r 60 #[.slice none 0 0] (0, 0) _ _ rfl rfl ?_ Tryd.underlying60 rfl size60) rfl (parsed_err ((unhide HREL).stop (pk := true) (unhide HLINE) (fun _ => rfl) ?_) ?_)
                  · first | exact blk_alloc (blk_put (unhide P7).hr 0 _ rfl) _ | exact blk_put (blk_alloc (unhide P7).hr _) 0 _ rfl
                  · rw [unhide HLF]
                    unfold lineG
                    rw [if_neg (by rw [unhide HE]; decide), if_neg (by rw [unhide HHD, unhide H35]; decide), if_pos (by rw [unhide HHD]; exact unhide H91), if_neg (by decide), if_neg (by rw [unhide HNM]; decide), if_pos (by rw [← unhide HFO])]
                  · first | exact below_alloc ((unhide P7).B.setCell (Nat.le_of_eq (unhide P7).er.symm) _) _ | exact (below_alloc (unhide P7).B _).setCell (Nat.le_of_eq (unhide P7).er.symm) _
                | false =>
                  by_cases hn8 : n = 8
                  · have d8 : ((n : Int) == 8) = true := by subst hn8; rfl
                    have HN8 := hide hn8
                    clear hn8
                    obtain ⟨x1, x2, x3, x4⟩ := (unhide P7).cfg
                    obtain ⟨y1, y2, y3, y4⟩ := ((unhide P7).below (below_alloc (Below.refl _ _) (.cells #[.int .i64 (j : Int), .int .i64 3] 98))).cfg
                    go_wp2_with fail
                    refine bodyPost_ret (v := .tuple #[.agg #[.slice none 0 0], .iface 95 (.pointer (some ⟨_, 0, none⟩))]) (results_cell_and rfl _ _ r 60 #[.slice none 0 0] (0, 0) _ _ rfl rfl ?_ Tryd.underlying60 rfl size60) rfl (parsed_err ((unhide HREL).stop (pk := true) (unhide HLINE) (fun _ => rfl) ?_) ?_)
                    · first | exact blk_alloc (blk_put (unhide P7).hr 0 _ rfl) _ | exact blk_put (blk_alloc (unhide P7).hr _) 0 _ rfl
                    · rw [unhide HLF]
                      unfold lineG
                      rw [if_neg (by rw [unhide HE]; decide), if_neg (by rw [unhide HHD, unhide H35]; decide), if_pos (by rw [unhide HHD]; exact unhide H91), if_neg (by decide), if_neg (by rw [unhide HNM]; decide), if_neg (by rw [← unhide HFO]; simp), if_pos (by rw [← unhide HN]; exact unhide HN8)]
                    · first | exact below_alloc ((unhide P7).B.setCell (Nat.le_of_eq (unhide P7).er.symm) _) _ | exact (below_alloc (unhide P7).B _).setCell (Nat.le_of_eq (unhide P7).er.symm) _
                  · have d8 : ((n : Int) == 8) = false := by simpa using (by omega : ¬ (n : Int) = 8)
                    have HN8 := hide hn8
                    clear hn8
                    obtain ⟨zs, hzs, hzR, hzU⟩ := (unhide M7).row
                    have hzl : zs.length = n := by rw [unhide HN, hzs, List.length_map]
                    obtain ⟨x1, x2, x3, x4⟩ := (unhide P7).cfg
                    have HZS := hide hzs
                    have HZR := hide hzR
                    have HZU := hide hzU
                    have HZL := hide hzl
                    clear hzs hzR hzU hzl
                    go_wp2_with (at_builtin; refine Kd.R_append KZ (w0 := w7) (l + 1) rfl (.tmp 80) (.tmp 83) 58 65 (.agg #[.string ⟨#[]⟩, .string ⟨#[]⟩, .bool false, .int .i64 0, .int .i64 0, .slice none 0 0]) 80 rfl Tryd.underlying58 info65 rfl (by decide) (by decide) (.slice A n c) zs (newM inn, (none, 0, 0)) [.string inn, .string ⟨#[]⟩, .bool false, .int .i64 16, .int .i64 262144, .slice none 0 0] (fun _ => True) (fun _ => False) rfl rfl KZ_mk (fun _ h => h.elim) (fun _ _ => trivial) (unhide HZR) (Below.refl _ _) (unhide P7).size (by have := unhide HZL; have := unhide H8; omega) ?_)
                    intro v8 w8 hR8 hb8 hg8 hat8
                    obtain ⟨g8, c8, hv8, hbg, _, _⟩ := Kd.R_form hR8 (by simp)
                    obtain ⟨n8, hn8⟩ : ∃ z, z = (zs ++ [(newM inn, ((none, 0, 0) : Sc))]).length := ⟨_, rfl⟩
                    rw [← hn8] at hv8
                    have hn9 : n8 = zs.length + 1 := by rw [hn8, List.length_append]; rfl
                    subst hv8
                    have hMR := MR.snoc (nm := inn) (unhide HZU) (unhide HZR) hR8 hg8
                    rw [← unhide HZS] at hMR
                    have P8 := hide ((unhide P7).over hb8)
                    have HMR := hide hMR
                    have HN9 := hide hn9
                    have HBG := hide hbg
                    have HCN := hide (Kd.R_reads' hR8).2.1
                    clear x1 x2 x3 x4 hR8 hb8 hg8 hat8 hn8 hn9 hbg hMR
                    obtain ⟨x1, x2, x3, x4⟩ := (unhide P8).cfg
                    have hmm := @run_makeMap Tryd.prog
                    go_wp2_with fail
                    go_roundg (gk - 1)
                    case measure => have := unhide HI; have := unhide HLT; omega
                    case rel =>
                      refine ⟨j + 1, some ⟨g8, 0, none⟩, n8, c8, some w8.heap.size, 0, fun _ => false, ms ++ [newM inn], congrArg (Value.int .i64) (by have := unhide HLT; have := unhide HLB; (try unfold wrap64); omega), rfl, (by have := unhide HI; have := unhide HLT; show _ = _; omega), ((unhide P8).put _ _ _).below (below_alloc (Below.refl _ _) _), ?_, Nat.zero_le _, (unhide HREL).step (pk := true) (unhide HLINE) (unhide HSL) (fun _ => rfl) ?_⟩
                      · have hsz : (w8.setCell ⟨q, 0, none⟩ (.slice (some ⟨g8, 0, none⟩) n8 c8)).heap.size = w8.heap.size := by simp [World.setCell]
                        have hmk := Seen.made (w8.setCell ⟨q, 0, none⟩ (.slice (some ⟨g8, 0, none⟩) n8 c8))
                        rw [hsz] at hmk
                        exact .inr ⟨g8, w8.heap.size, zs.length, rfl, unhide HN9, rfl, ((unhide HMR).low (by show q < l + 1; have := (unhide P8).eq; have := (unhide P8).el; omega) _).below (below_alloc (Below.refl _ _) _), hmk, (unhide P8).size, unhide HBG⟩
                      · rw [unhide HLF]
                        unfold lineG
                        rw [if_neg (by rw [unhide HE]; decide), if_neg (by rw [unhide HHD, unhide H35]; decide), if_pos (by rw [unhide HHD]; exact unhide H91), if_neg (by decide), if_neg (by rw [unhide HNM]; decide), if_neg (by rw [← unhide HFO]; simp), if_neg (by rw [← unhide HN]; exact unhide HN8)]
          | false =>
            have H91 := hide h91
            have HLF : Hid (∀ pk, lineF pk ms f line = lineG pk ms f tr k v pr (sufB (tr.extract 1 tr.size)).1 (sufB (tr.extract 1 tr.size)).2) := unhide HLF0
            clear HLF0
            cases pr with
            | false =>
              obtain ⟨x1, x2, x3, x4⟩ := (unhide HP4).cfg
              obtain ⟨x1, x2, x3, x4⟩ := (unhide HP4).cfg
              obtain ⟨y1, y2, y3, y4⟩ := ((unhide HP4).below (below_alloc (Below.refl _ _) (.cells #[.int .i64 (j : Int), .int .i64 130] 98))).cfg
              go_wp2_with fail
              refine bodyPost_ret (v := .tuple #[.agg #[.slice none 0 0], .iface 95 (.pointer (some ⟨_, 0, none⟩))]) (results_cell_and rfl _ _ r 60 #[.slice none 0 0] (0, 0) _ _ rfl rfl ?_ Tryd.underlying60 rfl size60) rfl (parsed_err ((unhide HREL).stop (pk := true) (unhide HLINE) (fun _ => rfl) ?_) ?_)
              · first | exact blk_alloc (blk_put (unhide HP4).hr 0 _ rfl) _ | exact blk_put (blk_alloc (unhide HP4).hr _) 0 _ rfl
              · rw [unhide HLF]
                unfold lineG
                rw [if_neg (by rw [unhide HE]; decide), if_neg (by rw [unhide HHD, unhide H35]; decide), if_neg (by rw [unhide HHD, unhide H91]; decide), if_pos rfl]
              · first | exact below_alloc ((unhide HP4).B.setCell (Nat.le_of_eq (unhide HP4).er.symm) _) _ | exact (below_alloc (unhide HP4).B _).setCell (Nat.le_of_eq (unhide HP4).er.symm) _
            | true =>
              by_cases hn0 : n = 0
              · have d8 : ((n : Int) == 0) = true := by subst hn0; rfl
                have HN0 := hide hn0
                have HN := hide (unhide HM4).len
                clear hn0
                obtain ⟨x1, x2, x3, x4⟩ := (unhide HP4).cfg
                obtain ⟨y1, y2, y3, y4⟩ := ((unhide HP4).below (below_alloc (Below.refl _ _) (.cells #[.int .i64 (j : Int), .int .i64 130] 98))).cfg
                go_wp2_with fail
                refine bodyPost_ret (v := .tuple #[.agg #[.slice none 0 0], .iface 95 (.pointer (some ⟨_, 0, none⟩))]) (results_cell_and rfl _ _ r 60 #[.slice none 0 0] (0, 0) _ _ rfl rfl ?_ Tryd.underlying60 rfl size60) rfl (parsed_err ((unhide HREL).stop (pk := true) (unhide HLINE) (fun _ => rfl) ?_) ?_)
                · first | exact blk_alloc (blk_put (unhide HP4).hr 0 _ rfl) _ | exact blk_put (blk_alloc (unhide HP4).hr _) 0 _ rfl
                · rw [unhide HLF]
                  unfold lineG
                  rw [if_neg (by rw [unhide HE]; decide), if_neg (by rw [unhide HHD, unhide H35]; decide), if_neg (by rw [unhide HHD, unhide H91]; decide), if_neg (by decide), if_pos (by rw [← unhide HN]; exact unhide HN0)]
                · first | exact below_alloc ((unhide HP4).B.setCell (Nat.le_of_eq (unhide HP4).er.symm) _) _ | exact (below_alloc (unhide HP4).B _).setCell (Nat.le_of_eq (unhide HP4).er.symm) _
              · have d8 : ((n : Int) == 0) = false := by simpa using (by omega : ¬ (n : Int) = 0)
                obtain ⟨g, b, i, hA, hni, hsb, hMR, hSe, hbb, hbg⟩ := (unhide HM4).resolve_left (fun h => hn0 h.2.2.1)
                subst hA
                subst hsb
                have hnl := (unhide HM4).len
                have hil : i < ms.length := by omega
                obtain ⟨⟨nm, rt, bw, sl, qq, us⟩, hmi⟩ : ∃ m, ms[i]? = some m := ⟨_, List.getElem?_eq_getElem hil⟩
                have hgood := (unhide HREL).1 _ (List.mem_of_getElem? hmi)
                have I4 : In w w4 (l + 1) g n c b sn i f ms (nm, rt, bw, sl, qq, us) := ⟨hMR, hmi, hSe, (unhide HP4).G, (unhide HP4).B, by have := (unhide HP4).er; have := (unhide HP4).el; omega, hbb, (unhide HP4).size, hbg⟩
                have hks := unhide HKS
                have hset := set_ok I4 (by have := unhide HSN; have := unhide HLT; have := unhide HLB; omega) hgood.2.2.1 (trimR k) (trimL v) (Nat.le_trans (trimR_size k) (by have := unhide HTS; omega)) (Nat.le_trans (trimL_size v) (by have := unhide HTS; omega))
                have hlast : ms.getD (ms.length - 1) noM = (nm, rt, bw, sl, qq, us) := by rw [show ms.length - 1 = i by omega, List.getD_eq_getElem?_getD, hmi, Option.getD_some]
                obtain ⟨rr, hrr⟩ : ∃ z, z = (fun pk => setF pk (f (trimR k)) (nm, rt, bw, sl, qq, us) (trimR k) (trimL v)) := ⟨_, rfl⟩
                have hln : n ≤ 8 := by have := (unhide HREL).2.1; omega
                have dw : wrap64 ((n : Int) - 1) = (i : Int) := by unfold wrap64; omega
                have di : (i : Int) < (n : Int) := by omega
                have HRR : Hid (∀ pk, setF pk (f (trimR k)) (ms.getD (ms.length - 1) noM) (trimR k) (trimL v) = rr pk) := by
                  intro pk
                  rw [hlast, hrr]
                have HSET := hide hset
                have hset2 : Calls Tryd.prog 47 #[.pointer (some ⟨g, i * 6, none⟩), .string (trimR k), .string (trimL v), .map (some b)] w4 fun e w' => ∃ pk : Bool, (trimL v = ⟨#[114]⟩ → pk = true) ∧ Out w4 (l + 1) g n c b sn i f ms (trimR k) (rr pk) e w' := by rw [hrr]; exact hset
                have HNI := hide hni
                have HNL := hide hnl
                have HBB := hide hbb
                have HBG := hide hbg
                have HN0 := hide hn0
                obtain ⟨x1, x2, x3, x4⟩ := (unhide HP4).cfg
                clear hMR hSe hnl hil hmi hgood I4 hks hset hlast hrr hln hbb hbg hn0 hni HSET
                go_wp2_with fail
                refine (Tryd.strings_TrimRight_one k 32 (by decide) _ (by have := unhide HKS; have := unhide HTS; omega)).mono ?_
                rintro e w5 ⟨rfl, rfl⟩
                go_wp2_with fail
                refine (Tryd.strings_TrimLeft_one v 32 (by decide) _).mono ?_
                rintro e w6 ⟨rfl, rfl⟩
                go_wp2_with fail
                refine hset2.mono ?_
                rintro e w7 ⟨pk, hpk, hB7, hO⟩
                have P7 := hide ((unhide HP4).over hB7)
                have HPK : Hid (valOf_ line = ⟨#[114]⟩ → pk = true) := by show _ → _; rw [unhide HVL]; exact hpk
                clear hset2 hpk dw di d8 x1 x2 x3 x4
                cases hr7 : rr pk with
                | none =>
                  rw [hr7] at hO
                  obtain ⟨ec, rfl, hec⟩ := hO
                  have HR7 := hide hr7
                  have dec : (ec == 0) = false := by simpa using hec
                  clear hr7 hec
                  obtain ⟨x1, x2, x3, x4⟩ := (unhide P7).cfg
                  obtain ⟨y1, y2, y3, y4⟩ := ((unhide P7).below (below_alloc (Below.refl _ _) (.cells #[.int .i64 (j : Int), .int .i64 ec] 98))).cfg
                  go_wp2_with fail
                  refine bodyPost_ret (v := .tuple #[.agg #[.slice none 0 0], .iface 95 (.pointer (some ⟨_, 0, none⟩))]) (results_cell_and rfl _ _ r 60 #[.slice none 0 0] (0, 0) _ _ rfl rfl ?_ Tryd.underlying60 rfl size60) rfl (parsed_err ((unhide HREL).stop (pk := pk) (unhide HLINE) (unhide HPK) ?_) ?_)
                  · first | exact blk_alloc (blk_put (unhide P7).hr 0 _ rfl) _ | exact blk_put (blk_alloc (unhide P7).hr _) 0 _ rfl
                  · rw [unhide HLF]
                    unfold lineG
                    rw [if_neg (by rw [unhide HE]; decide), if_neg (by rw [unhide HHD, unhide H35]; decide), if_neg (by rw [unhide HHD, unhide H91]; decide), if_neg (by decide), if_neg (by rw [← unhide HNL]; exact unhide HN0), unhide HRR pk, unhide HR7]
                  · first | exact below_alloc ((unhide P7).B.setCell (Nat.le_of_eq (unhide P7).er.symm) _) _ | exact (below_alloc (unhide P7).B _).setCell (Nat.le_of_eq (unhide P7).er.symm) _
                | some m' =>
                  rw [hr7] at hO
                  obtain ⟨rfl, hMR, hSe⟩ := hO
                  have HR7 := hide hr7
                  have HMR := hide hMR
                  have HSE := hide hSe
                  clear hr7 hMR hSe
                  go_wp2_with fail
                  go_roundg (gk - 1)
                  case measure => have := unhide HI; have := unhide HLT; omega
                  case rel =>
                    refine ⟨j + 1, some ⟨g, 0, none⟩, n, c, some b, sn + 1, with_ f (trimR k), ms.set i m', congrArg (Value.int .i64) (by have := unhide HLT; have := unhide HLB; (try unfold wrap64); omega), rfl, (by have := unhide HI; have := unhide HLT; show _ = _; omega), P7, .inr ⟨g, b, i, rfl, unhide HNI, rfl, unhide HMR, unhide HSE, unhide HBB, unhide HBG⟩, (by have := unhide HSN; show _ ≤ _; omega), (unhide HREL).step (pk := pk) (unhide HLINE) (unhide HSL) (unhide HPK) ?_⟩
                    rw [unhide HLF]
                    unfold lineG
                    rw [if_neg (by rw [unhide HE]; decide), if_neg (by rw [unhide HHD, unhide H35]; decide), if_neg (by rw [unhide HHD, unhide H91]; decide), if_neg (by decide), if_neg (by rw [← unhide HNL]; exact unhide HN0), unhide HRR pk, unhide HR7]
                    have e1 : ms.length - 1 = i := by rw [← unhide HNL, unhide HNI]; rfl
                    rw [e1]
    · have d1 : ¬ (j : Int) < (L : Int) := by omega
      have hjL : j = L := by have := unhide HI; omega
      have hn := (unhide HM).len
      have hrd := (unhide HM).reads
      have h8 := (unhide HREL).2.1
      have hcfg := cfg_ok A c ms wr (by rw [← hn]; exact hrd.2) (by rw [← hn]; exact hrd.1) (by omega) (fun m hm => ((unhide HREL).1 m hm).2.1)
      have hfx : text = fixT → ms = [finM] := by
        intro e
        have h1 := (unhide HREL).2.2 e
        have h2 := unhide HLEN
        rw [unhide HLS, e, fix_lines] at h2
        rw [hjL, ← h2] at h1
        exact h1
      rw [← hn] at hcfg
      obtain ⟨x1, x2, x3, x4⟩ := (unhide HP).cfg
      have HN := hide hn
      have HFX := hide hfx
      have H8 := hide h8
      clear hjL hlt hn hrd h8 hfx
      go_wp2_with fail
      refine hcfg.mono ?_
      rintro e w9 ⟨v9, rfl, hv9, hone, hb⟩
      have P9 := hide ((unhide HP).below hb)
      have M9 := hide ((unhide HM).below hb)
      have HONE := hide hone
      clear hcfg hone hb x1 x2 x3 x4
      obtain ⟨x1, x2, x3, x4⟩ := (unhide P9).cfg
      rcases hv9 with rfl | ⟨g9, rfl⟩
      · go_wp2_with fail
        have hM : Mo (w9.setCell ⟨r, 0, none⟩ (.slice A n c)) (l + 1) A n c sb sn f ms := (unhide M9).low (by show r < l + 1; have := (unhide P9).el; omega) _
        refine bodyPost_ret (v := .tuple #[.agg #[.slice A n c], .nilIface]) (results_cell_and rfl _ _ r 60 #[.slice A n c] (0, 0) _ _ rfl rfl (blk_put (unhide P9).hr 0 _ rfl) Tryd.underlying60 rfl size60) rfl ?_
        exact ⟨A, n, c, ms, _, rfl, .inl rfl, fun h => absurd rfl h, unhide HN, hM.reads.1, (fun w'' hw => (hM.move (fun k hk hlt => hw k (by have := (unhide P9).er; have := (unhide P9).el; omega) hlt)).reads.2), by rw [unhide HN]; exact unhide H8, (unhide HREL).1, fun e => ⟨rfl, unhide HFX e⟩, (unhide P9).B.setCell (Nat.le_of_eq (unhide P9).er.symm) _⟩
      · go_wp2_with fail
        refine bodyPost_ret (v := .tuple #[.agg #[.slice none 0 0], .iface 95 (.pointer (some ⟨g9, 0, none⟩))]) (results_cell_and rfl _ _ r 60 #[.slice none 0 0] (0, 0) _ _ rfl rfl (blk_put (unhide P9).hr 0 _ rfl) Tryd.underlying60 rfl size60) rfl (parsed_err ?_ ((unhide P9).B.setCell (Nat.le_of_eq (unhide P9).er.symm) _))
        intro e
        have h1 := unhide HFX e
        have h2 := unhide HONE (by rw [unhide HN, h1]; rfl) (by
          rw [h1]
          intro m hm
          rw [List.mem_singleton.1 hm]
          exact finM_root)
        cases h2
end Go.Proofs.YtgoephcembgmcaaDoor.Cf
