/-
  Writers who have their paths write them one after the other, as they get them, while readers look at versions; in the end each file has the mark of who had it last, and everybody wrote: the law returns true for every input. Its listed variables (tables of Go's library) are tied to the program's text (the tie is given). No conditions beyond the statement.
-/
import Derived.Test.YtgoephcembgmcaaGreatDoorZ05
import Derived.Deep.Slices
import Derived.Deep.SlicePairs
import Derived.Deep.Strs
import Derived.Deep.Grids
import Derived.ProofKit
import Derived.OpenShut
import Derived.HandedShaped
import Derived.LaidMore
import Derived.Lay
import Derived.Lib.LaidTab
import Derived.Shelf.Vars
import Derived.Test.YtgoephcembgmcaaGreatDoorRows
import Derived.Test.YtgoephcembgmcaaGreatDoorCards
import Derived.Test.YtgoephcembgmcaaGreatDoorTie
import Derived.WalkKit
import Derived.ShutString
import Derived.ChangeOld
import Derived.Below
import Derived.SizedLaws
import Derived.LaidLaws
import Derived.LaidHandle
import Derived.SevenTiedAt
import Derived.Test.YtgoephcembgmcaaGreatDoorWSized
set_option linter.unusedSimpArgs false
set_option linter.unusedVariables false
namespace Go.Proofs.YtgoephcembgmcaaGreatDoor.G
open Go.RowKit Go.Maps Go.Proofs.YtgoephcembgmcaaGreatDoorW.PrintWords Go.Proofs.YtgoephcembgmcaaGreatDoorW.PrintLast
/-! The law: the walk. -/
/-- A writer: the slice of paths, the paths, the mark. -/
abbrev Wt := Sc × List ByteArray × Int
def Ws (w : World) (A : Option Addr) (xs : List Wt) : Prop := ∀ i x, xs[i]? = some x → ∃ ad, A = some ad ∧ w.cell? (ad.add (i * 2)) = some (slv x.1) ∧ w.cell? ⟨(ad.add (i * 2)).block, (ad.add (i * 2)).off + 1, none⟩ = some (.int .u8 x.2.2) ∧ x.1.2.1 = x.2.1.length ∧ Kd.string.C w x.1.1 x.2.1.length x.2.1
theorem Ws.below {w w1 : World} {A : Option Addr} {xs : List Wt} (h : Ws w A xs) (hb : Below w.heap.size w w1) : Ws w1 A xs := fun i x hx => by
  obtain ⟨ad, h1, h2, h3, h4, h5⟩ := h i x hx
  exact ⟨ad, h1, pw_cell_below hb h2, pw_cell_below hb h3, h4, Kd.C_below h5 hb⟩
def Bs (w : World) (A : Option Addr) (n : Nat) : Prop := ∀ i, i < n → ∃ ad b, A = some ad ∧ w.cell? (ad.add i) = some (.bool b)
theorem Bs.below {w w1 : World} {A : Option Addr} {n : Nat} (h : Bs w A n) (hb : Below w.heap.size w w1) : Bs w1 A n := fun i hi => by
  obtain ⟨ad, b, h1, h2⟩ := h i hi
  exact ⟨ad, b, h1, pw_cell_below hb h2⟩
theorem new2 (w : World) (base : Nat) (hb : base ≤ w.heap.size) : Calls Tryz.prog 4 #[] w fun e w' => ∃ L, e = .returned (.pointer (some ⟨L, 0, none⟩)) ∧ LKat w' L (.slice none 0 0) ∧ LR w' base (.slice none 0 0) [] ∧ base ≤ L ∧ Below w.heap.size w w' :=
  (new_ok w).mono fun e w' ⟨h1, h2⟩ => ⟨_, h1, by rw [h2]; exact blk_new w _, ⟨World.ownsRow_nil _ _ _ _, fun z hz => by cases hz⟩, hb, by rw [h2]; exact below_alloc (Below.refl _ _) _⟩
theorem vnew2 (w : World) (base : Nat) (hb : base ≤ w.heap.size) : Calls Tryz.prog 5 #[] w fun e w' => ∃ S T b pb, e = .returned (.pointer (some ⟨S, 0, none⟩)) ∧ ViewAt w' base S T b pb 0 0 0 0 (fun _ => none) (fun _ => []) (fun _ => 0) ∧ Below w.heap.size w w' :=
  (vnew_ok w).mono fun e w' ⟨h1, h2⟩ => ⟨w.heap.size + 3, w.heap.size + 1, w.heap.size, w.heap.size + 2, h1, h2 ▸ made_view w base hb, h2 ▸ below_alloc (below_alloc (below_alloc (below_alloc (Below.refl _ _) _) _) _) _⟩
theorem nodup_le : ∀ (l m : List Int), l.Nodup → (∀ x ∈ l, x ∈ m) → l.length ≤ m.length
  | [], _, _, _ => Nat.zero_le _
  | x :: l, m, hn, h => by
    have hc := List.nodup_cons.1 hn
    have hx := h x (List.mem_cons_self ..)
    have h2 := nodup_le l (m.erase x) hc.2 (fun y hy => (List.mem_erase_of_ne (fun e : y = x => hc.1 (e ▸ hy))).2 (h y (List.mem_cons_of_mem _ hy)))
    rw [List.length_erase_of_mem hx] at h2
    have := List.length_pos_of_mem hx
    rw [List.length_cons]
    omega
theorem RI.le {rd : List Int} {zs : List (Ask × Sc)} (h : RI rd zs) : rd.length ≤ zs.length := by
  have := nodup_le rd (zs.map fun z => z.1.1) h.1 (fun x hx => by
    obtain ⟨z, hz, e, _⟩ := (h.2 x).1 hx
    exact List.mem_map.2 ⟨z, hz, e⟩)
  rw [List.length_map] at this
  exact this
theorem path_a : pathOK ⟨#[97]⟩ = true := by kernel_rfl
theorem good_a : GoodSet [⟨#[97]⟩] := ⟨fun p hp => by rw [List.mem_singleton.1 hp]; exact path_a, by simp⟩
theorem ask99 (L base : Nat) (w : World) (hG : Glob w) (hL : LKat w L (.slice none 0 0)) (hR : LR w base (.slice none 0 0) []) (hbL : base ≤ L) (hbw : base ≤ w.heap.size) :
    Calls Tryz.prog 6 #[.pointer (some ⟨L, 0, none⟩), .int .i64 99, .slice (some ⟨w.heap.size, 0, none⟩) 1 1] (w.alloc (.cells #[.string ⟨#[97]⟩] 9)) fun e w' => e = .returned (.tuple #[.bool true, .nilIface]) ∧ Fr base [69, 63] w w' ∧ ∃ v z, z.1.1 = 99 ∧ AskOK z.1 ∧ LKat w' L v ∧ LR w' base v [z] := by
  have ha := below_alloc (Below.refl w.heap.size w) (.cells #[.string ⟨#[97]⟩] 9)
  have hb1 : base ≤ (w.alloc (.cells #[.string ⟨#[97]⟩] 9)).heap.size := by rw [World.size_alloc]; omega
  refine (ask_ok L base (.slice none 0 0) [] 99 (some ⟨w.heap.size, 0, none⟩) 1 [⟨#[97]⟩] (w.alloc (.cells #[.string ⟨#[97]⟩] 9)) (hG.below ha) (hL.below ha) (hR.below ha) hbL hb1 (by decide) (fun z hz => by cases hz) (parts_row w [⟨#[97]⟩] (by decide)) (by decide) (fun p hp => by rw [List.mem_singleton.1 hp]; decide)).mono ?_
  rintro e w' ⟨hf, h⟩
  rcases h with ⟨h, _⟩ | ⟨_, _, _, qs, s, f, v, hp, hfr, rfl, h1, h2⟩
  · exfalso
    rcases h with ⟨z, hz, _⟩ | h | h | h
    · cases hz
    · cases h
    · exact absurd h (by decide)
    · exact h good_a
  · have hft : f = true := by rw [hfr]; exact free_iff.2 (fun j hj => absurd hj (Nat.not_lt_zero _))
    subst hft
    refine ⟨rfl, (Fr.of_below ha hbw).trans hf, v, ((99, qs, true), s), rfl, ⟨?_, fun p hp2 => ?_⟩, h1, h2⟩
    · show qs.length ≤ 1000
      rw [hp.length_eq]
      decide
    · have : p ∈ [(⟨#[97]⟩ : ByteArray)] := hp.mem_iff.1 hp2
      rw [List.mem_singleton.1 this]
      decide
theorem rel99 (L base : Nat) (v : Value) (z : Ask × Sc) (w : World) (hz : z.1.1 = 99) (ho : AskOK z.1) (hL : LKat w L v) (hR : LR w base v [z]) (hbL : base ≤ L) (hbw : base ≤ w.heap.size) :
    Calls Tryz.prog 7 #[.pointer (some ⟨L, 0, none⟩), .int .i64 99] w fun e w' => ∃ u v2, e = .returned (.tuple #[u, .int .i64 0]) ∧ Fr base [69, 63] w w' ∧ LKat w' L v2 ∧ LR w' base v2 [] := by
  refine (release_ok L base v [z] 99 w hL hR hbL hbw (by show 1 ≤ 64; omega) (fun y hy => by rw [List.mem_singleton.1 hy]; exact ho)).mono ?_
  rintro e w' ⟨hf, h⟩
  rcases h with ⟨h, _⟩ | ⟨k, v2, u, hk, _, _, rfl, h1, h2, _⟩
  · exact absurd hz (h z (List.mem_singleton.2 rfl))
  · have hk0 : k = 0 := by
      have : k < 1 := hk
      omega
    subst hk0
    exact ⟨u, v2, rfl, hf, h1, h2⟩
section
variable {w w1 : World} {base S T b pb n np now all : Nat} {F : ByteArray → Option Value} {g : ByteArray → List St} {P : Int → Nat}
theorem ViewAt.fr {base' : Nat} {ts : List TypeId} (h : ViewAt w base S T b pb n np now all F g P) (hf : Fr base' ts w w1) (h0 : 54 ∉ ts) (h1 : 83 ∉ ts) (h2 : 100 ∉ ts) (h3 : 5 ∉ ts) : ViewAt w1 base S T b pb n np now all F g P :=
  h.fm (Fm.fr (ms := []) hf) h0 h1 h2 h3 (fun k hk => by cases hk)
end
set_option maxHeartbeats 16000000 in
set_option maxRecDepth 100000 in
theorem law_any (A0 : Option Addr) (c0 : Nat) (ws : List Wt) (B0 : Option Addr) (nl d0 : Nat) (w : World) (hG : Glob w) (hW : Ws w A0 ws) (hB : Bs w B0 nl) :
    Calls Tryz.prog 3 #[.slice A0 ws.length c0, .slice B0 nl d0] w fun e w' => e = .returned (.bool true) ∧ Below w.heap.size w w' := by
  obtain ⟨base, hbase⟩ : ∃ z, z = w.heap.size := ⟨_, rfl⟩
  obtain ⟨N, hN⟩ : ∃ z, z = ws.length := ⟨_, rfl⟩
  rw [← hbase, ← hN]
  have HBASE := hide hbase
  have HN := hide hN
  have HG := hide hG
  have HW := hide hW
  have HB := hide hB
  have hn1 := hide (new2 w base (by rw [hbase]; exact Nat.le_refl _))
  clear hbase hN hG hW hB
  go_enter Tryz.func3, Tryz.ntmps3
  go_wp2_with fail
  refine (unhide hn1).mono ?_
  rintro e w1 ⟨L, rfl, hL1, hR1, hbL, hb1⟩
  have hbw1 : base ≤ w1.heap.size := by rw [unhide HBASE]; exact hb1.size
  have HL1 := hide hL1
  have HR1 := hide hR1
  have HBL := hide hbL
  have HB1 := hide hb1
  have HV1 := hide (vnew2 w1 base hbw1)
  clear hL1 hR1 hbL hb1 hbw1 hn1
  go_wp2_with fail
  refine (unhide HV1).mono ?_
  rintro e w2 ⟨S, T, b, pb, rfl, hv2, hb2⟩
  have HBW2 : Hid (Below base w w2) := by
    have h := (unhide HB1).trans (hb2.mono (unhide HB1).size)
    rw [unhide HBASE]
    exact h
  have hsz2 : base ≤ w2.heap.size := by have := (unhide HBW2).size; rw [unhide HBASE]; exact this
  have HA2 := hide (ask99 L base w2 ((unhide HG).below (by rw [← unhide HBASE]; exact unhide HBW2)) ((unhide HL1).below hb2) ((unhide HR1).below hb2) (unhide HBL) hsz2)
  have HV2 := hide hv2
  have HSZ2 := hide hsz2
  clear hv2 hb2 hsz2 HL1 HR1 HV1 HB1
  go_wp2_with fail
  refine (unhide HA2).mono ?_
  rintro e w3 ⟨rfl, hf3, v3, z3, hz3, ho3, hL3, hR3⟩
  have hv3 := (unhide HV2).fr hf3 (by decide) (by decide) (by decide) (by decide)
  have hs3 : base ≤ w3.heap.size := Nat.le_trans (unhide HSZ2) hf3.b.size
  have HB3 := hide ((unhide HBW2).trans hf3.b)
  have HR3 := hide (rel99 L base v3 z3 w3 hz3 ho3 hL3 hR3 (unhide HBL) hs3)
  have HV3 := hide hv3
  have HS3 := hide hs3
  clear hf3 hz3 ho3 hL3 hR3 hv3 hs3 HA2 HV2 HBW2 HSZ2
  go_wp2_with fail
  refine (unhide HR3).mono ?_
  rintro e w4 ⟨u4, v4, rfl, hf4, hL4, hR4⟩
  have HV4 := hide ((unhide HV3).fr hf4 (by decide) (by decide) (by decide) (by decide))
  have HB4 := hide ((unhide HB3).trans hf4.b)
  have HL4 := hide hL4
  have HR4 := hide hR4
  have HS4 : Hid (base ≤ w4.heap.size) := Nat.le_trans (unhide HS3) hf4.b.size
  clear hf4 hL4 hR4 HR3 HV3 HB3 HS3
  by_cases h12 : 12 < N
  · have d1 : (12 : Int) < (N : Int) := by omega
    clear h12
    go_wp2_with fail
    go_ret
    exact ⟨rfl, unhide HB4⟩
  have d1 : ¬ (12 : Int) < (N : Int) := by omega
  have H12 := hide h12
  clear h12
  have hu38 := Tryz.underlying38
  have hu63 := Tryz.underlying63
  have hu54 := Tryz.underlying54
  obtain ⟨psOf, hpsOf⟩ : ∃ f : Int → List ByteArray, f = fun x => match ws[x.toNat]? with | some y => y.2.1 | none => [] := ⟨_, rfl⟩
  have HPS := hide hpsOf
  clear hpsOf
  go_wp2_with fail
  clear d1
  go_loopg [11, 12, 73] N (fun kq v11 v12 v73 wr => ∃ (i : Nat) (Ar : Option Addr) (nr cr : Nat) (Ao : Option Addr) (no co : Nat) (zs : List (Ask × Sc)) (lv : Value) (rd os : List Int), v11 = .slice Ar nr cr ∧ v12 = .slice Ao no co ∧ v73 = .int .i64 (i : Int) ∧ Hid (i + kq = N) ∧ Hid (LKat wr L lv) ∧ Hid (LR wr base lv zs) ∧ Hid (LI psOf zs) ∧ Hid (∀ z ∈ zs, z.1.1 < (i : Int) ∧ 0 ≤ z.1.1) ∧ Hid (zs.length ≤ i) ∧ Hid (QV wr base 3 (.slice Ar nr cr) (rd.map (Value.int .i64))) ∧ Hid (RI rd zs) ∧ Hid (QV wr base 3 (.slice Ao no co) (os.map (Value.int .i64))) ∧ Hid (os.length = zs.length) ∧ Hid (Ap (.slice Ar nr cr) (.slice Ao no co)) ∧ Hid (ViewAt wr base S T b pb 0 0 0 0 (fun _ => none) (fun _ => []) (fun _ => 0)) ∧ Hid (Below base w wr) ∧ Hid (∀ x ∈ ws.take i, x.2.1.length ≤ 16 ∧ ∀ p ∈ x.2.1, p.size ≤ 100))
  case atStart => exact ⟨0, none, 0, 0, none, 0, 0, [], v4, [], [], rfl, rfl, rfl, Nat.zero_add _, unhide HL4, unhide HR4, LI.start, (fun z hz => by cases hz), Nat.le_refl _, QV.nil _ _ _, RI.start, QV.nil _ _ _, rfl, Ap.nil _, unhide HV4, unhide HB4, (fun x hx => by simp at hx)⟩
  case round =>
    obtain ⟨i, Ar, nr, cr, Ao, no, co, zs, lv, rd, os, rfl, rfl, rfl, HI, HL, HR, HLI, HWHO, HZL, HQR, HRI, HQO, HOL, HAP, HV, HBW, HSM⟩ := hrel
    by_cases hlt : i < N
    · have d1 : (i : Int) < (N : Int) := by omega
      obtain ⟨x, hx⟩ : ∃ z, ws[i]? = some z := ⟨_, List.getElem?_eq_getElem (by rw [← unhide HN]; exact hlt)⟩
      have hbw : Below w.heap.size w wr := by rw [← unhide HBASE]; exact unhide HBW
      obtain ⟨ad, rfl, k0, k1, hlen, hCp⟩ := (unhide HW).below hbw i x hx
      obtain ⟨⟨PA, pn, pc⟩, ps, mk⟩ := x
      obtain rfl : pn = ps.length := hlen
      obtain ⟨m, hm⟩ : ∃ z, z = ps.length := ⟨_, rfl⟩
      rw [← hm] at k0 hCp
      replace k0 : wr.cell? (ad.add (i * 2)) = some (.slice PA m pc) := k0
      replace k1 : wr.cell? ⟨(ad.add (i * 2)).block, (ad.add (i * 2)).off + 1, none⟩ = some (.int .u8 mk) := k1
      replace hCp : Kd.string.C wr PA m ps := hCp
      have hsz : base ≤ wr.heap.size := by have := hbw.size; rw [unhide HBASE]; exact this
      have ha := below_alloc (Below.refl wr.heap.size wr) (.cells #[.slice PA m pc, .int .u8 mk] 38)
      have hnb := blk_new wr (.cells #[.slice PA m pc, .int .u8 mk] 38)
      have HXX := hide hx
      have HM := hide hm
      have HLT := hide hlt
      obtain ⟨W1, hW1⟩ : ∃ z, z = wr.alloc (.cells #[.slice PA m pc, .int .u8 mk] 38) := ⟨_, rfl⟩
      have e0 : (wr.alloc (.cells #[.slice PA m pc, .int .u8 mk] 38)).cell? ⟨wr.heap.size, 0, none⟩ = some (.slice PA m pc) := blk_cell hnb 0
      have HNB := hide hnb
      have HAL := hide ha
      have HSZ := hide hsz
      have HCP := hide hCp
      clear hx hm hlt hbw hsz ha hnb hCp
      by_cases h16 : 16 < m
      · have d2 : (16 : Int) < (m : Int) := by omega
        clear h16
        go_wp2_with fail
        go_ret
        exact ⟨rfl, (unhide HBW).trans ((unhide HAL).mono (unhide HSZ))⟩
      have d2 : ¬ (16 : Int) < (m : Int) := by omega
      have H16 := hide h16
      clear h16
      go_wp2_with fail
      rw [← hW1] at e0 HNB HAL ⊢
      have HB1 : Hid (Below base w W1) := (unhide HBW).trans ((unhide HAL).mono (unhide HSZ))
      obtain ⟨xb, hxb⟩ : ∃ z, z = wr.heap.size := ⟨_, rfl⟩
      rw [← hxb] at e0 HNB ⊢
      have HL1 := hide ((unhide HL).below (unhide HAL))
      have HR1 := hide ((unhide HR).below (unhide HAL))
      have HQR1 := hide (QV.below (unhide HQR) (unhide HAL))
      have HQO1 := hide (QV.below (unhide HQO) (unhide HAL))
      have HV1 := hide ((unhide HV).below (unhide HAL))
      have HCP1 := hide (Kd.C_below (unhide HCP) (unhide HAL))
      have HSZ1 : Hid (base ≤ W1.heap.size) := Nat.le_trans (unhide HSZ) (unhide HAL).size
      clear hxb hW1 HL HR HQR HQO HV HBW HCP HSZ HAL k0 k1 d1 d2
      obtain ⟨gk1, hgk1⟩ : ∃ z, z = gk := ⟨_, rfl⟩
      have HGK1 := hide hgk1
      clear hgk1
      go_loopg [85] m (fun kp v85 wp => ∃ (k : Nat), v85 = .int .i64 (k : Int) ∧ Hid (k + kp = m) ∧ wp = W1 ∧ Hid (∀ p ∈ ps.take k, p.size ≤ 100))
      case atStart => exact ⟨0, rfl, Nat.zero_add _, rfl, (fun p hp => by simp at hp)⟩
      case round =>
        obtain ⟨k, rfl, HI2, rfl, HPZ⟩ := hrel
        by_cases hlt : k < m
        · have d1 : (k : Int) < (m : Int) := by omega
          have HLT2 := hide hlt
          obtain ⟨ap, rfl, kp⟩ := Kd.at_string (unhide HCP1) (k : Int) (by omega) d1
          rw [Int.toNat_natCast] at kp
          have hpk := rd_get (l := ps) (j := k) (by rw [← unhide HM]; exact hlt)
          obtain ⟨p, hp⟩ : ∃ z, z = rdOf ByteArray.empty ps (k : Int) := ⟨_, rfl⟩
          rw [← hp] at kp hpk
          have HPK := hide hpk
          clear hp hpk hlt
          by_cases h100 : 100 < p.size
          · have d2 : (100 : Int) < (p.size : Int) := by omega
            clear h100
            go_wp2_with fail
            go_ret
            exact ⟨rfl, unhide HB1⟩
          · have d2 : ¬ (100 : Int) < (p.size : Int) := by omega
            have H100 := hide h100
            clear h100
            go_wp2_with fail
            go_roundg (gk - 1)
            case measure => have := unhide HI2; have := unhide HLT2; omega
            case rel =>
              refine ⟨k + 1, congrArg (Value.int .i64) (by have := unhide H16; have := unhide HLT2; (try unfold wrap64); omega), (by have := unhide HI2; have := unhide HLT2; show _ = _; omega), rfl, ?_⟩
              intro q hq
              rw [take_mem_snoc (unhide HPK)] at hq
              rcases List.mem_append.1 hq with hq | hq
              · exact unhide HPZ q hq
              · rw [List.mem_singleton.1 hq]
                have := unhide H100
                omega
        · have d1 : ¬ (k : Int) < (m : Int) := by omega
          have hall : ∀ p ∈ ps, p.size ≤ 100 := by
            have h := unhide HPZ
            rw [List.take_of_length_le (by rw [← unhide HM]; omega)] at h
            exact h
          have HALL := hide hall
          have hask := ask_ok L base lv zs (i : Int) PA pc ps wr ((unhide HG).below (by rw [← unhide HBASE]; exact unhide HB1)) (unhide HL1) (unhide HR1) (unhide HBL) (unhide HSZ1) (by have := unhide HZL; have := unhide HLT; have := unhide H12; omega) (unhide HLI).ok (by rw [← unhide HM]; exact unhide HCP1) (by rw [← unhide HM]; have := unhide H16; omega) (fun p hp => Nat.le_trans (hall p hp) (by decide))
          rw [← unhide HM] at hask
          have HASK := hide hask
          have HWI : Hid (wrap64 ((i : Int) + 1) = ((i + 1 : Nat) : Int)) := by show _ = _; have := unhide HLT; have := unhide H12; unfold wrap64; omega
          have HSMN : Hid (∀ x ∈ ws.take (i + 1), x.2.1.length ≤ 16 ∧ ∀ p ∈ x.2.1, p.size ≤ 100) := by
            intro x hx
            rw [take_mem_snoc (unhide HXX)] at hx
            rcases List.mem_append.1 hx with hx | hx
            · exact unhide HSM x hx
            · rw [List.mem_singleton.1 hx]
              refine ⟨?_, unhide HALL⟩
              show ps.length ≤ 16
              rw [← unhide HM]
              have := unhide H16
              omega
          have HWHON : Hid (∀ z ∈ zs, z.1.1 < ((i + 1 : Nat) : Int) ∧ 0 ≤ z.1.1) := fun z hz => by
            have := unhide HWHO z hz
            omega
          clear hlt hall hask
          go_wp2_with fail
          refine (unhide HASK).mono ?_
          rintro e w5 ⟨hf5, hs5⟩
          have HV5 := hide ((unhide HV1).fr hf5 (by decide) (by decide) (by decide) (by decide))
          have HQR5 := hide (QV.fm (unhide HQR1) (Fm.fr (ms := []) hf5) (by decide) (fun k hk => by cases hk))
          have HQO5 := hide (QV.fm (unhide HQO1) (Fm.fr (ms := []) hf5) (by decide) (fun k hk => by cases hk))
          have HB5 := hide ((unhide HB1).trans hf5.b)
          have HSZ5 : Hid (base ≤ w5.heap.size) := Nat.le_trans (unhide HSZ1) hf5.b.size
          have f0 : w5.cell? ⟨xb, 0, none⟩ = some (.slice PA m pc) := blk_cell ((hf5.k xb (Array.getElem?_eq_some_iff.1 (unhide HNB)).1 (fun c t fz hc => by
            rw [unhide HNB] at hc
            cases hc
            decide)).trans (unhide HNB)) 0
          clear hf5 HV1 HQR1 HQO1 HB1 HSZ1 HASK HL1 HR1 d1 e0
          rcases hs5 with ⟨_, ⟨te, pe, rfl⟩, v5, hL5, hR5⟩ | ⟨hno, hn64, hgood, qs, s, f, v5, hperm, hfr, rfl, hL5, hR5⟩
          · have HL5 := hide hL5
            have HR5 := hide hR5
            clear hL5 hR5
            go_wp2_with fail
            go_roundg (gk1 - 1)
            case measure => have := unhide HI; have := unhide HLT; have := unhide HGK1; omega
            case rel => exact ⟨i + 1, Ar, nr, cr, Ao, no, co, zs, v5, rd, os, rfl, rfl, congrArg (Value.int .i64) (unhide HWI), (by have := unhide HI; have := unhide HLT; have := unhide HGK1; show _ = _; omega), unhide HL5, unhide HR5, unhide HLI, unhide HWHON, (by have := unhide HZL; show _ ≤ _; omega), unhide HQR5, unhide HRI, unhide HQO5, unhide HOL, unhide HAP, unhide HV5, unhide HB5, unhide HSMN⟩
          · have hLI2 := (unhide HLI).ask (psOf := psOf) (who := (i : Int)) (qs := qs) (s := s) (f := f) hno hfr (by
              rw [unhide HPS]
              show qs.Perm (match ws[(i : Int).toNat]? with | some y => y.2.1 | none => [])
              rw [Int.toNat_natCast, unhide HXX]
              exact hperm) ⟨by
                show qs.length ≤ 1000
                rw [hperm.length_eq, ← unhide HM]
                have := unhide H16
                omega, fun p hp => by
                have := unhide HALL p (hperm.mem_iff.1 hp)
                omega⟩
            have hRI2 := (unhide HRI).ask (who := (i : Int)) (qs := qs) (s := s) (f := f) hno
            have HLI2 := hide hLI2
            have HRI2 := hide hRI2
            have HL5 := hide hL5
            have HR5 := hide hR5
            have HW2 : Hid (∀ z ∈ zs ++ [((((i : Int), qs, f), s) : Ask × Sc)], z.1.1 < ((i + 1 : Nat) : Int) ∧ 0 ≤ z.1.1) := fun z hz => by
              rcases List.mem_append.1 hz with hz | hz
              · exact unhide HWHON z hz
              · rw [List.mem_singleton.1 hz]
                show (i : Int) < _ ∧ _ ≤ (i : Int)
                omega
            obtain ⟨Ao2, co2, w6, hr6, hq6, hg6, hloc6⟩ := QV.push (unhide HQO5) (unhide HSZ5) 32 (.int .i64 0) 8 Tryz.underlying32 info3 rfl (by decide) (.int .i64 (i : Int)) rfl (by rw [List.length_map, unhide HOL]; have := unhide HZL; have := unhide HLT; have := unhide H12; omega)
            rw [List.length_map] at hr6 hq6 hloc6
            have hnoL : no = os.length := by
              obtain ⟨_, _, e, _⟩ := QV.slice (unhide HQO5)
              rw [List.length_map] at e
              injection e
            rw [← hnoL] at hr6 hq6 hloc6
            have hF6 := QV.frame (unhide HQO5) (unhide HSZ5) hg6
            have HV6 := hide ((unhide HV5).fm hF6 (by decide) (by decide) (by decide) (by decide) (fun k hk => by cases hk))
            have HL6 := hide ((unhide HL5).fm hF6 (by decide) (fun k hk => by cases hk))
            have HR6 := hide ((unhide HR5).fm hF6 (by decide) (by decide) (fun k hk => by cases hk))
            have HQR6 := hide (QV.beside (unhide HQR5) hg6 (fun k hk e => unhide HAP k hk e))
            have HAP6 := hide ((Ap.grow (unhide HAP).symm (unhide HQR5) hloc6).symm)
            have HB6 := hide ((unhide HB5).trans hF6.b)
            have HSZ6 : Hid (base ≤ w6.heap.size) := Nat.le_trans (unhide HSZ5) hg6.size
            have HQO6 : Hid (QV w6 base 3 (.slice Ao2 (no + 1) co2) ((os ++ [(i : Int)]).map (Value.int .i64))) := by rw [List.map_append]; exact hq6
            have HRUN6 := hide hr6
            clear hLI2 hRI2 hno hn64 hgood hperm hfr hL5 hR5 hr6 hq6 hg6 hloc6 hnoL hF6 HV5 HQR5 HQO5 HB5 HSZ5 HL5 HR5 f0
            go_wp2_with (at_builtin; refine unhide ?_)
            refine hide ?_
            refine wpList_app rfl (.tmp 103) (.tmp 105) rfl rfl rfl rfl (unhide HRUN6) ?_
            cases f with
            | false =>
              go_wp2_with fail
              go_roundg (gk1 - 1)
              case measure => have := unhide HI; have := unhide HLT; have := unhide HGK1; omega
              case rel => exact ⟨i + 1, Ar, nr, cr, Ao2, _, co2, _, v5, rd, os ++ [(i : Int)], rfl, rfl, congrArg (Value.int .i64) (unhide HWI), (by have := unhide HI; have := unhide HLT; have := unhide HGK1; show _ = _; omega), unhide HL6, unhide HR6, unhide HLI2, unhide HW2, (by have := unhide HZL; rw [List.length_append]; show _ + 1 ≤ _; omega), unhide HQR6, unhide HRI2, unhide HQO6, (by show _ = _; rw [List.length_append, List.length_append, unhide HOL]; rfl), unhide HAP6, unhide HV6, unhide HB6, unhide HSMN⟩
            | true =>
              obtain ⟨Ar2, cr2, w7, hr7, hq7, hg7, hloc7⟩ := QV.push (unhide HQR6) (unhide HSZ6) 32 (.int .i64 0) 8 Tryz.underlying32 info3 rfl (by decide) (.int .i64 (i : Int)) rfl (by
                rw [List.length_map]
                have := (unhide HRI).le
                have := unhide HZL
                have := unhide HLT
                have := unhide H12
                omega)
              rw [List.length_map] at hr7 hq7 hloc7
              have hnrL : nr = rd.length := by
                obtain ⟨_, _, e, _⟩ := QV.slice (unhide HQR6)
                rw [List.length_map] at e
                injection e
              rw [← hnrL] at hr7 hq7 hloc7
              have hF7 := QV.frame (unhide HQR6) (unhide HSZ6) hg7
              have HV7 := hide ((unhide HV6).fm hF7 (by decide) (by decide) (by decide) (by decide) (fun k hk => by cases hk))
              have HL7 := hide ((unhide HL6).fm hF7 (by decide) (fun k hk => by cases hk))
              have HR7 := hide ((unhide HR6).fm hF7 (by decide) (by decide) (fun k hk => by cases hk))
              have HQO7 := hide (QV.beside (unhide HQO6) hg7 (fun k hk e => unhide HAP6 k e hk))
              have HAP7 := hide (Ap.grow (unhide HAP6) (unhide HQO6) hloc7)
              have HB7 := hide ((unhide HB6).trans hF7.b)
              have HQR7 : Hid (QV w7 base 3 (.slice Ar2 (nr + 1) cr2) ((rd ++ [(i : Int)]).map (Value.int .i64))) := by rw [List.map_append]; exact hq7
              have HRUN7 := hide hr7
              clear hr7 hq7 hg7 hloc7 hnrL hF7
              go_wp2_with (at_builtin; refine unhide ?_)
              refine hide ?_
              refine wpList_app rfl (.tmp 108) (.tmp 110) rfl rfl rfl rfl (unhide HRUN7) ?_
              go_wp2_with fail
              go_roundg (gk1 - 1)
              case measure => have := unhide HI; have := unhide HLT; have := unhide HGK1; omega
              case rel => exact ⟨i + 1, Ar2, _, cr2, Ao2, _, co2, _, v5, rd ++ [(i : Int)], os ++ [(i : Int)], rfl, rfl, congrArg (Value.int .i64) (unhide HWI), (by have := unhide HI; have := unhide HLT; have := unhide HGK1; show _ = _; omega), unhide HL7, unhide HR7, unhide HLI2, unhide HW2, (by have := unhide HZL; rw [List.length_append]; show _ + 1 ≤ _; omega), unhide HQR7, unhide HRI2, unhide HQO7, (by show _ = _; rw [List.length_append, List.length_append, unhide HOL]; rfl), unhide HAP7, unhide HV7, unhide HB7, unhide HSMN⟩
    · have d1 : ¬ (i : Int) < (N : Int) := by omega
      have HIN : Hid (i = N) := by have := unhide HI; show _ = _; omega
      clear hlt
      have hmm := @run_makeMap Tryz.prog
      have hvw0 := vw_start wr base S T b pb (unhide HV) (by have := (unhide HBW).size; rw [unhide HBASE]; exact this)
      have ha0 := below_alloc (Below.refl wr.heap.size wr) (.map #[] 0)
      have hszw : base ≤ wr.heap.size := by have := (unhide HBW).size; rw [unhide HBASE]; exact this
      have hlq0 : Lq base L w (wr.alloc (.map #[] 0)) zs lv (.slice Ar nr cr) (.slice none 0 0) (.slice none 0 0) rd [] [] :=
        ⟨(unhide HL).below ha0, (unhide HR).below ha0, unhide HBL, QV.below (unhide HQR) ha0, QV.nil _ _ _, QV.nil _ _ _, (Ap.nil _).symm, (unhide HBW).trans (ha0.mono hszw), Nat.le_trans hszw ha0.size⟩
      have hsm : ∀ x ∈ ws, x.2.1.length ≤ 16 ∧ ∀ p ∈ x.2.1, p.size ≤ 100 := by
        have h := unhide HSM
        rw [List.take_of_length_le (by rw [← unhide HN, unhide HIN]; exact Nat.le_refl _)] at h
        exact h
      have hnoL : no = zs.length := by
        obtain ⟨_, _, e, _⟩ := QV.slice (unhide HQO)
        rw [List.length_map] at e
        rw [← unhide HOL]
        injection e
      have hzn : zs.length ≤ 12 := by have := unhide HZL; have := unhide HIN; have := unhide H12; omega
      have HWHO2 : Hid (∀ z ∈ zs, z.1.1 < (N : Int) ∧ 0 ≤ z.1.1) := fun z hz => by
        have := unhide HWHO z hz
        have := unhide HIN
        omega
      have HVW := hide hvw0
      have HLQ := hide hlq0
      have HSMA := hide hsm
      have HNO := hide hnoL
      have HZN := hide hzn
      clear hvw0 ha0 hszw hlq0 hsm hnoL hzn
      go_wp2_with fail
      clear hmm d1
      obtain ⟨W0, hW0⟩ : ∃ z, z = wr.alloc (.map #[] 0) := ⟨_, rfl⟩
      rw [← hW0] at HVW HLQ ⊢
      obtain ⟨wm, hwm⟩ : ∃ z, z = wr.heap.size := ⟨_, rfl⟩
      rw [← hwm] at HVW ⊢
      clear hW0 hwm HV HL HR HQR HQO HAP HOL HBW HSM HWHO HZL HI HIN
      go_loopg [11, 20, 21, 22] no (fun kq v11 v20 v21 v22 wq => ∃ (k : Nat) (Ar : Option Addr) (nr cr : Nat) (Aq : Option Addr) (nq cq : Nat) (As : Option Addr) (ns cs : Nat) (zs : List (Ask × Sc)) (lv : Value) (rd : List Int) (pl : List (Int × Nat)) (g : ByteArray → List St) (now : Nat), v11 = .slice Ar nr cr ∧ v20 = .slice Aq nq cq ∧ v21 = .slice As ns cs ∧ v22 = .int .i64 (k : Int) ∧ Hid (zs.length = kq) ∧ Hid (k + kq = no) ∧ Hid (now ≤ k ∧ pl.length ≤ k) ∧ Hid (LI psOf zs) ∧ Hid (∀ z ∈ zs, z.1.1 < (N : Int) ∧ 0 ≤ z.1.1) ∧ Hid (RI rd zs) ∧ Hid (Lq base L w wq zs lv (.slice Ar nr cr) (.slice Aq nq cq) (.slice As ns cs) rd (pl.map fun x => Value.int .i64 x.1) (pl.map fun x => Value.map (some x.2))) ∧ Hid (VW base S T b pb wm wq (pl.map fun x => x.1) pl g now (mapOf g (now : Int)) k (16 * k)))
      case atStart => exact ⟨0, Ar, nr, cr, none, 0, 0, none, 0, 0, zs, lv, rd, [], (fun _ => []), 0, rfl, rfl, rfl, rfl, (unhide HNO).symm, Nat.zero_add _, ⟨Nat.le_refl _, Nat.le_refl _⟩, unhide HLI, unhide HWHO2, unhide HRI, unhide HLQ, unhide HVW⟩
      case round =>
        clear HLQ HVW HLI HRI HWHO2
        obtain ⟨gkL, rfl⟩ : ∃ z, z = gk := ⟨_, rfl⟩
        obtain ⟨k, Ar, nr, cr, Aq, nq, cq, As, ns, cs, zs1, lv, rd, pl, g, now, rfl, rfl, rfl, rfl, HZK, HKN, HBD, HLI, HWHO, HRI, HLQ, HVW⟩ := hrel
        have HNR : Hid (nr = rd.length) := by
          obtain ⟨_, _, e, _⟩ := QV.slice (unhide HLQ).qr
          rw [List.length_map] at e
          show nr = _
          injection e
        have HN12 : Hid (no ≤ 12) := by show _ ≤ _; rw [unhide HNO]; exact unhide HZN
        cases rd with
        | nil =>
          obtain rfl : nr = 0 := unhide HNR
          obtain rfl : zs1 = [] := (unhide HLI).done (unhide HRI)
          have hg0 : gkL = 0 := (unhide HZK).symm
          obtain rfl : k = no := by have := unhide HKN; omega
          obtain ⟨AL, cL, rfl, _, _⟩ := (unhide HLQ).lr.slice
          have hlen := hide (len_ok L AL 0 cL wr (unhide HLQ).lk)
          have hnq : nq = pl.length := by
            obtain ⟨_, _, e, _⟩ := QV.slice (unhide HLQ).qp
            rw [List.length_map] at e
            injection e
          have hns : ns = pl.length := by
            obtain ⟨_, _, e, _⟩ := QV.slice (unhide HLQ).qs
            rw [List.length_map] at e
            injection e
          have HNQ := hide hnq
          have HNS := hide hns
          have HGW : Hid (Glob wr) := (unhide HG).below (by rw [← unhide HBASE]; exact (unhide HLQ).bw)
          have HNW : Hid (now ≤ 300) := by have := (unhide HBD).1; have := unhide HN12; show _ ≤ _; omega
          have HPL : Hid (pl.length ≤ 300) := by have := (unhide HBD).2; have := unhide HN12; show _ ≤ _; omega
          clear hg0 hnq hns
          go_wp2_with fail
          refine (unhide hlen).mono ?_
          rintro e w5 ⟨rfl, rfl⟩
          clear hlen
          go_wp2_with fail
          obtain ⟨Wo, rfl⟩ : ∃ z, z = w5 := ⟨_, rfl⟩
          go_loopg [240] nq (fun kp v240 wq => ∃ (j : Nat), v240 = .int .i64 (j : Int) ∧ Hid (j + kp = nq) ∧ Hid (Below Wo.heap.size Wo wq))
          case atStart => exact ⟨0, rfl, Nat.zero_add _, Below.refl _ _⟩
          case round =>
            obtain ⟨j, rfl, HI2, HBL2⟩ := hrel
            have hlq := (unhide HLQ).below (unhide HBL2)
            have hvw := (unhide HVW).below (unhide HBL2)
            by_cases hlt : j < nq
            · have d1 : (j : Int) < (nq : Int) := by omega
              have d2 : (j : Int) < (ns : Int) := by have := unhide HNQ; have := unhide HNS; omega
              obtain ⟨y, hy⟩ : ∃ z, pl[j]? = some z := ⟨_, List.getElem?_eq_getElem (by rw [← unhide HNQ]; exact hlt)⟩
              obtain ⟨a1, e1, q1⟩ := QV.at_ hlq.qp j (.int .i64 y.1) (by rw [List.getElem?_map, hy]; rfl)
              subst e1
              obtain ⟨a2, e2, q2⟩ := QV.at_ hlq.qs j (.map (some y.2)) (by rw [List.getElem?_map, hy]; rfl)
              subst e2
              have hli := vw_like hvw ((unhide HGW).below (unhide HBL2)) (by have := unhide HNW; omega) y (List.mem_of_getElem? hy)
              obtain ⟨y1, y2⟩ := y
              have HLI2 := hide hli
              have HLT := hide hlt
              have HW1 : Hid (wrap64 ((j : Int) + 1) = ((j + 1 : Nat) : Int)) := by show _ = _; have := unhide HPL; have := unhide HNQ; unfold wrap64; omega
              clear hlq hvw hlt hy hli
              go_wp2_with fail
              refine (unhide HLI2).mono ?_
              rintro e w6 ⟨rfl, hb6⟩
              have HB6 := hide (below_step (unhide HBL2) hb6)
              clear hb6
              go_wp2_with fail
              go_roundg (gk - 1)
              case measure => have := unhide HI2; have := unhide HLT; omega
              case rel => exact ⟨j + 1, congrArg (Value.int .i64) (unhide HW1), (by have := unhide HI2; have := unhide HLT; show _ = _; omega), unhide HB6⟩
            · have d1 : ¬ (j : Int) < (nq : Int) := by omega
              have HLQ4 := hide hlq
              have HV4 := hide hvw.few
              have HGW4 := hide ((unhide HGW).below (unhide HBL2))
              clear hlq hvw hlt HLQ HVW HBL2 HI2
              go_wp2_with fail
              go_loopg [256] nq (fun kp v256 wq => ∃ (j : Nat) (g2 : ByteArray → List St), v256 = .int .i64 (j : Int) ∧ Hid (j + kp = nq) ∧ Hid (Lq base L w wq [] (.slice AL 0 cL) (.slice Ar 0 cr) (.slice Aq nq cq) (.slice As ns cs) [] (pl.map fun x => Value.int .i64 x.1) (pl.map fun x => Value.map (some x.2))) ∧ Hid (VW base S T b pb wm wq ((pl.map fun x => x.1).drop j) [] g2 now (mapOf g2 (now : Int)) (k + j) (16 * k)))
              case atStart => exact ⟨0, g, rfl, Nat.zero_add _, unhide HLQ4, unhide HV4⟩
              case round =>
                clear HLQ4 HV4 HGW4
                obtain ⟨j, g2, rfl, HI2, HLQ, HVW⟩ := hrel
                have HGR := hide ((unhide HG).below (by rw [← unhide HBASE]; exact (unhide HLQ).bw))
                by_cases hlt : j < nq
                · have d1 : (j : Int) < (nq : Int) := by omega
                  obtain ⟨y, hy⟩ : ∃ z, pl[j]? = some z := ⟨_, List.getElem?_eq_getElem (by rw [← unhide HNQ]; exact hlt)⟩
                  obtain ⟨a1, e1, q1⟩ := QV.at_ (unhide HLQ).qp j (.int .i64 y.1) (by rw [List.getElem?_map, hy]; rfl)
                  subst e1
                  have hdr : (pl.map fun x => x.1).drop j = y.1 :: (pl.map fun x => x.1).drop (j + 1) := by
                    have hj : j < (pl.map fun x => x.1).length := by rw [List.length_map, ← unhide HNQ]; exact hlt
                    rw [List.drop_eq_getElem_cons hj]
                    congr 1
                    rw [List.getElem_map]
                    rw [(List.getElem?_eq_some_iff.1 hy).2]
                  have hv := unhide HVW
                  rw [hdr] at hv
                  have hup := vw_unpin hv (unhide HLQ).sz (by have := unhide HNW; omega) (by have := unhide HN12; have := unhide HPL; have := unhide HNQ; omega) (by rw [List.length_drop, List.length_map]; have := unhide HPL; omega)
                  have hbm : ∀ q ∈ [b, pb], ∃ es c, wr.heap[q]? = some (.map es c) := by
                    obtain ⟨_, _, _, _, _, hv9, _⟩ := hv.st
                    intro q hq
                    simp only [List.mem_cons, List.mem_nil_iff, or_false] at hq
                    rcases hq with rfl | rfl
                    · exact hv9.t.r.1.isMap
                    · exact hv9.p.isMap
                  obtain ⟨y1, y2⟩ := y
                  have HUP := hide hup
                  have HBM := hide hbm
                  have HLT := hide hlt
                  have HW1 : Hid (wrap64 ((j : Int) + 1) = ((j + 1 : Nat) : Int)) := by show _ = _; have := unhide HPL; have := unhide HNQ; unfold wrap64; omega
                  clear hlt hy hdr hv hup hbm
                  go_wp2_with fail
                  refine (unhide HUP).mono ?_
                  rintro e w6 ⟨rfl, hf6, g3, hv6⟩
                  have HLQ6 := hide ((unhide HLQ).fm hf6 (by decide) (by decide) (by decide) (by decide) (by decide) (unhide HBM))
                  have HV6 := hide hv6
                  clear hf6 hv6
                  go_wp2_with fail
                  go_roundg (gk - 1)
                  case measure => have := unhide HI2; have := unhide HLT; omega
                  case rel => exact ⟨j + 1, g3, congrArg (Value.int .i64) (unhide HW1), (by have := unhide HI2; have := unhide HLT; show _ = _; omega), unhide HLQ6, unhide HV6⟩
                · have d1 : ¬ (j : Int) < (nq : Int) := by omega
                  have hv := unhide HVW
                  rw [List.drop_eq_nil_of_le (by rw [List.length_map, ← unhide HNQ]; omega)] at hv
                  have s0 := hv.cells
                  have hno := vw_now hv
                  have hlk := vw_like_now hv (unhide HGR) (by have := unhide HNW; omega)
                  have HV9 := hide hv
                  have HNO9 := hide hno
                  have HLK9 := hide hlk
                  clear hv hno hlk hlt
                  go_wp2_with fail
                  refine (unhide HNO9).mono ?_
                  rintro e w6 ⟨rfl, rfl⟩
                  go_wp2_with fail
                  refine (unhide HLK9).mono ?_
                  rintro e w7 ⟨rfl, hb7⟩
                  have hv7 := (unhide HV9).below hb7
                  have s7 := hv7.cells
                  obtain ⟨M, hst, hle⟩ := vw_states hv7 (by have := unhide HNW; omega)
                  have HST := hide hst
                  have HLE := hide hle
                  have HB7 := hide hb7
                  clear hv7 hst hle hb7 s0
                  go_wp2_with fail
                  refine (unhide HST).mono ?_
                  rintro e w8 ⟨rfl, hb8⟩
                  have hln := fun ty => unhide HLE w8 ty hb8
                  have dM : ((M : Int) == (M : Int)) = true := by simp
                  have HB8 := hide hb8
                  clear hb8
                  go_wp2_with fail
                  go_ret
                  exact ⟨rfl, (unhide HLQ).bw.trans ((below_step (unhide HB7) (unhide HB8)).mono (unhide HLQ).sz)⟩
        | cons x rest =>
          obtain ⟨n1, hn1⟩ : ∃ n1, nr = n1 + 1 := ⟨rest.length, unhide HNR⟩
          subst hn1
          obtain ⟨ad, rfl, k0⟩ := QV.at_ (unhide HLQ).qr 0 (.int .i64 x) rfl
          have k0' : wr.cell? ad = some (.int .i64 x) := k0
          have d1 : (0 : Int) < ((n1 : Int) + 1) := by omega
          obtain ⟨A1, hs1, hlq1⟩ := Lq.tail (unhide HLQ)
          replace hs1 := hs1 wr
          obtain ⟨z, hz, hzx, hzh⟩ := ((unhide HRI).2 x).1 (List.mem_cons_self ..)
          obtain ⟨xi, hxi⟩ : ∃ xi : Nat, x = (xi : Int) := ⟨x.toNat, by have := (unhide HWHO z hz).2; rw [hzx] at this; omega⟩
          subst hxi
          have hxN : xi < N := by have := (unhide HWHO z hz).1; rw [hzx] at this; omega
          obtain ⟨wx, hwx⟩ : ∃ z, ws[xi]? = some z := ⟨_, List.getElem?_eq_getElem (by rw [← unhide HN]; exact hxN)⟩
          have HLQ1 := hide hlq1
          have HZ := hide hz
          have HZX := hide hzx
          have HZH := hide hzh
          have HXN := hide hxN
          have HWX := hide hwx
          clear hlq1 hz hzx hzh hxN hwx
          go_upto_region 37 with fail
          clear k0 k0' hs1 d1
          obtain ⟨W1, hW1⟩ : ∃ z, z = wr := ⟨_, rfl⟩
          have hbw1 : Below w.heap.size w wr := by rw [← unhide HBASE]; exact (unhide HLQ).bw
          have hbs := (unhide HB).below hbw1
          have HBS := hide hbs
          clear hbw1 hbs
          go_cut [131] from 114 to 228 (fun v131 wc => ∃ bb : Bool, v131 = .bool bb ∧ wc = wr)
          case first =>
            by_cases hl : k < nl
            · have d1 : (k : Int) < (nl : Int) := by omega
              obtain ⟨ab, bb, rfl, kb⟩ := unhide HBS k hl
              go_wp2_with fail
              go_meet
              exact ⟨bb, rfl, rfl⟩
            · have d1 : ¬ (k : Int) < (nl : Int) := by omega
              go_wp2_with fail
              go_meet
              exact ⟨false, rfl, rfl⟩
          case rest =>
            obtain ⟨bb, rfl, rfl⟩ := hcut
            clear HBS hW1
            go_upto_if 131 with fail
            have HNOWK : Hid (now ≤ k) := (unhide HBD).1
            have HLQ2 : Hid (Lq base L w wc zs1 lv (.slice A1 n1 (cr - 1)) (.slice Aq nq cq) (.slice As ns cs) rest (pl.map fun x => Value.int .i64 x.1) (pl.map fun x => Value.map (some x.2))) := unhide HLQ1
            clear HLQ HLQ1
            go_cut [20, 21] from 114 to 228 (fun v20 v21 wd => ∃ (Aq : Option Addr) (nq cq : Nat) (As : Option Addr) (ns cs : Nat) (pl : List (Int × Nat)), v20 = .slice Aq nq cq ∧ v21 = .slice As ns cs ∧ Hid (pl.length ≤ k + 1) ∧ Hid (Lq base L w wd zs1 lv (.slice A1 n1 (cr - 1)) (.slice Aq nq cq) (.slice As ns cs) rest (pl.map fun x => Value.int .i64 x.1) (pl.map fun x => Value.map (some x.2))) ∧ Hid (VW base S T b pb wm wd (pl.map fun x => x.1) pl g now (mapOf g (now : Int)) (k + 1) (16 * k)))
            case first =>
              cases bb with
              | false =>
                go_wp2_with fail
                go_meet
                exact ⟨Aq, nq, cq, As, ns, cs, pl, rfl, rfl, (by have := (unhide HBD).2; show _ ≤ _; omega), unhide HLQ2, (unhide HVW).mono (by omega) (by omega)⟩
              | true =>
                have hk12 : k ≤ 12 := by have := unhide HKN; have := unhide HN12; omega
                have hpl : (pl.map fun x => x.1).length ≤ 60 := by rw [List.length_map]; have := (unhide HBD).2; omega
                have hpin := hide (vw_pin (unhide HVW) (unhide HLQ2).sz (by omega) hpl (by have := (unhide HBD).1; omega))
                have hpbm : ∃ es c, wc.heap[pb]? = some (.map es c) := by
                  obtain ⟨_, _, _, _, _, hv, _⟩ := (unhide HVW).st
                  exact hv.p.isMap
                have HPBM := hide hpbm
                have HK12 := hide hk12
                have HPLL := hide hpl
                clear hk12 hpl hpbm
                go_wp2_with fail
                refine (unhide hpin).mono ?_
                rintro e w5 ⟨rfl, hf5, hv5⟩
                have hlq5 := (unhide HLQ2).fm hf5 (by decide) (by decide) (by decide) (by decide) (by decide) (fun j hj => by rw [List.mem_singleton.1 hj]; exact unhide HPBM)
                have hll := unhide HPLL
                obtain ⟨A6, c6, w6, hr6, hlq6, hf6⟩ := hlq5.pushPins (now : Int) (by rw [List.length_map] at hll ⊢; omega)
                have hv6 := hv5.fm hf6 (by decide) (by decide) (by decide) (by decide)
                have hcl := hide (vw_clone hv6 (by simp) (by have := unhide HK12; omega))
                have HR6 := hide hr6
                have HLQ6 := hide hlq6
                clear hpin hf5 hv5 hlq5 hll hr6 hlq6 hf6 hv6
                go_wp2_with (at_builtin; refine unhide ?_)
                refine hide ?_
                refine wpList_app rfl (.tmp 139) (.tmp 141) rfl rfl rfl rfl (unhide HR6) ?_
                go_wp2_with fail
                refine (unhide hcl).mono ?_
                rintro e w7 ⟨mb, rfl, hb7, hv7⟩
                have hlq7 := (unhide HLQ6).below hb7
                have hll := unhide HPLL
                obtain ⟨A8, c8, w8, hr8, hlq8, hf8⟩ := hlq7.pushSeen mb (by rw [List.length_map] at hll ⊢; omega)
                have HV8 := hide (hv7.fm hf8 (by decide) (by decide) (by decide) (by decide))
                have HR8 := hide hr8
                have HLQ8 := hide hlq8
                clear hcl hb7 hv7 hlq7 hll hr8 hlq8 hf8
                go_wp2_with (at_builtin; refine unhide ?_)
                refine hide ?_
                refine wpList_app rfl (.tmp 143) (.tmp 146) rfl rfl rfl rfl (unhide HR8) ?_
                go_wp2_with fail
                go_meet
                refine ⟨A6, _, c6, A8, _, c8, pl ++ [((now : Int), mb)], rfl, rfl, (by have := (unhide HBD).2; rw [List.length_append]; show _ + 1 ≤ _; omega), ?_, ?_⟩
                · have h := unhide HLQ8
                  simp only [List.length_map] at h
                  show Lq _ _ _ _ _ _ _ _ _ _ _ _
                  rw [List.map_append, List.map_append]
                  exact h
                · have h := unhide HV8
                  show VW _ _ _ _ _ _ _ _ _ _ _ _ _ _
                  rw [List.map_append]
                  exact h
            case rest =>
              clear HBD HLQ2 HVW
              obtain ⟨Aq, nq, cq, As, ns, cs, pl, rfl, rfl, HPLK, HLQ, HVW⟩ := hcut
              obtain ⟨⟨PA, pn, pc⟩, ps, mk⟩ := wx
              have hbw1 : Below w.heap.size w wc := by rw [← unhide HBASE]; exact (unhide HLQ).bw
              obtain ⟨a0, e0, k0, k1, hlen, hCp⟩ := (unhide HW).below hbw1 xi _ (unhide HWX)
              subst e0
              obtain rfl : pn = ps.length := hlen
              have hsm := unhide HSMA _ (List.mem_of_getElem? (unhide HWX))
              have hps : psOf (xi : Int) = ps := by
                rw [unhide HPS]
                show (match ws[(xi : Int).toNat]? with | some y => y.2.1 | none => []) = _
                rw [Int.toNat_natCast, unhide HWX]
              obtain ⟨m, hm⟩ : ∃ z, z = ps.length := ⟨_, rfl⟩
              rw [← hm] at k0 hCp
              replace k0 : wc.cell? (a0.add (xi * 2)) = some (.slice PA m pc) := k0
              replace k1 : wc.cell? ⟨(a0.add (xi * 2)).block, (a0.add (xi * 2)).off + 1, none⟩ = some (.int .u8 mk) := k1
              have d1 : (xi : Int) < (N : Int) := by have := unhide HXN; omega
              have hCp : Hid (Kd.string.C wc PA m ps) := hCp
              have HM := hide hm
              have HPSX := hide hps
              have HM16 : Hid (m ≤ 16) := by show _ ≤ _; rw [hm]; exact hsm.1
              have HPSZ : Hid (∀ p ∈ ps, p.size ≤ 100) := hsm.2
              have K1 := hide k1
              have K0 := hide k0
              obtain ⟨Wq, hWq⟩ : ∃ z, z = wc := ⟨_, rfl⟩
              clear hbw1 hsm hps hm hWq
              go_wp2_with fail
              clear k0 k1
              obtain ⟨gk1, hgk1⟩ : ∃ z, z = gk := ⟨_, rfl⟩
              have HGK1 := hide hgk1
              clear hgk1
              obtain ⟨Wo, rfl⟩ : ∃ z, z = wc := ⟨_, rfl⟩
              go_loopg [26, 154] m (fun kp v26 v154 wq => ∃ (j : Nat) (Ac : Option Addr) (nc cc : Nat) (chs : List Ch), v26 = .slice Ac nc cc ∧ v154 = .int .i64 (j : Int) ∧ Hid (j + kp = m) ∧ Hid (HR_ wq base (.slice Ac nc cc) chs) ∧ Hid (chs.map (fun c => c.pth) = ps.take j) ∧ Hid (∀ c ∈ chs, c.mrk = mk) ∧ Hid (Fm base [49] [] Wo wq))
              case atStart => exact ⟨0, none, 0, 0, [], rfl, rfl, Nat.zero_add _, HR_.nil _ _, rfl, (fun c hc => by cases hc), Fm.refl _ _ _ _⟩
              case round =>
                obtain ⟨j, Ac, nc, cc, chs, rfl, rfl, HI2, HHR, HCM, HMK, HFO⟩ := hrel
                have hlq := (unhide HLQ).fm (unhide HFO) (by decide) (by decide) (by decide) (by decide) (by decide) (fun q hq => by cases hq)
                have hbo : Below w.heap.size w wr := by rw [← unhide HBASE]; exact hlq.bw
                by_cases hlt : j < m
                · have d2 : (j : Int) < (m : Int) := by omega
                  have HLT := hide hlt
                  obtain ⟨a0', e0, k0, k1, _, hCq⟩ := (unhide HW).below hbo xi _ (unhide HWX)
                  cases e0
                  replace k1 : wr.cell? ⟨(a0.add (xi * 2)).block, (a0.add (xi * 2)).off + 1, none⟩ = some (.int .u8 mk) := k1
                  obtain ⟨ap, e1, kp⟩ := Kd.at_string (show Kd.string.C wr PA m ps by rw [unhide HM]; exact hCq) (j : Int) (by omega) d2
                  subst e1
                  rw [Int.toNat_natCast] at kp
                  have hpk := rd_get (l := ps) (j := j) (by rw [← unhide HM]; exact hlt)
                  obtain ⟨p, hp⟩ : ∃ z, z = rdOf ByteArray.empty ps (j : Int) := ⟨_, rfl⟩
                  rw [← hp] at kp hpk
                  have hho := holder_ok L base lv zs1 p wr hlq.lk hlq.lr (by have := unhide HZK; have := unhide HKN; have := unhide HN12; omega)
                  have hz := unhide HZ
                  have hpx : p ∈ psOf z.1.1 := by rw [unhide HZX, unhide HPSX]; exact List.mem_of_getElem? hpk
                  have HHO := hide hho
                  have HPK := hide hpk
                  have HPX := hide hpx
                  have HLQR := hide hlq
                  have HW1 : Hid (wrap64 ((j : Int) + 1) = ((j + 1 : Nat) : Int)) := by show _ = _; have := unhide HM16; unfold wrap64; omega
                  clear hlq hbo hlt k0 hCq hp hpk hho hz hpx
                  go_wp2_with fail
                  refine (unhide HHO).mono ?_
                  rintro e w5 ⟨⟨r, bq, hd, rfl⟩, hb5⟩
                  obtain ⟨hr, hbq⟩ := (unhide HLI).held (unhide HZ) (unhide HZH) (unhide HPX) hd
                  rw [unhide HZX] at hr
                  subst hr hbq
                  have hsz5 : base ≤ w5.heap.size := Nat.le_trans (unhide HLQR).sz hb5.size
                  have k1' : w5.cell? ⟨(a0.add (xi * 2)).block, (a0.add (xi * 2)).off + 1, none⟩ = some (.int .u8 mk) := pw_cell_below hb5 k1
                  have ha6 := below_alloc (Below.refl w5.heap.size w5) (.cells #[.int .u8 mk] 5)
                  have hdr : DR (w5.alloc (.cells #[.int .u8 mk] 5)) base (some ⟨w5.heap.size, 0, none⟩, 1, 1) mk := World.ownsRow_lit w5 #[.int .u8 mk] 1 hsz5 (by decide) rfl
                  have hhr := ((unhide HHR).below hb5).below ha6
                  have hncL : nc = chs.length := by
                    obtain ⟨_, _, e, _⟩ := hhr.slice
                    injection e
                  have hcl : chs.length = j := by
                    have := congrArg List.length (unhide HCM)
                    rw [List.length_map, List.length_take, ← unhide HM] at this
                    have := unhide HLT
                    omega
                  obtain ⟨g7, c7, w7, hr7, hh7, hg7, _⟩ := hhr.append (by rw [World.size_alloc]; omega) (by have := unhide HM16; have := unhide HLT; omega) ⟨p, (some ⟨w5.heap.size, 0, none⟩, 1, 1), mk⟩ hdr
                  dsimp only [slv] at hr7
                  simp only [World.size_alloc] at hr7
                  have hf7 : Fm base [49] [] Wo w7 := ((unhide HFO).trans (Fm.of_below hb5 (unhide HLQR).sz)).trans ((Fm.of_below ha6 hsz5).trans (Fm.grown hg7 (by rw [World.size_alloc]; omega) (fun q hq => by
                    obtain ⟨h1, cells, hc⟩ := hhr.typed q hq
                    exact ⟨h1, .inr ⟨cells, 49, _, hc, by simp⟩⟩)))
                  have HR7 := hide hr7
                  have HH7 := hide hh7
                  have HF7 := hide hf7
                  have dX : ((xi : Int) == (xi : Int)) = true := by simp
                  clear hd hb5 hsz5 k1 ha6 hdr hhr hncL hcl hr7 hh7 hg7 hf7 kp
                  go_wp2_with (at_builtin; refine unhide ?_)
                  refine hide ?_
                  refine wpList_app rfl (.tmp 171) (.tmp 180) rfl rfl rfl rfl (unhide HR7) ?_
                  go_wp2_with fail
                  go_roundg (gk - 1)
                  case measure => have := unhide HI2; have := unhide HLT; omega
                  case rel =>
                    refine ⟨j + 1, _, _, c7, chs ++ [(⟨p, (some ⟨w5.heap.size, 0, none⟩, 1, 1), mk⟩ : Ch)], rfl, congrArg (Value.int .i64) (unhide HW1), (by have := unhide HI2; have := unhide HLT; show _ = _; omega), unhide HH7, ?_, ?_, unhide HF7⟩
                    · show _ = _
                      rw [List.map_append, unhide HCM, take_mem_snoc (unhide HPK)]
                      rfl
                    · intro c hc
                      rcases List.mem_append.1 hc with hc | hc
                      · exact unhide HMK c hc
                      · rw [List.mem_singleton.1 hc]
                · have d2 : ¬ (j : Int) < (m : Int) := by omega
                  have hcm := unhide HCM
                  rw [List.take_of_length_le (by rw [← unhide HM]; omega)] at hcm
                  have HCMA := hide hcm
                  have HLQR := hide hlq
                  have hvr := (unhide HVW).fm (unhide HFO) (by decide) (by decide) (by decide) (by decide)
                  have HVR := hide hvr
                  have HGR := hide ((unhide HG).below hbo)
                  have hclen : chs.length = m := by
                    have := congrArg List.length hcm
                    rw [List.length_map, ← unhide HM] at this
                    exact this
                  have hncL : nc = chs.length := by
                    obtain ⟨_, _, e, _⟩ := (unhide HHR).slice
                    injection e
                  have HCL := hide hclen
                  have HNC := hide hncL
                  have hcps : ∀ c ∈ chs, c.pth.size ≤ 10000 := fun c hc => by
                    have h1 : c.pth ∈ ps := by rw [← hcm]; exact List.mem_map.2 ⟨c, hc, rfl⟩
                    have := unhide HPSZ _ h1
                    omega
                  have HCPS := hide hcps
                  have hck := vw_check hvr ((unhide HG).below hbo) (by have := unhide HNOWK; have := unhide HKN; have := unhide HN12; omega) chs Ac cc (by rw [← hncL]; exact unhide HHR) (by rw [hclen]; have := unhide HM16; omega) hcps
                  rw [← hncL] at hck
                  have HCK := hide hck
                  have s0 := hvr.cells
                  clear hlq hbo hlt hcm hvr hclen hncL hcps hck HFO HCM
                  go_upto_region 52 with fail
                  go_cut [189] from 114 to 228 (fun v189 wd => ∃ bb : Bool, v189 = .bool bb ∧ Hid (bb = true → ∀ ls, Lists g (now : Int) ls → CanL (chs.map fun c => c.pth) ls) ∧ Hid (Below wr.heap.size wr wd))
                  case first =>
                    go_wp2_with fail
                    refine (unhide HCK).mono ?_
                    rintro e w5 ⟨⟨vv, rfl, hvv⟩, hb5⟩
                    have HB5 := hide hb5
                    clear hb5
                    rcases hvv with ⟨rfl, hcan⟩ | ⟨gg, rfl⟩
                    · have HCAN := hide hcan
                      clear hcan
                      go_wp2_with fail
                      go_meet
                      exact ⟨true, rfl, fun _ => unhide HCAN, unhide HB5⟩
                    · go_wp2_with fail
                      go_meet
                      exact ⟨false, rfl, (fun h => by cases h), unhide HB5⟩
                  case rest =>
                    obtain ⟨bb, rfl, HCAN, HBC⟩ := hcut
                    have HLQ3 := hide ((unhide HLQR).below (unhide HBC))
                    have HV3 := hide ((unhide HVR).below (unhide HBC))
                    have HHR3 := hide ((unhide HHR).below (unhide HBC))
                    have HG3 := hide ((unhide HGR).below (unhide HBC))
                    clear HLQ HVW HLQR HVR HHR HGR HCK s0 HBC
                    go_upto_if 189 with fail
                    go_cut [] from 114 to 228 (fun we => ∃ (g2 : ByteArray → List St) (now2 : Nat), Hid (now2 ≤ k + 1) ∧ Hid (Lq base L w we zs1 lv (.slice A1 n1 (cr - 1)) (.slice Aq nq cq) (.slice As ns cs) rest (pl.map fun x => Value.int .i64 x.1) (pl.map fun x => Value.map (some x.2))) ∧ Hid (VW base S T b pb wm we (pl.map fun x => x.1) pl g2 now2 (mapOf g2 (now2 : Int)) (k + 1) (16 * k + 16)))
                    case first =>
                      cases bb with
                      | false =>
                        go_wp2_with fail
                        go_meet
                        exact ⟨g, now, (by have := unhide HNOWK; show _ ≤ _; omega), unhide HLQ3, (unhide HV3).mono (Nat.le_refl _) (by omega)⟩
                      | true =>
                        have hkk : k ≤ 12 := by have := unhide HKN; have := unhide HN12; omega
                        have hco := vw_commit (unhide HV3) (unhide HLQ3).sz (unhide HG3) (by have := unhide HNOWK; omega) (by omega) chs Ac cc mk (by rw [← unhide HNC]; exact unhide HHR3) (by rw [unhide HCL]; have := unhide HM16; omega) (unhide HCPS) (unhide HMK) (unhide HCAN rfl)
                        rw [← unhide HNC] at hco
                        have HCO := hide hco
                        have HKK := hide hkk
                        have hbm : ∃ es c, wc.heap[b]? = some (.map es c) := by
                          obtain ⟨_, _, _, _, _, hv, _⟩ := (unhide HV3).st
                          exact hv.t.r.1.isMap
                        have HBM := hide hbm
                        clear hkk hco hbm
                        go_wp2_with fail
                        refine (unhide HCO).mono ?_
                        rintro e w5 ⟨rfl, hf5, g2, hv5, hw5⟩
                        have hlq5 := (unhide HLQ3).fm hf5 (by decide) (by decide) (by decide) (by decide) (by decide) (fun q hq => by rw [List.mem_singleton.1 hq]; exact unhide HBM)
                        have hbo5 : Below w.heap.size w w5 := by rw [← unhide HBASE]; exact hlq5.bw
                        obtain ⟨a0', e0, k0, k1, _, _⟩ := (unhide HW).below hbo5 xi _ (unhide HWX)
                        cases e0
                        replace k0 : w5.cell? (a0.add (xi * 2)) = some (.slice PA ps.length pc) := k0
                        rw [← unhide HM] at k0
                        have HLQ5 := hide hlq5
                        have HV5 := hide hv5
                        have HW5 := hide hw5
                        clear hf5 hv5 hw5 hlq5 hbo5 k1 HCO
                        go_wp2_with fail
                        clear k0
                        go_loopg [204] m (fun kp v204 wq => ∃ (j : Nat) (Wf : ByteArray → Option Value), v204 = .int .i64 (j : Int) ∧ Hid (j + kp = m) ∧ Hid (Lq base L w wq zs1 lv (.slice A1 n1 (cr - 1)) (.slice Aq nq cq) (.slice As ns cs) rest (pl.map fun x => Value.int .i64 x.1) (pl.map fun x => Value.map (some x.2))) ∧ Hid (VW base S T b pb wm wq (pl.map fun x => x.1) pl g2 (now + 1) Wf (k + 1) (16 * k + j)) ∧ Hid (∀ p, (p ∈ ps.take j → Wf p = some (.int .u8 mk)) ∧ (p ∉ ps.take j → Wf p = mapOf g (now : Int) p)))
                        case atStart => exact ⟨0, _, rfl, Nat.zero_add _, unhide HLQ5, unhide HV5, fun p => ⟨fun h => by simp at h, fun _ => rfl⟩⟩
                        case round =>
                          obtain ⟨j2, Wf, rfl, HI5, HLQ6, HV6, HWF⟩ := hrel
                          by_cases hlt : j2 < m
                          · have d2 : (j2 : Int) < (m : Int) := by omega
                            have HLT := hide hlt
                            have hbo : Below w.heap.size w wr := by rw [← unhide HBASE]; exact (unhide HLQ6).bw
                            obtain ⟨a0', e0, _, k1, _, hCq⟩ := (unhide HW).below hbo xi _ (unhide HWX)
                            cases e0
                            replace k1 : wr.cell? ⟨(a0.add (xi * 2)).block, (a0.add (xi * 2)).off + 1, none⟩ = some (.int .u8 mk) := k1
                            obtain ⟨ap, e1, kp⟩ := Kd.at_string (show Kd.string.C wr PA m ps by rw [unhide HM]; exact hCq) (j2 : Int) (by omega) d2
                            subst e1
                            rw [Int.toNat_natCast] at kp
                            have hpk := rd_get (l := ps) (j := j2) (by rw [← unhide HM]; exact hlt)
                            obtain ⟨p, hp⟩ : ∃ z, z = rdOf ByteArray.empty ps (j2 : Int) := ⟨_, rfl⟩
                            rw [← hp] at kp hpk
                            have hpz := unhide HPSZ p (List.mem_of_getElem? hpk)
                            obtain ⟨w7, hr7, hf7, hv7⟩ := vw_put (unhide HV6) (unhide HLQ6).sz (by have := unhide HKK; have := unhide HM16; omega) p (by omega) (.int .u8 mk)
                            have hwmm : ∃ es c, wr.heap[wm]? = some (.map es c) := by
                              obtain ⟨_, _, _, _, _, _, _, _, _, _, hm9, _⟩ := (unhide HV6).st
                              exact hm9.isMap
                            have HLQ7 := hide ((unhide HLQ6).fm hf7 (by decide) (by decide) (by decide) (by decide) (by decide) (fun q hq => by rw [List.mem_singleton.1 hq]; exact hwmm))
                            have HV7 := hide hv7
                            have HPK := hide hpk
                            have HW7 : Hid (∀ q, (q ∈ ps.take (j2 + 1) → upd Wf p (some (.int .u8 mk)) q = some (.int .u8 mk)) ∧ (q ∉ ps.take (j2 + 1) → upd Wf p (some (.int .u8 mk)) q = mapOf g (now : Int) q)) := fun q => by
                              rw [take_mem_snoc (unhide HPK)]
                              by_cases e : q = p
                              · subst e
                                rw [upd_same]
                                exact ⟨fun _ => rfl, fun h => absurd (List.mem_append_right _ (List.mem_singleton.2 rfl)) h⟩
                              · rw [upd_other e]
                                refine ⟨fun hq => (unhide HWF q).1 ?_, fun hq => (unhide HWF q).2 (fun h2 => hq (List.mem_append_left _ h2))⟩
                                rcases List.mem_append.1 hq with hq | hq
                                · exact hq
                                · exact absurd (List.mem_singleton.1 hq) e
                            have HW1 : Hid (wrap64 ((j2 : Int) + 1) = ((j2 + 1 : Nat) : Int)) := by show _ = _; have := unhide HM16; unfold wrap64; omega
                            clear hbo hCq hp hpk hpz hf7 hv7 hwmm hlt
                            go_wp2_with fail
                            go_roundg (gk - 1)
                            case measure => have := unhide HI5; have := unhide HLT; omega
                            case rel => exact ⟨j2 + 1, _, congrArg (Value.int .i64) (unhide HW1), (by have := unhide HI5; have := unhide HLT; show _ = _; omega), unhide HLQ7, unhide HV7, unhide HW7⟩
                          · have d2 : ¬ (j2 : Int) < (m : Int) := by omega
                            have hwf : Wf = mapOf g2 ((now + 1 : Nat) : Int) := by
                              funext p
                              have h1 := unhide HWF p
                              rw [List.take_of_length_le (by rw [← unhide HM]; omega)] at h1
                              have h2 := unhide HW5 p
                              rw [unhide HCMA] at h2
                              by_cases e : p ∈ ps
                              · rw [h1.1 e, h2.1 e]
                              · rw [h1.2 e, h2.2 e]
                            have hv8 := unhide HV6
                            rw [hwf] at hv8
                            have HV8 := hide (hv8.mono (kp' := k + 1) (kw' := 16 * k + 16) (Nat.le_refl _) (by have := unhide HI5; have := unhide HM16; omega))
                            clear hwf hv8 hlt
                            go_wp2_with fail
                            go_meet
                            exact ⟨g2, now + 1, (by have := unhide HNOWK; show _ ≤ _; omega), unhide HLQ6, unhide HV8⟩
                    case rest =>
                      clear HLQ3 HV3 HHR3 HG3 HCAN
                      obtain ⟨g2, now2, HN2, HLQ, HVW⟩ := hcut
                      have hzl : zs1.length ≤ 64 := by have := unhide HZK; have := unhide HKN; have := unhide HN12; omega
                      have hre := release_ok L base lv zs1 (xi : Int) wc (unhide HLQ).lk (unhide HLQ).lr (unhide HLQ).hL (unhide HLQ).sz hzl (unhide HLI).ok
                      have HRE := hide hre
                      have HWK : Hid (wrap64 ((k : Int) + 1) = ((k + 1 : Nat) : Int)) := by show _ = _; have := unhide HKN; have := unhide HN12; unfold wrap64; omega
                      clear hre hzl
                      go_wp2_with fail
                      refine (unhide HRE).mono ?_
                      rintro e w5 ⟨hf5, hs5⟩
                      rcases hs5 with ⟨hno, _⟩ | ⟨k5, v5, u5, hk5, hw5, _, rfl, hL5, hR5, hI5⟩
                      · exact absurd (unhide HZX) (hno z (unhide HZ))
                      obtain ⟨hLI5, hRI5⟩ := (unhide HLI).release hk5 hw5 (unhide HRI)
                      obtain ⟨ys, hys⟩ : ∃ z, z = readies (zs1.eraseIdx k5) (zs1.length - 1) := ⟨_, rfl⟩
                      obtain ⟨zs2, hzs2⟩ : ∃ z, z = marks (zs1.eraseIdx k5) (zs1.length - 1) := ⟨_, rfl⟩
                      rw [← hys] at hRI5 hI5
                      rw [← hzs2] at hLI5 hRI5 hR5
                      obtain ⟨A6, c6, rfl, _⟩ := hI5.slice
                      obtain ⟨n6, hn6⟩ : ∃ z, z = ys.length := ⟨_, rfl⟩
                      rw [← hn6] at hI5 ⊢
                      have hz2l : zs2.length = zs1.length - 1 := by rw [hzs2, marks_len, List.length_eraseIdx_of_lt hk5]
                      have hz1p : 0 < zs1.length := by omega
                      have hwho2 : ∀ z ∈ zs2, z.1.1 < (N : Int) ∧ 0 ≤ z.1.1 := by
                        intro y hy
                        rw [hzs2] at hy
                        obtain ⟨j3, y3, hy3, rfl⟩ := (marks_mem (by rw [List.length_eraseIdx_of_lt hk5])).1 hy
                        exact unhide HWHO y3 (List.mem_of_mem_eraseIdx (List.mem_of_getElem? hy3))
                      have hlq5 := (unhide HLQ).locks hf5 hL5 hR5
                      have hv5 := (unhide HVW).fm (Fm.fr (ms := []) hf5) (by decide) (by decide) (by decide) (by decide)
                      have hrl : rest.length ≤ 100 := by
                        have := (unhide HRI).le
                        have h2 : rest.length + 1 ≤ zs1.length := this
                        have := unhide HZK
                        have := unhide HKN
                        have := unhide HN12
                        omega
                      have hyl : ys.length ≤ 100 := by
                        have := readies_len (zs1.eraseIdx k5) (zs1.length - 1)
                        rw [← hys] at this
                        have := unhide HZK
                        have := unhide HKN
                        have := unhide HN12
                        omega
                      obtain ⟨A7, c7, w7, hr7, hlq7, hf7⟩ := hlq5.more wc.heap.size ys hI5 (by omega)
                      have HV7 := hide (hv5.fm hf7 (by decide) (by decide) (by decide) (by decide))
                      have HR7 := hide hr7
                      have HLQ7 := hide hlq7
                      have HLI7 := hide hLI5
                      have HRI7 := hide hRI5
                      have HZ2 := hide hz2l
                      have HZ1P := hide hz1p
                      have HWHO7 := hide hwho2
                      clear hf5 hk5 hw5 hL5 hR5 hI5 hLI5 hRI5 hys hzs2 hn6 hz2l hz1p hwho2 hlq5 hv5 hrl hyl hr7 hlq7 hf7
                      go_wp2_with (at_builtin; refine unhide ?_)
                      refine hide ?_
                      refine wpList_app rfl (.tmp 224) (.tmp 225) rfl rfl rfl rfl (unhide HR7) ?_
                      go_wp2_with fail
                      go_roundg (gkL - 1)
                      case measure => have := unhide HZK; have := unhide HZ1P; omega
                      case rel => exact ⟨k + 1, A7, _, c7, Aq, nq, cq, As, ns, cs, zs2, v5, rest ++ ys, pl, g2, now2, rfl, rfl, rfl, congrArg (Value.int .i64) (unhide HWK), (by have := unhide HZ2; have := unhide HZK; show _ = _; omega), (by have := unhide HKN; have := unhide HZ1P; have := unhide HZK; show _ = _; omega), ⟨unhide HN2, unhide HPLK⟩, unhide HLI7, unhide HWHO7, unhide HRI7, unhide HLQ7, (unhide HV7).mono (Nat.le_refl _) (by omega)⟩
end Go.Proofs.YtgoephcembgmcaaGreatDoor.G
namespace Go.Proofs.YtgoephcembgmcaaGreatDoor.G
open Go.RowKit Go.ChangeShapes Go.WideShapes Go.ChangeAt Go.Deep Go.Proofs.YtgoephcembgmcaaGreatDoorW.PrintWords
/-! The arguments opened: the writers, the looks. -/
section
variable {H : Type} {enc : TypeId × Value → H} {W : World} {base : Nat} {fuel : Nat}
theorem strs_of {v : Value} {x : DataW H × List MemPlace} (h : DataW.trod enc Tryz.prog W base (fun _ => true) true fuel 36 [v] = some x) : ∃ (s : Sc) (ps : List ByteArray), v = slv s ∧ s.2.1 = ps.length ∧ Kd.string.C W s.1 ps.length ps := by
  rcases open_strs Tryz.underlying36 Tryz.underlying9 (by kernel_rfl) h with ⟨hcs, _⟩ | ⟨a, len, cap, m, Sx, hcs, _, hl, hm, hmm, _, hi⟩
  · simp at hcs
    subst hcs
    exact ⟨(none, 0, 0), [], rfl, rfl, Kd.C_nil _ _⟩
  · simp at hcs
    subst hcs
    have hmc : m = cap := by simpa using hmm
    have hlen : ((List.range len).map Sx).length = len := by simp
    refine ⟨(some a, len, cap), (List.range len).map Sx, rfl, hlen.symm, ?_⟩
    rw [hlen]
    refine Kd.C_of_reads (d := ByteArray.empty) (h1 := fun _ => rfl) ⟨hlen, by simp only [maxLen] at hm; omega, fun _ => ⟨a, rfl, fun j hj => ?_⟩⟩
    rw [(hi j (by omega)).1]
    congr 1
    rw [List.getD_eq_getElem?_getD, List.getElem?_map, List.getElem?_range hj]
    rfl
set_option maxRecDepth 100000 in
theorem writer_of {cs : List Value} {x : DataW H × List MemPlace} (hl : cs.length = 2) (h : DataW.trod enc Tryz.prog W base (fun _ => true) true fuel 38 cs = some x) : ∃ y : Wt, cs = [slv y.1, .int .u8 y.2.2] ∧ y.1.2.1 = y.2.1.length ∧ Kd.string.C W y.1.1 y.2.1.length y.2.1 := by
  obtain ⟨xs, n, _, _, _, hx, hf⟩ := DataW.trod_struct Tryz.underlying38 h
  have c36 : Tryz.prog.cellsOf 36 = 1 := by kernel_rfl
  have c5 : Tryz.prog.cellsOf 5 = 1 := by kernel_rfl
  match xs, hx with
  | [y0, y1], _ =>
    have g0 := hf 0 _ rfl
    have g1 := hf 1 _ rfl
    simp only [c36, c5, List.getElem?_cons_zero, List.getElem?_cons_succ] at g0 g1
    rcases cs with _ | ⟨v0, _ | ⟨v1, r⟩⟩
    · exact absurd hl (by decide)
    · exact absurd hl (by simp)
    · obtain rfl : r = [] := by
        rcases r with _ | ⟨v2, r⟩
        · rfl
        · exact absurd hl (by simp)
      obtain ⟨s, ps, e0, h1, h2⟩ := strs_of (v := v0) g0
      obtain ⟨z, e1, _⟩ := DataW.trod_int Tryz.underlying5 g1
      have f1 : v1 = .int .u8 z := (List.cons.inj (show [v1] = [Value.int .u8 z] from e1)).1
      exact ⟨(s, ps, z), by rw [e0, f1], h1, h2⟩
set_option maxRecDepth 100000 in
theorem writers_of {a : Option Addr} {len cap : Nat} {x : DataW H × List MemPlace} (h : DataW.trod enc Tryz.prog W base (fun _ => true) true fuel 22 [.slice a len cap] = some x) : ∃ ws : List Wt, len = ws.length ∧ Ws W a ws := by
  rcases open_slice Tryz.underlying22 h with ⟨hcs, _⟩ | ⟨ad, l, c, m, n, D, Pl, hcs, _, hl, hm, hmm, _, hi⟩
  · simp at hcs
    obtain ⟨rfl, rfl, rfl⟩ := hcs
    exact ⟨[], rfl, fun i x h => by simp at h⟩
  · simp at hcs
    obtain ⟨rfl, rfl, rfl⟩ := hcs
    have hmc : m = cap := by simpa using hmm
    have c38 : Tryz.prog.cellsOf 38 = 2 := by kernel_rfl
    have each : ∀ i, i < len → ∃ y : Wt, W.cell? (ad.add (i * 2)) = some (slv y.1) ∧ W.cell? ⟨(ad.add (i * 2)).block, (ad.add (i * 2)).off + 1, none⟩ = some (.int .u8 y.2.2) ∧ y.1.2.1 = y.2.1.length ∧ Kd.string.C W y.1.1 y.2.1.length y.2.1 := by
      intro i hlt
      obtain ⟨cs', h1, h2⟩ := hi i (by omega)
      rw [c38] at h1
      obtain ⟨_, hlen, hcell⟩ := World.cells?_some h1
      obtain ⟨y, rfl, hy1, hy2⟩ := writer_of hlen h2
      exact ⟨y, hcell 0 (by omega), hcell 1 (by omega), hy1, hy2⟩
    have all : ∀ k, k ≤ len → ∃ ws : List Wt, ws.length = k ∧ ∀ i x, ws[i]? = some x → W.cell? (ad.add (i * 2)) = some (slv x.1) ∧ W.cell? ⟨(ad.add (i * 2)).block, (ad.add (i * 2)).off + 1, none⟩ = some (.int .u8 x.2.2) ∧ x.1.2.1 = x.2.1.length ∧ Kd.string.C W x.1.1 x.2.1.length x.2.1 := by
      intro k
      induction k with
      | zero => exact fun _ => ⟨[], rfl, fun i y h => by simp at h⟩
      | succ k ih =>
        intro hk
        obtain ⟨ws, g1, g2⟩ := ih (by omega)
        obtain ⟨y, hy⟩ := each k (by omega)
        refine ⟨ws ++ [y], by rw [List.length_append, g1]; rfl, fun i z hz => ?_⟩
        by_cases hik : i < ws.length
        · rw [List.getElem?_append_left hik] at hz
          exact g2 i z hz
        · have hi2 : i = k := by
            have := (List.getElem?_eq_some_iff.1 hz).1
            rw [List.length_append, List.length_singleton] at this
            omega
          subst hi2
          rw [List.getElem?_append_right (by omega), g1, Nat.sub_self] at hz
          obtain rfl := Option.some.inj hz
          exact hy
    obtain ⟨ws, g1, g2⟩ := all len (Nat.le_refl _)
    exact ⟨ws, g1.symm, fun i x hx => ⟨ad, rfl, g2 i x hx⟩⟩
theorem looks_of {a : Option Addr} {len cap : Nat} {x : DataW H × List MemPlace} (h : DataW.trod enc Tryz.prog W base (fun _ => true) true fuel 23 [.slice a len cap] = some x) : Bs W a len := by
  rcases open_bools Tryz.underlying23 Tryz.underlying4 (by kernel_rfl) h with ⟨hcs, _⟩ | ⟨ad, l, c, B, hcs, _, hl, hm, _, hi⟩
  · simp at hcs
    obtain ⟨rfl, rfl, rfl⟩ := hcs
    exact fun i hi => absurd hi (Nat.not_lt_zero _)
  · simp at hcs
    obtain ⟨rfl, rfl, rfl⟩ := hcs
    exact fun i hlt => ⟨ad, B i, rfl, hi i (by omega)⟩
end
end Go.Proofs.YtgoephcembgmcaaGreatDoor.G
namespace Go.Proofs.YtgoephcembgmcaaGreatDoor.wholeWriters
open Go.ChangeShapes Go.WideShapes Go.ChangeAt Go.RowKit
open Go.ChangeMaps (open_string shut_string)
open Go.Proofs.YtgoephcembgmcaaGreatDoorW.PrintWords
theorem own : ownKnob Tryz.prog.godebug = none := by kernel_rfl
theorem laidOut : laidOutB Tryz.prog = true := by kernel_rfl
abbrev laidS : List (String × DataW Unit) := [("unicode/utf8.acceptRanges", Rows.laid_unicode_utf8_acceptRanges), ("unicode/utf8.first", Rows.laid_unicode_utf8_first)]
/-- The world's shape handed on beside the row's condition on the listed variables. -/
theorem change_and_shaped {H : Type} {enc : TypeId × Value → H} {a : Assume} {C : Checked} {os : Os} {f : FuncId} {fn : Func} {s : ChangeSpec} {conds : List PathCond} {apart fresh handsOn again : Bool} {X : World → Array Value → Prop}
    (hX : ∀ (w w' : World) (args : Array Value), w.heap = w'.heap → X w args → X w' args) (own : ownKnob C.prog.godebug = none) (started : os.Started) (noInit : C.prog.inits.idxOf? f = none) (hfn : C.prog.funcs[f]? = some fn)
    (witness : ∃ (w : World) (tape : Tape) (i : Input), w.os = os ∧ (w.forCall tape i).Shaped C.prog ∧ i.vars = [] ∧ Input.okWide C.prog (w.forCall tape i) .any w.heap.size f i ∧
      ((s.pre enc C.prog fn conds apart (w.forCall tape i).memory i.args ∧ X (w.forCall tape i).memory i.args) ∧ sizedMet enc C.prog fn (OpenSpec.ofChange s) apart (w.forCall tape i).memory i.args) ∧ a.holds C.prog (lone (Frame.enter C.prog f i.args .normal) [] (w.forCall tape i)))
    (contract : ∀ (W : World) (base : Nat) (args : Array Value) (ds gs : List (DataW H)) (before : List MemPlace),
      (∀ (j : Nat) t v, fn.params[j]? = some t → args[j]? = some v → Value.okWide C.prog W .any base t v) → DataW.Whole enc C.prog fn.params.toList s.vars apart W args.toList ds gs before → X W args → W.ShapedOpen C.prog →
      Calls C.prog f args W fun e W' => ∃ v, e = .returned v ∧ s.post enc C.prog fn apart fresh handsOn again W args v W') :
    ReturnsInHanded a C os f .any (fun w args => (s.pre enc C.prog fn conds apart w args ∧ X w args) ∧ sizedMet enc C.prog fn (OpenSpec.ofChange s) apart w args) (s.post enc C.prog fn apart fresh handsOn again) := by
  refine returnsInHanded_of_calls own started noInit witness ?_
  intro w tape i _ hsh _ hok hpre _
  obtain ⟨_, _, _, fn', hfn', _, _, _, _, hval⟩ := hok
  obtain rfl : fn' = fn := Option.some.inj (hfn'.symm.trans hfn)
  obtain ⟨⟨⟨ds, gs, before, hw, _⟩, hx⟩, _⟩ := hpre
  refine (contract (w.forCall tape i) w.heap.size i.args ds gs before hval (DataW.Whole.of_heap (w' := w.forCall tape i) (by rfl) hw) (hX _ _ _ (by rfl) hx) hsh).mono fun e W' ⟨v, he, hp⟩ => ?_
  subst he
  exact ChangeSpec.post_blind hp
/-- What the world's shape gives: the library's variable. -/
theorem glob_of {W : World} (hs : W.ShapedOpen Tryz.prog) : G.Glob W :=
  cell_of_shapedOpen_int (zero := #[.int .i64 0]) (t := 3) hs (of_decide_eq_true (by kernel_rfl)) (by kernel_rfl) rfl (by kernel_rfl) (by kernel_rfl) Tryz.underlying3
set_option maxRecDepth 100000 in
theorem lifted (os : Os) (started : os.Started) (H : Type) (enc : TypeId × Value → H) :
    ReturnsInHanded {} Tryz.checked os 3 .any (fun w args => (Rows.wholeWritersSpec.pre enc Tryz.prog Tryz.f3 [] false w args ∧ laidMetH Tryz.prog laidS w) ∧ sizedMet enc Tryz.prog Tryz.f3 (OpenSpec.ofChange Rows.wholeWritersSpec) false w args)
      (Rows.wholeWritersSpec.post enc Tryz.prog Tryz.f3 false true false false) := by
  refine change_and_shaped (C := Tryz.checked) (X := fun w _ => laidMetH Tryz.prog laidS w) (fun _ _ _ hh h => h.of_heap hh) own started (by kernel_rfl) Tryz.func3
    (ChangeSpec.witness_shaped (enc := enc) (C := Tryz.checked) (os := os) (X := fun w _ => laidMetH Tryz.prog laidS w) false (World.laidAll Tryz.prog os laidS) #[.slice none 0 0, .slice none 0 0] 8 (World.laidAll_os _ _ _)
      (World.shaped_of_ZipB (by kernel_rfl) (by kernel_rfl)) (by kernel_rfl) (by kernel_rfl) (by kernel_rfl)
      (by rw [MakeChecks.laidMetH_plain _ _ _ (by kernel_rfl)]; exact laidMet_laidAll _ (by kernel_rfl) (by kernel_rfl))) ?_
  intro W base args ds gs before hval0 hW hL hSh
  have hval : ∀ (j : Nat) t v, Tryz.f3.params[j]? = some t → args[j]? = some v → Value.okWide Tryz.prog W .any base t v := hval0
  have hW' := hW
  obtain ⟨p, q, hA0, hV, rfl, hfz, hnd⟩ := hW
  have hA : DataW.TrodAll enc Tryz.prog W 0 (fun _ => true) true Tryz.f3.params.toList args.toList ds p := hA0
  rw [Tryz.params3] at hA hval
  obtain ⟨v0, vs0, d0, ds0, p0, q0, hargs, rfl, rfl, h0, r0⟩ := trodAll_cons hA
  obtain ⟨v1, vs1, d1, ds1, p1, q1, rfl, rfl, rfl, h1, r1⟩ := trodAll_cons r0
  obtain ⟨rfl, rfl, rfl⟩ := trodAll_nil r1
  obtain rfl : args = #[v0, v1] := by cases args; simp_all
  obtain ⟨rfl, rfl⟩ := trodVars_none hV
  obtain ⟨a0, len0, cap0, rfl⟩ := okWide_slice Tryz.underlying22 (hval 0 22 v0 rfl rfl)
  obtain ⟨a1, len1, cap1, rfl⟩ := okWide_slice Tryz.underlying23 (hval 1 23 v1 rfl rfl)
  have k0 := h0
  have k1 := h1
  have lt0 : ∀ x ∈ p0, x.block < W.heap.size := by obtain ⟨m, hm⟩ := k0; exact DataW.trod_lt m _ _ _ hm
  have lt1 : ∀ x ∈ p1, x.block < W.heap.size := by obtain ⟨m, hm⟩ := k1; exact DataW.trod_lt m _ _ _ hm
  obtain ⟨ws, rfl, hWs⟩ : ∃ ws : List G.Wt, len0 = ws.length ∧ G.Ws W a0 ws := by
    obtain ⟨fuel, hf⟩ := h0
    exact G.writers_of hf
  have hBs : G.Bs W a1 len1 := by
    obtain ⟨fuel, hf⟩ := h1
    exact G.looks_of hf
  have hglob := glob_of hSh
  clear hA0 hval0
  refine (G.law_any a0 cap0 ws a1 len1 cap1 W hglob hWs hBs).mono fun e W' ⟨he, bel⟩ => ?_
  subst he
  exact ⟨_, rfl, _, _, _, [], _, [], hW', trodAll_mk1 (shut_bool Tryz.underlying4 _), (trodAll_cons_mk (Below.trod laidOut (by kernel_rfl) (of_decide_eq_true (by kernel_rfl)) k0 bel lt0) (trodAll_cons_mk (Below.trod laidOut (by kernel_rfl) (of_decide_eq_true (by kernel_rfl)) k1 bel lt1) trodAll_mk0)), rfl, bel.frame _, fun h => by cases h⟩
theorem holds_row : Rows.WholeWritersSaid :=
  OpenClaim.holds_of_wide 3 Tryz.f3 rfl rfl rfl rfl rfl rfl rfl ⟨rfl, rfl, rfl, rfl, rfl⟩ rfl rfl rfl rfl rfl (by kernel_rfl) Tryz.func3 (by kernel_rfl)
    (of_decide_eq_true (by kernel_rfl)) (by unfold Func.isWrapper; first | (rw [if_pos (by decide +kernel)]; kernel_rfl) | (rw [if_neg (by decide +kernel)]; exact ⟨rfl, rfl⟩))
    (fun os started H enc _ => lifted os started H enc)
end Go.Proofs.YtgoephcembgmcaaGreatDoor.wholeWriters
namespace Go.Proofs.YtgoephcembgmcaaGreatDoor
open Go
theorem wholeWriters_card : Rows.WholeWritersCardSaid :=
  Claim7.holds_tied_plain_at .later [] [.data, .pinned] true (true, "f59ff7cf5542f80d97b70aad48ddbf9378ad72e2b49e610d8907a3f78536ac89") false
    wholeWriters.holds_row (fun _ h => by cases h) (by kernel_rfl) (fun _ h => by cases h) wholeWriters_row_tie rfl ⟨rfl, rfl⟩ (by kernel_rfl) rfl
    (fun f fn hf hfn => by
      obtain rfl : f = 3 := Option.some.inj ((show Tryz.prog.funcNamed "wharfinger/wharfingertop.WholeWriters" = some 3 by kernel_rfl).symm.trans hf) |>.symm
      obtain rfl : fn = Tryz.f3 := (Option.some.inj (Tryz.func3.symm.trans hfn)).symm
      exact ⟨by kernel_rfl, fun j t ht => by
        rw [Tryz.params3] at ht
        have hm : t ∈ [22, 23] := by simpa using Array.mem_of_getElem? ht
        have hall : ([22, 23].all fun u => !Tryz.prog.wantsStandIn u) = true := by kernel_rfl
        exact (show Tryz.prog.wantsStandIn t = false by simpa using List.all_eq_true.1 hall t hm)⟩)
    (by kernel_rfl)
end Go.Proofs.YtgoephcembgmcaaGreatDoor
#print axioms Go.Proofs.YtgoephcembgmcaaGreatDoor.wholeWriters_card
