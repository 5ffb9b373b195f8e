/-
  DERIVED: THE SHELF's CONTRACTS AT THIS DUMP, IN PLAIN WORDS (tools/lay-plain.mjs out of 'TrydShelf.lean', which tools/lay-shelf.mjs wrote): THE SAME DECLARATIONS UNDER THE SAME NAMES: 'import', 'namespace', 'open', 'def', 'theorem' AND NOTHING ELSE: no command of the shelf's: FOR A HAND-IN. Each laying: the table of numbers ('.._ren') and one theorem, a field a fact of the dump's own or the kernel's comparison; each contract: ONE APPLICATION.
-/
import Derived.Shelf.Strings.Trim
import Derived.Shelf.Small.Utf8
import Derived.Shelf.Small.Strs
import Derived.Shelf.Small.Wraps
import Derived.Shelf.Strconv.Atoi
import Derived.Shelf.Strconv.Itoa0
import Derived.Shelf.Strconv.Itoa1
import Derived.Shelf.LaysM
import Derived.Shelf.Strconv.Itoa2
import Derived.Shelf.Strconv.Itoa3
import Derived.Shelf.Strconv.AtoiErrFast
import Derived.Shelf.Strconv.ParseIntEmpty
import Derived.Shelf.Strconv.AtoiFail
import Derived.Shelf.Strconv.Clone
import Derived.Shelf.Strconv.SyntaxError
import Derived.Shelf.LaysC
import Derived.Shelf.Strconv.ToError
import Derived.Shelf.Strconv.Lower
import Derived.Shelf.Strconv.ParseUint10
import Derived.Shelf.Strconv.ParseUint10Empty
import Derived.Shelf.Strconv.ParseUint10Any
import Derived.Shelf.Strconv.ParseInt10
import Derived.Shelf.Strconv.AtoiLong
import Derived.Shelf.Strconv.AtoiInnerAll
import Derived.Shelf.Strconv.RangeError
import Derived.Shelf.Strconv.ToErrorRange
import Derived.Shelf.Strconv.AtoiAll
import Derived.Shelf.Strings.Search1
import Derived.Shelf.Strings.Search2
import Derived.Shelf.Strings.Search3
import Derived.Shelf.Strings.Cut
import Derived.Shelf.Strings.Count
import Derived.Shelf.Strings.Shaped
import Derived.Shelf.Strings.Prefix
import Derived.Shelf.Strings.Split
import Derived.Shelf.Strings.Runes
import Derived.Shelf.Strings.AsciiSet
import Derived.Shelf.Unicode.DecodeSlow
import Derived.Test.YtgoephcembgmcaaDoorProg
namespace Go.Proofs
open Go.Shelf
def Tryd.lays161_ren : Go.Shelf.Ren := ⟨fun | 161 => 49 | 231 => 77 | 227 => 79 | 233 => 80 | 235 => 82 | 228 => 99 | 197 => 100 | 151 => 101 | 260 => 112 | 152 => 113 | 137 => 123 | 119 => 124 | 224 => 117 | 225 => 116 | 217 => 115 | 266 => 125 | n => n, fun | 9 => 9 | 4 => 4 | 3 => 3 | 5 => 5 | 117 => 171 | 116 => 170 | 0 => 0 | 124 => 174 | 105 => 214 | 21 => 21 | 119 => 226 | 46 => 132 | 139 => 229 | 138 => 228 | n => n, fun | 3 => 2 | 4 => 3 | n => n⟩
theorem Tryd.lays161 : Go.Proofs.Lays.n161 Tryd.prog Tryd.lays161_ren := {
  mixed := by kernel_rfl
  f119 := Tryd.func124.trans (congrArg some (by kernel_rfl))
  f137 := Tryd.func123.trans (congrArg some (by kernel_rfl))
  f151 := Tryd.func101.trans (congrArg some (by kernel_rfl))
  f152 := Tryd.func113.trans (congrArg some (by kernel_rfl))
  f161 := Tryd.func49.trans (congrArg some (by kernel_rfl))
  f197 := Tryd.func100.trans (congrArg some (by kernel_rfl))
  f217 := Tryd.func115.trans (congrArg some (by kernel_rfl))
  f224 := Tryd.func117.trans (congrArg some (by kernel_rfl))
  f225 := Tryd.func116.trans (congrArg some (by kernel_rfl))
  f227 := Tryd.func79.trans (congrArg some (by kernel_rfl))
  f228 := Tryd.func99.trans (congrArg some (by kernel_rfl))
  f231 := Tryd.func77.trans (congrArg some (by kernel_rfl))
  f233 := Tryd.func80.trans (congrArg some (by kernel_rfl))
  f235 := Tryd.func82.trans (congrArg some (by kernel_rfl))
  f260 := Tryd.func112.trans (congrArg some (by kernel_rfl))
  f266 := Tryd.func125.trans (congrArg some (by kernel_rfl))
  t0 := Tryd.underlying0
  a0 := Tryd.isAgg0
  z0 := Tryd.sizeOf0
  v0 := Tryd.zeroValue0
  t3 := Tryd.underlying3
  a3 := Tryd.isAgg3
  z3 := Tryd.sizeOf3
  v3 := Tryd.zeroValue3
  t4 := Tryd.underlying4
  a4 := Tryd.isAgg4
  z4 := Tryd.sizeOf4
  v4 := Tryd.zeroValue4
  t5 := Tryd.underlying5
  a5 := Tryd.isAgg5
  z5 := Tryd.sizeOf5
  v5 := Tryd.zeroValue5
  t9 := Tryd.underlying9
  a9 := Tryd.isAgg9
  z9 := Tryd.sizeOf9
  v9 := Tryd.zeroValue9
  t21 := Tryd.underlying21
  a21 := Tryd.isAgg21
  z21 := Tryd.sizeOf21
  v21 := Tryd.zeroValue21
  t46 := Tryd.underlying132
  a46 := Tryd.isAgg132
  z46 := Tryd.sizeOf132
  v46 := Tryd.zeroValue132
  t105 := Tryd.underlying214
  a105 := Tryd.isAgg214
  z105 := Tryd.sizeOf214
  v105 := Tryd.zeroValue214
  t116 := Tryd.underlying170
  a116 := Tryd.isAgg170
  z116 := Tryd.sizeOf170
  t117 := Tryd.underlying171
  a117 := Tryd.isAgg171
  z117 := Tryd.sizeOf171
  v117 := Tryd.zeroValue171
  t119 := Tryd.underlying226
  a119 := Tryd.isAgg226
  z119 := Tryd.sizeOf226
  t124 := Tryd.underlying174
  a124 := Tryd.isAgg174
  z124 := Tryd.sizeOf174
  v124 := Tryd.zeroValue174
  t138 := Tryd.underlying228
  a138 := Tryd.isAgg228
  z138 := Tryd.sizeOf228
  v138 := Tryd.zeroValue228
  t139 := Tryd.underlying229
  a139 := Tryd.isAgg229
  z139 := Tryd.sizeOf229
  v139 := Tryd.zeroValue229
  g3 := by kernel_rfl
  g4 := by kernel_rfl }
open Go.RowKit in
/-- strings.TrimLeft: "TrimLeft returns a slice of the string s with all leading Unicode code points contained in cutset removed.": AT A cutset OF ONE ASCII BYTE. The world is as it was. (LAID: no walk: one application.) -/
theorem Tryd.strings_TrimLeft_one (s : ByteArray) (c : UInt8) (hc : c.toNat < 128) (w : World) :
    Calls Tryd.prog 49 #[.string s, .string ⟨#[c]⟩] w fun e w' => e = .returned (.string ⟨(Lib.trimLeftB s.data.toList c).toArray⟩) ∧ w' = w := Any.strings_TrimLeft_one Tryd.lays161 s c hc w
def Tryd.lays162_ren : Go.Shelf.Ren := ⟨fun | 162 => 48 | 232 => 78 | 227 => 79 | 234 => 81 | 236 => 83 | 228 => 99 | 271 => 102 | 151 => 101 | 120 => 114 | 197 => 100 | 152 => 113 | 260 => 112 | 137 => 123 | 119 => 124 | 224 => 117 | 225 => 116 | 217 => 115 | 266 => 125 | n => n, fun | 9 => 9 | 4 => 4 | 3 => 3 | 5 => 5 | 117 => 171 | 116 => 170 | 0 => 0 | 124 => 174 | 21 => 21 | 105 => 214 | 46 => 132 | 119 => 226 | 139 => 229 | 138 => 228 | n => n, fun | 3 => 2 | 4 => 3 | n => n⟩
theorem Tryd.lays162 : Go.Proofs.Lays.n162 Tryd.prog Tryd.lays162_ren := {
  mixed := by kernel_rfl
  f119 := Tryd.func124.trans (congrArg some (by kernel_rfl))
  f120 := Tryd.func114.trans (congrArg some (by kernel_rfl))
  f137 := Tryd.func123.trans (congrArg some (by kernel_rfl))
  f151 := Tryd.func101.trans (congrArg some (by kernel_rfl))
  f152 := Tryd.func113.trans (congrArg some (by kernel_rfl))
  f162 := Tryd.func48.trans (congrArg some (by kernel_rfl))
  f197 := Tryd.func100.trans (congrArg some (by kernel_rfl))
  f217 := Tryd.func115.trans (congrArg some (by kernel_rfl))
  f224 := Tryd.func117.trans (congrArg some (by kernel_rfl))
  f225 := Tryd.func116.trans (congrArg some (by kernel_rfl))
  f227 := Tryd.func79.trans (congrArg some (by kernel_rfl))
  f228 := Tryd.func99.trans (congrArg some (by kernel_rfl))
  f232 := Tryd.func78.trans (congrArg some (by kernel_rfl))
  f234 := Tryd.func81.trans (congrArg some (by kernel_rfl))
  f236 := Tryd.func83.trans (congrArg some (by kernel_rfl))
  f260 := Tryd.func112.trans (congrArg some (by kernel_rfl))
  f266 := Tryd.func125.trans (congrArg some (by kernel_rfl))
  f271 := Tryd.func102.trans (congrArg some (by kernel_rfl))
  t0 := Tryd.underlying0
  a0 := Tryd.isAgg0
  z0 := Tryd.sizeOf0
  v0 := Tryd.zeroValue0
  t3 := Tryd.underlying3
  a3 := Tryd.isAgg3
  z3 := Tryd.sizeOf3
  v3 := Tryd.zeroValue3
  t4 := Tryd.underlying4
  a4 := Tryd.isAgg4
  z4 := Tryd.sizeOf4
  v4 := Tryd.zeroValue4
  t5 := Tryd.underlying5
  a5 := Tryd.isAgg5
  z5 := Tryd.sizeOf5
  v5 := Tryd.zeroValue5
  t9 := Tryd.underlying9
  a9 := Tryd.isAgg9
  z9 := Tryd.sizeOf9
  v9 := Tryd.zeroValue9
  t21 := Tryd.underlying21
  a21 := Tryd.isAgg21
  z21 := Tryd.sizeOf21
  v21 := Tryd.zeroValue21
  t46 := Tryd.underlying132
  a46 := Tryd.isAgg132
  z46 := Tryd.sizeOf132
  v46 := Tryd.zeroValue132
  t105 := Tryd.underlying214
  a105 := Tryd.isAgg214
  z105 := Tryd.sizeOf214
  v105 := Tryd.zeroValue214
  t116 := Tryd.underlying170
  a116 := Tryd.isAgg170
  z116 := Tryd.sizeOf170
  t117 := Tryd.underlying171
  a117 := Tryd.isAgg171
  z117 := Tryd.sizeOf171
  v117 := Tryd.zeroValue171
  t119 := Tryd.underlying226
  a119 := Tryd.isAgg226
  z119 := Tryd.sizeOf226
  t124 := Tryd.underlying174
  a124 := Tryd.isAgg174
  z124 := Tryd.sizeOf174
  v124 := Tryd.zeroValue174
  t138 := Tryd.underlying228
  a138 := Tryd.isAgg228
  z138 := Tryd.sizeOf228
  v138 := Tryd.zeroValue228
  t139 := Tryd.underlying229
  a139 := Tryd.isAgg229
  z139 := Tryd.sizeOf229
  v139 := Tryd.zeroValue229
  g3 := by kernel_rfl
  g4 := by kernel_rfl }
open Go.RowKit in
/-- strings.TrimRight: "TrimRight returns a slice of the string s, with all trailing Unicode code points contained in cutset removed.": AT A cutset OF ONE ASCII BYTE. The world is as it was. (LAID: no walk: one application.) -/
theorem Tryd.strings_TrimRight_one (s : ByteArray) (c : UInt8) (hc : c.toNat < 128) (w : World) (hs : s.size ≤ 9223372036854775807) :
    Calls Tryd.prog 48 #[.string s, .string ⟨#[c]⟩] w fun e w' => e = .returned (.string ⟨(Lib.trimRightB s.data.toList c).toArray⟩) ∧ w' = w := Any.strings_TrimRight_one Tryd.lays162 s c hc w hs
def Tryd.lays160_ren : Go.Shelf.Ren := ⟨fun | 160 => 43 | 232 => 78 | 231 => 77 | 227 => 79 | 234 => 81 | 233 => 80 | 236 => 83 | 235 => 82 | 228 => 99 | 271 => 102 | 151 => 101 | 197 => 100 | 120 => 114 | 152 => 113 | 260 => 112 | 137 => 123 | 119 => 124 | 224 => 117 | 225 => 116 | 217 => 115 | 266 => 125 | n => n, fun | 9 => 9 | 4 => 4 | 3 => 3 | 5 => 5 | 117 => 171 | 116 => 170 | 0 => 0 | 124 => 174 | 21 => 21 | 105 => 214 | 46 => 132 | 119 => 226 | 139 => 229 | 138 => 228 | n => n, fun | 3 => 2 | 4 => 3 | n => n⟩
theorem Tryd.lays160 : Go.Proofs.Lays.n160 Tryd.prog Tryd.lays160_ren := {
  mixed := by kernel_rfl
  f119 := Tryd.func124.trans (congrArg some (by kernel_rfl))
  f120 := Tryd.func114.trans (congrArg some (by kernel_rfl))
  f137 := Tryd.func123.trans (congrArg some (by kernel_rfl))
  f151 := Tryd.func101.trans (congrArg some (by kernel_rfl))
  f152 := Tryd.func113.trans (congrArg some (by kernel_rfl))
  f160 := Tryd.func43.trans (congrArg some (by kernel_rfl))
  f197 := Tryd.func100.trans (congrArg some (by kernel_rfl))
  f217 := Tryd.func115.trans (congrArg some (by kernel_rfl))
  f224 := Tryd.func117.trans (congrArg some (by kernel_rfl))
  f225 := Tryd.func116.trans (congrArg some (by kernel_rfl))
  f227 := Tryd.func79.trans (congrArg some (by kernel_rfl))
  f228 := Tryd.func99.trans (congrArg some (by kernel_rfl))
  f231 := Tryd.func77.trans (congrArg some (by kernel_rfl))
  f232 := Tryd.func78.trans (congrArg some (by kernel_rfl))
  f233 := Tryd.func80.trans (congrArg some (by kernel_rfl))
  f234 := Tryd.func81.trans (congrArg some (by kernel_rfl))
  f235 := Tryd.func82.trans (congrArg some (by kernel_rfl))
  f236 := Tryd.func83.trans (congrArg some (by kernel_rfl))
  f260 := Tryd.func112.trans (congrArg some (by kernel_rfl))
  f266 := Tryd.func125.trans (congrArg some (by kernel_rfl))
  f271 := Tryd.func102.trans (congrArg some (by kernel_rfl))
  t0 := Tryd.underlying0
  a0 := Tryd.isAgg0
  z0 := Tryd.sizeOf0
  v0 := Tryd.zeroValue0
  t3 := Tryd.underlying3
  a3 := Tryd.isAgg3
  z3 := Tryd.sizeOf3
  v3 := Tryd.zeroValue3
  t4 := Tryd.underlying4
  a4 := Tryd.isAgg4
  z4 := Tryd.sizeOf4
  v4 := Tryd.zeroValue4
  t5 := Tryd.underlying5
  a5 := Tryd.isAgg5
  z5 := Tryd.sizeOf5
  v5 := Tryd.zeroValue5
  t9 := Tryd.underlying9
  a9 := Tryd.isAgg9
  z9 := Tryd.sizeOf9
  v9 := Tryd.zeroValue9
  t21 := Tryd.underlying21
  a21 := Tryd.isAgg21
  z21 := Tryd.sizeOf21
  v21 := Tryd.zeroValue21
  t46 := Tryd.underlying132
  a46 := Tryd.isAgg132
  z46 := Tryd.sizeOf132
  v46 := Tryd.zeroValue132
  t105 := Tryd.underlying214
  a105 := Tryd.isAgg214
  z105 := Tryd.sizeOf214
  v105 := Tryd.zeroValue214
  t116 := Tryd.underlying170
  a116 := Tryd.isAgg170
  z116 := Tryd.sizeOf170
  t117 := Tryd.underlying171
  a117 := Tryd.isAgg171
  z117 := Tryd.sizeOf171
  v117 := Tryd.zeroValue171
  t119 := Tryd.underlying226
  a119 := Tryd.isAgg226
  z119 := Tryd.sizeOf226
  t124 := Tryd.underlying174
  a124 := Tryd.isAgg174
  z124 := Tryd.sizeOf174
  v124 := Tryd.zeroValue174
  t138 := Tryd.underlying228
  a138 := Tryd.isAgg228
  z138 := Tryd.sizeOf228
  v138 := Tryd.zeroValue228
  t139 := Tryd.underlying229
  a139 := Tryd.isAgg229
  z139 := Tryd.sizeOf229
  v139 := Tryd.zeroValue229
  g3 := by kernel_rfl
  g4 := by kernel_rfl }
open Go.RowKit in
/-- strings.Trim: "Trim returns a slice of the string s with all leading and trailing Unicode code points contained in cutset removed.": AT A cutset OF ONE ASCII BYTE. THE WORLD BEHIND IT: as it was, or (where s is not empty) with ONE DRAW MORE off the tape: the statement 'return trimLeftByte(trimRightByte(s, c), c)' draws its order of evaluation. (LAID: no walk: one application.) -/
theorem Tryd.strings_Trim_one (s : ByteArray) (c : UInt8) (hc : c.toNat < 128) (w : World) (hs : s.size ≤ 9223372036854775807) :
    Calls Tryd.prog 43 #[.string s, .string ⟨#[c]⟩] w fun e w' => e = .returned (.string ⟨(Lib.trimB s.data.toList c).toArray⟩) ∧ (w' = w ∨ w' = w.drew) := Any.strings_Trim_one Tryd.lays160 s c hc w hs
def Tryd.lays104_ren : Go.Shelf.Ren := ⟨fun | 104 => 45 | 211 => 85 | 207 => 104 | n => n, fun | 9 => 9 | 4 => 4 | 24 => 75 | 3 => 3 | n => n, fun | n => n⟩
theorem Tryd.lays104 : Go.Proofs.Lays.n104 Tryd.prog Tryd.lays104_ren := {
  mixed := by kernel_rfl
  f104 := Tryd.func45.trans (congrArg some (by kernel_rfl))
  f207 := Tryd.func104.trans (congrArg some (by kernel_rfl))
  f211 := Tryd.func85.trans (congrArg some (by kernel_rfl))
  t3 := Tryd.underlying3
  a3 := Tryd.isAgg3
  z3 := Tryd.sizeOf3
  v3 := Tryd.zeroValue3
  t4 := Tryd.underlying4
  a4 := Tryd.isAgg4
  z4 := Tryd.sizeOf4
  v4 := Tryd.zeroValue4
  t9 := Tryd.underlying9
  a9 := Tryd.isAgg9
  z9 := Tryd.sizeOf9
  v9 := Tryd.zeroValue9
  t24 := Tryd.underlying75
  a24 := Tryd.isAgg75
  z24 := Tryd.sizeOf75
  v24 := Tryd.zeroValue75 }
open Go.RowKit in
/-- strings.CutSuffix: "CutSuffix returns s without the provided ending suffix string and reports whether it found the suffix. If s doesn't end with suffix, CutSuffix returns s, false. If suffix is the empty string, CutSuffix returns s, true.": IT RETURNS '(Lib.trimSuffix s p, Lib.hasSuffix s p)'; the world is as it was. (LAID: no walk: one application.) -/
theorem Tryd.strings_CutSuffix (s p : ByteArray) (w : World) (hs : s.size ≤ 9223372036854775807) :
    Calls Tryd.prog 45 #[.string s, .string p] w fun e w' => e = .returned (.tuple #[.string ⟨(Lib.trimSuffix s.data.toList p.data.toList).toArray⟩, .bool (Lib.hasSuffix s.data.toList p.data.toList)]) ∧ w' = w := Any.strings_CutSuffix Tryd.lays104 s p w hs
def Tryd.laysM171_ren : Go.Shelf.Ren := ⟨fun | 171 => 107 | 243 => 121 | 246 => 132 | 283 => 136 | 284 => 137 | 285 => 138 | 286 => 139 | 129 => 143 | 317 => 142 | 318 => 144 | 319 => 145 | 320 => 146 | 337 => 147 | 338 => 148 | n => n, fun | 3 => 3 | 9 => 9 | 2 => 2 | 4 => 4 | 171 => 245 | 0 => 0 | 53 => 195 | 37 => 22 | 5 => 5 | 173 => 248 | 212 => 256 | 51 => 84 | 20 => 20 | 213 => 257 | 46 => 132 | 232 => 27 | 233 => 179 | n => n, fun | 17 => 6 | 18 => 7 | 19 => 8 | n => n⟩
theorem Tryd.laysM171 : Go.Proofs.LaysM.n171 Tryd.prog Tryd.laysM171_ren := {
  mixed := by kernel_rfl
  f129 := Tryd.func143.trans (congrArg some (by kernel_rfl))
  f171 := Tryd.func107.trans (congrArg some (by kernel_rfl))
  f243 := Tryd.func121.trans (congrArg some (by kernel_rfl))
  f246 := Tryd.func132.trans (congrArg some (by kernel_rfl))
  f283 := Tryd.func136.trans (congrArg some (by kernel_rfl))
  f284 := Tryd.func137.trans (congrArg some (by kernel_rfl))
  f285 := Tryd.func138.trans (congrArg some (by kernel_rfl))
  f286 := Tryd.func139.trans (congrArg some (by kernel_rfl))
  f317 := Tryd.func142.trans (congrArg some (by kernel_rfl))
  f318 := Tryd.func144.trans (congrArg some (by kernel_rfl))
  f319 := Tryd.func145.trans (congrArg some (by kernel_rfl))
  f320 := Tryd.func146.trans (congrArg some (by kernel_rfl))
  f337 := Tryd.func147.trans (congrArg some (by kernel_rfl))
  f338 := Tryd.func148.trans (congrArg some (by kernel_rfl))
  t0 := Tryd.underlying0
  a0 := Tryd.isAgg0
  z0 := Tryd.sizeOf0
  v0 := Tryd.zeroValue0
  t2 := Tryd.underlying2
  a2 := Tryd.isAgg2
  z2 := Tryd.sizeOf2
  v2 := Tryd.zeroValue2
  t3 := Tryd.underlying3
  a3 := Tryd.isAgg3
  z3 := Tryd.sizeOf3
  v3 := Tryd.zeroValue3
  t4 := Tryd.underlying4
  a4 := Tryd.isAgg4
  z4 := Tryd.sizeOf4
  v4 := Tryd.zeroValue4
  t5 := Tryd.underlying5
  a5 := Tryd.isAgg5
  z5 := Tryd.sizeOf5
  v5 := Tryd.zeroValue5
  t9 := Tryd.underlying9
  a9 := Tryd.isAgg9
  z9 := Tryd.sizeOf9
  v9 := Tryd.zeroValue9
  t20 := Tryd.underlying20
  a20 := Tryd.isAgg20
  z20 := Tryd.sizeOf20
  v20 := Tryd.zeroValue20
  t37 := Tryd.underlying22
  a37 := Tryd.isAgg22
  z37 := Tryd.sizeOf22
  v37 := Tryd.zeroValue22
  t46 := Tryd.underlying132
  a46 := Tryd.isAgg132
  z46 := Tryd.sizeOf132
  v46 := Tryd.zeroValue132
  t51 := Tryd.underlying84
  a51 := Tryd.isAgg84
  z51 := Tryd.sizeOf84
  v51 := Tryd.zeroValue84
  t53 := Tryd.underlying195
  a53 := Tryd.isAgg195
  z53 := Tryd.sizeOf195
  v53 := Tryd.zeroValue195
  t171 := Tryd.underlying245
  a171 := Tryd.isAgg245
  z171 := Tryd.sizeOf245
  v171 := Tryd.zeroValue245
  t173 := Tryd.underlying248
  a173 := Tryd.isAgg248
  z173 := Tryd.sizeOf248
  v173 := Tryd.zeroValue248
  t212 := Tryd.underlying256
  a212 := Tryd.isAgg256
  z212 := Tryd.sizeOf256
  v212 := Tryd.zeroValue256
  t213 := Tryd.underlying257
  a213 := Tryd.isAgg257
  z213 := Tryd.sizeOf257
  t232 := Tryd.underlying27
  a232 := Tryd.isAgg27
  z232 := Tryd.sizeOf27
  v232 := Tryd.zeroValue27
  t233 := Tryd.underlying179
  a233 := Tryd.isAgg179
  z233 := Tryd.sizeOf179
  v233 := Tryd.zeroValue179
  g17 := by kernel_rfl
  g18 := by kernel_rfl
  g19 := by kernel_rfl
  i0 := by kernel_rfl
  i2 := by kernel_rfl
  i3 := by kernel_rfl
  i4 := by kernel_rfl
  i5 := by kernel_rfl
  i9 := by kernel_rfl
  i20 := by kernel_rfl
  i37 := by kernel_rfl
  i46 := by kernel_rfl
  i51 := by kernel_rfl
  i53 := by kernel_rfl
  i171 := by kernel_rfl
  i173 := by kernel_rfl
  i212 := by kernel_rfl
  i232 := by kernel_rfl
  i233 := by kernel_rfl
  m17 := by kernel_rfl
  m18 := by kernel_rfl
  m19 := by kernel_rfl }
open Go.RowKit Go.Sort Go.Lib in
/-- strconv.Itoa: "Itoa is equivalent to FormatInt(int64(i), 10).": i's DECIMAL NUMERAL ('Lib.itoa': a '-' where i is negative, then the digits), FOR EVERY int. The world behind the call: the world before it, new blocks behind the heap (the library's 'var a [24]byte'), draws. (LAID: no walk: one application.) -/
theorem Tryd.strconv_Itoa (n : Int) (h0 : -9223372036854775808 ≤ n) (h1 : n ≤ 9223372036854775807) (w : World) (htab : Lib.TabIs Tryd.prog w "internal/strconv.uint64pow10" .u64 Lib.pow10Tab) :
    Calls Tryd.prog 107 #[.int .i64 n] w fun e w' => e = .returned (.string ⟨(Lib.itoa n).toArray⟩) ∧ ∃ k os, w' = grow (w.drewN k) os := Any.strconv_Itoa Tryd.laysM171 n h0 h1 w htab
def Tryd.laysC172_ren : Go.Shelf.Ren := ⟨fun | 172 => 106 | 244 => 119 | 245 => 120 | 247 => 127 | 279 => 128 | 280 => 129 | 281 => 130 | 282 => 131 | 287 => 133 | 316 => 134 | 171 => 107 | 205 => 135 | 321 => 140 | 322 => 141 | 243 => 121 | 246 => 132 | 283 => 136 | 284 => 137 | 285 => 138 | 286 => 139 | 129 => 143 | 317 => 142 | 318 => 144 | 319 => 145 | 320 => 146 | 337 => 147 | 338 => 148 | n => n, fun | 9 => 9 | 3 => 3 | 75 => 45 | 76 => 217 | 4 => 4 | 5 => 5 | 167 => 233 | 37 => 22 | 0 => 0 | 85 => 234 | 2 => 2 | 168 => 236 | 53 => 195 | 175 => 240 | 46 => 132 | 210 => 244 | 127 => 251 | 145 => 254 | 143 => 252 | 21 => 21 | 171 => 245 | 173 => 248 | 212 => 256 | 51 => 84 | 20 => 20 | 213 => 257 | 232 => 27 | 233 => 179 | 80 => 261 | n => n, fun | 15 => 4 | 16 => 5 | 17 => 6 | 18 => 7 | 19 => 8 | n => n⟩
theorem Tryd.laysC172 : Go.Proofs.LaysC.n172 Tryd.prog Tryd.laysC172_ren := {
  mixed := by kernel_rfl
  f129 := Tryd.func143.trans (congrArg some (by kernel_rfl))
  f171 := Tryd.func107.trans (congrArg some (by kernel_rfl))
  f172 := Tryd.func106.trans (congrArg some (by kernel_rfl))
  f205 := Tryd.func135.trans (congrArg some (by kernel_rfl))
  f243 := Tryd.func121.trans (congrArg some (by kernel_rfl))
  f244 := Tryd.func119.trans (congrArg some (by kernel_rfl))
  f245 := Tryd.func120.trans (congrArg some (by kernel_rfl))
  f246 := Tryd.func132.trans (congrArg some (by kernel_rfl))
  f247 := Tryd.func127.trans (congrArg some (by kernel_rfl))
  f279 := Tryd.func128.trans (congrArg some (by kernel_rfl))
  f280 := Tryd.func129.trans (congrArg some (by kernel_rfl))
  f281 := Tryd.func130.trans (congrArg some (by kernel_rfl))
  f282 := Tryd.func131.trans (congrArg some (by kernel_rfl))
  f283 := Tryd.func136.trans (congrArg some (by kernel_rfl))
  f284 := Tryd.func137.trans (congrArg some (by kernel_rfl))
  f285 := Tryd.func138.trans (congrArg some (by kernel_rfl))
  f286 := Tryd.func139.trans (congrArg some (by kernel_rfl))
  f287 := Tryd.func133.trans (congrArg some (by kernel_rfl))
  f316 := Tryd.func134.trans (congrArg some (by kernel_rfl))
  f317 := Tryd.func142.trans (congrArg some (by kernel_rfl))
  f318 := Tryd.func144.trans (congrArg some (by kernel_rfl))
  f319 := Tryd.func145.trans (congrArg some (by kernel_rfl))
  f320 := Tryd.func146.trans (congrArg some (by kernel_rfl))
  f321 := Tryd.func140.trans (congrArg some (by kernel_rfl))
  f322 := Tryd.func141.trans (congrArg some (by kernel_rfl))
  f337 := Tryd.func147.trans (congrArg some (by kernel_rfl))
  f338 := Tryd.func148.trans (congrArg some (by kernel_rfl))
  t0 := Tryd.underlying0
  a0 := Tryd.isAgg0
  z0 := Tryd.sizeOf0
  v0 := Tryd.zeroValue0
  t2 := Tryd.underlying2
  a2 := Tryd.isAgg2
  z2 := Tryd.sizeOf2
  v2 := Tryd.zeroValue2
  t3 := Tryd.underlying3
  a3 := Tryd.isAgg3
  z3 := Tryd.sizeOf3
  v3 := Tryd.zeroValue3
  t4 := Tryd.underlying4
  a4 := Tryd.isAgg4
  z4 := Tryd.sizeOf4
  v4 := Tryd.zeroValue4
  t5 := Tryd.underlying5
  a5 := Tryd.isAgg5
  z5 := Tryd.sizeOf5
  v5 := Tryd.zeroValue5
  t9 := Tryd.underlying9
  a9 := Tryd.isAgg9
  z9 := Tryd.sizeOf9
  v9 := Tryd.zeroValue9
  t20 := Tryd.underlying20
  a20 := Tryd.isAgg20
  z20 := Tryd.sizeOf20
  v20 := Tryd.zeroValue20
  t21 := Tryd.underlying21
  a21 := Tryd.isAgg21
  z21 := Tryd.sizeOf21
  v21 := Tryd.zeroValue21
  t37 := Tryd.underlying22
  a37 := Tryd.isAgg22
  z37 := Tryd.sizeOf22
  v37 := Tryd.zeroValue22
  t46 := Tryd.underlying132
  a46 := Tryd.isAgg132
  z46 := Tryd.sizeOf132
  v46 := Tryd.zeroValue132
  t51 := Tryd.underlying84
  a51 := Tryd.isAgg84
  z51 := Tryd.sizeOf84
  v51 := Tryd.zeroValue84
  t53 := Tryd.underlying195
  a53 := Tryd.isAgg195
  z53 := Tryd.sizeOf195
  v53 := Tryd.zeroValue195
  t75 := Tryd.underlying45
  a75 := Tryd.isAgg45
  z75 := Tryd.sizeOf45
  v75 := Tryd.zeroValue45
  t76 := Tryd.underlying217
  a76 := Tryd.isAgg217
  z76 := Tryd.sizeOf217
  v76 := Tryd.zeroValue217
  t85 := Tryd.underlying234
  a85 := Tryd.isAgg234
  z85 := Tryd.sizeOf234
  v85 := Tryd.zeroValue234
  t127 := Tryd.underlying251
  a127 := Tryd.isAgg251
  z127 := Tryd.sizeOf251
  v127 := Tryd.zeroValue251
  t143 := Tryd.underlying252
  a143 := Tryd.isAgg252
  z143 := Tryd.sizeOf252
  v143 := Tryd.zeroValue252
  t145 := Tryd.underlying254
  a145 := Tryd.isAgg254
  z145 := Tryd.sizeOf254
  v145 := Tryd.zeroValue254
  t167 := Tryd.underlying233
  a167 := Tryd.isAgg233
  z167 := Tryd.sizeOf233
  v167 := Tryd.zeroValue233
  t168 := Tryd.underlying236
  a168 := Tryd.isAgg236
  z168 := Tryd.sizeOf236
  v168 := Tryd.zeroValue236
  t171 := Tryd.underlying245
  a171 := Tryd.isAgg245
  z171 := Tryd.sizeOf245
  v171 := Tryd.zeroValue245
  t173 := Tryd.underlying248
  a173 := Tryd.isAgg248
  z173 := Tryd.sizeOf248
  v173 := Tryd.zeroValue248
  t175 := Tryd.underlying240
  a175 := Tryd.isAgg240
  z175 := Tryd.sizeOf240
  v175 := Tryd.zeroValue240
  t210 := Tryd.underlying244
  a210 := Tryd.isAgg244
  z210 := Tryd.sizeOf244
  v210 := Tryd.zeroValue244
  t212 := Tryd.underlying256
  a212 := Tryd.isAgg256
  z212 := Tryd.sizeOf256
  v212 := Tryd.zeroValue256
  t213 := Tryd.underlying257
  a213 := Tryd.isAgg257
  z213 := Tryd.sizeOf257
  t232 := Tryd.underlying27
  a232 := Tryd.isAgg27
  z232 := Tryd.sizeOf27
  v232 := Tryd.zeroValue27
  t233 := Tryd.underlying179
  a233 := Tryd.isAgg179
  z233 := Tryd.sizeOf179
  v233 := Tryd.zeroValue179
  g15 := by kernel_rfl
  g16 := by kernel_rfl
  g17 := by kernel_rfl
  g18 := by kernel_rfl
  g19 := by kernel_rfl
  t80 := Tryd.underlying261
  a80 := Tryd.isAgg261
  z80 := Tryd.sizeOf261
  v80 := Tryd.zeroValue261
  i0 := by kernel_rfl
  i2 := by kernel_rfl
  i3 := by kernel_rfl
  i4 := by kernel_rfl
  i5 := by kernel_rfl
  i9 := by kernel_rfl
  i20 := by kernel_rfl
  i21 := by kernel_rfl
  i37 := by kernel_rfl
  i46 := by kernel_rfl
  i51 := by kernel_rfl
  i53 := by kernel_rfl
  i75 := by kernel_rfl
  i76 := by kernel_rfl
  i80 := by kernel_rfl
  i85 := by kernel_rfl
  i127 := by kernel_rfl
  i143 := by kernel_rfl
  i145 := by kernel_rfl
  i167 := by kernel_rfl
  i168 := by kernel_rfl
  i171 := by kernel_rfl
  i173 := by kernel_rfl
  i175 := by kernel_rfl
  i210 := by kernel_rfl
  i212 := by kernel_rfl
  i232 := by kernel_rfl
  i233 := by kernel_rfl
  m15 := by kernel_rfl
  m16 := by kernel_rfl
  m17 := by kernel_rfl
  m18 := by kernel_rfl
  m19 := by kernel_rfl
  c0 := by kernel_rfl
  c2 := by kernel_rfl
  c3 := by kernel_rfl
  c4 := by kernel_rfl
  c5 := by kernel_rfl
  c9 := by kernel_rfl
  c20 := by kernel_rfl
  c21 := by kernel_rfl
  c37 := by kernel_rfl
  c46 := by kernel_rfl
  c51 := by kernel_rfl
  c53 := by kernel_rfl
  c75 := by kernel_rfl
  c76 := by kernel_rfl
  c80 := by kernel_rfl
  c85 := by kernel_rfl
  c127 := by kernel_rfl
  c143 := by kernel_rfl
  c145 := by kernel_rfl
  c167 := by kernel_rfl
  c168 := by kernel_rfl
  c171 := by kernel_rfl
  c173 := by kernel_rfl
  c175 := by kernel_rfl
  c210 := by kernel_rfl
  c212 := by kernel_rfl
  c213 := by kernel_rfl
  c232 := by kernel_rfl
  c233 := by kernel_rfl }
open Go.RowKit in
/-- strconv.Atoi, AT EVERY STRING THAT SPELLS AN int ('Lib.atoiAll .. = .ok v'; of whatever length: leading zeros count): v, AND NO ERROR. The world: as it was, or with the one new row that '[]byte(..)' lays. (LAID: no walk: one application.) -/
theorem Tryd.strconv_Atoi_ok (s : ByteArray) (hmax : s.size ≤ 9223372036854775806) (v : Int) (h : Lib.atoiAll s.data.toList = .ok v) (w : World) :
    Calls Tryd.prog 106 #[.string s] w fun e w' => e = .returned (.tuple #[.int .i64 v, .nilIface]) ∧ (w' = w ∨ ∃ t, w' = Lib.bytesWorld w 5 t) := Any.strconv_Atoi_ok Tryd.laysC172 s hmax v h w
open Go.RowKit in
/-- strconv.Atoi, AT EVERY STRING THAT IS NO DECIMAL NUMERAL ('no numeral'): 0, AND AN ERROR THAT IS NOT nil: a *NumError in a new block N: {Func: "Atoi", Num: s's bytes, Err: what the variable ErrSyntax holds}. Of what was there nothing has turned. (LAID: no walk: one application.) -/
theorem Tryd.strconv_Atoi_syntax (s : ByteArray) (hlim : s.size ≤ 281474976710656) (h : Lib.atoiAll s.data.toList ≠ .range ∧ ∀ v, Lib.atoiAll s.data.toList ≠ .ok v) (ev : Value) (w : World) (hv : w.cell? ⟨4, 0, none⟩ = some ev) (hev : ev = .nilIface ∨ ∃ te pe, ev = .iface te pe) :
    Calls Tryd.prog 106 #[.string s] w fun e w' => ∃ N, e = .returned (.tuple #[.int .i64 (0), .iface 236 (.pointer (some ⟨N, 0, none⟩))]) ∧ w.heap.size ≤ N ∧ w'.heap[N]? = some (.cells #[.string ⟨#[65, 116, 111, 105]⟩, .string s, ev] 244 (0, 0)) ∧ Below w.heap.size w w' := Any.strconv_Atoi_syntax Tryd.laysC172 s hlim (by
      cases e : Lib.atoiAll s.data.toList with
      | ok v => exact absurd e (h.2 v)
      | range => exact absurd e h.1
      | _ => rfl) ev w hv hev
open Go.RowKit in
/-- strconv.Atoi, AT EVERY NUMERAL THAT NO int HOLDS ('.range'): THE GREATEST OR THE LEAST int, BY THE SIGN ('Lib.atoiSat'), AND AN ERROR THAT IS NOT nil: a *NumError in a new block N: {Func: "Atoi", Num: s's bytes, Err: what the variable ErrRange holds}. Of what was there nothing has turned. (LAID: no walk: one application.) -/
theorem Tryd.strconv_Atoi_range (s : ByteArray) (hlim : s.size ≤ 281474976710656) (h : Lib.atoiAll s.data.toList = .range) (ev : Value) (w : World) (hv : w.cell? ⟨5, 0, none⟩ = some ev) (hev : ev = .nilIface ∨ ∃ te pe, ev = .iface te pe) :
    Calls Tryd.prog 106 #[.string s] w fun e w' => ∃ N, e = .returned (.tuple #[.int .i64 (Lib.atoiSat s.data.toList), .iface 236 (.pointer (some ⟨N, 0, none⟩))]) ∧ w.heap.size ≤ N ∧ w'.heap[N]? = some (.cells #[.string ⟨#[65, 116, 111, 105]⟩, .string s, ev] 244 (0, 0)) ∧ Below w.heap.size w w' := Any.strconv_Atoi_range Tryd.laysC172 s hlim h ev w hv hev
def Tryd.lays145_ren : Go.Shelf.Ren := ⟨fun | 145 => 44 | 220 => 84 | 219 => 103 | 217 => 115 | 225 => 116 | 224 => 117 | 267 => 118 | 266 => 125 | 314 => 126 | n => n, fun | 9 => 9 | 4 => 4 | 59 => 115 | 3 => 3 | 5 => 5 | 46 => 132 | 146 => 231 | 51 => 84 | n => n, fun | 1 => 1 | n => n⟩
theorem Tryd.lays145 : Go.Proofs.Lays.n145 Tryd.prog Tryd.lays145_ren := {
  mixed := by kernel_rfl
  f145 := Tryd.func44.trans (congrArg some (by kernel_rfl))
  f217 := Tryd.func115.trans (congrArg some (by kernel_rfl))
  f219 := Tryd.func103.trans (congrArg some (by kernel_rfl))
  f220 := Tryd.func84.trans (congrArg some (by kernel_rfl))
  f224 := Tryd.func117.trans (congrArg some (by kernel_rfl))
  f225 := Tryd.func116.trans (congrArg some (by kernel_rfl))
  f266 := Tryd.func125.trans (congrArg some (by kernel_rfl))
  f267 := Tryd.func118.trans (congrArg some (by kernel_rfl))
  f314 := Tryd.func126.trans (congrArg some (by kernel_rfl))
  t3 := Tryd.underlying3
  a3 := Tryd.isAgg3
  z3 := Tryd.sizeOf3
  v3 := Tryd.zeroValue3
  t4 := Tryd.underlying4
  a4 := Tryd.isAgg4
  z4 := Tryd.sizeOf4
  v4 := Tryd.zeroValue4
  t5 := Tryd.underlying5
  a5 := Tryd.isAgg5
  z5 := Tryd.sizeOf5
  v5 := Tryd.zeroValue5
  t9 := Tryd.underlying9
  a9 := Tryd.isAgg9
  z9 := Tryd.sizeOf9
  v9 := Tryd.zeroValue9
  t46 := Tryd.underlying132
  a46 := Tryd.isAgg132
  z46 := Tryd.sizeOf132
  v46 := Tryd.zeroValue132
  t51 := Tryd.underlying84
  a51 := Tryd.isAgg84
  z51 := Tryd.sizeOf84
  v51 := Tryd.zeroValue84
  t59 := Tryd.underlying115
  a59 := Tryd.isAgg115
  z59 := Tryd.sizeOf115
  v59 := Tryd.zeroValue115
  t146 := Tryd.underlying231
  a146 := Tryd.isAgg231
  z146 := Tryd.sizeOf231
  v146 := Tryd.zeroValue231
  g1 := by kernel_rfl }
open Go.RowKit Go.Lib in
/-- strings.Cut: "Cut slices s around the first instance of sep, returning the text before and after sep. The found result reports whether sep appears in s. If sep does not appear in s, cut returns s, "", false.": IT RETURNS 'Lib.cut s sep'; the world is as it was but for the count of draws. (LAID: no walk: one application.) -/
theorem Tryd.strings_Cut (s sep : ByteArray) (m : Int) (w : World) (hs : s.size < 4294967281) (hm : w.cell? ⟨1, 0, none⟩ = some (.int .i64 m)) :
    Calls Tryd.prog 44 #[.string s, .string sep] w fun e w' => e = .returned (.tuple #[.string ⟨(Lib.cut s.data.toList sep.data.toList).1.toArray⟩, .string ⟨(Lib.cut s.data.toList sep.data.toList).2.1.toArray⟩, .bool (Lib.cut s.data.toList sep.data.toList).2.2]) ∧ ∃ n, w' = w.drewN n := Any.strings_Cut Tryd.lays145 s sep m w hs hm
def Tryd.lays99_ren : Go.Shelf.Ren := ⟨fun | 99 => 108 | 206 => 122 | n => n, fun | 9 => 9 | 4 => 4 | 3 => 3 | n => n, fun | n => n⟩
theorem Tryd.lays99 : Go.Proofs.Lays.n99 Tryd.prog Tryd.lays99_ren := {
  mixed := by kernel_rfl
  f99 := Tryd.func108.trans (congrArg some (by kernel_rfl))
  f206 := Tryd.func122.trans (congrArg some (by kernel_rfl))
  t3 := Tryd.underlying3
  a3 := Tryd.isAgg3
  z3 := Tryd.sizeOf3
  v3 := Tryd.zeroValue3
  t4 := Tryd.underlying4
  a4 := Tryd.isAgg4
  z4 := Tryd.sizeOf4
  v4 := Tryd.zeroValue4
  t9 := Tryd.underlying9
  a9 := Tryd.isAgg9
  z9 := Tryd.sizeOf9
  v9 := Tryd.zeroValue9 }
open Go.RowKit Go.Lib in
/-- strings.HasPrefix: "HasPrefix reports whether the string s begins with prefix.": IT RETURNS 'Lib.hasPrefix s prefix'; the world is as it was. (LAID: no walk: one application.) -/
theorem Tryd.strings_HasPrefix (s p : ByteArray) (w : World) :
    Calls Tryd.prog 108 #[.string s, .string p] w fun e w' => e = .returned (.bool (Lib.hasPrefix s.data.toList p.data.toList)) ∧ w' = w := Any.strings_HasPrefix Tryd.lays99 s p w
def Tryd.lays146_ren : Go.Shelf.Ren := ⟨fun | 146 => 42 | 221 => 76 | 268 => 96 | 138 => 97 | 143 => 98 | 195 => 110 | 197 => 100 | 218 => 111 | 219 => 103 | 260 => 112 | 217 => 115 | 225 => 116 | 224 => 117 | 267 => 118 | 266 => 125 | 314 => 126 | n => n, fun | 9 => 9 | 31 => 23 | 3 => 3 | 4 => 4 | 0 => 0 | 105 => 214 | 21 => 21 | 5 => 5 | 46 => 132 | 119 => 226 | 139 => 229 | 138 => 228 | 146 => 231 | 51 => 84 | n => n, fun | 1 => 1 | 3 => 2 | 4 => 3 | n => n⟩
theorem Tryd.lays146 : Go.Proofs.Lays.n146 Tryd.prog Tryd.lays146_ren := {
  mixed := by kernel_rfl
  f138 := Tryd.func97.trans (congrArg some (by kernel_rfl))
  f143 := Tryd.func98.trans (congrArg some (by kernel_rfl))
  f146 := Tryd.func42.trans (congrArg some (by kernel_rfl))
  f195 := Tryd.func110.trans (congrArg some (by kernel_rfl))
  f197 := Tryd.func100.trans (congrArg some (by kernel_rfl))
  f217 := Tryd.func115.trans (congrArg some (by kernel_rfl))
  f218 := Tryd.func111.trans (congrArg some (by kernel_rfl))
  f219 := Tryd.func103.trans (congrArg some (by kernel_rfl))
  f221 := Tryd.func76.trans (congrArg some (by kernel_rfl))
  f224 := Tryd.func117.trans (congrArg some (by kernel_rfl))
  f225 := Tryd.func116.trans (congrArg some (by kernel_rfl))
  f260 := Tryd.func112.trans (congrArg some (by kernel_rfl))
  f266 := Tryd.func125.trans (congrArg some (by kernel_rfl))
  f267 := Tryd.func118.trans (congrArg some (by kernel_rfl))
  f268 := Tryd.func96.trans (congrArg some (by kernel_rfl))
  f314 := Tryd.func126.trans (congrArg some (by kernel_rfl))
  t0 := Tryd.underlying0
  a0 := Tryd.isAgg0
  z0 := Tryd.sizeOf0
  v0 := Tryd.zeroValue0
  t3 := Tryd.underlying3
  a3 := Tryd.isAgg3
  z3 := Tryd.sizeOf3
  v3 := Tryd.zeroValue3
  t4 := Tryd.underlying4
  a4 := Tryd.isAgg4
  z4 := Tryd.sizeOf4
  v4 := Tryd.zeroValue4
  t5 := Tryd.underlying5
  a5 := Tryd.isAgg5
  z5 := Tryd.sizeOf5
  v5 := Tryd.zeroValue5
  t9 := Tryd.underlying9
  a9 := Tryd.isAgg9
  z9 := Tryd.sizeOf9
  v9 := Tryd.zeroValue9
  t21 := Tryd.underlying21
  a21 := Tryd.isAgg21
  z21 := Tryd.sizeOf21
  v21 := Tryd.zeroValue21
  t31 := Tryd.underlying23
  a31 := Tryd.isAgg23
  z31 := Tryd.sizeOf23
  v31 := Tryd.zeroValue23
  t46 := Tryd.underlying132
  a46 := Tryd.isAgg132
  z46 := Tryd.sizeOf132
  v46 := Tryd.zeroValue132
  t51 := Tryd.underlying84
  a51 := Tryd.isAgg84
  z51 := Tryd.sizeOf84
  v51 := Tryd.zeroValue84
  t105 := Tryd.underlying214
  a105 := Tryd.isAgg214
  z105 := Tryd.sizeOf214
  v105 := Tryd.zeroValue214
  t119 := Tryd.underlying226
  a119 := Tryd.isAgg226
  z119 := Tryd.sizeOf226
  t138 := Tryd.underlying228
  a138 := Tryd.isAgg228
  z138 := Tryd.sizeOf228
  v138 := Tryd.zeroValue228
  t139 := Tryd.underlying229
  a139 := Tryd.isAgg229
  z139 := Tryd.sizeOf229
  v139 := Tryd.zeroValue229
  t146 := Tryd.underlying231
  a146 := Tryd.isAgg231
  z146 := Tryd.sizeOf231
  v146 := Tryd.zeroValue231
  g1 := by kernel_rfl
  g3 := by kernel_rfl
  g4 := by kernel_rfl }
open Go.RowKit Go.Lib in
/-- strings.Split. (LAID: no walk: one application.) -/
theorem Tryd.strings_Split (s sep : ByteArray) (m : Int) (w : World) (hs : s.size < 4294967281) (hm : w.cell? ⟨1, 0, none⟩ = some (.int .i64 m)) (h1 : 1 ≤ sep.size) :
    Calls Tryd.prog 42 #[.string s, .string sep] w fun e w' =>
      e = .returned (.slice (some ⟨w.heap.size, 0, none⟩) (Lib.countB s sep + 1) (Lib.countB s sep + 1)) ∧ w' = w.alloc (.cells ((Lib.splitB sep 0 (Lib.countB s sep) s).map Value.string).toArray 9) := Any.strings_Split Tryd.lays146 (by kernel_rfl) s sep m w hs hm h1
end Go.Proofs
