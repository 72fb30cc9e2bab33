/- The shelf's contracts at this seat's translation, laid by the kit's tools in plain words. -/
import Derived.Shelf.Strings.Builder1
import Derived.Shelf.Small.Utf8
import Derived.Shelf.Small.Bits
import Derived.Shelf.Small.Strs
import Derived.Shelf.Small.Wraps
import Derived.Shelf.Strings.BuilderF
import Derived.Shelf.Strings.BuilderK
import Derived.Shelf.Strconv.Itoa0
import Derived.Shelf.Strings.Search1
import Derived.Shelf.Strings.Search2
import Derived.Shelf.Strings.Search3
import Derived.Shelf.LaysM
import Derived.Shelf.Strings.Shaped
import Derived.Shelf.Strings.LastIndex
import Derived.Shelf.GgClosure.StringsIndexFunc
import Derived.Ground.GgwProg
import Derived.Shelf.GgClosure.StringsIndexFuncTop
import Derived.Shelf.GgClosure.StringsRunes
import Derived.Shelf.Strings.Prefix
import Derived.Shelf.Unicode.Decode
import Derived.Shelf.Strings.Runes
import Derived.Shelf.Unicode.DecodeSlow
import Derived.Shelf.Unicode.DecodeAny
import Derived.Shelf.Strings.FuncGrows
import Derived.Shelf.Strings.BuilderCap
import Derived.Shelf.Slices.Turned
import Derived.Shelf.Slices.Equal
import Derived.Shelf.Slices.Empties2
import Derived.Test.YthhohbidjhcjeaaGreatDoorProg
import Derived.RangeFuncNested
import Derived.RangeFuncBound
import Derived.RangeFuncLeaves
import Derived.Laws.Runes
import Derived.Laws.RangeAny
import Derived.Lib.OthersKept
import Derived.Deep.LoopGhost
import Derived.WalkKit
import Derived.WalkMore
import Derived.Tactics
import Derived.KernelRfl
import Derived.Lib.IndexLaws
import Derived.Shelf.Abstract
import Derived.Shelf.RegionOpen
import Derived.OwnWalkIn
import Derived.TacticsInMore
import Derived.LoopNIn
import Derived.LoopIn
import Derived.Outline
import Derived.Lib.Hide
import Derived.RangeFuncCalls
import Derived.Test.YthhohbidjhcjeaaGreatDoorBWd
namespace Go.Proofs
open Go.Shelf
def Tryz.lays169_ren : Go.Shelf.Ren:=⟨fun | 169 => 140 | n => n,fun | 70 => 147 | 9 => 9 | 0 => 0 | 72 => 150 | 37 => 148 | 127 => 176 | 3 => 3 | 5 => 5 | n => n,fun | n => n⟩
theorem Tryz.lays169 : Go.Proofs.Lays.n169 Tryz.prog Tryz.lays169_ren:={
 mixed:=by kernel_rfl
 f169:=Tryz.func140.trans (congrArg some (by kernel_rfl))
 t0:=Tryz.underlying0
 a0:=Tryz.isAgg0
 z0:=Tryz.sizeOf0
 v0:=Tryz.zeroValue0
 t3:=Tryz.underlying3
 a3:=Tryz.isAgg3
 z3:=Tryz.sizeOf3
 v3:=Tryz.zeroValue3
 t9:=Tryz.underlying9
 a9:=Tryz.isAgg9
 z9:=Tryz.sizeOf9
 v9:=Tryz.zeroValue9
 t37:=Tryz.underlying148
 a37:=Tryz.isAgg148
 z37:=Tryz.sizeOf148
 v37:=Tryz.zeroValue148
 t70:=Tryz.underlying147
 a70:=Tryz.isAgg147
 z70:=Tryz.sizeOf147
 v70:=Tryz.zeroValue147
 t72:=Tryz.underlying150
 a72:=Tryz.isAgg150
 z72:=Tryz.sizeOf150
 v72:=Tryz.zeroValue150
 t127:=Tryz.underlying176
 a127:=Tryz.isAgg176
 z127:=Tryz.sizeOf176
 v127:=Tryz.zeroValue176 }
theorem Tryz.Builder_Extra_169 : Builder.Extra Tryz.prog Tryz.lays169_ren:={
 sizeBuilder:=by kernel_rfl
 liesBuilder:=by kernel_rfl
 t5:=Tryz.underlying5
 a5:=Tryz.isAgg5
 z5:=Tryz.sizeOf5
 v5:=Tryz.zeroValue5
 infoByte:=by kernel_rfl
 cellsByte:=by kernel_rfl
 sizeByte:=by kernel_rfl
 neB5:=by decide }
open Go.RowKit in
/-- (*strings.Builder).String: "String returns the accumulated string.": OF A BUILDER THAT HOLDS AT LEAST ONE BYTE. ✋ THE MODEL FREEZES THOSE BYTES IN THE BUFFER (unsafe.String): a later write INTO them ends the model's run without an answer; a later append BEHIND them goes on. The statement's order of evaluation is drawn: one draw. (LAID: no walk: one application.) -/
theorem Tryz.Builder_String (B b : Nat) (l : List UInt8) (w : World) (h : Lib.IsBuilder 150 5 B b (Lib.byteCells l) w) (h0 : l ≠ []) :
  Calls Tryz.prog 140 #[.pointer (some ⟨b,0,none⟩)] w fun e w' => e = .returned (.string ⟨l.toArray⟩) ∧ Below B w w':=Any.Builder_String Tryz.lays169 Tryz.Builder_Extra_169 B b l w h h0
open Go.RowKit in
/-- (*strings.Builder).String OF A BUILDER THAT HOLDS NO BYTE: the empty string. (Its buffer is nil, or a row of which it has taken nothing yet; where that row has NO capacity the model lays one new block for unsafe.SliceData's 'some address'.) One draw. (LAID: no walk: one application.) -/
theorem Tryz.Builder_String_empty (B b : Nat) (w : World) (h : Lib.IsBuilder 150 5 B b [] w) (hBw : B ≤ w.heap.size) :
  Calls Tryz.prog 140 #[.pointer (some ⟨b,0,none⟩)] w fun e w' => e = .returned (.string ⟨#[]⟩) ∧ Below B w w':=Any.Builder_String_empty Tryz.lays169 Tryz.Builder_Extra_169 B b w h hBw
open Go.RowKit in
/-- (*strings.Builder).String: "String returns the accumulated string.": WHATEVER THE BUILDER HOLDS. (LAID: no walk: one application.) -/
theorem Tryz.Builder_String_any (B b : Nat) (l : List UInt8) (w : World) (h : Lib.IsBuilder 150 5 B b (Lib.byteCells l) w) (hBw : B ≤ w.heap.size) :
  Calls Tryz.prog 140 #[.pointer (some ⟨b,0,none⟩)] w fun e w' => e = .returned (.string ⟨l.toArray⟩) ∧ Below B w w':=Any.Builder_String_any Tryz.lays169 Tryz.Builder_Extra_169 B b l w h hBw
def Tryz.lays119_ren : Go.Shelf.Ren:=⟨fun | 119 => 193 | n => n,fun | 21 => 21 | 4 => 4 | n => n,fun | n => n⟩
theorem Tryz.lays119 : Go.Proofs.Lays.n119 Tryz.prog Tryz.lays119_ren:={
 mixed:=by kernel_rfl
 f119:=Tryz.func193.trans (congrArg some (by kernel_rfl))
 t4:=Tryz.underlying4
 a4:=Tryz.isAgg4
 z4:=Tryz.sizeOf4
 v4:=Tryz.zeroValue4
 t21:=Tryz.underlying21
 a21:=Tryz.isAgg21
 z21:=Tryz.sizeOf21
 v21:=Tryz.zeroValue21 }
/-- utf8.ValidRune: "ValidRune reports whether r can be legally encoded as UTF-8. Code points that are out of range or a surrogate half are illegal.": IT RETURNS 'Lib.validRune r'; the world is as it was. (LAID: no walk: one application.) -/
theorem Tryz.utf8_ValidRune (r : Int) (w : World) :
  Calls Tryz.prog 193 #[.int .i32 r] w fun e w' => e = .returned (.bool (Lib.validRune r)) ∧ w' = w:=Any.utf8_ValidRune Tryz.lays119 r w
def Tryz.lays128_ren : Go.Shelf.Ren:=⟨fun | 128 => 171 | n => n,fun | 51 => 185 | 3 => 3 | 4 => 4 | 46 => 158 | 5 => 5 | 9 => 9 | n => n,fun | n => n⟩
theorem Tryz.lays128 : Go.Proofs.Lays.n128 Tryz.prog Tryz.lays128_ren:={
 mixed:=by kernel_rfl
 f128:=Tryz.func171.trans (congrArg some (by kernel_rfl))
 t3:=Tryz.underlying3
 a3:=Tryz.isAgg3
 z3:=Tryz.sizeOf3
 v3:=Tryz.zeroValue3
 t4:=Tryz.underlying4
 a4:=Tryz.isAgg4
 z4:=Tryz.sizeOf4
 v4:=Tryz.zeroValue4
 t5:=Tryz.underlying5
 a5:=Tryz.isAgg5
 z5:=Tryz.sizeOf5
 v5:=Tryz.zeroValue5
 t9:=Tryz.underlying9
 a9:=Tryz.isAgg9
 z9:=Tryz.sizeOf9
 v9:=Tryz.zeroValue9
 t46:=Tryz.underlying158
 a46:=Tryz.isAgg158
 z46:=Tryz.sizeOf158
 v46:=Tryz.zeroValue158
 t51:=Tryz.underlying185
 a51:=Tryz.isAgg185
 z51:=Tryz.sizeOf185
 v51:=Tryz.zeroValue185 }
/-- bits.Len32: "Len32 returns the minimum number of bits required to represent x; the result is 0 for x == 0.": IT RETURNS 'Lib.bitLen x'; the world is as it was. ('h0', 'h1': x is a uint32.) (LAID: no walk: one application.) -/
theorem Tryz.bits_Len32 (x : Int) (w : World) (h0 : 0 ≤ x) (h1 : x ≤ 4294967295) :
  Calls Tryz.prog 171 #[.int .u32 x] w fun e w' => e = .returned (.int .i64 (Lib.bitLen x.toNat)) ∧ w' = w:=Any.bits_Len32 Tryz.lays128 x w h0 h1
def Tryz.lays125_ren : Go.Shelf.Ren:=⟨fun | 125 => 142 | 128 => 171 | 129 => 172 | n => n,fun | 46 => 158 | 3 => 3 | 51 => 185 | 53 => 187 | 4 => 4 | 5 => 5 | 9 => 9 | n => n,fun | n => n⟩
theorem Tryz.lays125 : Go.Proofs.Lays.n125 Tryz.prog Tryz.lays125_ren:={
 mixed:=by kernel_rfl
 f125:=Tryz.func142.trans (congrArg some (by kernel_rfl))
 f128:=Tryz.func171.trans (congrArg some (by kernel_rfl))
 f129:=Tryz.func172.trans (congrArg some (by kernel_rfl))
 t3:=Tryz.underlying3
 a3:=Tryz.isAgg3
 z3:=Tryz.sizeOf3
 v3:=Tryz.zeroValue3
 t4:=Tryz.underlying4
 a4:=Tryz.isAgg4
 z4:=Tryz.sizeOf4
 v4:=Tryz.zeroValue4
 t5:=Tryz.underlying5
 a5:=Tryz.isAgg5
 z5:=Tryz.sizeOf5
 v5:=Tryz.zeroValue5
 t9:=Tryz.underlying9
 a9:=Tryz.isAgg9
 z9:=Tryz.sizeOf9
 v9:=Tryz.zeroValue9
 t46:=Tryz.underlying158
 a46:=Tryz.isAgg158
 z46:=Tryz.sizeOf158
 v46:=Tryz.zeroValue158
 t51:=Tryz.underlying185
 a51:=Tryz.isAgg185
 z51:=Tryz.sizeOf185
 v51:=Tryz.zeroValue185
 t53:=Tryz.underlying187
 a53:=Tryz.isAgg187
 z53:=Tryz.sizeOf187
 v53:=Tryz.zeroValue187 }
/-- bits.Len: "Len returns the minimum number of bits required to represent x; the result is 0 for x == 0.": IT RETURNS 'Lib.bitLen x'; the world is as it was. (A uint has 64 bits in the model.) ITS CALLEE bits.Len64 IS MET BY ITS OWN CONTRACT OFF THE SHELF (lay that first). (LAID: no walk: one application.) -/
theorem Tryz.bits_Len (x : Int) (w : World) (h0 : 0 ≤ x) (h1 : x ≤ 18446744073709551615) :
  Calls Tryz.prog 142 #[.int .u64 x] w fun e w' => e = .returned (.int .i64 (Lib.bitLen x.toNat)) ∧ w' = w:=Any.bits_Len Tryz.lays125 x w h0 h1
def Tryz.lays213_ren : Go.Shelf.Ren:=⟨fun | 213 => 173 | 265 => 189 | n => n,fun | 9 => 9 | 3 => 3 | n => n,fun | n => n⟩
theorem Tryz.lays213 : Go.Proofs.Lays.n213 Tryz.prog Tryz.lays213_ren:={
 mixed:=by kernel_rfl
 f213:=Tryz.func173.trans (congrArg some (by kernel_rfl))
 f265:=Tryz.func189.trans (congrArg some (by kernel_rfl))
 t3:=Tryz.underlying3
 a3:=Tryz.isAgg3
 z3:=Tryz.sizeOf3
 v3:=Tryz.zeroValue3
 t9:=Tryz.underlying9
 a9:=Tryz.isAgg9
 z9:=Tryz.sizeOf9
 v9:=Tryz.zeroValue9 }
open Go.RowKit in
/-- internal/bytealg.CompareString (what strings.Compare calls): IT RETURNS 'Lib.compareBytes a b'; the world is as it was. (LAID: no walk: one application.) -/
theorem Tryz.bytealg_CompareString (a b : ByteArray) (w : World) :
  Calls Tryz.prog 173 #[.string a,.string b] w fun e w' => e = .returned (.int .i64 (Lib.compareBytes a.data.toList b.data.toList)) ∧ w' = w:=Any.bytealg_CompareString Tryz.lays213 a b w
def Tryz.lays106_ren : Go.Shelf.Ren:=⟨fun | 106 => 143 | 213 => 173 | 265 => 189 | n => n,fun | 9 => 9 | 3 => 3 | n => n,fun | n => n⟩
theorem Tryz.lays106 : Go.Proofs.Lays.n106 Tryz.prog Tryz.lays106_ren:={
 mixed:=by kernel_rfl
 f106:=Tryz.func143.trans (congrArg some (by kernel_rfl))
 f213:=Tryz.func173.trans (congrArg some (by kernel_rfl))
 f265:=Tryz.func189.trans (congrArg some (by kernel_rfl))
 t3:=Tryz.underlying3
 a3:=Tryz.isAgg3
 z3:=Tryz.sizeOf3
 v3:=Tryz.zeroValue3
 t9:=Tryz.underlying9
 a9:=Tryz.isAgg9
 z9:=Tryz.sizeOf9
 v9:=Tryz.zeroValue9 }
open Go.RowKit in
/-- strings.Compare: "Compare returns an integer comparing two strings lexicographically. The result will be 0 if a == b, -1 if a < b, and +1 if a > b.": IT RETURNS 'Lib.compareBytes a b'; the world is as it was. (LAID: no walk: one application.) -/
theorem Tryz.strings_Compare (a b : ByteArray) (w : World) :
  Calls Tryz.prog 143 #[.string a,.string b] w fun e w' => e = .returned (.int .i64 (Lib.compareBytes a.data.toList b.data.toList)) ∧ w' = w:=Any.strings_Compare Tryz.lays106 a b w
def Tryz.lays137_ren : Go.Shelf.Ren:=⟨fun | 137 => 192 | 217 => 196 | 266 => 201 | n => n,fun | 9 => 9 | 5 => 5 | 3 => 3 | n => n,fun | n => n⟩
theorem Tryz.lays137 : Go.Proofs.Lays.n137 Tryz.prog Tryz.lays137_ren:={
 mixed:=by kernel_rfl
 f137:=Tryz.func192.trans (congrArg some (by kernel_rfl))
 f217:=Tryz.func196.trans (congrArg some (by kernel_rfl))
 f266:=Tryz.func201.trans (congrArg some (by kernel_rfl))
 t3:=Tryz.underlying3
 a3:=Tryz.isAgg3
 z3:=Tryz.sizeOf3
 v3:=Tryz.zeroValue3
 t5:=Tryz.underlying5
 a5:=Tryz.isAgg5
 z5:=Tryz.sizeOf5
 v5:=Tryz.zeroValue5
 t9:=Tryz.underlying9
 a9:=Tryz.isAgg9
 z9:=Tryz.sizeOf9
 v9:=Tryz.zeroValue9 }
open Go.RowKit in
/-- strings.IndexByte: "IndexByte returns the index of the first instance of c in s, or -1 if c is not present in s.": IT RETURNS 'Lib.indexByte s c'; the world is as it was. (LAID: no walk: one application.) -/
theorem Tryz.strings_IndexByte (s : ByteArray) (c : Int) (w : World) :
  Calls Tryz.prog 192 #[.string s,.int .u8 c] w fun e w' => e = .returned (.int .i64 (Lib.indexByte s.data.toList c.toNat.toUInt8)) ∧ w' = w:=Any.strings_IndexByte Tryz.lays137 s c w
def Tryz.lays210_ren : Go.Shelf.Ren:=⟨fun | 210 => 159 | 206 => 182 | n => n,fun | 9 => 9 | 4 => 4 | 3 => 3 | n => n,fun | n => n⟩
theorem Tryz.lays210 : Go.Proofs.Lays.n210 Tryz.prog Tryz.lays210_ren:={
 mixed:=by kernel_rfl
 f206:=Tryz.func182.trans (congrArg some (by kernel_rfl))
 f210:=Tryz.func159.trans (congrArg some (by kernel_rfl))
 t3:=Tryz.underlying3
 a3:=Tryz.isAgg3
 z3:=Tryz.sizeOf3
 v3:=Tryz.zeroValue3
 t4:=Tryz.underlying4
 a4:=Tryz.isAgg4
 z4:=Tryz.sizeOf4
 v4:=Tryz.zeroValue4
 t9:=Tryz.underlying9
 a9:=Tryz.isAgg9
 z9:=Tryz.sizeOf9
 v9:=Tryz.zeroValue9 }
open Go.RowKit in
/-- internal/stringslite.CutPrefix (what strings.CutPrefix calls). (LAID: no walk: one application.) -/
theorem Tryz.stringslite_CutPrefix (s p : ByteArray) (w : World) :
  Calls Tryz.prog 159 #[.string s,.string p] w fun e w' => e = .returned (.tuple #[.string ⟨(Lib.trimPrefix s.data.toList p.data.toList).toArray⟩,.bool (Lib.hasPrefix s.data.toList p.data.toList)]) ∧ w' = w:=Any.stringslite_CutPrefix Tryz.lays210 s p w
def Tryz.lays103_ren : Go.Shelf.Ren:=⟨fun | 103 => 134 | 210 => 159 | 206 => 182 | n => n,fun | 9 => 9 | 4 => 4 | 24 => 44 | 3 => 3 | n => n,fun | n => n⟩
theorem Tryz.lays103 : Go.Proofs.Lays.n103 Tryz.prog Tryz.lays103_ren:={
 mixed:=by kernel_rfl
 f103:=Tryz.func134.trans (congrArg some (by kernel_rfl))
 f206:=Tryz.func182.trans (congrArg some (by kernel_rfl))
 f210:=Tryz.func159.trans (congrArg some (by kernel_rfl))
 t3:=Tryz.underlying3
 a3:=Tryz.isAgg3
 z3:=Tryz.sizeOf3
 v3:=Tryz.zeroValue3
 t4:=Tryz.underlying4
 a4:=Tryz.isAgg4
 z4:=Tryz.sizeOf4
 v4:=Tryz.zeroValue4
 t9:=Tryz.underlying9
 a9:=Tryz.isAgg9
 z9:=Tryz.sizeOf9
 v9:=Tryz.zeroValue9
 t24:=Tryz.underlying44
 a24:=Tryz.isAgg44
 z24:=Tryz.sizeOf44
 v24:=Tryz.zeroValue44 }
open Go.RowKit in
/-- strings.CutPrefix: "CutPrefix returns s without the provided leading prefix string and reports whether it found the prefix. If s doesn't start with prefix, CutPrefix returns s, false. If prefix is the empty string, CutPrefix returns s, true.": IT RETURNS '(Lib.trimPrefix s p, Lib.hasPrefix s p)'; the world is as it was. (LAID: no walk: one application.) -/
theorem Tryz.strings_CutPrefix (s p : ByteArray) (w : World) :
  Calls Tryz.prog 134 #[.string s,.string p] w fun e w' => e = .returned (.tuple #[.string ⟨(Lib.trimPrefix s.data.toList p.data.toList).toArray⟩,.bool (Lib.hasPrefix s.data.toList p.data.toList)]) ∧ w' = w:=Any.strings_CutPrefix Tryz.lays103 s p w
open Go.RowKit in
/-- (*strings.Builder).String: "String returns the accumulated string.": OF A BUILDER THAT HOLDS AT LEAST ONE BYTE. ✋ THE MODEL FREEZES THOSE BYTES IN THE BUFFER (unsafe.String): a later write INTO them ends the model's run without an answer; a later append BEHIND them goes on. The statement's order of evaluation is drawn: one draw. THE FORM '_f': IT SAYS BESIDES THAT THE BUILDER IS A BUILDER STILL ('Lib.IsBuilderF', the same bytes): SO IT CAN BE WRITTEN ON: 'b.WriteString(b.String()[:k])'. (LAID: no walk: one application.) -/
theorem Tryz.Builder_String_f (B b : Nat) (l : List UInt8) (w : World) (h : Lib.IsBuilderF 150 5 B b (Lib.byteCells l) w) (h0 : l ≠ []) :
  Calls Tryz.prog 140 #[.pointer (some ⟨b,0,none⟩)] w fun e w' => e = .returned (.string ⟨l.toArray⟩) ∧ (Lib.IsBuilderF 150 5 B b (Lib.byteCells l) w' ∧ Below B w w'):=Any.Builder_String_f Tryz.lays169 Tryz.Builder_Extra_169 B b l w h h0
open Go.RowKit in
/-- (*strings.Builder).String OF A BUILDER THAT HOLDS NO BYTE: the empty string; THE FORM '_f': a builder still. (LAID: no walk: one application.) -/
theorem Tryz.Builder_String_empty_f (B b : Nat) (w : World) (h : Lib.IsBuilderF 150 5 B b [] w) (hBw : B ≤ w.heap.size) :
  Calls Tryz.prog 140 #[.pointer (some ⟨b,0,none⟩)] w fun e w' => e = .returned (.string ⟨#[]⟩) ∧ (Lib.IsBuilderF 150 5 B b [] w' ∧ Below B w w'):=Any.Builder_String_empty_f Tryz.lays169 Tryz.Builder_Extra_169 B b w h hBw
open Go.RowKit in
/-- (*strings.Builder).String: "String returns the accumulated string.": WHATEVER THE BUILDER HOLDS; THE FORM '_f': OF A BUILDER THAT MAY HAVE BEEN READ BEFORE; AND IT IS A BUILDER STILL, holding the same bytes: it can be written on. (LAID: no walk: one application.) -/
theorem Tryz.Builder_String_any_f (B b : Nat) (l : List UInt8) (w : World) (h : Lib.IsBuilderF 150 5 B b (Lib.byteCells l) w) (hBw : B ≤ w.heap.size) :
  Calls Tryz.prog 140 #[.pointer (some ⟨b,0,none⟩)] w fun e w' => e = .returned (.string ⟨l.toArray⟩) ∧ (Lib.IsBuilderF 150 5 B b (Lib.byteCells l) w' ∧ Below B w w'):=Any.Builder_String_any_f Tryz.lays169 Tryz.Builder_Extra_169 B b l w h hBw
open Go.RowKit in
/-- (*strings.Builder).String: "String returns the accumulated string.": OF A BUILDER THAT HOLDS AT LEAST ONE BYTE. ✋ THE MODEL FREEZES THOSE BYTES IN THE BUFFER (unsafe.String): a later write INTO them ends the model's run without an answer; a later append BEHIND them goes on. The statement's order of evaluation is drawn: one draw. THE FORM '_k': OVER 'Lib.IsBuilderF' (a builder that 'String()' may have read), AND WITH THE FRAME THAT REACHES ABOVE THE BUILDER: 'Lib.OthersKept': every block that is not b and is no row of uint8's stands as it stood: the iterator of a range among them. (LAID: no walk: one application.) -/
theorem Tryz.Builder_String_k (B b : Nat) (l : List UInt8) (w : World) (h : Lib.IsBuilderF 150 5 B b (Lib.byteCells l) w) (h0 : l ≠ []) :
  Calls Tryz.prog 140 #[.pointer (some ⟨b,0,none⟩)] w fun e w' => e = .returned (.string ⟨l.toArray⟩) ∧ (Lib.IsBuilderF 150 5 B b (Lib.byteCells l) w' ∧ Below B w w' ∧ Lib.OthersKept 5 (some b) w w'):=Any.Builder_String_k Tryz.lays169 Tryz.Builder_Extra_169 B b l w h h0
open Go.RowKit in
/-- (*strings.Builder).String OF A BUILDER THAT HOLDS NO BYTE: the empty string; THE FORM '_k': OVER 'Lib.IsBuilderF' (a builder that 'String()' may have read), AND WITH THE FRAME THAT REACHES ABOVE THE BUILDER: 'Lib.OthersKept': every block that is not b and is no row of uint8's stands as it stood: the iterator of a range among them. (LAID: no walk: one application.) -/
theorem Tryz.Builder_String_empty_k (B b : Nat) (w : World) (h : Lib.IsBuilderF 150 5 B b [] w) (hBw : B ≤ w.heap.size) :
  Calls Tryz.prog 140 #[.pointer (some ⟨b,0,none⟩)] w fun e w' => e = .returned (.string ⟨#[]⟩) ∧ (Lib.IsBuilderF 150 5 B b [] w' ∧ Below B w w' ∧ Lib.OthersKept 5 (some b) w w'):=Any.Builder_String_empty_k Tryz.lays169 Tryz.Builder_Extra_169 B b w h hBw
open Go.RowKit in
/-- (*strings.Builder).String: "String returns the accumulated string.": WHATEVER THE BUILDER HOLDS; THE FORM '_k': OVER 'Lib.IsBuilderF' (a builder that 'String()' may have read), AND WITH THE FRAME THAT REACHES ABOVE THE BUILDER: 'Lib.OthersKept': every block that is not b and is no row of uint8's stands as it stood: the iterator of a range among them. (LAID: no walk: one application.) -/
theorem Tryz.Builder_String_any_k (B b : Nat) (l : List UInt8) (w : World) (h : Lib.IsBuilderF 150 5 B b (Lib.byteCells l) w) (hBw : B ≤ w.heap.size) :
  Calls Tryz.prog 140 #[.pointer (some ⟨b,0,none⟩)] w fun e w' => e = .returned (.string ⟨l.toArray⟩) ∧ (Lib.IsBuilderF 150 5 B b (Lib.byteCells l) w' ∧ Below B w w' ∧ Lib.OthersKept 5 (some b) w w'):=Any.Builder_String_any_k Tryz.lays169 Tryz.Builder_Extra_169 B b l w h hBw
def Tryz.lays129_ren : Go.Shelf.Ren:=⟨fun | 129 => 172 | n => n,fun | 53 => 187 | 3 => 3 | 4 => 4 | 46 => 158 | 5 => 5 | 9 => 9 | n => n,fun | n => n⟩
theorem Tryz.lays129 : Go.Proofs.Lays.n129 Tryz.prog Tryz.lays129_ren:={
 mixed:=by kernel_rfl
 f129:=Tryz.func172.trans (congrArg some (by kernel_rfl))
 t3:=Tryz.underlying3
 a3:=Tryz.isAgg3
 z3:=Tryz.sizeOf3
 v3:=Tryz.zeroValue3
 t4:=Tryz.underlying4
 a4:=Tryz.isAgg4
 z4:=Tryz.sizeOf4
 v4:=Tryz.zeroValue4
 t5:=Tryz.underlying5
 a5:=Tryz.isAgg5
 z5:=Tryz.sizeOf5
 v5:=Tryz.zeroValue5
 t9:=Tryz.underlying9
 a9:=Tryz.isAgg9
 z9:=Tryz.sizeOf9
 v9:=Tryz.zeroValue9
 t46:=Tryz.underlying158
 a46:=Tryz.isAgg158
 z46:=Tryz.sizeOf158
 v46:=Tryz.zeroValue158
 t53:=Tryz.underlying187
 a53:=Tryz.isAgg187
 z53:=Tryz.sizeOf187
 v53:=Tryz.zeroValue187 }
/-- bits.Len64: "Len64 returns the minimum number of bits required to represent x; the result is 0 for x == 0.": IT RETURNS 'Lib.bitLen x'; the world is as it was. ('h0', 'h1': x is a uint64.) (LAID: no walk: one application.) -/
theorem Tryz.bits_Len64 (x : Int) (w : World) (h0 : 0 ≤ x) (h1 : x ≤ 18446744073709551615) :
  Calls Tryz.prog 172 #[.int .u64 x] w fun e w' => e = .returned (.int .i64 (Lib.bitLen x.toNat)) ∧ w' = w:=Any.bits_Len64 Tryz.lays129 x w h0 h1
def Tryz.lays217_ren : Go.Shelf.Ren:=⟨fun | 217 => 196 | 266 => 201 | n => n,fun | 9 => 9 | 5 => 5 | 3 => 3 | n => n,fun | n => n⟩
theorem Tryz.lays217 : Go.Proofs.Lays.n217 Tryz.prog Tryz.lays217_ren:={
 mixed:=by kernel_rfl
 f217:=Tryz.func196.trans (congrArg some (by kernel_rfl))
 f266:=Tryz.func201.trans (congrArg some (by kernel_rfl))
 t3:=Tryz.underlying3
 a3:=Tryz.isAgg3
 z3:=Tryz.sizeOf3
 v3:=Tryz.zeroValue3
 t5:=Tryz.underlying5
 a5:=Tryz.isAgg5
 z5:=Tryz.sizeOf5
 v5:=Tryz.zeroValue5
 t9:=Tryz.underlying9
 a9:=Tryz.isAgg9
 z9:=Tryz.sizeOf9
 v9:=Tryz.zeroValue9 }
open Go.RowKit Go.Lib in
/-- internal/stringslite.IndexByte (what strings.IndexByte calls): IT RETURNS 'Lib.indexByte s c'; the world is as it was. (LAID: no walk: one application.) -/
theorem Tryz.stringslite_IndexByte (s : ByteArray) (c : Int) (w : World) :
  Calls Tryz.prog 196 #[.string s,.int .u8 c] w fun e w' => e = .returned (.int .i64 (Lib.indexByte s.data.toList c.toNat.toUInt8)) ∧ w' = w:=Any.stringslite_IndexByte Tryz.lays217 s c w
def Tryz.lays224_ren : Go.Shelf.Ren:=⟨fun | 224 => 194 | n => n,fun | 3 => 3 | n => n,fun | n => n⟩
theorem Tryz.lays224 : Go.Proofs.Lays.n224 Tryz.prog Tryz.lays224_ren:={
 mixed:=by kernel_rfl
 f224:=Tryz.func194.trans (congrArg some (by kernel_rfl))
 t3:=Tryz.underlying3
 a3:=Tryz.isAgg3
 z3:=Tryz.sizeOf3
 v3:=Tryz.zeroValue3 }
open Go.RowKit Go.Lib in
/-- internal/bytealg.Cutover: "Cutover reports the number of failures of IndexByte we should tolerate before switching over to Index. n is the number of bytes processed so far.": on amd64: (n + 16) / 8. (LAID: no walk: one application.) -/
theorem Tryz.bytealg_Cutover (n : Int) (h0 : 0 ≤ n) (h1 : n < 4611686018427387904) (w : World) :
  Calls Tryz.prog 194 #[.int .i64 n] w fun e w' => e = .returned (.int .i64 ((n + 16) / 8)) ∧ w' = w:=Any.bytealg_Cutover Tryz.lays224 n h0 h1 w
def Tryz.lays314_ren : Go.Shelf.Ren:=⟨fun | 314 => 202 | n => n,fun | 9 => 9 | 51 => 185 | 3 => 3 | 4 => 4 | 5 => 5 | 46 => 158 | n => n,fun | n => n⟩
theorem Tryz.lays314 : Go.Proofs.Lays.n314 Tryz.prog Tryz.lays314_ren:={
 mixed:=by kernel_rfl
 f314:=Tryz.func202.trans (congrArg some (by kernel_rfl))
 t3:=Tryz.underlying3
 a3:=Tryz.isAgg3
 z3:=Tryz.sizeOf3
 v3:=Tryz.zeroValue3
 t4:=Tryz.underlying4
 a4:=Tryz.isAgg4
 z4:=Tryz.sizeOf4
 v4:=Tryz.zeroValue4
 t5:=Tryz.underlying5
 a5:=Tryz.isAgg5
 z5:=Tryz.sizeOf5
 v5:=Tryz.zeroValue5
 t9:=Tryz.underlying9
 a9:=Tryz.isAgg9
 z9:=Tryz.sizeOf9
 v9:=Tryz.zeroValue9
 t46:=Tryz.underlying158
 a46:=Tryz.isAgg158
 z46:=Tryz.sizeOf158
 v46:=Tryz.zeroValue158
 t51:=Tryz.underlying185
 a51:=Tryz.isAgg185
 z51:=Tryz.sizeOf185
 v51:=Tryz.zeroValue185 }
open Go.RowKit Go.Lib in
/-- hashStr: "returns the hash and the appropriate multiplicative factor for use in Rabin-Karp algorithm": THE HASH OF ALL OF sep, AND 16777619 ^ len(sep), both in uint32. (LAID: no walk: one application.) -/
theorem Tryz.bytealg_hashStr (sep : ByteArray) (hs : sep.size < 4294967281) (w : World) :
  Calls Tryz.prog 202 #[.string sep] w fun e w' => e = .returned (.tuple #[.int .u32 (RK.H sep.data.toList % 4294967296),.int .u32 (16777619 ^ sep.size % 4294967296)]) ∧ w' = w:=Any.bytealg_hashStr Tryz.lays314 sep hs w
def Tryz.lays267_ren : Go.Shelf.Ren:=⟨fun | 267 => 197 | 314 => 202 | n => n,fun | 9 => 9 | 3 => 3 | 146 => 217 | 51 => 185 | 4 => 4 | 5 => 5 | 46 => 158 | n => n,fun | n => n⟩
theorem Tryz.lays267 : Go.Proofs.Lays.n267 Tryz.prog Tryz.lays267_ren:={
 mixed:=by kernel_rfl
 f267:=Tryz.func197.trans (congrArg some (by kernel_rfl))
 f314:=Tryz.func202.trans (congrArg some (by kernel_rfl))
 t3:=Tryz.underlying3
 a3:=Tryz.isAgg3
 z3:=Tryz.sizeOf3
 v3:=Tryz.zeroValue3
 t4:=Tryz.underlying4
 a4:=Tryz.isAgg4
 z4:=Tryz.sizeOf4
 v4:=Tryz.zeroValue4
 t5:=Tryz.underlying5
 a5:=Tryz.isAgg5
 z5:=Tryz.sizeOf5
 v5:=Tryz.zeroValue5
 t9:=Tryz.underlying9
 a9:=Tryz.isAgg9
 z9:=Tryz.sizeOf9
 v9:=Tryz.zeroValue9
 t46:=Tryz.underlying158
 a46:=Tryz.isAgg158
 z46:=Tryz.sizeOf158
 v46:=Tryz.zeroValue158
 t51:=Tryz.underlying185
 a51:=Tryz.isAgg185
 z51:=Tryz.sizeOf185
 v51:=Tryz.zeroValue185
 t146:=Tryz.underlying217
 a146:=Tryz.isAgg217
 z146:=Tryz.sizeOf217
 v146:=Tryz.zeroValue217 }
open Go.RowKit Go.Lib in
theorem Tryz.bytealg_IndexRabinKarp (s sep : ByteArray) (h1 : 1 ≤ sep.size) (h2 : sep.size ≤ s.size) (hs : s.size < 4294967281) (w : World) :
  Calls Tryz.prog 197 #[.string s,.string sep] w fun e w' => e = .returned (.int .i64 (Lib.index s.data.toList sep.data.toList)) ∧ w' = w:=Any.bytealg_IndexRabinKarp Tryz.lays267 s sep h1 h2 hs w
def Tryz.lays219_ren : Go.Shelf.Ren:=⟨fun | 219 => 178 | 217 => 196 | 225 => 195 | 224 => 194 | 267 => 197 | 266 => 201 | 314 => 202 | n => n,fun | 9 => 9 | 3 => 3 | 4 => 4 | 5 => 5 | 46 => 158 | 146 => 217 | 51 => 185 | n => n,fun | 1 => 0 | n => n⟩
theorem Tryz.lays219 : Go.Proofs.Lays.n219 Tryz.prog Tryz.lays219_ren:={
 mixed:=by kernel_rfl
 f217:=Tryz.func196.trans (congrArg some (by kernel_rfl))
 f219:=Tryz.func178.trans (congrArg some (by kernel_rfl))
 f224:=Tryz.func194.trans (congrArg some (by kernel_rfl))
 f225:=Tryz.func195.trans (congrArg some (by kernel_rfl))
 f266:=Tryz.func201.trans (congrArg some (by kernel_rfl))
 f267:=Tryz.func197.trans (congrArg some (by kernel_rfl))
 f314:=Tryz.func202.trans (congrArg some (by kernel_rfl))
 t3:=Tryz.underlying3
 a3:=Tryz.isAgg3
 z3:=Tryz.sizeOf3
 v3:=Tryz.zeroValue3
 t4:=Tryz.underlying4
 a4:=Tryz.isAgg4
 z4:=Tryz.sizeOf4
 v4:=Tryz.zeroValue4
 t5:=Tryz.underlying5
 a5:=Tryz.isAgg5
 z5:=Tryz.sizeOf5
 v5:=Tryz.zeroValue5
 t9:=Tryz.underlying9
 a9:=Tryz.isAgg9
 z9:=Tryz.sizeOf9
 v9:=Tryz.zeroValue9
 t46:=Tryz.underlying158
 a46:=Tryz.isAgg158
 z46:=Tryz.sizeOf158
 v46:=Tryz.zeroValue158
 t51:=Tryz.underlying185
 a51:=Tryz.isAgg185
 z51:=Tryz.sizeOf185
 v51:=Tryz.zeroValue185
 t146:=Tryz.underlying217
 a146:=Tryz.isAgg217
 z146:=Tryz.sizeOf217
 v146:=Tryz.zeroValue217
 g1:=by kernel_rfl }
open Go.RowKit Go.Lib in
/-- internal/stringslite.Index (what strings.Index calls) AT A substr OF ONE BYTE c: IT RETURNS 'Lib.indexByte s c'; the world is as it was. (LAID: no walk: one application.) -/
theorem Tryz.stringslite_Index_one (s : ByteArray) (c : UInt8) (w : World) :
  Calls Tryz.prog 178 #[.string s,.string ⟨#[c]⟩] w fun e w' => e = .returned (.int .i64 (Lib.indexByte s.data.toList c)) ∧ w' = w:=Any.stringslite_Index_one Tryz.lays219 s c w
open Go.RowKit Go.Lib in
/-- internal/stringslite.Index (what strings.Index calls) AT A substr OF WHATEVER LENGTH: IT RETURNS 'Lib.index s substr'; the world is as it was. 'm': what internal/bytealg.MaxLen holds: whatever. (LAID: no walk: one application.) -/
theorem Tryz.stringslite_Index (s sub : ByteArray) (m : Int) (w : World) (hs : s.size < 4294967281) (hm : w.cell? ⟨0,0,none⟩ = some (.int .i64 m)) :
  Calls Tryz.prog 178 #[.string s,.string sub] w fun e w' => e = .returned (.int .i64 (Lib.index s.data.toList sub.data.toList)) ∧ w' = w:=Any.stringslite_Index Tryz.lays219 s sub m w hs hm
def Tryz.lays143_ren : Go.Shelf.Ren:=⟨fun | 143 => 149 | 219 => 178 | 217 => 196 | 225 => 195 | 224 => 194 | 267 => 197 | 266 => 201 | 314 => 202 | n => n,fun | 9 => 9 | 3 => 3 | 4 => 4 | 5 => 5 | 46 => 158 | 146 => 217 | 51 => 185 | n => n,fun | 1 => 0 | n => n⟩
theorem Tryz.lays143 : Go.Proofs.Lays.n143 Tryz.prog Tryz.lays143_ren:={
 mixed:=by kernel_rfl
 f143:=Tryz.func149.trans (congrArg some (by kernel_rfl))
 f217:=Tryz.func196.trans (congrArg some (by kernel_rfl))
 f219:=Tryz.func178.trans (congrArg some (by kernel_rfl))
 f224:=Tryz.func194.trans (congrArg some (by kernel_rfl))
 f225:=Tryz.func195.trans (congrArg some (by kernel_rfl))
 f266:=Tryz.func201.trans (congrArg some (by kernel_rfl))
 f267:=Tryz.func197.trans (congrArg some (by kernel_rfl))
 f314:=Tryz.func202.trans (congrArg some (by kernel_rfl))
 t3:=Tryz.underlying3
 a3:=Tryz.isAgg3
 z3:=Tryz.sizeOf3
 v3:=Tryz.zeroValue3
 t4:=Tryz.underlying4
 a4:=Tryz.isAgg4
 z4:=Tryz.sizeOf4
 v4:=Tryz.zeroValue4
 t5:=Tryz.underlying5
 a5:=Tryz.isAgg5
 z5:=Tryz.sizeOf5
 v5:=Tryz.zeroValue5
 t9:=Tryz.underlying9
 a9:=Tryz.isAgg9
 z9:=Tryz.sizeOf9
 v9:=Tryz.zeroValue9
 t46:=Tryz.underlying158
 a46:=Tryz.isAgg158
 z46:=Tryz.sizeOf158
 v46:=Tryz.zeroValue158
 t51:=Tryz.underlying185
 a51:=Tryz.isAgg185
 z51:=Tryz.sizeOf185
 v51:=Tryz.zeroValue185
 t146:=Tryz.underlying217
 a146:=Tryz.isAgg217
 z146:=Tryz.sizeOf217
 v146:=Tryz.zeroValue217
 g1:=by kernel_rfl }
open Go.RowKit Go.Lib in
/-- strings.Index: "Index returns the index of the first instance of substr in s, or -1 if substr is not present in s.": AT A substr OF ONE BYTE c: IT RETURNS 'Lib.indexByte s c'; the world is as it was. (LAID: no walk: one application.) -/
theorem Tryz.strings_Index_one (s : ByteArray) (c : UInt8) (w : World) :
  Calls Tryz.prog 149 #[.string s,.string ⟨#[c]⟩] w fun e w' => e = .returned (.int .i64 (Lib.indexByte s.data.toList c)) ∧ w' = w:=Any.strings_Index_one Tryz.lays143 s c w
open Go.RowKit Go.Lib in
/-- strings.Index: "Index returns the index of the first instance of substr in s, or -1 if substr is not present in s.": IT RETURNS 'Lib.index s substr'; the world is as it was. (LAID: no walk: one application.) -/
theorem Tryz.strings_Index (s sub : ByteArray) (m : Int) (w : World) (hs : s.size < 4294967281) (hm : w.cell? ⟨0,0,none⟩ = some (.int .i64 m)) :
  Calls Tryz.prog 149 #[.string s,.string sub] w fun e w' => e = .returned (.int .i64 (Lib.index s.data.toList sub.data.toList)) ∧ w' = w:=Any.strings_Index Tryz.lays143 s sub m w hs hm
def Tryz.lays144_ren : Go.Shelf.Ren:=⟨fun | 144 => 116 | 143 => 149 | 219 => 178 | 217 => 196 | 225 => 195 | 224 => 194 | 267 => 197 | 266 => 201 | 314 => 202 | n => n,fun | 9 => 9 | 4 => 4 | 3 => 3 | 5 => 5 | 46 => 158 | 146 => 217 | 51 => 185 | n => n,fun | 1 => 0 | n => n⟩
theorem Tryz.lays144 : Go.Proofs.Lays.n144 Tryz.prog Tryz.lays144_ren:={
 mixed:=by kernel_rfl
 f143:=Tryz.func149.trans (congrArg some (by kernel_rfl))
 f144:=Tryz.func116.trans (congrArg some (by kernel_rfl))
 f217:=Tryz.func196.trans (congrArg some (by kernel_rfl))
 f219:=Tryz.func178.trans (congrArg some (by kernel_rfl))
 f224:=Tryz.func194.trans (congrArg some (by kernel_rfl))
 f225:=Tryz.func195.trans (congrArg some (by kernel_rfl))
 f266:=Tryz.func201.trans (congrArg some (by kernel_rfl))
 f267:=Tryz.func197.trans (congrArg some (by kernel_rfl))
 f314:=Tryz.func202.trans (congrArg some (by kernel_rfl))
 t3:=Tryz.underlying3
 a3:=Tryz.isAgg3
 z3:=Tryz.sizeOf3
 v3:=Tryz.zeroValue3
 t4:=Tryz.underlying4
 a4:=Tryz.isAgg4
 z4:=Tryz.sizeOf4
 v4:=Tryz.zeroValue4
 t5:=Tryz.underlying5
 a5:=Tryz.isAgg5
 z5:=Tryz.sizeOf5
 v5:=Tryz.zeroValue5
 t9:=Tryz.underlying9
 a9:=Tryz.isAgg9
 z9:=Tryz.sizeOf9
 v9:=Tryz.zeroValue9
 t46:=Tryz.underlying158
 a46:=Tryz.isAgg158
 z46:=Tryz.sizeOf158
 v46:=Tryz.zeroValue158
 t51:=Tryz.underlying185
 a51:=Tryz.isAgg185
 z51:=Tryz.sizeOf185
 v51:=Tryz.zeroValue185
 t146:=Tryz.underlying217
 a146:=Tryz.isAgg217
 z146:=Tryz.sizeOf217
 v146:=Tryz.zeroValue217
 g1:=by kernel_rfl }
open Go.RowKit Go.Lib in
/-- strings.Contains: "Contains reports whether substr is within s.": AT A substr OF ONE BYTE c: IT RETURNS 'decide (0 ≤ Lib.indexByte s c)'; the world is as it was. (LAID: no walk: one application.) -/
theorem Tryz.strings_Contains_one (s : ByteArray) (c : UInt8) (w : World) :
  Calls Tryz.prog 116 #[.string s,.string ⟨#[c]⟩] w fun e w' => e = .returned (.bool (decide (0 ≤ Lib.indexByte s.data.toList c))) ∧ w' = w:=Any.strings_Contains_one Tryz.lays144 s c w
open Go.RowKit Go.Lib in
/-- strings.Contains: "Contains reports whether substr is within s.": IT RETURNS 'Lib.contains s substr'; the world is as it was. (LAID: no walk: one application.) -/
theorem Tryz.strings_Contains (s sub : ByteArray) (m : Int) (w : World) (hs : s.size < 4294967281) (hm : w.cell? ⟨0,0,none⟩ = some (.int .i64 m)) :
  Calls Tryz.prog 116 #[.string s,.string sub] w fun e w' => e = .returned (.bool (Lib.contains s.data.toList sub.data.toList)) ∧ w' = w:=Any.strings_Contains Tryz.lays144 s sub m w hs hm
def Tryz.laysM219_ren : Go.Shelf.Ren:=⟨fun | 219 => 178 | 217 => 196 | 225 => 195 | 224 => 194 | 267 => 197 | 266 => 201 | 314 => 202 | n => n,fun | 9 => 9 | 3 => 3 | 4 => 4 | 5 => 5 | 46 => 158 | 146 => 217 | 51 => 185 | n => n,fun | 1 => 0 | n => n⟩
theorem Tryz.laysM219 : Go.Proofs.LaysM.n219 Tryz.prog Tryz.laysM219_ren:={
 mixed:=by kernel_rfl
 f217:=Tryz.func196.trans (congrArg some (by kernel_rfl))
 f219:=Tryz.func178.trans (congrArg some (by kernel_rfl))
 f224:=Tryz.func194.trans (congrArg some (by kernel_rfl))
 f225:=Tryz.func195.trans (congrArg some (by kernel_rfl))
 f266:=Tryz.func201.trans (congrArg some (by kernel_rfl))
 f267:=Tryz.func197.trans (congrArg some (by kernel_rfl))
 f314:=Tryz.func202.trans (congrArg some (by kernel_rfl))
 t3:=Tryz.underlying3
 a3:=Tryz.isAgg3
 z3:=Tryz.sizeOf3
 v3:=Tryz.zeroValue3
 t4:=Tryz.underlying4
 a4:=Tryz.isAgg4
 z4:=Tryz.sizeOf4
 v4:=Tryz.zeroValue4
 t5:=Tryz.underlying5
 a5:=Tryz.isAgg5
 z5:=Tryz.sizeOf5
 v5:=Tryz.zeroValue5
 t9:=Tryz.underlying9
 a9:=Tryz.isAgg9
 z9:=Tryz.sizeOf9
 v9:=Tryz.zeroValue9
 t46:=Tryz.underlying158
 a46:=Tryz.isAgg158
 z46:=Tryz.sizeOf158
 v46:=Tryz.zeroValue158
 t51:=Tryz.underlying185
 a51:=Tryz.isAgg185
 z51:=Tryz.sizeOf185
 v51:=Tryz.zeroValue185
 t146:=Tryz.underlying217
 a146:=Tryz.isAgg217
 z146:=Tryz.sizeOf217
 v146:=Tryz.zeroValue217
 g1:=by kernel_rfl
 i3:=by kernel_rfl
 i4:=by kernel_rfl
 i5:=by kernel_rfl
 i9:=by kernel_rfl
 i46:=by kernel_rfl
 i51:=by kernel_rfl
 i146:=by kernel_rfl
 m1:=by kernel_rfl
 s1_3:=fun w h => Go.Proofs.cell_of_shapedOpen_int (zero:=#[.int .i64 0]) (t:=3) h (of_decide_eq_true (by kernel_rfl)) (by kernel_rfl) rfl (by kernel_rfl) (by kernel_rfl) Tryz.underlying3 }
open Go.RowKit Go.Lib in
theorem Tryz.stringslite_Index_shaped (s sub : ByteArray) (w : World) (h : w.ShapedOpen Tryz.prog) (hs : s.size < 4294967281) :
  Calls Tryz.prog 178 #[.string s,.string sub] w fun e w' => e = .returned (.int .i64 (Lib.index s.data.toList sub.data.toList)) ∧ w' = w:=Any.stringslite_Index_shaped Tryz.laysM219 s sub w h hs
def Tryz.laysM143_ren : Go.Shelf.Ren:=⟨fun | 143 => 149 | 219 => 178 | 217 => 196 | 225 => 195 | 224 => 194 | 267 => 197 | 266 => 201 | 314 => 202 | n => n,fun | 9 => 9 | 3 => 3 | 4 => 4 | 5 => 5 | 46 => 158 | 146 => 217 | 51 => 185 | n => n,fun | 1 => 0 | n => n⟩
theorem Tryz.laysM143 : Go.Proofs.LaysM.n143 Tryz.prog Tryz.laysM143_ren:={
 mixed:=by kernel_rfl
 f143:=Tryz.func149.trans (congrArg some (by kernel_rfl))
 f217:=Tryz.func196.trans (congrArg some (by kernel_rfl))
 f219:=Tryz.func178.trans (congrArg some (by kernel_rfl))
 f224:=Tryz.func194.trans (congrArg some (by kernel_rfl))
 f225:=Tryz.func195.trans (congrArg some (by kernel_rfl))
 f266:=Tryz.func201.trans (congrArg some (by kernel_rfl))
 f267:=Tryz.func197.trans (congrArg some (by kernel_rfl))
 f314:=Tryz.func202.trans (congrArg some (by kernel_rfl))
 t3:=Tryz.underlying3
 a3:=Tryz.isAgg3
 z3:=Tryz.sizeOf3
 v3:=Tryz.zeroValue3
 t4:=Tryz.underlying4
 a4:=Tryz.isAgg4
 z4:=Tryz.sizeOf4
 v4:=Tryz.zeroValue4
 t5:=Tryz.underlying5
 a5:=Tryz.isAgg5
 z5:=Tryz.sizeOf5
 v5:=Tryz.zeroValue5
 t9:=Tryz.underlying9
 a9:=Tryz.isAgg9
 z9:=Tryz.sizeOf9
 v9:=Tryz.zeroValue9
 t46:=Tryz.underlying158
 a46:=Tryz.isAgg158
 z46:=Tryz.sizeOf158
 v46:=Tryz.zeroValue158
 t51:=Tryz.underlying185
 a51:=Tryz.isAgg185
 z51:=Tryz.sizeOf185
 v51:=Tryz.zeroValue185
 t146:=Tryz.underlying217
 a146:=Tryz.isAgg217
 z146:=Tryz.sizeOf217
 v146:=Tryz.zeroValue217
 g1:=by kernel_rfl
 i3:=by kernel_rfl
 i4:=by kernel_rfl
 i5:=by kernel_rfl
 i9:=by kernel_rfl
 i46:=by kernel_rfl
 i51:=by kernel_rfl
 i146:=by kernel_rfl
 m1:=by kernel_rfl
 s1_3:=fun w h => Go.Proofs.cell_of_shapedOpen_int (zero:=#[.int .i64 0]) (t:=3) h (of_decide_eq_true (by kernel_rfl)) (by kernel_rfl) rfl (by kernel_rfl) (by kernel_rfl) Tryz.underlying3 }
open Go.RowKit Go.Lib in
theorem Tryz.strings_Index_shaped (s sub : ByteArray) (w : World) (h : w.ShapedOpen Tryz.prog) (hs : s.size < 4294967281) :
  Calls Tryz.prog 149 #[.string s,.string sub] w fun e w' => e = .returned (.int .i64 (Lib.index s.data.toList sub.data.toList)) ∧ w' = w:=Any.strings_Index_shaped Tryz.laysM143 s sub w h hs
def Tryz.laysM144_ren : Go.Shelf.Ren:=⟨fun | 144 => 116 | 143 => 149 | 219 => 178 | 217 => 196 | 225 => 195 | 224 => 194 | 267 => 197 | 266 => 201 | 314 => 202 | n => n,fun | 9 => 9 | 4 => 4 | 3 => 3 | 5 => 5 | 46 => 158 | 146 => 217 | 51 => 185 | n => n,fun | 1 => 0 | n => n⟩
theorem Tryz.laysM144 : Go.Proofs.LaysM.n144 Tryz.prog Tryz.laysM144_ren:={
 mixed:=by kernel_rfl
 f143:=Tryz.func149.trans (congrArg some (by kernel_rfl))
 f144:=Tryz.func116.trans (congrArg some (by kernel_rfl))
 f217:=Tryz.func196.trans (congrArg some (by kernel_rfl))
 f219:=Tryz.func178.trans (congrArg some (by kernel_rfl))
 f224:=Tryz.func194.trans (congrArg some (by kernel_rfl))
 f225:=Tryz.func195.trans (congrArg some (by kernel_rfl))
 f266:=Tryz.func201.trans (congrArg some (by kernel_rfl))
 f267:=Tryz.func197.trans (congrArg some (by kernel_rfl))
 f314:=Tryz.func202.trans (congrArg some (by kernel_rfl))
 t3:=Tryz.underlying3
 a3:=Tryz.isAgg3
 z3:=Tryz.sizeOf3
 v3:=Tryz.zeroValue3
 t4:=Tryz.underlying4
 a4:=Tryz.isAgg4
 z4:=Tryz.sizeOf4
 v4:=Tryz.zeroValue4
 t5:=Tryz.underlying5
 a5:=Tryz.isAgg5
 z5:=Tryz.sizeOf5
 v5:=Tryz.zeroValue5
 t9:=Tryz.underlying9
 a9:=Tryz.isAgg9
 z9:=Tryz.sizeOf9
 v9:=Tryz.zeroValue9
 t46:=Tryz.underlying158
 a46:=Tryz.isAgg158
 z46:=Tryz.sizeOf158
 v46:=Tryz.zeroValue158
 t51:=Tryz.underlying185
 a51:=Tryz.isAgg185
 z51:=Tryz.sizeOf185
 v51:=Tryz.zeroValue185
 t146:=Tryz.underlying217
 a146:=Tryz.isAgg217
 z146:=Tryz.sizeOf217
 v146:=Tryz.zeroValue217
 g1:=by kernel_rfl
 i3:=by kernel_rfl
 i4:=by kernel_rfl
 i5:=by kernel_rfl
 i9:=by kernel_rfl
 i46:=by kernel_rfl
 i51:=by kernel_rfl
 i146:=by kernel_rfl
 m1:=by kernel_rfl
 s1_3:=fun w h => Go.Proofs.cell_of_shapedOpen_int (zero:=#[.int .i64 0]) (t:=3) h (of_decide_eq_true (by kernel_rfl)) (by kernel_rfl) rfl (by kernel_rfl) (by kernel_rfl) Tryz.underlying3 }
open Go.RowKit Go.Lib in
theorem Tryz.strings_Contains_shaped (s sub : ByteArray) (w : World) (h : w.ShapedOpen Tryz.prog) (hs : s.size < 4294967281) :
  Calls Tryz.prog 116 #[.string s,.string sub] w fun e w' => e = .returned (.bool (Lib.contains s.data.toList sub.data.toList)) ∧ w' = w:=Any.strings_Contains_shaped Tryz.laysM144 s sub w h hs
def Tryz.lays222_ren : Go.Shelf.Ren:=⟨fun | 222 => 157 | n => n,fun | 9 => 9 | 5 => 5 | 3 => 3 | 4 => 4 | n => n,fun | n => n⟩
theorem Tryz.lays222 : Go.Proofs.Lays.n222 Tryz.prog Tryz.lays222_ren:={
 mixed:=by kernel_rfl
 f222:=Tryz.func157.trans (congrArg some (by kernel_rfl))
 t3:=Tryz.underlying3
 a3:=Tryz.isAgg3
 z3:=Tryz.sizeOf3
 v3:=Tryz.zeroValue3
 t4:=Tryz.underlying4
 a4:=Tryz.isAgg4
 z4:=Tryz.sizeOf4
 v4:=Tryz.zeroValue4
 t5:=Tryz.underlying5
 a5:=Tryz.isAgg5
 z5:=Tryz.sizeOf5
 v5:=Tryz.zeroValue5
 t9:=Tryz.underlying9
 a9:=Tryz.isAgg9
 z9:=Tryz.sizeOf9
 v9:=Tryz.zeroValue9 }
open Go.RowKit Go.Lib in
/-- internal/bytealg.LastIndexByteString: 'for i := len(s) - 1; i >= 0; i-- { if s[i] == c { return i } }; return -1'. (LAID: no walk: one application.) -/
theorem Tryz.bytealg_LastIndexByteString_nm (s : ByteArray) (c : Int) (hs : s.size < 4611686018427387904) (w : World) :
  Calls Tryz.prog 157 #[.string s,.int .u8 c] w fun e w' => e = .returned (.int .i64 (Lib.lastIndexByte s c)) ∧ w' = w:=Any.bytealg_LastIndexByteString_nm Tryz.lays222 s c hs w
def Tryz.lays149_ren : Go.Shelf.Ren:=⟨fun | 149 => 129 | 222 => 157 | n => n,fun | 9 => 9 | 5 => 5 | 3 => 3 | 4 => 4 | n => n,fun | n => n⟩
theorem Tryz.lays149 : Go.Proofs.Lays.n149 Tryz.prog Tryz.lays149_ren:={
 mixed:=by kernel_rfl
 f149:=Tryz.func129.trans (congrArg some (by kernel_rfl))
 f222:=Tryz.func157.trans (congrArg some (by kernel_rfl))
 t3:=Tryz.underlying3
 a3:=Tryz.isAgg3
 z3:=Tryz.sizeOf3
 v3:=Tryz.zeroValue3
 t4:=Tryz.underlying4
 a4:=Tryz.isAgg4
 z4:=Tryz.sizeOf4
 v4:=Tryz.zeroValue4
 t5:=Tryz.underlying5
 a5:=Tryz.isAgg5
 z5:=Tryz.sizeOf5
 v5:=Tryz.zeroValue5
 t9:=Tryz.underlying9
 a9:=Tryz.isAgg9
 z9:=Tryz.sizeOf9
 v9:=Tryz.zeroValue9 }
open Go.RowKit Go.Lib in
/-- strings.LastIndexByte: "LastIndexByte returns the index of the last instance of c in s, or -1 if c is not present in s." (LAID: no walk: one application.) -/
theorem Tryz.strings_LastIndexByte (s : ByteArray) (c : Int) (hs : s.size < 4611686018427387904) (w : World) :
  Calls Tryz.prog 129 #[.string s,.int .u8 c] w fun e w' => e = .returned (.int .i64 (Lib.lastIndexByte s c)) ∧ w' = w:=Any.strings_LastIndexByte Tryz.lays149 s c hs w
def Tryz.lays315_ren : Go.Shelf.Ren:=⟨fun | 315 => 191 | n => n,fun | 9 => 9 | 40 => 163 | 4 => 4 | 3 => 3 | 0 => 0 | 21 => 21 | n => n,fun | n => n⟩
theorem Tryz.lays315 : Go.Proofs.Lays.n315 Tryz.prog Tryz.lays315_ren:={
 mixed:=by kernel_rfl
 f315:=Tryz.func191.trans (congrArg some (by kernel_rfl))
 t0:=Tryz.underlying0
 a0:=Tryz.isAgg0
 z0:=Tryz.sizeOf0
 v0:=Tryz.zeroValue0
 t3:=Tryz.underlying3
 a3:=Tryz.isAgg3
 z3:=Tryz.sizeOf3
 v3:=Tryz.zeroValue3
 t4:=Tryz.underlying4
 a4:=Tryz.isAgg4
 z4:=Tryz.sizeOf4
 v4:=Tryz.zeroValue4
 t9:=Tryz.underlying9
 a9:=Tryz.isAgg9
 z9:=Tryz.sizeOf9
 v9:=Tryz.zeroValue9
 t21:=Tryz.underlying21
 a21:=Tryz.isAgg21
 z21:=Tryz.sizeOf21
 v21:=Tryz.zeroValue21
 t40:=Tryz.underlying163
 a40:=Tryz.isAgg163
 z40:=Tryz.sizeOf163
 v40:=Tryz.zeroValue163 }
open Go.RowKit Go.Lib in
theorem Tryz.strings_indexFunc (g : Nat) (lb : Array Value) (eg : ∀ args w,(callFunc g args).run Tryz.prog w = .ok (.enter g args) w) (p : Nat → Bool) (truth : Bool) (s : ByteArray) (w : World) (hp : PredAt Tryz.prog g lb encR p w) :
  Calls Tryz.prog 191 #[.string s,.func (.func g) #[] lb,.bool truth] w fun e w' => e = .returned (.int .i64 (Lib.idxFunc p truth s)) ∧ Below w.heap.size w w':=Any.strings_indexFunc Tryz.lays315 g lb eg p truth s w hp
def Tryz.laysGw15_ren : Go.Shelf.Ren:=⟨fun | 15 => 176 | 20 => 191 | n => n,fun | 9 => 9 | 23 => 163 | 3 => 3 | 4 => 4 | 0 => 0 | 21 => 21 | n => n,fun | n => n⟩
theorem Tryz.laysGw15 : Go.Proofs.LaysGw.n15 Tryz.prog Tryz.laysGw15_ren:={
 mixed:=by kernel_rfl
 f15:=Tryz.func176.trans (congrArg some (by kernel_rfl))
 f20:=Tryz.func191.trans (congrArg some (by kernel_rfl))
 t0:=Tryz.underlying0
 a0:=Tryz.isAgg0
 z0:=Tryz.sizeOf0
 v0:=Tryz.zeroValue0
 i0:=by kernel_rfl
 t3:=Tryz.underlying3
 a3:=Tryz.isAgg3
 z3:=Tryz.sizeOf3
 v3:=Tryz.zeroValue3
 i3:=by kernel_rfl
 t4:=Tryz.underlying4
 a4:=Tryz.isAgg4
 z4:=Tryz.sizeOf4
 v4:=Tryz.zeroValue4
 i4:=by kernel_rfl
 t9:=Tryz.underlying9
 a9:=Tryz.isAgg9
 z9:=Tryz.sizeOf9
 v9:=Tryz.zeroValue9
 i9:=by kernel_rfl
 t21:=Tryz.underlying21
 a21:=Tryz.isAgg21
 z21:=Tryz.sizeOf21
 v21:=Tryz.zeroValue21
 i21:=by kernel_rfl
 t23:=Tryz.underlying163
 a23:=Tryz.isAgg163
 z23:=Tryz.sizeOf163
 v23:=Tryz.zeroValue163
 i23:=by kernel_rfl }
open Go.RowKit Go.Lib in
theorem Tryz.strings_IndexFunc (g : Nat) (lb : Array Value) (eg : ∀ args w,(callFunc g args).run Tryz.prog w = .ok (.enter g args) w) (p : Nat → Bool) (s : ByteArray) (w : World) (hp : PredAt Tryz.prog g lb encR p w) :
  Calls Tryz.prog 176 #[.string s,.func (.func g) #[] lb] w fun e w' => e = .returned (.int .i64 (Lib.idxFunc p true s)) ∧ Below w.heap.size w w':=Any.strings_IndexFunc Tryz.laysGw15 g lb eg p s w hp
def Tryz.laysGw17_ren : Go.Shelf.Ren:=⟨fun | 17 => 145 | 15 => 176 | 20 => 191 | n => n,fun | 9 => 9 | 23 => 163 | 4 => 4 | 3 => 3 | 0 => 0 | 21 => 21 | n => n,fun | n => n⟩
theorem Tryz.laysGw17 : Go.Proofs.LaysGw.n17 Tryz.prog Tryz.laysGw17_ren:={
 mixed:=by kernel_rfl
 f15:=Tryz.func176.trans (congrArg some (by kernel_rfl))
 f17:=Tryz.func145.trans (congrArg some (by kernel_rfl))
 f20:=Tryz.func191.trans (congrArg some (by kernel_rfl))
 t0:=Tryz.underlying0
 a0:=Tryz.isAgg0
 z0:=Tryz.sizeOf0
 v0:=Tryz.zeroValue0
 i0:=by kernel_rfl
 t3:=Tryz.underlying3
 a3:=Tryz.isAgg3
 z3:=Tryz.sizeOf3
 v3:=Tryz.zeroValue3
 i3:=by kernel_rfl
 t4:=Tryz.underlying4
 a4:=Tryz.isAgg4
 z4:=Tryz.sizeOf4
 v4:=Tryz.zeroValue4
 i4:=by kernel_rfl
 t9:=Tryz.underlying9
 a9:=Tryz.isAgg9
 z9:=Tryz.sizeOf9
 v9:=Tryz.zeroValue9
 i9:=by kernel_rfl
 t21:=Tryz.underlying21
 a21:=Tryz.isAgg21
 z21:=Tryz.sizeOf21
 v21:=Tryz.zeroValue21
 i21:=by kernel_rfl
 t23:=Tryz.underlying163
 a23:=Tryz.isAgg163
 z23:=Tryz.sizeOf163
 v23:=Tryz.zeroValue163
 i23:=by kernel_rfl }
open Go.RowKit Go.Lib in
theorem Tryz.strings_ContainsFunc (g : Nat) (lb : Array Value) (eg : ∀ args w,(callFunc g args).run Tryz.prog w = .ok (.enter g args) w) (p : Nat → Bool) (s : ByteArray) (w : World) (hp : PredAt Tryz.prog g lb encR p w) :
  Calls Tryz.prog 145 #[.string s,.func (.func g) #[] lb] w fun e w' => e = .returned (.bool (decide (0 ≤ Lib.idxFunc p true s))) ∧ Below w.heap.size w w':=Any.strings_ContainsFunc Tryz.laysGw17 g lb eg p s w hp
open Go.RowKit Go.Lib in
theorem Tryz.strings_indexFunc_runes (g : Nat) (lb : Array Value) (eg : ∀ args w,(callFunc g args).run Tryz.prog w = .ok (.enter g args) w) (p : Nat → Bool) (truth : Bool) (s : ByteArray) (w : World) (hp : PredAtRunes Tryz.prog g lb p w) :
  Calls Tryz.prog 191 #[.string s,.func (.func g) #[] lb,.bool truth] w fun e w' => e = .returned (.int .i64 (Lib.idxFunc p truth s)) ∧ Below w.heap.size w w':=Any.strings_indexFunc_runes Tryz.lays315 g lb eg p truth s w hp
open Go.RowKit Go.Lib in
theorem Tryz.strings_IndexFunc_runes (g : Nat) (lb : Array Value) (eg : ∀ args w,(callFunc g args).run Tryz.prog w = .ok (.enter g args) w) (p : Nat → Bool) (s : ByteArray) (w : World) (hp : PredAtRunes Tryz.prog g lb p w) :
  Calls Tryz.prog 176 #[.string s,.func (.func g) #[] lb] w fun e w' => e = .returned (.int .i64 (Lib.idxFunc p true s)) ∧ Below w.heap.size w w':=Any.strings_IndexFunc_runes Tryz.laysGw15 g lb eg p s w hp
open Go.RowKit Go.Lib in
theorem Tryz.strings_ContainsFunc_runes (g : Nat) (lb : Array Value) (eg : ∀ args w,(callFunc g args).run Tryz.prog w = .ok (.enter g args) w) (p : Nat → Bool) (s : ByteArray) (w : World) (hp : PredAtRunes Tryz.prog g lb p w) :
  Calls Tryz.prog 145 #[.string s,.func (.func g) #[] lb] w fun e w' => e = .returned (.bool (decide (0 ≤ Lib.idxFunc p true s))) ∧ Below w.heap.size w w':=Any.strings_ContainsFunc_runes Tryz.laysGw17 g lb eg p s w hp
def Tryz.lays206_ren : Go.Shelf.Ren:=⟨fun | 206 => 182 | n => n,fun | 9 => 9 | 4 => 4 | 3 => 3 | n => n,fun | n => n⟩
theorem Tryz.lays206 : Go.Proofs.Lays.n206 Tryz.prog Tryz.lays206_ren:={
 mixed:=by kernel_rfl
 f206:=Tryz.func182.trans (congrArg some (by kernel_rfl))
 t3:=Tryz.underlying3
 a3:=Tryz.isAgg3
 z3:=Tryz.sizeOf3
 v3:=Tryz.zeroValue3
 t4:=Tryz.underlying4
 a4:=Tryz.isAgg4
 z4:=Tryz.sizeOf4
 v4:=Tryz.zeroValue4
 t9:=Tryz.underlying9
 a9:=Tryz.isAgg9
 z9:=Tryz.sizeOf9
 v9:=Tryz.zeroValue9 }
open Go.RowKit Go.Lib in
/-- internal/stringslite.HasPrefix (what strings.HasPrefix calls). (LAID: no walk: one application.) -/
theorem Tryz.stringslite_HasPrefix (s p : ByteArray) (w : World) :
  Calls Tryz.prog 182 #[.string s,.string p] w fun e w' => e = .returned (.bool (Lib.hasPrefix s.data.toList p.data.toList)) ∧ w' = w:=Any.stringslite_HasPrefix Tryz.lays206 s p w
def Tryz.lays197_ren : Go.Shelf.Ren:=⟨fun | 197 => 175 | 260 => 190 | n => n,fun | 9 => 9 | 21 => 21 | 3 => 3 | 4 => 4 | 5 => 5 | 105 => 188 | 119 => 213 | 0 => 0 | 46 => 158 | 139 => 216 | 138 => 215 | n => n,fun | 3 => 2 | 4 => 3 | n => n⟩
theorem Tryz.lays197 : Go.Proofs.Lays.n197 Tryz.prog Tryz.lays197_ren:={
 mixed:=by kernel_rfl
 f197:=Tryz.func175.trans (congrArg some (by kernel_rfl))
 f260:=Tryz.func190.trans (congrArg some (by kernel_rfl))
 t0:=Tryz.underlying0
 a0:=Tryz.isAgg0
 z0:=Tryz.sizeOf0
 v0:=Tryz.zeroValue0
 t3:=Tryz.underlying3
 a3:=Tryz.isAgg3
 z3:=Tryz.sizeOf3
 v3:=Tryz.zeroValue3
 t4:=Tryz.underlying4
 a4:=Tryz.isAgg4
 z4:=Tryz.sizeOf4
 v4:=Tryz.zeroValue4
 t5:=Tryz.underlying5
 a5:=Tryz.isAgg5
 z5:=Tryz.sizeOf5
 v5:=Tryz.zeroValue5
 t9:=Tryz.underlying9
 a9:=Tryz.isAgg9
 z9:=Tryz.sizeOf9
 v9:=Tryz.zeroValue9
 t21:=Tryz.underlying21
 a21:=Tryz.isAgg21
 z21:=Tryz.sizeOf21
 v21:=Tryz.zeroValue21
 t46:=Tryz.underlying158
 a46:=Tryz.isAgg158
 z46:=Tryz.sizeOf158
 v46:=Tryz.zeroValue158
 t105:=Tryz.underlying188
 a105:=Tryz.isAgg188
 z105:=Tryz.sizeOf188
 v105:=Tryz.zeroValue188
 t119:=Tryz.underlying213
 a119:=Tryz.isAgg213
 z119:=Tryz.sizeOf213
 t138:=Tryz.underlying215
 a138:=Tryz.isAgg215
 z138:=Tryz.sizeOf215
 v138:=Tryz.zeroValue215
 t139:=Tryz.underlying216
 a139:=Tryz.isAgg216
 z139:=Tryz.sizeOf216
 v139:=Tryz.zeroValue216
 g3:=by kernel_rfl
 g4:=by kernel_rfl }
open Go.RowKit Go.Lib in
/-- unicode/utf8.DecodeRuneInString: "DecodeRuneInString is like DecodeRune but its input is a string.": ("DecodeRune unpacks the first UTF-8 encoding in p and returns the rune and its width in bytes."): WHERE s BEGINS WITH AN ASCII BYTE x: (x, 1). (LAID: no walk: one application.) -/
theorem Tryz.utf8_DecodeRuneInString_ascii (s : ByteArray) (x : UInt8) (w : World) (h0 : s.data.toList[0]? = some x) (hx : x.toNat < 128) :
  Calls Tryz.prog 175 #[.string s] w fun e w' => e = .returned (.tuple #[.int .i32 x.toNat,.int .i64 1]) ∧ w' = w:=Any.utf8_DecodeRuneInString_ascii Tryz.lays197 s x w h0 hx
def Tryz.lays152_ren : Go.Shelf.Ren:=⟨fun | 152 => 177 | 137 => 192 | 119 => 193 | 224 => 194 | 225 => 195 | 217 => 196 | 266 => 201 | n => n,fun | 9 => 9 | 21 => 21 | 3 => 3 | 4 => 4 | 5 => 5 | 0 => 0 | 46 => 158 | n => n,fun | n => n⟩
theorem Tryz.lays152 : Go.Proofs.Lays.n152 Tryz.prog Tryz.lays152_ren:={
 mixed:=by kernel_rfl
 f119:=Tryz.func193.trans (congrArg some (by kernel_rfl))
 f137:=Tryz.func192.trans (congrArg some (by kernel_rfl))
 f152:=Tryz.func177.trans (congrArg some (by kernel_rfl))
 f217:=Tryz.func196.trans (congrArg some (by kernel_rfl))
 f224:=Tryz.func194.trans (congrArg some (by kernel_rfl))
 f225:=Tryz.func195.trans (congrArg some (by kernel_rfl))
 f266:=Tryz.func201.trans (congrArg some (by kernel_rfl))
 t0:=Tryz.underlying0
 a0:=Tryz.isAgg0
 z0:=Tryz.sizeOf0
 v0:=Tryz.zeroValue0
 t3:=Tryz.underlying3
 a3:=Tryz.isAgg3
 z3:=Tryz.sizeOf3
 v3:=Tryz.zeroValue3
 t4:=Tryz.underlying4
 a4:=Tryz.isAgg4
 z4:=Tryz.sizeOf4
 v4:=Tryz.zeroValue4
 t5:=Tryz.underlying5
 a5:=Tryz.isAgg5
 z5:=Tryz.sizeOf5
 v5:=Tryz.zeroValue5
 t9:=Tryz.underlying9
 a9:=Tryz.isAgg9
 z9:=Tryz.sizeOf9
 v9:=Tryz.zeroValue9
 t21:=Tryz.underlying21
 a21:=Tryz.isAgg21
 z21:=Tryz.sizeOf21
 v21:=Tryz.zeroValue21
 t46:=Tryz.underlying158
 a46:=Tryz.isAgg158
 z46:=Tryz.sizeOf158
 v46:=Tryz.zeroValue158 }
open Go.RowKit Go.Lib in
theorem Tryz.strings_IndexRune_ascii (s : ByteArray) (r : Int) (w : World) (h0 : 0 ≤ r) (h1 : r < 128) :
  Calls Tryz.prog 177 #[.string s,.int .i32 r] w fun e w' => e = .returned (.int .i64 (Lib.indexByte s.data.toList r.toNat.toUInt8)) ∧ w' = w:=Any.strings_IndexRune_ascii Tryz.lays152 s r w h0 h1
def Tryz.lays151_ren : Go.Shelf.Ren:=⟨fun | 151 => 147 | 152 => 177 | 137 => 192 | 119 => 193 | 224 => 194 | 225 => 195 | 217 => 196 | 266 => 201 | n => n,fun | 9 => 9 | 21 => 21 | 4 => 4 | 3 => 3 | 5 => 5 | 0 => 0 | 46 => 158 | n => n,fun | n => n⟩
theorem Tryz.lays151 : Go.Proofs.Lays.n151 Tryz.prog Tryz.lays151_ren:={
 mixed:=by kernel_rfl
 f119:=Tryz.func193.trans (congrArg some (by kernel_rfl))
 f137:=Tryz.func192.trans (congrArg some (by kernel_rfl))
 f151:=Tryz.func147.trans (congrArg some (by kernel_rfl))
 f152:=Tryz.func177.trans (congrArg some (by kernel_rfl))
 f217:=Tryz.func196.trans (congrArg some (by kernel_rfl))
 f224:=Tryz.func194.trans (congrArg some (by kernel_rfl))
 f225:=Tryz.func195.trans (congrArg some (by kernel_rfl))
 f266:=Tryz.func201.trans (congrArg some (by kernel_rfl))
 t0:=Tryz.underlying0
 a0:=Tryz.isAgg0
 z0:=Tryz.sizeOf0
 v0:=Tryz.zeroValue0
 t3:=Tryz.underlying3
 a3:=Tryz.isAgg3
 z3:=Tryz.sizeOf3
 v3:=Tryz.zeroValue3
 t4:=Tryz.underlying4
 a4:=Tryz.isAgg4
 z4:=Tryz.sizeOf4
 v4:=Tryz.zeroValue4
 t5:=Tryz.underlying5
 a5:=Tryz.isAgg5
 z5:=Tryz.sizeOf5
 v5:=Tryz.zeroValue5
 t9:=Tryz.underlying9
 a9:=Tryz.isAgg9
 z9:=Tryz.sizeOf9
 v9:=Tryz.zeroValue9
 t21:=Tryz.underlying21
 a21:=Tryz.isAgg21
 z21:=Tryz.sizeOf21
 v21:=Tryz.zeroValue21
 t46:=Tryz.underlying158
 a46:=Tryz.isAgg158
 z46:=Tryz.sizeOf158
 v46:=Tryz.zeroValue158 }
open Go.RowKit Go.Lib in
theorem Tryz.strings_ContainsRune_ascii (s : ByteArray) (r : Int) (w : World) (h0 : 0 ≤ r) (h1 : r < 128) :
  Calls Tryz.prog 147 #[.string s,.int .i32 r] w fun e w' => e = .returned (.bool (decide (0 ≤ Lib.indexByte s.data.toList r.toNat.toUInt8))) ∧ w' = w:=Any.strings_ContainsRune_ascii Tryz.lays151 s r w h0 h1
def Tryz.lays260_ren : Go.Shelf.Ren:=⟨fun | 260 => 190 | n => n,fun | 9 => 9 | 21 => 21 | 3 => 3 | 4 => 4 | 5 => 5 | 119 => 213 | 0 => 0 | 46 => 158 | 139 => 216 | 138 => 215 | n => n,fun | 3 => 2 | 4 => 3 | n => n⟩
theorem Tryz.lays260 : Go.Proofs.Lays.n260 Tryz.prog Tryz.lays260_ren:={
 mixed:=by kernel_rfl
 f260:=Tryz.func190.trans (congrArg some (by kernel_rfl))
 t0:=Tryz.underlying0
 a0:=Tryz.isAgg0
 z0:=Tryz.sizeOf0
 v0:=Tryz.zeroValue0
 t3:=Tryz.underlying3
 a3:=Tryz.isAgg3
 z3:=Tryz.sizeOf3
 v3:=Tryz.zeroValue3
 t4:=Tryz.underlying4
 a4:=Tryz.isAgg4
 z4:=Tryz.sizeOf4
 v4:=Tryz.zeroValue4
 t5:=Tryz.underlying5
 a5:=Tryz.isAgg5
 z5:=Tryz.sizeOf5
 v5:=Tryz.zeroValue5
 t9:=Tryz.underlying9
 a9:=Tryz.isAgg9
 z9:=Tryz.sizeOf9
 v9:=Tryz.zeroValue9
 t21:=Tryz.underlying21
 a21:=Tryz.isAgg21
 z21:=Tryz.sizeOf21
 v21:=Tryz.zeroValue21
 t46:=Tryz.underlying158
 a46:=Tryz.isAgg158
 z46:=Tryz.sizeOf158
 v46:=Tryz.zeroValue158
 t119:=Tryz.underlying213
 a119:=Tryz.isAgg213
 z119:=Tryz.sizeOf213
 t138:=Tryz.underlying215
 a138:=Tryz.isAgg215
 z138:=Tryz.sizeOf215
 v138:=Tryz.zeroValue215
 t139:=Tryz.underlying216
 a139:=Tryz.isAgg216
 z139:=Tryz.sizeOf216
 v139:=Tryz.zeroValue216
 g3:=by kernel_rfl
 g4:=by kernel_rfl }
open Go.RowKit Go.Lib in
theorem Tryz.utf8_decodeRuneInStringSlow (s : ByteArray) (w : World) (hT : Lib.Utf8Tabs 2 3 w) :
  Calls Tryz.prog 190 #[.string s] w fun e w' => e = .returned (.tuple #[.int .i32 (Lib.decodeGo s).1,.int .i64 (Lib.decodeGo s).2]) ∧ Below w.heap.size w w':=Any.utf8_decodeRuneInStringSlow Tryz.lays260 s w hT
open Go.RowKit Go.Lib in
/-- **unicode/utf8.DecodeRuneInString AT EVERY STRING.** (LAID: no walk: one application.) -/
theorem Tryz.utf8_DecodeRuneInString (s : ByteArray) (w : World) (hT : Lib.Utf8Tabs 2 3 w) :
  Calls Tryz.prog 175 #[.string s] w fun e w' => e = .returned (.tuple #[.int .i32 (Lib.decodeGo s).1,.int .i64 (Lib.decodeGo s).2]) ∧ Below w.heap.size w w':=Any.utf8_DecodeRuneInString Tryz.lays197 s w hT
open Go.RowKit Go.Lib in
theorem Tryz.strings_indexFunc_grows (g : Nat) (lb : Array Value) (eg : ∀ args w,(callFunc g args).run Tryz.prog w = .ok (.enter g args) w) (p : Nat → Bool) (truth : Bool) (s : ByteArray) (w : World) (hp : PredGrows Tryz.prog g lb p w) :
  Calls Tryz.prog 191 #[.string s,.func (.func g) #[] lb,.bool truth] w fun e w' => e = .returned (.int .i64 (Lib.idxFunc p truth s)) ∧ Below w.heap.size w w':=Any.strings_indexFunc_grows Tryz.lays315 g lb eg p truth s w hp
open Go.RowKit Go.Lib in
theorem Tryz.strings_IndexFunc_grows (g : Nat) (lb : Array Value) (eg : ∀ args w,(callFunc g args).run Tryz.prog w = .ok (.enter g args) w) (p : Nat → Bool) (s : ByteArray) (w : World) (hp : PredGrows Tryz.prog g lb p w) :
  Calls Tryz.prog 176 #[.string s,.func (.func g) #[] lb] w fun e w' => e = .returned (.int .i64 (Lib.idxFunc p true s)) ∧ Below w.heap.size w w':=Any.strings_IndexFunc_grows Tryz.laysGw15 g lb eg p s w hp
open Go.RowKit Go.Lib in
theorem Tryz.strings_ContainsFunc_grows (g : Nat) (lb : Array Value) (eg : ∀ args w,(callFunc g args).run Tryz.prog w = .ok (.enter g args) w) (p : Nat → Bool) (s : ByteArray) (w : World) (hp : PredGrows Tryz.prog g lb p w) :
  Calls Tryz.prog 145 #[.string s,.func (.func g) #[] lb] w fun e w' => e = .returned (.bool (decide (0 ≤ Lib.idxFunc p true s))) ∧ Below w.heap.size w w':=Any.strings_ContainsFunc_grows Tryz.laysGw17 g lb eg p s w hp
def Tryz.lays109_ren : Go.Shelf.Ren:=⟨fun | 109 => 137 | n => n,fun | 31 => 23 | 9 => 9 | 3 => 3 | 0 => 0 | 4 => 4 | n => n,fun | n => n⟩
theorem Tryz.lays109 : Go.Proofs.Lays.n109 Tryz.prog Tryz.lays109_ren:={
 mixed:=by kernel_rfl
 f109:=Tryz.func137.trans (congrArg some (by kernel_rfl))
 t0:=Tryz.underlying0
 a0:=Tryz.isAgg0
 z0:=Tryz.sizeOf0
 v0:=Tryz.zeroValue0
 t3:=Tryz.underlying3
 a3:=Tryz.isAgg3
 z3:=Tryz.sizeOf3
 v3:=Tryz.zeroValue3
 t4:=Tryz.underlying4
 a4:=Tryz.isAgg4
 z4:=Tryz.sizeOf4
 v4:=Tryz.zeroValue4
 t9:=Tryz.underlying9
 a9:=Tryz.isAgg9
 z9:=Tryz.sizeOf9
 v9:=Tryz.zeroValue9
 t31:=Tryz.underlying23
 a31:=Tryz.isAgg23
 z31:=Tryz.sizeOf23
 v31:=Tryz.zeroValue23 }
open Go.Lib in
/-- slices.Index at []string: "Index returns the index of the first occurrence of v in s, or -1 if not present.": IT RETURNS 'Lib.idxOfS (the elements) v'; the world is as it was. 'zs': what the cells behind the slice's address hold (its spare capacity too, if you have it); 'zs.take n': its elements. (LAID: no walk: one application.) -/
theorem Tryz.slices_Index_string (b off n c : Nat) (zs : List ByteArray) (x : ByteArray) (w : World) (hz : n ≤ zs.length) (hbig : n ≤ 9223372036854775807) (hc : ∀ j,j < zs.length → w.cell? ⟨b,off + j,none⟩ = some (.string (zs.getD j ByteArray.empty))) :
  Calls Tryz.prog 137 #[.slice (some ⟨b,off,none⟩) n c,.string x] w fun e w' => e = .returned (.int .i64 (Lib.idxOfS (zs.take n) x)) ∧ w' = w:=Any.slices_Index_string Tryz.lays109 b off n c zs x w hz hbig hc
open Go.Lib in
/-- The same at a slice of length 0, a nil one too: no cell is known, none is asked for. (LAID: no walk: one application.) -/
theorem Tryz.slices_Index_string_empty (a : Option Addr) (c : Nat) (x : ByteArray) (w : World) :
  Calls Tryz.prog 137 #[.slice a 0 c,.string x] w fun e w' => e = .returned (.int .i64 (Lib.idxOfS [] x)) ∧ w' = w:=Any.slices_Index_string_empty Tryz.lays109 a c x w
def Tryz.lays110_ren : Go.Shelf.Ren:=⟨fun | 110 => 102 | 109 => 137 | n => n,fun | 31 => 23 | 9 => 9 | 4 => 4 | 3 => 3 | 0 => 0 | n => n,fun | n => n⟩
theorem Tryz.lays110 : Go.Proofs.Lays.n110 Tryz.prog Tryz.lays110_ren:={
 mixed:=by kernel_rfl
 f109:=Tryz.func137.trans (congrArg some (by kernel_rfl))
 f110:=Tryz.func102.trans (congrArg some (by kernel_rfl))
 t0:=Tryz.underlying0
 a0:=Tryz.isAgg0
 z0:=Tryz.sizeOf0
 v0:=Tryz.zeroValue0
 t3:=Tryz.underlying3
 a3:=Tryz.isAgg3
 z3:=Tryz.sizeOf3
 v3:=Tryz.zeroValue3
 t4:=Tryz.underlying4
 a4:=Tryz.isAgg4
 z4:=Tryz.sizeOf4
 v4:=Tryz.zeroValue4
 t9:=Tryz.underlying9
 a9:=Tryz.isAgg9
 z9:=Tryz.sizeOf9
 v9:=Tryz.zeroValue9
 t31:=Tryz.underlying23
 a31:=Tryz.isAgg23
 z31:=Tryz.sizeOf23
 v31:=Tryz.zeroValue23 }
open Go.Lib in
/-- slices.Contains at []string: "Contains reports whether v is present in s.": IT RETURNS 'Lib.containsS (the elements) v', which is true just where v is among them ('Lib.containsS_iff'); the world is as it was. ITS CALLEE slices.Index IS MET BY ITS OWN CONTRACT OFF THE SHELF (lay that first): no loop is walked here. (LAID: no walk: one application.) -/
theorem Tryz.slices_Contains_string (b off n c : Nat) (zs : List ByteArray) (x : ByteArray) (w : World) (hz : n ≤ zs.length) (hbig : n ≤ 9223372036854775807) (hc : ∀ j,j < zs.length → w.cell? ⟨b,off + j,none⟩ = some (.string (zs.getD j ByteArray.empty))) :
  Calls Tryz.prog 102 #[.slice (some ⟨b,off,none⟩) n c,.string x] w fun e w' => e = .returned (.bool (Lib.containsS (zs.take n) x)) ∧ w' = w:=Any.slices_Contains_string Tryz.lays110 b off n c zs x w hz hbig hc
open Go.Lib in
/-- The same at a slice of length 0, a nil one too. (LAID: no walk: one application.) -/
theorem Tryz.slices_Contains_string_empty (a : Option Addr) (c : Nat) (x : ByteArray) (w : World) :
  Calls Tryz.prog 102 #[.slice a 0 c,.string x] w fun e w' => e = .returned (.bool false) ∧ w' = w:=Any.slices_Contains_string_empty Tryz.lays110 a c x w
def Tryz.lays193_ren : Go.Shelf.Ren:=⟨fun | 193 => 135 | n => n,fun | 31 => 23 | 9 => 9 | 4 => 4 | 3 => 3 | 0 => 0 | n => n,fun | n => n⟩
theorem Tryz.lays193 : Go.Proofs.Lays.n193 Tryz.prog Tryz.lays193_ren:={
 mixed:=by kernel_rfl
 f193:=Tryz.func135.trans (congrArg some (by kernel_rfl))
 t0:=Tryz.underlying0
 a0:=Tryz.isAgg0
 z0:=Tryz.sizeOf0
 v0:=Tryz.zeroValue0
 t3:=Tryz.underlying3
 a3:=Tryz.isAgg3
 z3:=Tryz.sizeOf3
 v3:=Tryz.zeroValue3
 t4:=Tryz.underlying4
 a4:=Tryz.isAgg4
 z4:=Tryz.sizeOf4
 v4:=Tryz.zeroValue4
 t9:=Tryz.underlying9
 a9:=Tryz.isAgg9
 z9:=Tryz.sizeOf9
 v9:=Tryz.zeroValue9
 t31:=Tryz.underlying23
 a31:=Tryz.isAgg23
 z31:=Tryz.sizeOf23
 v31:=Tryz.zeroValue23 }
open Go.RowKit Go.Lib in
/-- slices.Equal at []string: "Equal reports whether two slices are equal: the same length and all elements equal. If the lengths are different, Equal returns false. Otherwise, the elements are compared in increasing index order, and the comparison stops at the first unequal pair. Empty and nil slices are considered equal.": IT RETURNS WHETHER THE TWO LISTS OF ELEMENTS ARE ONE; the world is as it was but for the count of draws (the test 's1[i] != s2[i]' has two reads, whose order the model draws, once a round). 'xs', 'ys': what the cells behind the two addresses hold (the spare capacity too, if you have it); 'xs.take n', 'ys.take m': the elements. THE TWO SLICES MAY OVERLAP. (LAID: no walk: one application.) -/
theorem Tryz.slices_Equal_string (b1 o1 n c b2 o2 m d : Nat) (xs ys : List ByteArray) (w : World) (hx : n ≤ xs.length) (hy : m ≤ ys.length) (hbig : n ≤ 9223372036854775807) (hbig2 : m ≤ 9223372036854775807) (hc1 : ∀ j,j < xs.length → w.cell? ⟨b1,o1 + j,none⟩ = some (.string (xs.getD j ByteArray.empty))) (hc2 : ∀ j,j < ys.length → w.cell? ⟨b2,o2 + j,none⟩ = some (.string (ys.getD j ByteArray.empty))) :
  Calls Tryz.prog 135 #[.slice (some ⟨b1,o1,none⟩) n c,.slice (some ⟨b2,o2,none⟩) m d] w fun e w' => e = .returned (.bool (decide (xs.take n = ys.take m))) ∧ ∃ q,w' = w.drewN q:=Any.slices_Equal_string Tryz.lays193 b1 o1 n c b2 o2 m d xs ys w hx hy hbig hbig2 hc1 hc2
open Go.RowKit Go.Lib in
/-- The same where the first is of length 0 (a nil one too): no cell is asked for. (LAID: no walk: one application.) -/
theorem Tryz.slices_Equal_string_empty (a1 a2 : Option Addr) (c m d : Nat) (w : World) (hbig2 : m ≤ 9223372036854775807) :
  Calls Tryz.prog 135 #[.slice a1 0 c,.slice a2 m d] w fun e w' => e = .returned (.bool (decide (m = 0))) ∧ w' = w:=Any.slices_Equal_string_empty Tryz.lays193 a1 a2 c m d w hbig2
open Go.RowKit Go.Lib in
theorem Tryz.slices_Equal_string_lens (a1 a2 : Option Addr) (n c m d : Nat) (w : World) (hnm : n ≠ m) :
  Calls Tryz.prog 135 #[.slice a1 n c,.slice a2 m d] w fun e w' => e = .returned (.bool false) ∧ w' = w:=Any.slices_Equal_string_lens Tryz.lays193 a1 a2 n c m d w hnm
end Go.Proofs
namespace Go.Proofs.YthhohbidjhcjeaaGreatDoor.RB
open Go Go.RowKit
variable {F : Fence} {n : Nat} {P : Program}

/-- What is said stays said behind the iterator's own steps: a new block; an object of its walk; a store into a box of Z. -/
def AbidesZ {β : Type} (Z : Nat → Prop) (B : Nat) (J : β → World → Prop) : Prop :=
 ∀ (s : β) (W W' : World) (row : Option Nat),J s W → W.grownBy W' row → (∀ r,row = some r → (B ≤ r ∧ ∃ o : Obj,W.heap[r]? = some o ∧ o.isWalk = true) ∨ Z r) → J s W'
def OwnZ {β : Type} (Z : Nat → Prop) (B : Nat) (I : β → World → Prop) : Prop :=
 ∀ (s : β) (W W' : World) (row : Option Nat),I s W → W.grownBy W' row → (∀ r,row = some r → (B ≤ r ∧ ∃ o : Obj,W.heap[r]? = some o ∧ o.isCells = false) ∨ Z r) → I s W'
theorem OwnZ.from {β : Type} {Z : Nat → Prop} {B : Nat} {I : β → World → Prop} (h : OwnZ Z B I) : OwnFrom B I:=fun s W W' row hs hg hr => h s W W' row hs hg (fun r e => .inl (hr r e))
/-- The contract of an iterator with boxes Z. -/
def SeqZ {α : Type} (F : Fence) (n : Nat) (P : Program) (g : Nat) (lb : Array Value) (encs : α → Array Value) (Kp : World → World → Prop) (Z : Nat → Prop) (S Sp : List α → Prop) (N : Nat) (w : World) : Prop :=
 ∀ (l : Nat) (J Jx : List α → World → Prop) (W : World),Below w.heap.size w W → AbidesZ Z W.heap.size J → AbidesZ Z W.heap.size Jx →
  (∀ pre x W1,J pre W1 → pre.length < N → YieldAt F (n - 1) P l (encs x) W1 fun e W' =>
   (e = .returned (.bool true) ∧ J (pre ++ [x]) W' ∧ Kp W1 W') ∨ (e = .returned (.bool false) ∧ Jx (pre ++ [x]) W')) →
  J [] W →
  CallsIn F n P g (#[.func (.yield l) #[] #[]] ++ lb) W fun e W' => (∃ v,e = .returned v) ∧ ((∃ xs,S xs ∧ J xs W') ∨ (∃ pre,Sp pre ∧ Jx pre W'))

/-- How a round may be left. -/
def postZ {α : Type} (B : Nat) (Kp : World → World → Prop) (I : List α → World → Prop) (Ix : Code → List α → World → Prop) (xs : List α) (W : World) : Exit → Act → World → Prop
 | .normal,_,W' => KeepsFrom B W W' ∧ Kp W W' ∧ I xs W'
 | .ret,_,W' => KeepsFrom B W W' ∧ Ix .ret xs W'
 | _,_,_ => False

theorem wpIn_rangeFunc_boxes {α : Type} {g : Operand} {ps : Array Tmp} {assign body : Code} {Q : Exit → Act → World → Prop} {a : Act} {w : World}
  (hro : F.round = none) (h1 : 1 ≤ n) {gf : Nat} {lb : Array Value} (hg : a.eval g = .func (.func gf) #[] lb) (hFg : F.fn gf) (eg : ∀ args w,(callFunc gf args).run P w = .ok (.enter gf args) w)
  {encs : α → Array Value} {Kp : World → World → Prop} {Z : Nat → Prop} {S Sp : List α → Prop} {N : Nat} {w0 : World} (hseq : SeqZ F (n - 1) P gf lb encs Kp Z S Sp N w0) (hZ : ∀ r,Z r → r < w.heap.size)
  (hKt : ∀ {A B C : World},Kp A B → Kp B C → Kp A C) (hKb : ∀ (W : World) (l : Nat) (o o' : Obj),w.heap.size ≤ l → W.heap[l]? = some o → o.isCells = false → o.isWalk = false → Kp W (W.putObj l o')) (hb0 : Below w0.heap.size w0 w) (hps : ∀ x,(encs x).size = ps.size)
  (I : List α → World → Prop) (Ix : Code → List α → World → Prop) (hI : OwnZ Z w.heap.size I) (hIx : ∀ c,OwnZ Z w.heap.size (Ix c)) (h0 : I [] w) (a₁ : α → Act)
  (hassign : ∀ (l : Nat) (x : α) (W : World) (K : Act → World → Prop),K (a₁ x) W →
   assign.wpIn (F.inRound l) (n - 1 - 1) P (Exit.then K (fun _ _ _ => False)) { tmps:=(ps.zip (encs x)).foldl (fun t (p,v) => t.setIfInBounds p v) a.tmps,defers:=[] } W)
  (hbody : ∀ (l : Nat) (pre : List α) (x : α) (W : World),I pre W → pre.length < N → body.wpIn (F.inRound l) (n - 1 - 1) P (postZ w.heap.size Kp I Ix (pre ++ [x]) W) (a₁ x) W)
  (hdone : ∀ (D : Nat) (xs : List α) (W : World),w.heap.size ≤ D → S xs → I xs W → W.heap[D]? = some (.deferred (some [])) → Q .normal { a with defers:={ target:=.collected D,args:=#[] } :: a.defers } W)
  (hstop : ∀ (D : Nat) (pre : List α) (W : World),w.heap.size ≤ D → Sp pre → Ix .ret pre W → W.heap[D]? = some (.deferred (some [])) → (Code.ret).wpIn F n P Q { a with defers:={ target:=.collected D,args:=#[] } :: a.defers } W) :
  (Code.rangeFunc g ps assign body).wpIn F n P Q a w:=by
 refine wpIn_rangeFunc fun fn hfn => ?_
 rw [hro]
  -- the two blocks of book-keeping: the deferred calls, the loop's record
 obtain ⟨rec,hrec⟩ : ∃ rec : LoopState → Option Code → Loop,rec = fun st pe => { state:=st,pending:=pe,fn,tmps:=a.tmps,params:=ps,assign,body,defers:=w.heap.size }:=⟨_,rfl⟩
 obtain ⟨V,hV⟩ : ∃ V,(w.alloc (.deferred (some []))).alloc (.loop (rec .ready none)) = V:=⟨_,rfl⟩
 have vL : V.heap[w.heap.size + 1]? = some (.loop (rec .ready none)):=by
  have h:=World.alloc_heap_new (w.alloc (.deferred (some []))) (.loop (rec .ready none))
  rw [World.size_alloc,hV] at h
  exact h
 have vD : V.heap[w.heap.size]? = some (.deferred (some [])):=by
  rw [← hV]
  exact (Below.heap_alloc _ _ _ (by simp)).trans (World.alloc_heap_new w _)
 have vS : V.heap.size = w.heap.size + 2:=by rw [← hV]; simp
 have vI : I [] V:=by rw [← hV]; exact hI.from.alloc _ (hI.from.alloc _ h0)
 have vB : Below w0.heap.size w0 V:=by
  rw [← hV]
  exact hb0.trans ((((Below.refl _ w).alloc (Nat.le_refl _) _).alloc (by simp) _).mono hb0.size)
  -- an object that holds no cells, or the two blocks, are no matter of the iterator's
 have keep : ∀ {X Y : World} {row : Option Nat} {k : Nat} {o : Obj},X.grownBy Y row → (∀ r,row = some r → (V.heap.size ≤ r ∧ ∃ o : Obj,X.heap[r]? = some o ∧ o.isWalk = true) ∨ Z r) → w.heap.size ≤ k → k < w.heap.size + 2 → X.heap[k]? = some o → Y.heap[k]? = some o:=by
  intro X Y row k o hg' hr h1 h2 hk
  refine (hg'.block k (Array.getElem?_eq_some_iff.1 hk).1 (fun e => ?_)).trans hk
  rcases hr k e.symm with ⟨h3,_⟩ | h3
  ·omega
  ·have:=hZ k h3
   omega
 have less : ∀ {X : World} {row : Option Nat},(∀ r,row = some r → (V.heap.size ≤ r ∧ ∃ o : Obj,X.heap[r]? = some o ∧ o.isWalk = true) ∨ Z r) → ∀ r,row = some r → (w.heap.size ≤ r ∧ ∃ o : Obj,X.heap[r]? = some o ∧ o.isCells = false) ∨ Z r:=by
  intro X row hr r e
  rcases hr r e with ⟨h3,o,ho,hw⟩ | h3
  ·exact .inl ⟨by omega,o,ho,Obj.not_cells_of_walk hw⟩
  ·exact .inr h3
 refine ⟨w.heap.size + 1,[{ target:=.collected w.heap.size,args:=#[] }],V,{ target:=.fn (.func gf) lb,args:=#[.func (.yield (w.heap.size + 1)) #[] #[]] },V,gf,
  #[.func (.yield (w.heap.size + 1)) #[] #[]] ++ lb,V,?_,?_,?_,?_,fun _ => h1,?_⟩
 ·rw [← hV,hrec]; exact run_enterLoop_outer _ _ _ _ _
 ·simp only [resolve,hg]; simp [go_sem]
 ·intro f' hf'; simp [Target.leads] at hf'; subst hf'; exact hFg
 ·simp [invoke,go_sem,eg]
 refine (hseq (w.heap.size + 1)
  (fun pre W => I pre W ∧ W.heap[w.heap.size + 1]? = some (.loop (rec .ready none)) ∧ W.heap[w.heap.size]? = some (.deferred (some [])))
  (fun pre W => Ix .ret pre W ∧ W.heap[w.heap.size + 1]? = some (.loop (rec .done (some .ret))) ∧ W.heap[w.heap.size]? = some (.deferred (some [])))
  V vB
  (fun s X Y row hs hg' hr => ⟨hI s X Y row hs.1 hg' (less hr),keep hg' hr (by omega) (by omega) hs.2.1,keep hg' hr (by omega) (by omega) hs.2.2⟩)
  (fun s X Y row hs hg' hr => ⟨hIx .ret s X Y row hs.1 hg' (less hr),keep hg' hr (by omega) (by omega) hs.2.1,keep hg' hr (by omega) (by omega) hs.2.2⟩)
  ?round ⟨vI,vL,vD⟩).mono ?behind
 case round =>
  rintro pre x W ⟨hi,hl,hk⟩ hlen
  have hlt : w.heap.size + 1 < W.heap.size:=(Array.getElem?_eq_some_iff.1 hl).1
  have hy:=run_yield (P:=P) (args:=encs x) hl (by rw [hrec]; exact hps x)
  rw [hrec] at hy
  refine ⟨fn,_,assign,body,hy,roundIn_of_wpIn hfn (hassign _ x W _ ?_)⟩
  refine ⟨_,run_beginRound hl (by rw [hrec]),?_⟩
  obtain ⟨X,hX⟩ : ∃ X,W.putObj (w.heap.size + 1) (.loop { rec .ready none with state:=.busy }) = X:=⟨_,rfl⟩
  have xL : X.heap[w.heap.size + 1]? = some (.loop { rec .ready none with state:=.busy }):=by rw [← hX]; exact World.putObj_heap_same hlt
  have xD : X.heap[w.heap.size]? = some (.deferred (some [])):=by rw [← hX]; exact (World.putObj_heap_other (by omega)).trans hk
  have xK : Kp W X:=by rw [← hX]; exact hKb _ _ _ _ (by omega) hl rfl rfl
  have xI : I pre X:=by rw [← hX]; exact hI.from.putObj _ hi (by omega) hl rfl
  rw [hX]
  refine wpIn_mono (hbody _ pre x X xI hlen) ?_
    -- the round's end: the record is written back
  have fin : ∀ (jump : Option Code) (Y : World),KeepsFrom w.heap.size X Y →
    (Instr.endRound (w.heap.size + 1) jump).run P Y = .ok (.bool jump.isNone) (Y.putObj (w.heap.size + 1) (.loop (rec (if jump.isNone then .ready else .done) jump))) ∧
    Y.heap[w.heap.size + 1]? = some (.loop { rec .ready none with state:=.busy }) ∧
    (Y.putObj (w.heap.size + 1) (.loop (rec (if jump.isNone then .ready else .done) jump))).heap[w.heap.size + 1]? = some (.loop (rec (if jump.isNone then .ready else .done) jump)) ∧
    (Y.putObj (w.heap.size + 1) (.loop (rec (if jump.isNone then .ready else .done) jump))).heap[w.heap.size]? = some (.deferred (some [])):=by
   intro jump Y hk3
   have yL:=hk3.same _ _ (by omega) xL rfl
   have e:=run_endRound (P:=P) jump yL
   rw [hrec] at e ⊢
   exact ⟨e,by rw [hrec] at yL; exact yL,World.putObj_heap_same (Array.getElem?_eq_some_iff.1 yL).1,(World.putObj_heap_other (by omega)).trans (hk3.same _ _ (Nat.le_refl _) xD rfl)⟩
  intro e a3 Y hp
  cases e with
  | normal =>
   obtain ⟨q1,q2,q3⟩:=hp
   obtain ⟨r1,r2,r3,r4⟩:=fin none Y q1
   exact ⟨_,_,r1,.inl ⟨rfl,⟨hI.from.putObj _ q3 (by omega) r2 rfl,r3,r4⟩,hKt xK (hKt q2 (hKb _ _ _ _ (by omega) r2 rfl rfl))⟩⟩
  | ret =>
   obtain ⟨q1,q3⟩:=hp
   obtain ⟨r1,r2,r3,r4⟩:=fin (some .ret) Y q1
   exact ⟨_,_,r1,.inr ⟨rfl,(hIx .ret).from.putObj _ q3 (by omega) r2 rfl,r3,r4⟩⟩
  | exit id => exact hp.elim
  | goto t => exact hp.elim
  | panic ch => exact hp.elim
  | outgrown => exact hp.elim
 case behind =>
  rintro e Y ⟨⟨v,rfl⟩,(⟨xs,hS,hi,hl,hk⟩ | ⟨pre,hSp,hi,hl,hk⟩)⟩
  ·have e:=run_endLoop (P:=P) hl (by rw [hrec]; simp)
   rw [hrec] at e
   exact ⟨none,_,e,hdone _ xs _ (Nat.le_refl _) hS (hI.from.putObj _ hi (by omega) hl rfl) ((World.putObj_heap_other (by omega)).trans hk)⟩
  ·have e:=run_endLoop (P:=P) hl (by rw [hrec]; simp)
   rw [hrec] at e
   exact ⟨some .ret,_,e,hstop _ pre _ (Nat.le_refl _) hSp ((hIx .ret).from.putObj _ hi (by omega) hl rfl) ((World.putObj_heap_other (by omega)).trans hk)⟩
end Go.Proofs.YthhohbidjhcjeaaGreatDoor.RB
namespace Go.Proofs.YthhohbidjhcjeaaGreatDoor.H
open Go.RowKit Go.Lib Go.Shelf

/-- The letters that parts of paths are made of. -/
def letters : ByteArray:=⟨#[97,98,99,100,101,102,103,104,105,106,107,108,109,110,111,112,113,114,115,116,117,118,119,120,121,122,48,49,50,51,52,53,54,55,56,57,46,95,45]⟩
theorem letters_low : ∀ b ∈ letters.data.toList,b.toNat < 128:=by decide +kernel
theorem letters_size : letters.size = 39:=by decide +kernel
theorem letters_decode : ∀ p,p < 39 → (Utf8.decode letters p).1 < 128 ∧ (Utf8.decode letters p).2 = 1:=by decide +kernel
theorem indexByte_none (l : List UInt8) (c : UInt8) (h : ∀ b ∈ l,b.toNat < 128) (hc : 128 ≤ c.toNat) : Lib.indexByte l c = -1:=by
 induction l with
 | nil => rfl
 | cons b l ih =>
  have hb : (b == c) = false:=by
   have h1:=h b (by simp)
   simp only [beq_eq_false_iff_ne,ne_eq]
   rintro rfl
   omega
  rw [Lib.indexByte,hb,ih (fun x hx => h x (by simp [hx]))]
  rfl

set_option maxHeartbeats 2000000 in
set_option maxRecDepth 1000000 in
theorem indexRune_bad (r : Int) (h1 : 128 ≤ r) (hb : Lib.validRune r = false) (w : World) :
  Calls Tryz.prog 177 #[.string letters,.int .i32 r] w fun e w' => e = .returned (.int .i64 (-1)) ∧ Below w.heap.size w w':=by
 have h2 : r ≠ 65533:=by rintro rfl; revert hb; decide
 go_enter Tryz.func177,Tryz.ntmps177
 go_wp2_with (go_at_call 193; refine (Tryz.utf8_ValidRune _ _).mono ?_; rintro e w' ⟨rfl,rfl⟩; rw [hb])
 go_ret
 exact ⟨rfl,Below.refl _ _⟩
set_option maxHeartbeats 2000000 in
set_option maxRecDepth 1000000 in
theorem indexRune_error (w : World) :
  Calls Tryz.prog 177 #[.string letters,.int .i32 65533] w fun e w' => e = .returned (.int .i64 (-1)) ∧ Below w.heap.size w w':=by
 obtain ⟨s,hs⟩ : ∃ s,letters = s:=⟨_,rfl⟩
 have hsz : s.size = 39:=by rw [← hs]; exact letters_size
 have hd:=letters_decode
 rw [hs] at hd
 rw [hs]
 clear hs
 go_enter Tryz.func177,Tryz.ntmps177
 go_wp2
 go_loopg [] s.size (fun gf wx => ∃ pos : Nat,wx.heap[w.heap.size]? = some (.stringIter s pos) ∧ Below w.heap.size w wx ∧ s.size ≤ pos + gf)
 case atStart => exact ⟨0,World.iter_heap w s 0,(Below.refl _ w).alloc (Nat.le_refl _) _,by omega⟩
 case round =>
  obtain ⟨pos,hit,hbw,hfu⟩:=hrel
  by_cases hps : pos < s.size
  ·obtain ⟨g',rfl⟩ : ∃ g',gk = g' + 1:=⟨gk - 1,by omega⟩
   have hnx : ∀ ty,(Instr.next (.pointer (some ⟨w.heap.size,0,none⟩)) true ty).run Tryz.prog wr = _:=fun ty => Lib.run_next_any_at wr w.heap.size s pos ty hit hps
   obtain ⟨hd1,hd2⟩:=hd pos (by omega)
   obtain ⟨R,hR⟩ : ∃ R,(Utf8.decode s pos).1 = R:=⟨_,rfl⟩
   rw [hR] at hnx hd1
   rw [hd2] at hnx
   have hit2:=Lib.iterAt_heap wr w.heap.size s pos (pos + 1) hit
   have hbw2:=Lib.below_iterAt hbw (k:=w.heap.size) (Nat.le_refl _) s (pos + 1)
   obtain ⟨W,hWd⟩ : ∃ W,wr.iterAt w.heap.size s (pos + 1) = W:=⟨_,rfl⟩
   rw [hWd] at hnx hit2 hbw2
   have hne : ((R : Int) == 65533) = false:=by simp; omega
   go_wp2
   go_roundg g'
   case measure => omega
   case rel => exact ⟨pos + 1,hit2,hbw2,by omega⟩
  ·have hnx : ∀ ty,(Instr.next (.pointer (some ⟨w.heap.size,0,none⟩)) true ty).run Tryz.prog wr = _:=fun ty => Lib.run_next_end_at wr w.heap.size s pos ty hit hps
   go_wp2
   go_ret
   exact ⟨rfl,hbw⟩

set_option maxHeartbeats 2000000 in
set_option maxRecDepth 1000000 in
theorem indexRune_valid (r : Int) (h1 : 128 ≤ r) (h2 : r ≠ 65533) (hv : Lib.validRune r = true) (w : World) :
  Calls Tryz.prog 177 #[.string letters,.int .i32 r] w fun e w' => e = .returned (.int .i64 (-1)) ∧ Below w.heap.size w w':=by
 obtain ⟨s,hs⟩ : ∃ s,letters = s:=⟨_,rfl⟩
 have hsz : s.size = 39:=by rw [← hs]; exact letters_size
 have hlow:=letters_low
 rw [hs] at hlow
 rw [hs]
 clear hs
 obtain ⟨e2,e4,elast⟩:=encode_facts r (by rw [validRune_eq]; exact hv) h1
 obtain ⟨E,hE⟩ : ∃ E,Utf8.encode r = E:=⟨_,rfl⟩
 rw [hE] at e2 e4 elast
 obtain ⟨n,hn⟩ : ∃ n,E.size = n + 1:=⟨E.size - 1,by omega⟩
 have hn1 : 1 ≤ n:=by omega
 have hn3 : n ≤ 3:=by omega
 have hlt : n < E.size:=by omega
 have hla : 128 ≤ (E[n]'hlt).toNat:=by
  have h:=elast (by omega)
  have e : E.size - 1 = n:=by omega
  simpa only [e] using h
 clear elast e2 e4
 obtain ⟨c,hc⟩ : ∃ c,E[n]'hlt = c:=⟨_,rfl⟩
 rw [hc] at hla
 have hsn : n < s.size:=by omega
 obtain ⟨b,hb⟩ : ∃ b,s[n]'hsn = b:=⟨_,rfl⟩
 have hbl : b.toNat < 128:=by
  rw [← hb]
  exact hlow _ (Array.getElem_mem_toList (xs:=s.data) hsn)
 have ix1 : ∀ W,(Instr.index 9 (.string s) (.int .i64 (n : Int))).run Tryz.prog W = .ok (.int .u8 b.toNat) W:=fun W => by
  rw [run_index_string W 9 s .i64 _ Tryz.underlying9,dif_pos ⟨by omega,by omega⟩]
  simp only [Int.toNat_natCast,hb]
 have ix2 : ∀ W,(Instr.index 9 (.string E) (.int .i64 (n : Int))).run Tryz.prog W = .ok (.int .u8 c.toNat) W:=fun W => by
  rw [run_index_string W 9 E .i64 _ Tryz.underlying9,dif_pos ⟨by omega,by omega⟩]
  simp only [Int.toNat_natCast,hc]
 have cIB : ∀ (a e : Nat) (W : World),Calls Tryz.prog 192 #[.string (s.extract a e),.int .u8 (c.toNat : Int)] W fun e w' => e = .returned (.int .i64 (-1)) ∧ w' = W:=fun a e W => by
  have h:=Tryz.strings_IndexByte (s.extract a e) (c.toNat : Int) W
  rw [indexByte_none _ _ (fun x hx => hlow x (mem_extract hx)) (by simpa using hla)] at h
  exact h
 have hbc : (((b.toNat : Int)) == (c.toNat : Int)) = false:=by simp only [beq_eq_false_iff_ne,ne_eq]; omega
 have hbc' : (((b.toNat : Int)) != (c.toNat : Int)) = true:=by simp only [bne_iff_ne,ne_eq]; omega
 have hwr : IntKind.i64.wrap ((n : Int) + 1) = (n : Int) + 1:=wrap_small _ (by omega) (by omega)
 have hsl : ∀ W,(Instr.slice 9 (.string s) (some (.int .i64 (IntKind.i64.wrap ((n : Int) + 1)))) none none).run Tryz.prog W = .ok (.string (s.extract (n + 1) s.size)) W:=fun W => by
  rw [hwr,run_slice_string_from_if W 9 s .i64 _ Tryz.underlying9,if_pos ⟨by omega,by omega⟩]
  rfl
 clear hwr
 have hlen : (n : Int) < 39:=by omega
 have hs21 : (Tryz.prog.underlying 21).isSome = true:=by rw [Tryz.underlying21]; rfl
 have hcv : ∀ W,(convert 21 9 (.int .i32 r)).run Tryz.prog W = .ok (.string E) W:=fun W => by rw [run_convert_int_string W 21 9 .i32 r hs21 Tryz.underlying9,hE]
 go_enter Tryz.func177,Tryz.ntmps177
 go_wp2_with (go_at_call 193; refine (Tryz.utf8_ValidRune _ _).mono ?_; rintro e w1 ⟨rfl,hw1⟩; rw [hv,hw1])
 go_step3
 go_wp2
 go_loopg [9] 1 (fun gf v9 wx => v9 = .int .i64 (n : Int) ∧ wx = w)
 case atStart => exact ⟨rfl,rfl⟩
 case round =>
  obtain ⟨rfl,rfl⟩:=hrel
  go_wp2
  go_step3
  go_wp2
  go_region
  all_goals go_wp2
  all_goals go_region_with (go_at_call 192; refine (cIB _ _ _).mono ?_; rintro e w2 ⟨rfl,hw2⟩; rw [hw2])
  all_goals go_wp2
  all_goals simp only [Exit.noGoto_ret,Exit.inBlock,Exit.then]
  all_goals go_ret
  all_goals exact ⟨rfl,by repeat (first | exact Below.refl _ _ | refine Below.drew ?_)⟩

/-- Is a rune one of the letters? -/
def isLetter (r : Nat) : Bool:=decide (r < 128) && decide (0 ≤ Lib.indexByte letters.data.toList r.toUInt8)
theorem containsRune (r : Nat) (hr : r ≤ 1114111) (w : World) :
  Calls Tryz.prog 147 #[.string letters,.int .i32 (r : Int)] w fun e w' => e = .returned (.bool (isLetter r)) ∧ Below w.heap.size w w':=by
 by_cases h : r < 128
 ·refine (Tryz.strings_ContainsRune_ascii letters (r : Int) w (by omega) (by omega)).mono ?_
  rintro e w' ⟨rfl,rfl⟩
  refine ⟨?_,Below.refl _ _⟩
  simp [isLetter,h]
 ·have hI : Calls Tryz.prog 177 #[.string letters,.int .i32 (r : Int)] w fun e w' => e = .returned (.int .i64 (-1)) ∧ Below w.heap.size w w':=by
   by_cases h2 : (r : Int) = 65533
   ·rw [h2]; exact indexRune_error w
   ·cases hv : Lib.validRune (r : Int) with
    | true => exact indexRune_valid _ (by omega) h2 hv w
    | false => exact indexRune_bad _ (by omega) hv w
  have e0 : isLetter r = false:=by simp [isLetter,h]
  rw [e0]
  go_enter Tryz.func147,Tryz.ntmps147
  go_wp2_with (go_at_call 177; refine hI.mono ?_; rintro e w' ⟨rfl,hb⟩)
  go_ret
  exact ⟨rfl,hb⟩
/-- The predicate of path.part: is a rune strange? -/
theorem strange_grows (w : World) : PredGrows Tryz.prog 146 #[] (fun r => !isLetter r) w:=by
 intro W x hx hb
 show Calls Tryz.prog 146 #[.int .i32 (x : Int)] W _
 have hC:=containsRune x hx W
 obtain ⟨s,hs⟩ : ∃ s,letters = s:=⟨_,rfl⟩
 rw [hs] at hC
 unfold letters at hs
 go_enter Tryz.func146,Tryz.ntmps146
 rw [hs]
 go_wp2_with (go_at_call 147; refine hC.mono ?_; rintro e w' ⟨rfl,hb⟩)
 go_ret
 exact ⟨rfl,hb⟩
end Go.Proofs.YthhohbidjhcjeaaGreatDoor.H

namespace Go.Proofs.YthhohbidjhcjeaaGreatDoor.H
open Go.RowKit Go.Lib Go.Shelf

/-- Is a text one part of a path? -/
def strangeB (s : ByteArray) : Bool:=decide (0 ≤ Lib.idxFunc (fun r => !isLetter r) true s)
def partB (s : ByteArray) : Bool:=if s.toList = [] then false else if s.size ≤ 16 then (if s.toList = [46] then false else if s.toList = [46,46] then false else !strangeB s) else false
set_option maxHeartbeats 2000000 in
set_option maxRecDepth 1000000 in
theorem part_calls (s : ByteArray) (w : World) : Calls Tryz.prog 112 #[.string s] w fun e w' => e = .returned (.bool (partB s)) ∧ Below w.heap.size w w':=by
 have hC:=Tryz.strings_ContainsFunc_grows 146 #[] (enters_of Tryz.func146 (by kernel_rfl) rfl) _ s w (strange_grows w)
 have e0 : decide (0 ≤ Lib.idxFunc (fun r => !isLetter r) true s) = strangeB s:=rfl
 rw [e0] at hC
 obtain ⟨b,hb⟩ : ∃ b,strangeB s = b:=⟨_,rfl⟩
 unfold partB
 rw [hb] at hC ⊢
 clear e0 hb
 have hsz : ((s.size : Int) ≤ 16) ↔ s.size ≤ 16:=by omega
 go_enter Tryz.func112,Tryz.ntmps112
 go_wp2_with (go_at_call 145; refine hC.mono ?_; rintro e w' ⟨rfl,hb⟩)
 all_goals go_ret
 all_goals refine ⟨?_,hb⟩
 all_goals simp_all
end Go.Proofs.YthhohbidjhcjeaaGreatDoor.H

namespace Go.Proofs.YthhohbidjhcjeaaGreatDoor.H
open Go.RowKit Go.Shelf Go.Proofs.YthhohbidjhcjeaaGreatDoor.RB
attribute [local go_sem] Oper.semAt_some

/-- The pieces of a text between a sign. -/
def pieces (c : UInt8) : List UInt8 → List (List UInt8)
 | [] => [[]]
 | b :: l => if b = c then [] :: pieces c l else match pieces c l with
  | [] => [[b]]
  | p :: r => (b :: p) :: r
theorem pieces_ne (c : UInt8) : ∀ l,pieces c l ≠ []
 | [] => by simp [pieces]
 | b :: l => by
  unfold pieces
  split
  ·simp
  ·split <;> simp
theorem pieces_pos (c : UInt8) (l : List UInt8) : 1 ≤ (pieces c l).length:=by
 have:=pieces_ne c l
 cases h : pieces c l with
 | nil => exact absurd h this
 | cons p r => simp
theorem pieces_none (c : UInt8) : ∀ (l : List UInt8),Lib.indexByte l c = -1 → pieces c l = [l]
 | [],_ => rfl
 | b :: l,h => by
  have hb : ¬ b = c:=fun e => by
   subst e
   simp [Lib.indexByte] at h
  have hl : Lib.indexByte l c = -1:=by
   have hb' : (b == c) = false:=by simpa using hb
   have hg:=Lib.indexByte_ge l c
   rw [Lib.indexByte,hb'] at h
   by_cases e : Lib.indexByte l c = -1
   ·exact e
   ·have e' : (Lib.indexByte l c == -1) = false:=by simpa using e
    simp only [Bool.false_eq_true,if_false,e'] at h
    omega
  rw [pieces,if_neg hb,pieces_none c l hl]
theorem pieces_some (c : UInt8) : ∀ (l : List UInt8) (i : Nat),Lib.indexByte l c = (i : Int) → i < l.length ∧ pieces c l = l.take i :: pieces c (l.drop (i + 1))
 | [],i,h => by simp [Lib.indexByte] at h
 | b :: l,i,h => by
  by_cases hb : b = c
  ·subst hb
   simp only [Lib.indexByte,beq_self_eq_true,if_true] at h
   obtain rfl : i = 0:=by omega
   exact ⟨by simp,by simp [pieces]⟩
  ·have hb' : (b == c) = false:=by simpa using hb
   have hg:=Lib.indexByte_ge l c
   rw [Lib.indexByte,hb'] at h
   by_cases e : Lib.indexByte l c = -1
   ·simp [e] at h
   ·have e' : (Lib.indexByte l c == -1) = false:=by simpa using e
    simp only [Bool.false_eq_true,if_false,e'] at h
    obtain ⟨j,rfl⟩ : ∃ j,i = j + 1:=⟨i - 1,by omega⟩
    obtain ⟨h1,h2⟩:=pieces_some c l j (by omega)
    exact ⟨by simp; omega,by rw [pieces,if_neg hb,h2]; rfl⟩
theorem pieces_len (c : UInt8) : ∀ l,(pieces c l).length ≤ l.length + 1
 | [] => by simp [pieces]
 | b :: l => by
  have:=pieces_len c l
  unfold pieces
  split
  ·simpa using this
  ·split
   ·simp
   ·rename_i p r h
    rw [h] at this
    simp at this ⊢
    omega

/-- What a round keeps: the iterator's boxes. -/
def KpS (Bp Bs Bv : Nat) (W W' : World) : Prop:=W'.heap[Bp]? = W.heap[Bp]? ∧ W'.heap[Bs]? = W.heap[Bs]? ∧ W'.heap[Bv]? = W.heap[Bv]?
theorem boxed_of {W W' : World} {B : Nat} {t : TypeId} {v : Value} (h : Boxed W B t v) (e : W'.heap[B]? = W.heap[B]?) : Boxed W' B t v:=e.trans h
def lsS (ys : List ByteArray) : List (List UInt8):=ys.map (fun y => y.data.toList)

/-- The length of the text that a box holds. -/
def sizeAt (B : Nat) (w : World) : Nat:=match w.cell? ⟨B,0,none⟩ with
 | some (.string s) => s.size
 | _ => 0
theorem sizeAt_of {B : Nat} {w : World} {s : ByteArray} (h : Boxed w B 9 (.string s)) : sizeAt B w = s.size:=by rw [sizeAt,h.cell]
set_option maxRecDepth 100000 in
set_option maxHeartbeats 2000000 in
theorem split_stops (n : Nat) (hn : 1 ≤ n) (Bp Bs Bv : Nat) (h1 : Bp ≠ Bs) (h2 : Bv ≠ Bs) (c : UInt8) (s : ByteArray) (w : World) (hs : s.size ≤ 140737488355328)
  (bp : Boxed w Bp 9 (.string ⟨#[c]⟩)) (bs : Boxed w Bs 9 (.string s)) (bv : Boxed w Bv 3 (.int .i64 0)) :
  SeqZ Fence.wide n Tryz.prog 174 #[.pointer (some ⟨Bp,0,none⟩),.pointer (some ⟨Bs,0,none⟩),.pointer (some ⟨Bv,0,none⟩)] (fun y : ByteArray => #[.string y]) (KpS Bp Bs Bv) (fun r => r = Bs)
   (fun ys => lsS ys = pieces c s.data.toList) (fun pre => lsS pre <+: pieces c s.data.toList) (pieces c s.data.toList).length w:=by
 intro l J Jx W hW hJ hJx hY h0
 replace bp : Boxed W Bp 9 (.string ⟨#[c]⟩):=(hW.block _ bp.lt).trans bp
 replace bs : Boxed W Bs 9 (.string s):=(hW.block _ bs.lt).trans bs
 replace bv : Boxed W Bv 3 (.int .i64 0):=(hW.block _ bv.lt).trans bv
 clear hW
 show CallsIn Fence.wide n Tryz.prog 174 #[.func (.yield l) #[] #[],.pointer (some ⟨Bp,0,none⟩),.pointer (some ⟨Bs,0,none⟩),.pointer (some ⟨Bv,0,none⟩)] W _
 refine callsIn_of_wp Tryz.func174 rfl trivial ?_ rfl
 simp only [Tryz.ntmps174,List.size_toArray,List.length_cons,List.length_nil,Nat.reduceAdd,Nat.reduceSub,Array.replicate_succ,Array.replicate_zero,List.push_toArray,List.append_toArray,List.nil_append,List.cons_append]
 have cp:=bp.cell
 gi_wp2
 gi_loopw [] (fun wr => ∃ (cur : ByteArray) (pre : List ByteArray),J pre wr ∧ Boxed wr Bp 9 (.string ⟨#[c]⟩) ∧ Boxed wr Bs 9 (.string cur) ∧ Boxed wr Bv 3 (.int .i64 0) ∧ cur.size ≤ 140737488355328 ∧ lsS pre ++ pieces c cur.data.toList = pieces c s.data.toList)
  (fun wr => sizeAt Bs wr)
 case atStart => exact ⟨s,[],h0,bp,bs,bv,hs,rfl⟩
 case round =>
  clear bp bs bv cp h0 hs
  obtain ⟨cur,pre,hJ0,bp,bs,bv,hc,hpc⟩:=hrel
  have cp:=bp.cell
  have cs:=bs.cell
  have cv:=bv.cell
  have fs:=bs.frozen
  have hlen : pre.length + (pieces c cur.data.toList).length = (pieces c s.data.toList).length:=by rw [← hpc]; simp [lsS]
  have hI:=Tryz.strings_Index_one cur c
  by_cases hi : Lib.indexByte cur.data.toList c = -1
  ·rw [hi] at hI
   have hp1:=pieces_none c _ hi
   obtain ⟨fn,tmps,assign,body,hy,hR⟩:=hY pre cur wr hJ0 (by rw [hp1] at hlen; simp at hlen; omega)
   have HPC:=Lib.hid hpc
   clear hpc hlen
   gi_wp2_with (refine ⟨trivial,?_⟩; gi_at_call 149; refine (callsIn_wide.2 (hI _)).mono ?_; rintro e w1 ⟨rfl,hw1⟩; rw [hw1])
   refine hR.mono ?_
   rintro e W3 (⟨rfl,hJ3,hk3⟩ | ⟨rfl,hJx3⟩)
   ·gi_wp2
    go_end0
    exact ⟨⟨_,rfl⟩,.inl ⟨pre ++ [cur],by rw [← HPC.out,hp1]; simp [lsS],hJ3⟩⟩
   ·gi_wp2
    go_end0
    exact ⟨⟨_,rfl⟩,.inr ⟨pre ++ [cur],by rw [← HPC.out,hp1]; simp [lsS],hJx3⟩⟩
  ·obtain ⟨i,hi'⟩ : ∃ i : Nat,Lib.indexByte cur.data.toList c = (i : Int):=⟨(Lib.indexByte cur.data.toList c).toNat,by have:=Lib.indexByte_ge cur.data.toList c; omega⟩
   clear hi
   rw [hi'] at hI
   obtain ⟨hil,hp1⟩:=pieces_some c _ i hi'
   clear hi'
   have hil' : i < cur.size:=by rw [Array.length_toList] at hil; exact hil
   clear hil
   have t1 : (cur.extract 0 i).data.toList = cur.data.toList.take i:=by simp
   have t2 : (cur.extract (i + 1) cur.size).data.toList = cur.data.toList.drop (i + 1):=by
    simp only [ByteArray.data_extract,Array.toList_extract]
    exact List.take_of_length_le (by simp)
   rw [← t1,← t2] at hp1
   have tz : (cur.extract (i + 1) cur.size).size = cur.size - (i + 1):=by simp
   clear t1 t2
   obtain ⟨fn,tmps,assign,body,hy,hR⟩:=hY pre (cur.extract 0 i) wr hJ0 (by
    rw [hp1] at hlen
    have:=pieces_pos c (cur.extract (i + 1) cur.size).data.toList
    simp only [List.length_cons] at hlen
    omega)
   have hw0 : IntKind.i64.wrap (i : Int) = (i : Int):=wrap_small _ (by omega) (by omega)
   have hw1 : IntKind.i64.wrap ((i : Int) + 1) = (i : Int) + 1:=wrap_small _ (by omega) (by omega)
   have sl1 : ∀ W,(Instr.slice 9 (.string cur) none (some (.int .i64 (IntKind.i64.wrap (i : Int)))) none).run Tryz.prog W = .ok (.string (cur.extract 0 i)) W:=fun W => by
    rw [hw0,run_slice_string_to_if W 9 cur .i64 _ Tryz.underlying9,if_pos ⟨by omega,by omega⟩,Int.toNat_natCast]
   have sl2 : ∀ W,(Instr.slice 9 (.string cur) (some (.int .i64 (IntKind.i64.wrap ((i : Int) + 1)))) none none).run Tryz.prog W = .ok (.string (cur.extract (i + 1) cur.size)) W:=fun W => by
    rw [hw1,run_slice_string_from_if W 9 cur .i64 _ Tryz.underlying9,if_pos ⟨by omega,by omega⟩]
    rfl
   clear hw0 hw1
   have HPC:=Lib.hid hpc
   have HP1:=Lib.hid hp1
   clear hpc hlen hp1
   gi_wp2_with (refine ⟨trivial,?_⟩; gi_at_call 149; refine (callsIn_wide.2 (hI _)).mono ?_; rintro e w1 ⟨rfl,hw1⟩; rw [hw1])
   refine hR.mono ?_
   rintro e W3 (⟨rfl,hJ3,hk3⟩ | ⟨rfl,hJx3⟩)
   ·have bp3:=boxed_of bp hk3.1
    have bs3:=boxed_of bs hk3.2.1
    have bv3:=boxed_of bv hk3.2.2
    have cp3:=bp3.cell
    have cs3:=bs3.cell
    have fs3:=bs3.frozen
    gi_wp2
    go_roundw
    case rel => exact ⟨cur.extract (i + 1) cur.size,pre ++ [cur.extract 0 i],hJ _ _ _ _ hJ3 (grownBy_setCell' _ _ _) (fun r e => .inr (Option.some.inj e).symm),bp3.other h1 _,bs3.set _,bv3.other h2 _,by omega,by rw [← HPC.out,HP1.out]; simp [lsS]⟩
    case measure => rw [sizeAt_of (bs3.set _),sizeAt_of bs]; omega
   ·gi_wp2
    refine bodyPost_ret (results_none rfl _ _ _) rfl ?_
    exact ⟨⟨_,rfl⟩,.inr ⟨pre ++ [cur.extract 0 i],by rw [← HPC.out,HP1.out]; simp [lsS],hJx3⟩⟩
end Go.Proofs.YthhohbidjhcjeaaGreatDoor.H

namespace Go.Proofs.YthhohbidjhcjeaaGreatDoor.H
open Go.RowKit Go.Shelf Go.Proofs.YthhohbidjhcjeaaGreatDoor.RB
attribute [local go_sem] Oper.semAt_some

/-- Is a text a path? -/
def rightB (s : ByteArray) : Bool:=(pieces 47 s.data.toList).all (fun y => partB ⟨y.toArray⟩) && decide ((pieces 47 s.data.toList).length ≤ 8)
theorem splitSeq1_in (n : Nat) (s sep : ByteArray) (w : World) :
  CallsIn Fence.wide n Tryz.prog 144 #[.string s,.string sep,.int .i64 0] w fun e w' => e = .returned (.func (.func 174) #[] #[.pointer (some ⟨w.heap.size + 1,0,none⟩),.pointer (some ⟨w.heap.size,0,none⟩),.pointer (some ⟨w.heap.size + 2,0,none⟩)]) ∧
   w' = ((w.alloc (.cells #[.string s] 9)).alloc (.cells #[.string sep] 9)).alloc (.cells #[.int .i64 0] 3):=by
 refine callsIn_of_wp Tryz.func144 rfl trivial ?_ rfl
 simp only [Tryz.ntmps144,List.size_toArray,List.length_cons,List.length_nil,Nat.reduceAdd,Nat.reduceSub,Array.replicate_succ,Array.replicate_zero,List.push_toArray,List.append_toArray,List.nil_append,List.cons_append]
 gi_wp2
 go_ret
 exact ⟨rfl,rfl⟩
theorem splitSeq_in (n : Nat) (s sep : ByteArray) (w : World) :
  CallsIn Fence.wide n Tryz.prog 111 #[.string s,.string sep] w fun e w' => e = .returned (.func (.func 174) #[] #[.pointer (some ⟨w.heap.size + 1,0,none⟩),.pointer (some ⟨w.heap.size,0,none⟩),.pointer (some ⟨w.heap.size + 2,0,none⟩)]) ∧
   w' = ((w.alloc (.cells #[.string s] 9)).alloc (.cells #[.string sep] 9)).alloc (.cells #[.int .i64 0] 3):=by
 refine callsIn_of_wp Tryz.func111 rfl trivial ?_ rfl
 simp only [Tryz.ntmps111,List.size_toArray,List.length_cons,List.length_nil,Nat.reduceAdd,Nat.reduceSub,Array.replicate_succ,Array.replicate_zero,List.push_toArray,List.append_toArray,List.nil_append,List.cons_append]
 gi_wp2_with (refine ⟨trivial,(by intro h; cases h),?_⟩; gi_at_call 144; refine (splitSeq1_in _ _ _ _).mono ?_; rintro e w1 ⟨rfl,rfl⟩)
 go_ret
 exact ⟨rfl,rfl⟩

set_option maxRecDepth 100000 in
set_option maxHeartbeats 2000000 in
theorem right_in (s : ByteArray) (w : World) (hs : s.size ≤ 140737488355328) :
  CallsIn Fence.wide 6 Tryz.prog 66 #[.string s] w fun e w' => e = .returned (.bool (rightB s)) ∧ Below w.heap.size w w':=by
 refine callsIn_of_wp_marks Tryz.func66 rfl trivial ?_ rfl
 simp only [Tryz.ntmps66,List.size_toArray,List.length_cons,List.length_nil,Nat.reduceAdd,Nat.reduceSub,Array.replicate_succ,Array.replicate_zero,List.push_toArray,List.append_toArray,List.nil_append,List.cons_append]
 gi_wp2_with (refine ⟨trivial,?_⟩; gi_at_call 111; refine (splitSeq_in _ _ _ _).mono ?_; rintro e w1 ⟨rfl,rfl⟩)
 have bR:=(((((Boxed.new w 4 (.bool false)).alloc (.cells #[.int .i64 0] 3)).alloc (.cells #[.string s] 9)).alloc (.cells #[.string ⟨#[47]⟩] 9)).alloc (.cells #[.int .i64 0] 3))
 have bN:=((((Boxed.new (w.alloc (.cells #[.bool false] 4)) 3 (.int .i64 0)).alloc (.cells #[.string s] 9)).alloc (.cells #[.string ⟨#[47]⟩] 9)).alloc (.cells #[.int .i64 0] 3))
 have bs:=((Boxed.new ((w.alloc (.cells #[.bool false] 4)).alloc (.cells #[.int .i64 0] 3)) 9 (.string s)).alloc (.cells #[.string ⟨#[47]⟩] 9)).alloc (.cells #[.int .i64 0] 3)
 have bp:=(Boxed.new (((w.alloc (.cells #[.bool false] 4)).alloc (.cells #[.int .i64 0] 3)).alloc (.cells #[.string s] 9)) 9 (.string ⟨#[47]⟩)).alloc (.cells #[.int .i64 0] 3)
 have bv:=Boxed.new ((((w.alloc (.cells #[.bool false] 4)).alloc (.cells #[.int .i64 0] 3)).alloc (.cells #[.string s] 9)).alloc (.cells #[.string ⟨#[47]⟩] 9)) 3 (.int .i64 0)
 simp only [World.size_alloc] at bN bs bp bv
 have hB0 : Below w.heap.size w (((((w.alloc (.cells #[.bool false] 4)).alloc (.cells #[.int .i64 0] 3)).alloc (.cells #[.string s] 9)).alloc (.cells #[.string ⟨#[47]⟩] 9)).alloc (.cells #[.int .i64 0] 3)) :=
  (((((Below.refl _ w).alloc (Nat.le_refl _) _).alloc (by simp) _).alloc (by simp; omega) _).alloc (by simp; omega) _).alloc (by simp; omega) _
 have hsz : (((((w.alloc (.cells #[.bool false] 4)).alloc (.cells #[.int .i64 0] 3)).alloc (.cells #[.string s] 9)).alloc (.cells #[.string ⟨#[47]⟩] 9)).alloc (.cells #[.int .i64 0] 3)).heap.size = w.heap.size + 5:=by simp
 obtain ⟨W0,hW0⟩ : ∃ W0,(((((w.alloc (.cells #[.bool false] 4)).alloc (.cells #[.int .i64 0] 3)).alloc (.cells #[.string s] 9)).alloc (.cells #[.string ⟨#[47]⟩] 9)).alloc (.cells #[.int .i64 0] 3)) = W0:=⟨_,rfl⟩
 rw [hW0] at bR bN bs bp bv hB0 hsz ⊢
 clear hW0
 have hpl:=pieces_len 47 s.data.toList
 have hsl : s.data.toList.length = s.size:=by rw [Array.length_toList]; rfl
 refine wpIn_rangeFunc_boxes (F:=Fence.wide) (α:=ByteArray) (Z:=fun r => r = w.heap.size + 1 + 1) rfl (by omega) (gf:=174)
  (lb:=#[.pointer (some ⟨w.heap.size + 1 + 1 + 1,0,none⟩),.pointer (some ⟨w.heap.size + 1 + 1,0,none⟩),.pointer (some ⟨w.heap.size + 1 + 1 + 2,0,none⟩)]) rfl trivial (enters_of Tryz.func174 (by kernel_rfl) rfl)
  (split_stops 5 (by omega) (w.heap.size + 1 + 1 + 1) (w.heap.size + 1 + 1) (w.heap.size + 1 + 1 + 2) (by omega) (by omega) 47 s W0 hs bp bs bv) (fun r e => by omega) ?kt ?kb (Below.refl _ _) (fun _ => rfl)
  (fun pre W => Boxed W w.heap.size 4 (.bool false) ∧ Boxed W (w.heap.size + 1) 3 (.int .i64 (pre.length : Int)) ∧ (∀ y ∈ pre,partB y = true) ∧ Below w.heap.size w W ∧ w.heap.size + 5 ≤ W.heap.size)
  (fun _ pre W => Boxed W w.heap.size 4 (.bool false) ∧ (∃ y ∈ pre,partB y = false) ∧ Below w.heap.size w W)
  ?own ?ownx ⟨bR,bN,by simp,hB0,by omega⟩
  (fun x => { tmps:=#[.string s,undef,.pointer (some ⟨w.heap.size,0,none⟩),.pointer (some ⟨w.heap.size + 1,0,none⟩),.string x,.string s,.func (.func 174) #[] #[.pointer (some ⟨w.heap.size + 1 + 1 + 1,0,none⟩),.pointer (some ⟨w.heap.size + 1 + 1,0,none⟩),.pointer (some ⟨w.heap.size + 1 + 1 + 2,0,none⟩)],.string x,undef,undef,undef,undef,undef,undef,undef],defers:=[] })
  ?assign ?body ?done ?stop
 case kt => exact fun h k => ⟨k.1.trans h.1,k.2.1.trans h.2.1,k.2.2.trans h.2.2⟩
 case kb => exact fun W l o o' hl _ _ _ => ⟨World.putObj_heap_other (by omega),World.putObj_heap_other (by omega),World.putObj_heap_other (by omega)⟩
 case own =>
  rintro pre X Y row ⟨h1,h2,h3,h4,h6⟩ hg hr
  have ne : ∀ B t v,Boxed X B t v → B ≠ w.heap.size + 1 + 1 → some B ≠ row:=fun B t v hb hB e => by
   rcases hr B e.symm with ⟨_,o,ho,hc⟩ | h5
   ·rw [show X.heap[B]? = _ from hb] at ho
    cases ho
    cases hc
   ·exact hB h5
  exact ⟨h1.kept hg (ne _ _ _ h1 (by omega)),h2.kept hg (ne _ _ _ h2 (by omega)),h3,Below.grown h4 hg (by have:=h1.lt; omega) (fun r e => by rcases hr r e with ⟨h5,_⟩ | h5 <;> omega),Nat.le_trans h6 hg.size⟩
 case ownx =>
  rintro _ pre X Y row ⟨h1,h3,h4⟩ hg hr
  have ne : ∀ B t v,Boxed X B t v → B ≠ w.heap.size + 1 + 1 → some B ≠ row:=fun B t v hb hB e => by
   rcases hr B e.symm with ⟨_,o,ho,hc⟩ | h5
   ·rw [show X.heap[B]? = _ from hb] at ho
    cases ho
    cases hc
   ·exact hB h5
  exact ⟨h1.kept hg (ne _ _ _ h1 (by omega)),h3,Below.grown h4 hg (by have:=h1.lt; omega) (fun r e => by rcases hr r e with ⟨h5,_⟩ | h5 <;> omega)⟩
 case assign =>
  intro l x W K hK
  gi_wp2
  exact hK
 case body =>
  rintro l pre x W ⟨h1,h2,h3,h4,h6⟩ hlt
  have hP:=part_calls x
  have c1:=h1.cell
  have f1:=h1.frozen
  have c2:=h2.cell
  have f2:=h2.frozen
  have hw : IntKind.i64.wrap ((pre.length : Int) + 1) = ((pre ++ [x]).length : Int):=by
   rw [wrap_small _ (by omega) (by omega)]
   simp
  cases hb : partB x with
  | false =>
   rw [hb] at hP
   gi_wp2_with (refine ⟨trivial,?_⟩; gi_at_call 112; refine (CallsIn.inRound l (callsIn_wide.2 (hP _))).mono ?_; rintro e w1 ⟨rfl,hb1⟩; have g1:=boxed_of h1 (hb1.block _ h1.lt); have c3:=g1.cell; have f3:=g1.frozen)
   have hke : KeepsOthers W w1:=⟨hb1.size,fun k o hk _ => (hb1.block k (Array.getElem?_eq_some_iff.1 hk).1).trans hk⟩
   refine ⟨(hke.trans (KeepsOthers.setCell _ _ _)).from _,g1.set _,⟨x,by simp,hb⟩,?_⟩
   refine Below.setCell (p:=⟨w.heap.size,0,none⟩) ?_ (Nat.le_refl _) _
   exact h4.trans (hb1.mono h4.size)
  | true =>
   rw [hb] at hP
   gi_wp2_with (refine ⟨trivial,?_⟩; gi_at_call 112; refine (CallsIn.inRound l (callsIn_wide.2 (hP _))).mono ?_; rintro e w1 ⟨rfl,hb1⟩; have g1:=boxed_of h1 (hb1.block _ h1.lt); have g2:=boxed_of h2 (hb1.block _ h2.lt); have c3:=g2.cell; have f3:=g2.frozen)
   have hke : KeepsOthers W w1:=⟨hb1.size,fun k o hk _ => (hb1.block k (Array.getElem?_eq_some_iff.1 hk).1).trans hk⟩
   have hsz1:=hb1.size
   have far : ∀ k,k < w.heap.size + 5 → k ≠ w.heap.size + 1 → ∀ v,(w1.setCell ⟨w.heap.size + 1,0,none⟩ v).heap[k]? = W.heap[k]?:=fun k hk hne v =>
    ((grownBy_setCell' w1 (w.heap.size + 1) v).block k (by omega) (by simp; omega)).trans (hb1.block k (by omega))
   refine ⟨(hke.trans (KeepsOthers.setCell _ _ _)).from _,⟨far _ (by omega) (by omega) _,far _ (by omega) (by omega) _,far _ (by omega) (by omega) _⟩,g1.other (by omega) _,?_,?_,?_,?_⟩
   ·have e : ((pre ++ [x]).length : Int) = (pre.length : Int) + 1:=by simp
    rw [e]
    exact g2.set _
   ·intro y hy
    rcases List.mem_append.1 hy with hy | hy
    ·exact h3 y hy
    ·rw [List.mem_singleton.1 hy]; exact hb
   ·refine Below.setCell (p:=⟨w.heap.size + 1,0,none⟩) ?_ (Nat.le_succ _) _
    exact h4.trans (hb1.mono h4.size)
   ·rw [World.size_setCell]
    omega
 case done =>
  rintro D xs W hD hS ⟨h1,h2,h3,h4,h6⟩ hdf
  have c1:=h1.cell
  have f1:=h1.frozen
  have c2:=h2.cell
  have hr : rightB s = decide ((xs.length : Int) ≤ 8):=by
   have e : xs.length = (pieces 47 s.data.toList).length:=by rw [← hS]; simp [lsS]
   have ha : (pieces 47 s.data.toList).all (fun y => partB ⟨y.toArray⟩) = true:=by
    rw [← hS,List.all_eq_true]
    intro y hy
    obtain ⟨z,hz,rfl⟩:=List.mem_map.1 hy
    exact h3 z hz
   rw [rightB,ha,e,Bool.true_and]
   exact decide_eq_decide.2 (by omega)
  gi_wp2
  have hdf2 : (W.setCell ⟨w.heap.size,0,none⟩ (.bool (decide ((xs.length : Int) ≤ 8)))).heap[D]? = some (.deferred (some [])):=((grownBy_setCell' W w.heap.size _).block D (Array.getElem?_eq_some_iff.1 hdf).1 (by simp; omega)).trans hdf
  refine ⟨by simp,.inl ⟨_,_,rfl,run_takeDeferred hdf2,?_⟩⟩
  have bE : Boxed ((W.setCell ⟨w.heap.size,0,none⟩ (.bool (decide ((xs.length : Int) ≤ 8)))).putObj D (.deferred none)) w.heap.size 4 (.bool (decide ((xs.length : Int) ≤ 8))):=(World.putObj_heap_other (by omega)).trans (h1.set _)
  have cE:=bE.cell
  refine ⟨.bool (decide ((xs.length : Int) ≤ 8)),by simp [results,Tryz.results66,go_sem,cE],by rw [hr],?_⟩
  refine Below.trans ?_ (belowK_b (w:=w) (Nat.le_refl _) _ D _ _ (by omega) hdf2 rfl rfl)
  exact Below.setCell (p:=⟨w.heap.size,0,none⟩) h4 (Nat.le_refl _) _
 case stop =>
  rintro D pre W hD hSp ⟨h1,⟨y,hy,hyp⟩,h4⟩ hdf
  have c1:=h1.cell
  have hr : rightB s = false:=by
   have ha : (pieces 47 s.data.toList).all (fun y => partB ⟨y.toArray⟩) = false:=by
    rw [List.all_eq_false]
    refine ⟨y.data.toList,hSp.subset (List.mem_map.2 ⟨y,hy,rfl⟩),?_⟩
    have : (⟨y.data.toList.toArray⟩ : ByteArray) = y:=rfl
    rw [this,hyp]
    simp
   rw [rightB,ha,Bool.false_and]
  gi_wp2
  refine ⟨by simp,.inl ⟨_,_,rfl,run_takeDeferred hdf,?_⟩⟩
  have bE : Boxed (W.putObj D (.deferred none)) w.heap.size 4 (.bool false):=(World.putObj_heap_other (by omega)).trans h1
  have cE:=bE.cell
  refine ⟨.bool false,by simp [results,Tryz.results66,go_sem,cE],by rw [hr],?_⟩
  exact Below.trans h4 (belowK_b (w:=w) (Nat.le_refl _) _ D _ _ (by omega) hdf rfl rfl)
end Go.Proofs.YthhohbidjhcjeaaGreatDoor.H

namespace Go.Proofs.YthhohbidjhcjeaaGreatDoor.H
open Go.RowKit Go.Shelf Go.Proofs.YthhohbidjhcjeaaGreatDoorW.PrintWords Go.Proofs.YthhohbidjhcjeaaGreatDoorW.PrintLast Go.Proofs.YthhohbidjhcjeaaGreatDoorW.PrintMore

/-- Does a text hold the end of a line? -/
def hasNL (s : ByteArray) : Bool:=decide (0 ≤ Lib.indexByte s.data.toList 10)
def linesB (l : List ByteArray) : Bool:=!(l.any hasNL)
theorem lit_calls (s : ByteArray) (w : World) : Calls Tryz.prog 115 #[.string s] w fun e w' => e = .returned (.bool (hasNL s)) ∧ w' = w:=by
 have hC:=Tryz.strings_Contains_one s 10 w
 have e0 : decide (0 ≤ Lib.indexByte s.data.toList 10) = hasNL s:=rfl
 rw [e0] at hC
 obtain ⟨b,hb⟩ : ∃ b,hasNL s = b:=⟨_,rfl⟩
 rw [hb] at hC ⊢
 clear e0 hb
 go_enter Tryz.func115,Tryz.ntmps115
 go_wp2_with (go_at_call 116; refine hC.mono ?_; rintro e w' ⟨rfl,rfl⟩)
 go_ret
 exact ⟨rfl,rfl⟩
set_option maxHeartbeats 1000000 in
theorem index_calls (A : Option Addr) (c : Nat) (l : List ByteArray) (w : World) (h : Kd.C Kd.string w A l.length l) :
  Calls Tryz.prog 148 #[.slice A l.length c,.func (.func 115) #[] #[]] w fun e w' => (∃ i : Int,e = .returned (.int .i64 i) ∧ decide (0 ≤ i) = l.any hasNL) ∧ w' = w:=by
 have hmax:=Kd.C_max h
 have e115 : ∀ args w,(callFunc 115 args).run Tryz.prog w = .ok (.enter 115 args) w:=enters_of Tryz.func115 (by kernel_rfl) rfl
 go_enter Tryz.func148,Tryz.ntmps148
 go_wp2
 go_loopg [8] l.length (fun gf v8 wx => ∃ j : Nat,v8 = .int .i64 (j : Int) ∧ wx = w ∧ j + gf = l.length ∧ (l.take j).any hasNL = false)
 case atStart => exact ⟨0,rfl,rfl,by omega,by simp⟩
 case round =>
  obtain ⟨j,rfl,rfl,hj,hn⟩:=hrel
  by_cases hlt : j < l.length
  ·obtain ⟨g',rfl⟩ : ∃ g',gk = g' + 1:=⟨gk - 1,by omega⟩
   obtain ⟨ad,rfl,hc⟩:=Kd.at_string h (j : Int) (by omega) (by omega)
   rw [Int.toNat_natCast] at hc
   have hx : rdOf ByteArray.empty l (j : Int) = l[j]:=by
    rw [rdOf,Int.toNat_natCast,List.getD_eq_getElem?_getD,List.getElem?_eq_getElem hlt,Option.getD_some]
   rw [hx] at hc
   have ht : (l.take (j + 1)).any hasNL = hasNL l[j]:=by
    rw [List.take_succ_eq_append_getElem hlt,List.any_append,hn]
    simp
   obtain ⟨x,hxx⟩ : ∃ x,l[j] = x:=⟨_,rfl⟩
   rw [hxx] at hc ht
   have hL:=lit_calls x
   cases hb : hasNL x with
   | true =>
    rw [hb] at hL
    go_wp2_with (go_at_fn 115; refine (hL _).mono ?_; rintro e w' ⟨rfl,hw⟩; rw [hw])
    go_ret
    refine ⟨⟨_,rfl,?_⟩,rfl⟩
    have : l.any hasNL = true:=List.any_eq_true.2 ⟨l[j],List.getElem_mem hlt,by rw [hxx,hb]⟩
    rw [this]
    exact decide_eq_true (by omega)
   | false =>
    rw [hb] at hL
    go_wp2_with (go_at_fn 115; refine (hL _).mono ?_; rintro e w' ⟨rfl,hw⟩; rw [hw])
    go_roundg g'
    case measure => omega
    case rel => exact ⟨j + 1,rfl,rfl,by omega,by rw [ht,hb]⟩
  ·have hjl : j = l.length:=by omega
   subst hjl
   go_wp2
   go_ret
   refine ⟨⟨_,rfl,?_⟩,rfl⟩
   rw [List.take_length] at hn
   rw [hn]
   rfl
theorem lines_calls (A : Option Addr) (c : Nat) (l : List ByteArray) (w : World) (h : Kd.C Kd.string w A l.length l) :
  Calls Tryz.prog 69 #[.slice A l.length c] w fun e w' => e = .returned (.bool (linesB l)) ∧ w' = w:=by
 have hC : Calls Tryz.prog 114 #[.slice A l.length c,.func (.func 115) #[] #[]] w fun e w' => e = .returned (.bool (l.any hasNL)) ∧ w' = w:=by
  have hI:=index_calls A c l w h
  obtain ⟨b,hb⟩ : ∃ b,l.any hasNL = b:=⟨_,rfl⟩
  rw [hb] at hI ⊢
  clear h hb
  go_enter Tryz.func114,Tryz.ntmps114
  go_wp2_with (go_at_call 148; refine hI.mono ?_; rintro e w' ⟨⟨i,rfl,hi⟩,rfl⟩)
  all_goals go_ret
  all_goals exact ⟨by simp_all,rfl⟩
 unfold linesB
 obtain ⟨b,hb⟩ : ∃ b,l.any hasNL = b:=⟨_,rfl⟩
 rw [hb] at hC ⊢
 clear h hb
 go_enter Tryz.func69,Tryz.ntmps69
 go_wp2_with (go_at_call 114; refine hC.mono ?_; rintro e w' ⟨rfl,rfl⟩)
 go_ret
 exact ⟨rfl,rfl⟩
end Go.Proofs.YthhohbidjhcjeaaGreatDoor.H
namespace Go.Proofs.YthhohbidjhcjeaaGreatDoor.Q
open Go.RowKit Go.Proofs.YthhohbidjhcjeaaGreatDoorW.PrintWords Go.Proofs.YthhohbidjhcjeaaGreatDoorW.PrintLast Go.Proofs.YthhohbidjhcjeaaGreatDoorW.PrintMore Go.Proofs.YthhohbidjhcjeaaGreatDoor.H
/-! ### in the printed form -/
def path_Right.f (a0 : ByteArray) : Option Bool:=if a0.size ≤ 140737488355328 then some (rightB a0) else none
theorem path_Right.calls (a0 : ByteArray) (r : Bool) (w : World) (h : path_Right.f a0 = some r) : Calls Tryz.prog 66 #[.string a0] w fun e w' => e = .returned (.bool r) ∧ Below w.heap.size w w':=by
 unfold path_Right.f at h
 split at h
 ·rename_i hl
  obtain rfl:=Option.some.inj h
  exact callsIn_wide.1 (right_in a0 w hl)
 ·cases h
def lines_Right.f (l0 : List ByteArray) : Option Bool:=some (linesB l0)
theorem lines_Right.calls (A0 : Option Addr) (c0 : Nat) (l0 : List ByteArray) (r : Bool) (w : World) (hr0 : Kd.C Kd.string w A0 l0.length l0) (_hc0 : l0.length ≤ c0) (h : lines_Right.f l0 = some r) :
  Calls Tryz.prog 69 #[.slice A0 l0.length c0] w fun e w' => e = .returned (.bool r) ∧ Drawn0 w w':=by
 obtain rfl:=Option.some.inj h
 refine (lines_calls A0 c0 l0 w hr0).mono ?_
 rintro e w' ⟨rfl,rfl⟩
 exact ⟨rfl,Drawn0.refl _⟩
end Go.Proofs.YthhohbidjhcjeaaGreatDoor.Q
