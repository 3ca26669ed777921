-- Written by drive.py of this claim's own session, by way of the kit's print. Lean checks it.
import Derived.Shelf.Strconv.Itoa0
import Derived.Shelf.Strconv.Itoa1
import Derived.Shelf.LaysM
import Derived.Shelf.Strconv.Itoa2
import Derived.Shelf.Strconv.Itoa3
import Derived.Shelf.Strconv.Itoa4
import Derived.Shelf.Strconv.ParseIntEmpty
import Derived.Shelf.Strconv.Clone
import Derived.Shelf.Strconv.SyntaxError
import Derived.Shelf.LaysC
import Derived.Shelf.Strconv.ToError
import Derived.Shelf.Strconv.Lower
import Derived.Shelf.Strconv.ParseUint10
import Derived.Shelf.Strconv.ParseUint10Empty
import Derived.Shelf.Strconv.ParseUint10Any
import Derived.Shelf.Strconv.ParseInt10
import Derived.Shelf.Strconv.RangeError
import Derived.Shelf.Strconv.ToErrorRange
import Derived.Shelf.Strconv.ParseUintEmpty
import Derived.Shelf.Strconv.ParseUint10b64
import Derived.Shelf.Strconv.ParseUint10b32
import Derived.Shelf.Strconv.ParseUint10b16
import Derived.Shelf.Strconv.ParseUint10b8
import Derived.Shelf.Strconv.ParseUint10At
import Derived.Shelf.Strconv.ParseInt10At64
import Derived.Shelf.Strconv.ParseInt10At32
import Derived.Shelf.Strconv.ParseInt10At16
import Derived.Shelf.Strconv.ParseInt10At8
import Derived.Shelf.Strconv.ParseInt10All
import Derived.Shelf.Strconv.ParseIntPublic10
import Derived.Shelf.Strconv.ErrVarParseInt
import Derived.Shelf.GgClosure.StringsIndexFunc
import Derived.Ground.GgwProg
import Derived.Shelf.GgClosure.StringsIndexFuncTop
import Derived.Shelf.GgClosure.StringsRunes
import Derived.Shelf.Strings.Prefix
import Derived.Shelf.Strings.FuncGrows
import Derived.Shelf.Slices.Turned
import Derived.Shelf.Slices.Reverse
import Derived.Shelf.Slices.Equal
import Derived.Ground.Names2Prog
import Derived.Shelf.Slices.Clone
import Derived.Shelf.Slices.Cells
import Derived.Shelf.Slices.Empties2
import Derived.Ground.SlgnProg
import Derived.Shelf.SlicesE.Reverse
import Derived.Shelf.SlicesE.Clone
import Derived.Ground.SlgfProg
import Derived.Shelf.SlicesE.IndexFunc
import Derived.Test.YtfjilihppnndkaaDoorProg
import Derived.Test.YtfjilihppnndkaaDoorWWords
import Derived.Test.YtfjilihppnndkaaDoorWMore
import Derived.Test.YtfjilihppnndkaaDoorWGuard
import Derived.Test.YtfjilihppnndkaaDoorWTab
import Derived.Test.YtfjilihppnndkaaDoorWLast
import Derived.WalkSmall
import Derived.Lib.TrimUEq
import Derived.Lib.SpaceUEq
import Derived.Lib.AppendIntMem
import Derived.Below
import Derived.Deep.Draws
import Derived.Deep.AppendLies
import Derived.Maps.AppendAt
import Derived.OwnWalk
import Derived.Laws.BytesArg
import Derived.Laws.MakeOwn
import Derived.Laws.OwnMore
import Derived.Deep.OwnRows
import Derived.Tactics
import Derived.Lib.ConvBytes
import Derived.Laws.Slices
import Derived.WalkKit
import Derived.KernelRfl
import Derived.RowKit3
import Derived.Deep.LoopGhost
import Derived.Deep.QuietTactic
import Derived.BigQuiet
import Derived.WideLaws
import Derived.Deep.DeepCutAuto
import Derived.Deep.CutBlock
import Derived.Deep.RegionHeld3
import Derived.Laws.Rows
import Derived.Lib.AppendStr
import Derived.ArgAppend
import Derived.Laws.IdiomCopy
import Derived.OrdersHeld
import Derived.Laws.BitsLemmas
import Derived.RowKit
import Derived.Test.YtfjilihppnndkaaDoorWQPut
import Derived.Test.YtfjilihppnndkaaDoorWApart
import Derived.Test.YtfjilihppnndkaaDoorWArr
import Derived.Test.YtfjilihppnndkaaDoorWZeros
import Derived.Test.YtfjilihppnndkaaDoorWFoot
import Derived.Test.YtfjilihppnndkaaDoorWKept
import Derived.Test.YtfjilihppnndkaaDoorWShare
import Derived.Test.YtfjilihppnndkaaDoorWN
import Derived.Test.YtfjilihppnndkaaDoorWRepsOne
import Derived.Test.YtfjilihppnndkaaDoorWNEv
namespace Go.Proofs
open Go.Shelf
def Tryd.laysM173_ren : Go.Shelf.Ren := ⟨fun | 173 => 52 | 246 => 87 | 283 => 109 | 284 => 110 | 285 => 111 | 286 => 112 | 129 => 129 | 317 => 128 | 318 => 130 | 319 => 131 | 320 => 132 | 337 => 145 | 338 => 146 | n => n, fun | 2 => 2 | 3 => 3 | 9 => 9 | 4 => 4 | 171 => 134 | 0 => 0 | 53 => 135 | 37 => 100 | 5 => 5 | 173 => 138 | 212 => 152 | 51 => 153 | 20 => 20 | 213 => 154 | 46 => 107 | 232 => 170 | 233 => 171 | n => n, fun | 17 => 0 | 18 => 3 | 19 => 4 | n => n⟩
theorem Tryd.laysM173 : Go.Proofs.LaysM.n173 Tryd.prog Tryd.laysM173_ren := {
  mixed := by kernel_rfl
  f129 := Tryd.func129.trans (congrArg some (by kernel_rfl))
  f173 := Tryd.func52.trans (congrArg some (by kernel_rfl))
  f246 := Tryd.func87.trans (congrArg some (by kernel_rfl))
  f283 := Tryd.func109.trans (congrArg some (by kernel_rfl))
  f284 := Tryd.func110.trans (congrArg some (by kernel_rfl))
  f285 := Tryd.func111.trans (congrArg some (by kernel_rfl))
  f286 := Tryd.func112.trans (congrArg some (by kernel_rfl))
  f317 := Tryd.func128.trans (congrArg some (by kernel_rfl))
  f318 := Tryd.func130.trans (congrArg some (by kernel_rfl))
  f319 := Tryd.func131.trans (congrArg some (by kernel_rfl))
  f320 := Tryd.func132.trans (congrArg some (by kernel_rfl))
  f337 := Tryd.func145.trans (congrArg some (by kernel_rfl))
  f338 := Tryd.func146.trans (congrArg some (by kernel_rfl))
  t0 := Tryd.underlying0
  a0 := Tryd.isAgg0
  z0 := Tryd.sizeOf0
  v0 := Tryd.zeroValue0
  t2 := Tryd.underlying2
  a2 := Tryd.isAgg2
  z2 := Tryd.sizeOf2
  v2 := Tryd.zeroValue2
  t3 := Tryd.underlying3
  a3 := Tryd.isAgg3
  z3 := Tryd.sizeOf3
  v3 := Tryd.zeroValue3
  t4 := Tryd.underlying4
  a4 := Tryd.isAgg4
  z4 := Tryd.sizeOf4
  v4 := Tryd.zeroValue4
  t5 := Tryd.underlying5
  a5 := Tryd.isAgg5
  z5 := Tryd.sizeOf5
  v5 := Tryd.zeroValue5
  t9 := Tryd.underlying9
  a9 := Tryd.isAgg9
  z9 := Tryd.sizeOf9
  v9 := Tryd.zeroValue9
  t20 := Tryd.underlying20
  a20 := Tryd.isAgg20
  z20 := Tryd.sizeOf20
  v20 := Tryd.zeroValue20
  t37 := Tryd.underlying100
  a37 := Tryd.isAgg100
  z37 := Tryd.sizeOf100
  v37 := Tryd.zeroValue100
  t46 := Tryd.underlying107
  a46 := Tryd.isAgg107
  z46 := Tryd.sizeOf107
  v46 := Tryd.zeroValue107
  t51 := Tryd.underlying153
  a51 := Tryd.isAgg153
  z51 := Tryd.sizeOf153
  v51 := Tryd.zeroValue153
  t53 := Tryd.underlying135
  a53 := Tryd.isAgg135
  z53 := Tryd.sizeOf135
  v53 := Tryd.zeroValue135
  t171 := Tryd.underlying134
  a171 := Tryd.isAgg134
  z171 := Tryd.sizeOf134
  v171 := Tryd.zeroValue134
  t173 := Tryd.underlying138
  a173 := Tryd.isAgg138
  z173 := Tryd.sizeOf138
  v173 := Tryd.zeroValue138
  t212 := Tryd.underlying152
  a212 := Tryd.isAgg152
  z212 := Tryd.sizeOf152
  v212 := Tryd.zeroValue152
  t213 := Tryd.underlying154
  a213 := Tryd.isAgg154
  z213 := Tryd.sizeOf154
  t232 := Tryd.underlying170
  a232 := Tryd.isAgg170
  z232 := Tryd.sizeOf170
  v232 := Tryd.zeroValue170
  t233 := Tryd.underlying171
  a233 := Tryd.isAgg171
  z233 := Tryd.sizeOf171
  v233 := Tryd.zeroValue171
  g17 := by kernel_rfl
  g18 := by kernel_rfl
  g19 := by kernel_rfl
  i0 := by kernel_rfl
  i2 := by kernel_rfl
  i3 := by kernel_rfl
  i4 := by kernel_rfl
  i5 := by kernel_rfl
  i9 := by kernel_rfl
  i20 := by kernel_rfl
  i37 := by kernel_rfl
  i46 := by kernel_rfl
  i51 := by kernel_rfl
  i53 := by kernel_rfl
  i171 := by kernel_rfl
  i173 := by kernel_rfl
  i212 := by kernel_rfl
  i232 := by kernel_rfl
  i233 := by kernel_rfl
  m17 := by kernel_rfl
  m18 := by kernel_rfl
  m19 := by kernel_rfl }
open Go.RowKit Go.Sort Go.Lib in
/-- strconv.FormatInt: "FormatInt returns the string representation of i in the given base": AT BASE 10: i's decimal numeral, for every int64. (LAID: no walk: one application.) -/
theorem Tryd.strconv_FormatInt_10 (n : Int) (h0 : -9223372036854775808 ≤ n) (h1 : n ≤ 9223372036854775807) (w : World) (htab : Lib.TabIs Tryd.prog w "internal/strconv.uint64pow10" .u64 Lib.pow10Tab) :
    Calls Tryd.prog 52 #[.int .i64 n, .int .i64 10] w fun e w' => e = .returned (.string ⟨(Lib.itoa n).toArray⟩) ∧ ∃ k os, w' = grow (w.drewN k) os := Any.strconv_FormatInt_10 Tryd.laysM173 n h0 h1 w htab
def Tryd.laysC174_ren : Go.Shelf.Ren := ⟨fun | 174 => 73 | 247 => 100 | 245 => 101 | 287 => 116 | 279 => 117 | 280 => 118 | 281 => 119 | 282 => 120 | 321 => 135 | 322 => 136 | 316 => 137 | 171 => 139 | 205 => 138 | 243 => 147 | 246 => 87 | 283 => 109 | 284 => 110 | 285 => 111 | 286 => 112 | 129 => 129 | 317 => 128 | 318 => 130 | 319 => 131 | 320 => 132 | 337 => 145 | 338 => 146 | n => n, fun | 9 => 9 | 3 => 3 | 2 => 2 | 75 => 97 | 85 => 98 | 4 => 4 | 167 => 142 | 5 => 5 | 53 => 135 | 175 => 143 | 46 => 107 | 168 => 145 | 37 => 100 | 0 => 0 | 210 => 160 | 21 => 21 | 127 => 165 | 145 => 168 | 143 => 166 | 171 => 134 | 173 => 138 | 212 => 152 | 51 => 153 | 20 => 20 | 213 => 154 | 232 => 170 | 233 => 171 | 80 => 172 | n => n, fun | 15 => 1 | 16 => 2 | 17 => 0 | 18 => 3 | 19 => 4 | n => n⟩
theorem Tryd.laysC174 : Go.Proofs.LaysC.n174 Tryd.prog Tryd.laysC174_ren := {
  mixed := by kernel_rfl
  f129 := Tryd.func129.trans (congrArg some (by kernel_rfl))
  f171 := Tryd.func139.trans (congrArg some (by kernel_rfl))
  f174 := Tryd.func73.trans (congrArg some (by kernel_rfl))
  f205 := Tryd.func138.trans (congrArg some (by kernel_rfl))
  f243 := Tryd.func147.trans (congrArg some (by kernel_rfl))
  f245 := Tryd.func101.trans (congrArg some (by kernel_rfl))
  f246 := Tryd.func87.trans (congrArg some (by kernel_rfl))
  f247 := Tryd.func100.trans (congrArg some (by kernel_rfl))
  f279 := Tryd.func117.trans (congrArg some (by kernel_rfl))
  f280 := Tryd.func118.trans (congrArg some (by kernel_rfl))
  f281 := Tryd.func119.trans (congrArg some (by kernel_rfl))
  f282 := Tryd.func120.trans (congrArg some (by kernel_rfl))
  f283 := Tryd.func109.trans (congrArg some (by kernel_rfl))
  f284 := Tryd.func110.trans (congrArg some (by kernel_rfl))
  f285 := Tryd.func111.trans (congrArg some (by kernel_rfl))
  f286 := Tryd.func112.trans (congrArg some (by kernel_rfl))
  f287 := Tryd.func116.trans (congrArg some (by kernel_rfl))
  f316 := Tryd.func137.trans (congrArg some (by kernel_rfl))
  f317 := Tryd.func128.trans (congrArg some (by kernel_rfl))
  f318 := Tryd.func130.trans (congrArg some (by kernel_rfl))
  f319 := Tryd.func131.trans (congrArg some (by kernel_rfl))
  f320 := Tryd.func132.trans (congrArg some (by kernel_rfl))
  f321 := Tryd.func135.trans (congrArg some (by kernel_rfl))
  f322 := Tryd.func136.trans (congrArg some (by kernel_rfl))
  f337 := Tryd.func145.trans (congrArg some (by kernel_rfl))
  f338 := Tryd.func146.trans (congrArg some (by kernel_rfl))
  t0 := Tryd.underlying0
  a0 := Tryd.isAgg0
  z0 := Tryd.sizeOf0
  v0 := Tryd.zeroValue0
  t2 := Tryd.underlying2
  a2 := Tryd.isAgg2
  z2 := Tryd.sizeOf2
  v2 := Tryd.zeroValue2
  t3 := Tryd.underlying3
  a3 := Tryd.isAgg3
  z3 := Tryd.sizeOf3
  v3 := Tryd.zeroValue3
  t4 := Tryd.underlying4
  a4 := Tryd.isAgg4
  z4 := Tryd.sizeOf4
  v4 := Tryd.zeroValue4
  t5 := Tryd.underlying5
  a5 := Tryd.isAgg5
  z5 := Tryd.sizeOf5
  v5 := Tryd.zeroValue5
  t9 := Tryd.underlying9
  a9 := Tryd.isAgg9
  z9 := Tryd.sizeOf9
  v9 := Tryd.zeroValue9
  t20 := Tryd.underlying20
  a20 := Tryd.isAgg20
  z20 := Tryd.sizeOf20
  v20 := Tryd.zeroValue20
  t21 := Tryd.underlying21
  a21 := Tryd.isAgg21
  z21 := Tryd.sizeOf21
  v21 := Tryd.zeroValue21
  t37 := Tryd.underlying100
  a37 := Tryd.isAgg100
  z37 := Tryd.sizeOf100
  v37 := Tryd.zeroValue100
  t46 := Tryd.underlying107
  a46 := Tryd.isAgg107
  z46 := Tryd.sizeOf107
  v46 := Tryd.zeroValue107
  t51 := Tryd.underlying153
  a51 := Tryd.isAgg153
  z51 := Tryd.sizeOf153
  v51 := Tryd.zeroValue153
  t53 := Tryd.underlying135
  a53 := Tryd.isAgg135
  z53 := Tryd.sizeOf135
  v53 := Tryd.zeroValue135
  t75 := Tryd.underlying97
  a75 := Tryd.isAgg97
  z75 := Tryd.sizeOf97
  v75 := Tryd.zeroValue97
  t85 := Tryd.underlying98
  a85 := Tryd.isAgg98
  z85 := Tryd.sizeOf98
  v85 := Tryd.zeroValue98
  t127 := Tryd.underlying165
  a127 := Tryd.isAgg165
  z127 := Tryd.sizeOf165
  v127 := Tryd.zeroValue165
  t143 := Tryd.underlying166
  a143 := Tryd.isAgg166
  z143 := Tryd.sizeOf166
  v143 := Tryd.zeroValue166
  t145 := Tryd.underlying168
  a145 := Tryd.isAgg168
  z145 := Tryd.sizeOf168
  v145 := Tryd.zeroValue168
  t167 := Tryd.underlying142
  a167 := Tryd.isAgg142
  z167 := Tryd.sizeOf142
  v167 := Tryd.zeroValue142
  t168 := Tryd.underlying145
  a168 := Tryd.isAgg145
  z168 := Tryd.sizeOf145
  v168 := Tryd.zeroValue145
  t171 := Tryd.underlying134
  a171 := Tryd.isAgg134
  z171 := Tryd.sizeOf134
  v171 := Tryd.zeroValue134
  t173 := Tryd.underlying138
  a173 := Tryd.isAgg138
  z173 := Tryd.sizeOf138
  v173 := Tryd.zeroValue138
  t175 := Tryd.underlying143
  a175 := Tryd.isAgg143
  z175 := Tryd.sizeOf143
  v175 := Tryd.zeroValue143
  t210 := Tryd.underlying160
  a210 := Tryd.isAgg160
  z210 := Tryd.sizeOf160
  v210 := Tryd.zeroValue160
  t212 := Tryd.underlying152
  a212 := Tryd.isAgg152
  z212 := Tryd.sizeOf152
  v212 := Tryd.zeroValue152
  t213 := Tryd.underlying154
  a213 := Tryd.isAgg154
  z213 := Tryd.sizeOf154
  t232 := Tryd.underlying170
  a232 := Tryd.isAgg170
  z232 := Tryd.sizeOf170
  v232 := Tryd.zeroValue170
  t233 := Tryd.underlying171
  a233 := Tryd.isAgg171
  z233 := Tryd.sizeOf171
  v233 := Tryd.zeroValue171
  g15 := by kernel_rfl
  g16 := by kernel_rfl
  g17 := by kernel_rfl
  g18 := by kernel_rfl
  g19 := by kernel_rfl
  t80 := Tryd.underlying172
  a80 := Tryd.isAgg172
  z80 := Tryd.sizeOf172
  v80 := Tryd.zeroValue172
  i0 := by kernel_rfl
  i2 := by kernel_rfl
  i3 := by kernel_rfl
  i4 := by kernel_rfl
  i5 := by kernel_rfl
  i9 := by kernel_rfl
  i20 := by kernel_rfl
  i21 := by kernel_rfl
  i37 := by kernel_rfl
  i46 := by kernel_rfl
  i51 := by kernel_rfl
  i53 := by kernel_rfl
  i75 := by kernel_rfl
  i80 := by kernel_rfl
  i85 := by kernel_rfl
  i127 := by kernel_rfl
  i143 := by kernel_rfl
  i145 := by kernel_rfl
  i167 := by kernel_rfl
  i168 := by kernel_rfl
  i171 := by kernel_rfl
  i173 := by kernel_rfl
  i175 := by kernel_rfl
  i210 := by kernel_rfl
  i212 := by kernel_rfl
  i232 := by kernel_rfl
  i233 := by kernel_rfl
  m15 := by kernel_rfl
  m16 := by kernel_rfl
  m17 := by kernel_rfl
  m18 := by kernel_rfl
  m19 := by kernel_rfl
  c0 := by kernel_rfl
  c2 := by kernel_rfl
  c3 := by kernel_rfl
  c4 := by kernel_rfl
  c5 := by kernel_rfl
  c9 := by kernel_rfl
  c20 := by kernel_rfl
  c21 := by kernel_rfl
  c37 := by kernel_rfl
  c46 := by kernel_rfl
  c51 := by kernel_rfl
  c53 := by kernel_rfl
  c75 := by kernel_rfl
  c80 := by kernel_rfl
  c85 := by kernel_rfl
  c127 := by kernel_rfl
  c143 := by kernel_rfl
  c145 := by kernel_rfl
  c167 := by kernel_rfl
  c168 := by kernel_rfl
  c171 := by kernel_rfl
  c173 := by kernel_rfl
  c175 := by kernel_rfl
  c210 := by kernel_rfl
  c212 := by kernel_rfl
  c213 := by kernel_rfl
  c232 := by kernel_rfl
  c233 := by kernel_rfl }
open Go.RowKit in
/-- strconv.ParseInt(s, 10, 64), AT EVERY STRING THAT SPELLS AN int64 ('Lib.parseIntB 64 s.data.toList = .ok v'): v, AND NO ERROR. (LAID: no walk: one application.) -/
theorem Tryd.strconv_ParseInt_10_at64_ok (s : ByteArray) (hmax : s.size ≤ 9223372036854775806) (v : Int) (h : Lib.parseIntB 64 s.data.toList = .ok v) (w : World) :
    Calls Tryd.prog 73 #[.string s, .int .i64 10, .int .i64 64] w fun e w' => e = .returned (.tuple #[.int .i64 v, .nilIface]) ∧ (w' = w ∨ ∃ t, w' = Lib.bytesWorld w 5 t) := Any.strconv_ParseInt_10_at64_ok Tryd.laysC174 s hmax v h w
open Go.RowKit in
theorem Tryd.strconv_ParseInt_10_at64_range_var (s : ByteArray) (hlim : s.size ≤ 281474976710656) (h : Lib.parseIntB 64 s.data.toList = .range) (tp : TypeId) (p : Value) (w : World) (hvar : w.var? Tryd.prog "strconv.ErrRange" = some #[.iface tp p]) :
    Calls Tryd.prog 73 #[.string s, .int .i64 10, .int .i64 64] w fun e w' => ∃ N, e = .returned (.tuple #[.int .i64 (Lib.intSat 64 s.data.toList), .iface 145 (.pointer (some ⟨N, 0, none⟩))]) ∧ w.heap.size ≤ N ∧ w'.heap[N]? = some (.cells #[.string ⟨#[80, 97, 114, 115, 101, 73, 110, 116]⟩, .string s, .iface tp p] 160 (0, 0)) ∧ Below w.heap.size w w' := Any.strconv_ParseInt_10_at64_range_var Tryd.laysC174 s hlim h tp p w hvar
def Tryd.laysGw17_ren : Go.Shelf.Ren := ⟨fun | 17 => 92 | 15 => 114 | 20 => 134 | n => n, fun | 9 => 9 | 23 => 115 | 4 => 4 | 3 => 3 | 0 => 0 | 21 => 21 | n => n, fun | n => n⟩
theorem Tryd.laysGw17 : Go.Proofs.LaysGw.n17 Tryd.prog Tryd.laysGw17_ren := {
  mixed := by kernel_rfl
  f15 := Tryd.func114.trans (congrArg some (by kernel_rfl))
  f17 := Tryd.func92.trans (congrArg some (by kernel_rfl))
  f20 := Tryd.func134.trans (congrArg some (by kernel_rfl))
  t0 := Tryd.underlying0
  a0 := Tryd.isAgg0
  z0 := Tryd.sizeOf0
  v0 := Tryd.zeroValue0
  i0 := by kernel_rfl
  t3 := Tryd.underlying3
  a3 := Tryd.isAgg3
  z3 := Tryd.sizeOf3
  v3 := Tryd.zeroValue3
  i3 := by kernel_rfl
  t4 := Tryd.underlying4
  a4 := Tryd.isAgg4
  z4 := Tryd.sizeOf4
  v4 := Tryd.zeroValue4
  i4 := by kernel_rfl
  t9 := Tryd.underlying9
  a9 := Tryd.isAgg9
  z9 := Tryd.sizeOf9
  v9 := Tryd.zeroValue9
  i9 := by kernel_rfl
  t21 := Tryd.underlying21
  a21 := Tryd.isAgg21
  z21 := Tryd.sizeOf21
  v21 := Tryd.zeroValue21
  i21 := by kernel_rfl
  t23 := Tryd.underlying115
  a23 := Tryd.isAgg115
  z23 := Tryd.sizeOf115
  v23 := Tryd.zeroValue115
  i23 := by kernel_rfl }
open Go.RowKit Go.Lib in
theorem Tryd.strings_ContainsFunc (g : Nat) (lb : Array Value) (eg : ∀ args w, (callFunc g args).run Tryd.prog w = .ok (.enter g args) w) (p : Nat → Bool) (s : ByteArray) (w : World) (hp : PredAt Tryd.prog g lb encR p w) :
    Calls Tryd.prog 92 #[.string s, .func (.func g) #[] lb] w fun e w' => e = .returned (.bool (decide (0 ≤ Lib.idxFunc p true s))) ∧ Below w.heap.size w w' := Any.strings_ContainsFunc Tryd.laysGw17 g lb eg p s w hp
def Tryd.laysNm215_ren : Go.Shelf.Ren := ⟨fun | 15 => 55 | n => n, fun | 22 => 22 | 3 => 3 | 4 => 4 | n => n, fun | n => n⟩
theorem Tryd.laysNm215 : Go.Proofs.Lays2.n15 Tryd.prog Tryd.laysNm215_ren := {
  mixed := by kernel_rfl
  f15 := Tryd.func55.trans (congrArg some (by kernel_rfl))
  t3 := Tryd.underlying3
  a3 := Tryd.isAgg3
  z3 := Tryd.sizeOf3
  v3 := Tryd.zeroValue3
  t4 := Tryd.underlying4
  a4 := Tryd.isAgg4
  z4 := Tryd.sizeOf4
  v4 := Tryd.zeroValue4
  t22 := Tryd.underlying22
  a22 := Tryd.isAgg22
  z22 := Tryd.sizeOf22
  v22 := Tryd.zeroValue22
  i3 := by kernel_rfl }
open Go.RowKit Go.Lib in
/-- slices.Clone at []int: "Clone returns a copy of the slice. The elements are copied using assignment, so this is a shallow clone. The result may have additional unused capacity. The result preserves the nilness of s.": OF A SLICE THAT IS NOT nil IT RETURNS A SLICE THAT IS NOT nil, OF THE SAME ELEMENTS, IN MEMORY OF THE CALL's OWN: in the how-to's words (6f): 'w'.ownsRow B e 1 v' n cells': v' begins at the head of a row among the blocks from B on (B: the heap's size at the call), not frozen, whose first cells are the elements · 'Below B w w'': below B all is as it was. The capacity is whatever the run-time gives. 'zs': what the cells behind the slice's address hold; 'zs.take n': its elements. (LAID: no walk: one application.) -/
theorem Tryd.slices_Clone_int (b off n c : Nat) (zs : List Int) (w : World) (hz : n ≤ zs.length) (hbig : n * 8 ≤ 140737488355328) (hc : ∀ j, j < zs.length → w.cell? ⟨b, off + j, none⟩ = some (.int .i64 (zs.getD j 0))) :
    Calls Tryd.prog 55 #[.slice (some ⟨b, off, none⟩) n c] w fun e w' => ∃ v', e = .returned v' ∧ w'.ownsRow w.heap.size 3 1 v' n ((zs.take n).map (Value.int .i64)) ∧ v' ≠ .slice none 0 0 ∧ Below w.heap.size w w' := Any.slices_Clone_int Tryd.laysNm215 b off n c zs w hz hbig hc
open Go.RowKit Go.Lib in
/-- The same at nil: nil comes back; the world is as it was. (LAID: no walk: one application.) -/
theorem Tryd.slices_Clone_int_nil (n c : Nat) (w : World) :
    Calls Tryd.prog 55 #[.slice none n c] w fun e w' => e = .returned (.slice none 0 0) ∧ w' = w := Any.slices_Clone_int_nil Tryd.laysNm215 n c w
def Tryd.laysNm216_ren : Go.Shelf.Ren := ⟨fun | 16 => 56 | n => n, fun | 24 => 23 | 9 => 9 | 4 => 4 | n => n, fun | n => n⟩
theorem Tryd.laysNm216 : Go.Proofs.Lays2.n16 Tryd.prog Tryd.laysNm216_ren := {
  mixed := by kernel_rfl
  f16 := Tryd.func56.trans (congrArg some (by kernel_rfl))
  t4 := Tryd.underlying4
  a4 := Tryd.isAgg4
  z4 := Tryd.sizeOf4
  v4 := Tryd.zeroValue4
  t9 := Tryd.underlying9
  a9 := Tryd.isAgg9
  z9 := Tryd.sizeOf9
  v9 := Tryd.zeroValue9
  t24 := Tryd.underlying23
  a24 := Tryd.isAgg23
  z24 := Tryd.sizeOf23
  v24 := Tryd.zeroValue23
  i9 := by kernel_rfl }
open Go.RowKit Go.Lib in
/-- slices.Clone at []string: "Clone returns a copy of the slice. The elements are copied using assignment, so this is a shallow clone. The result may have additional unused capacity. The result preserves the nilness of s.": OF A SLICE THAT IS NOT nil IT RETURNS A SLICE THAT IS NOT nil, OF THE SAME ELEMENTS, IN MEMORY OF THE CALL's OWN: in the how-to's words (6f): 'w'.ownsRow B e 1 v' n cells': v' begins at the head of a row among the blocks from B on (B: the heap's size at the call), not frozen, whose first cells are the elements · 'Below B w w'': below B all is as it was. The capacity is whatever the run-time gives. 'zs': what the cells behind the slice's address hold; 'zs.take n': its elements. (LAID: no walk: one application.) -/
theorem Tryd.slices_Clone_string (b off n c : Nat) (zs : List ByteArray) (w : World) (hz : n ≤ zs.length) (hbig : n * 16 ≤ 140737488355328) (hc : ∀ j, j < zs.length → w.cell? ⟨b, off + j, none⟩ = some (.string (zs.getD j ByteArray.empty))) :
    Calls Tryd.prog 56 #[.slice (some ⟨b, off, none⟩) n c] w fun e w' => ∃ v', e = .returned v' ∧ w'.ownsRow w.heap.size 9 1 v' n ((zs.take n).map (Value.string)) ∧ v' ≠ .slice none 0 0 ∧ Below w.heap.size w w' := Any.slices_Clone_string Tryd.laysNm216 b off n c zs w hz hbig hc
open Go.RowKit Go.Lib in
/-- The same at nil: nil comes back; the world is as it was. (LAID: no walk: one application.) -/
theorem Tryd.slices_Clone_string_nil (n c : Nat) (w : World) :
    Calls Tryd.prog 56 #[.slice none n c] w fun e w' => e = .returned (.slice none 0 0) ∧ w' = w := Any.slices_Clone_string_nil Tryd.laysNm216 n c w
open Go.RowKit Go.Lib in
/-- The same at a slice of length 0 that is not nil, WHATEVER ITS ADDRESS (no cell is asked for): a slice that is not nil and owns nothing comes back. (LAID: no walk: one application.) -/
theorem Tryd.slices_Clone_int_zero (a : Addr) (c : Nat) (w : World) :
    Calls Tryd.prog 55 #[.slice (some a) 0 c] w fun e w' => ∃ v', e = .returned v' ∧ w'.ownsRow w.heap.size 3 1 v' 0 [] ∧ v' ≠ .slice none 0 0 ∧ Below w.heap.size w w' := Any.slices_Clone_int_zero Tryd.laysNm215 a c w
open Go.RowKit Go.Lib in
/-- The same at a slice of length 0 that is not nil, WHATEVER ITS ADDRESS (no cell is asked for): a slice that is not nil and owns nothing comes back. (LAID: no walk: one application.) -/
theorem Tryd.slices_Clone_string_zero (a : Addr) (c : Nat) (w : World) :
    Calls Tryd.prog 56 #[.slice (some a) 0 c] w fun e w' => ∃ v', e = .returned v' ∧ w'.ownsRow w.heap.size 9 1 v' 0 [] ∧ v' ≠ .slice none 0 0 ∧ Below w.heap.size w w' := Any.slices_Clone_string_zero Tryd.laysNm216 a c w
end Go.Proofs
namespace Go.Proofs.YtfjilihppnndkaaDoor.P
open Go.RowKit Go.Proofs.YtfjilihppnndkaaDoorW.PrintWords Go.Proofs.YtfjilihppnndkaaDoorW.PrintLast Go.Proofs.YtfjilihppnndkaaDoorW.PrintMore

/-- What the package variables of strconv read as: the table of the powers of ten, and an error that is there. -/
def Glob (w : World) : Prop := Lib.TabIs Tryd.prog w "internal/strconv.uint64pow10" .u64 Lib.pow10Tab ∧ ∃ tp p, w.var? Tryd.prog "strconv.ErrRange" = some #[.iface tp p]

theorem var_keeps {w w' : World} {n : String} {cs : Array Value} (hb : Below w.heap.size w w') (hv : w.var? Tryd.prog n = some cs) : w'.var? Tryd.prog n = some cs := by
  have hv0 := hv
  unfold World.var? at hv0
  cases hg : Tryd.prog.globalNamed n with
  | none => rw [hg] at hv0; simp at hv0
  | some g =>
    rw [hg] at hv0
    simp only [Option.bind_some] at hv0
    have hlt : g < w.heap.size := by
      cases hq : w.heap[g]? with
      | none => rw [hq] at hv0; simp at hv0
      | some o => exact (Array.getElem?_eq_some_iff.1 hq).1
    exact var?_below hb hg hlt hv

theorem Glob.below {w w' : World} (h : Glob w) (hb : Below w.heap.size w w') : Glob w' := by
  obtain ⟨h1, tp, p, h2⟩ := h
  exact ⟨var_keeps hb h1, tp, p, var_keeps hb h2⟩

/-- A function value's contract out of a function's. -/
theorem predAt_of {α : Type} {P : Program} {g : Nat} {enc : α → Value} {p : α → Bool} {w : World} (h : ∀ (x : α) (W : World), Calls P g #[enc x] W fun e w' => e = .returned (.bool (p x)) ∧ Drawn0 W w') : PredAt P g #[] enc p w := by
  intro W x _
  unfold FnGives
  have := h x W
  simp only [Array.append_empty]
  exact this.mono fun e w' ⟨he, hd⟩ => ⟨he, hd.out⟩

/-- A read row's cells, one by one. -/
theorem cells_of_C {α : Type} {w : World} {A : Option Addr} {xs : List α} {n : Nat} {enc : α → Value} {d : Kd α} (h1 : d.sz = 1) (hK : ∀ x cs, d.K w x cs → cs = [enc x]) (h : Kd.C d w A n xs) (hn : n = xs.length) (hx : 0 < n) :
    ∃ ad, A = some ad ∧ ∀ (j : Nat) (z : α), j < xs.length → w.cell? (ad.add j) = some (enc (xs.getD j z)) := by
  subst hn
  cases xs with
  | nil => simp at hx
  | cons x0 xs =>
    obtain ⟨ad, c, e, _, hc, hc0⟩ := Kd.C_get h x0 0 (by omega) (by simp)
    refine ⟨ad, e, fun j z hj => ?_⟩
    obtain ⟨ad', c', e', _, hK', hc'⟩ := Kd.C_get h z (j : Int) (by omega) (by simp only [List.length_cons] at hj ⊢; omega)
    rw [e] at e'
    obtain rfl := Option.some.inj e'
    have hcs := hK _ _ hK'
    subst hcs
    have := hc' 0 _ rfl
    rw [h1] at this
    simpa using this

theorem plain_addr {w : World} {ad : Addr} {v : Value} (h : w.cell? ad = some v) : ad = ⟨ad.block, ad.off, none⟩ := by
  obtain ⟨b, o, s⟩ := ad
  cases s with
  | none => rfl
  | some x =>
    unfold World.cell? at h
    simp only at h
    split at h <;> simp at h

/-- A read row of one-cell elements: nil, empty, or a place whose cells they are. -/
theorem row_cases {α : Type} {w : World} {A : Option Addr} {xs : List α} {enc : α → Value} {h1 : ∀ x, (enc x).oneCell' = true} (h : Kd.C (Kd.scalar enc h1) w A xs.length xs) :
    (A = none ∧ xs = []) ∨ (∃ a, A = some a ∧ xs = []) ∨ ∃ b off, A = some ⟨b, off, none⟩ ∧ 0 < xs.length ∧ ∀ (j : Nat) (z : α), j < xs.length → w.cell? ⟨b, off + j, none⟩ = some (enc (xs.getD j z)) := by
  cases xs with
  | nil => cases A with
    | none => exact .inl ⟨rfl, rfl⟩
    | some a => exact .inr (.inl ⟨a, rfl, rfl⟩)
  | cons x0 xs =>
    obtain ⟨ad, e, hc⟩ := cells_of_C (enc := enc) (d := Kd.scalar enc h1) rfl (fun _ _ hk => hk) h rfl (by simp)
    have h0 := hc 0 x0 (by simp)
    have hp := plain_addr (ad := ad) (by simpa [Addr.add] using h0)
    refine .inr (.inr ⟨ad.block, ad.off, by rw [e, ← hp], by simp, fun j z hj => ?_⟩)
    have := hc j z hj
    rw [hp] at this
    rwa [add_at] at this

theorem kp {w w1 : World} {g : Nat} {o : Obj} (h : Aside0 (w.heap[g]? = some o)) (hb : Below w.heap.size w w1) : Aside0 (w1.heap[g]? = some o) := ⟨blk_below h.out hb⟩

/-! ### strings.ContainsFunc with a test of figures -/
/-- Is a byte no figure? -/
def noFig (c : UInt8) : Bool := decide (c.toNat < 48) || decide (57 < c.toNat)
def figP (n : Nat) : Bool := decide (n < 48) || decide (57 < n)
theorem figP_big {n : Nat} (h : 128 ≤ n) : figP n = true := by
  unfold figP
  simp
  omega
theorem idx_fig_from (s : ByteArray) : ∀ (f pos : Nat), s.size ≤ pos + f → decide (0 ≤ Lib.idxFuncFrom figP true s f pos) = (s.data.toList.drop pos).any noFig
  | 0, pos, h => by
    have hd : s.data.toList.drop pos = [] := by
      apply List.drop_eq_nil_of_le
      rw [data_length]
      omega
    rw [hd]
    rfl
  | f + 1, pos, h => by
    unfold Lib.idxFuncFrom
    by_cases hp : pos < s.size
    · rw [if_pos hp]
      have hl : pos < s.data.toList.length := by rw [data_length]; exact hp
      have hdrop : s.data.toList.drop pos = s.data.toList[pos] :: s.data.toList.drop (pos + 1) := List.drop_eq_getElem_cons hl
      have hget : s.data.toList.getD pos 0 = s.data.toList[pos] := by rw [List.getD_eq_getElem?_getD, List.getElem?_eq_getElem hl]; rfl
      have hlt := (s.data.toList[pos]).toNat_lt
      rw [Lib.decode_N, hget]
      rw [hdrop, List.any_cons]
      by_cases ha : (s.data.toList[pos]).toNat < 128
      · rw [Lib.decodeN_ascii _ _ _ _ _ ha]
        have hf : figP (s.data.toList[pos]).toNat = noFig s.data.toList[pos] := rfl
        cases hn : noFig s.data.toList[pos] with
        | true =>
          rw [if_pos (by rw [hf, hn])]
          simp
        | false =>
          rw [if_neg (by rw [hf, hn]; simp)]
          rw [idx_fig_from s f (pos + 1) (by omega)]
          simp
      · have hbig : 128 ≤ (Lib.decodeN (s.data.toList.length - pos) (s.data.toList[pos]).toNat (s.data.toList.getD (pos + 1) 0).toNat (s.data.toList.getD (pos + 2) 0).toNat (s.data.toList.getD (pos + 3) 0).toNat).1 := by
          rcases Lib.decodeN_cases (s.data.toList.length - pos) (s.data.toList[pos]).toNat (s.data.toList.getD (pos + 1) 0).toNat (s.data.toList.getD (pos + 2) 0).toNat (s.data.toList.getD (pos + 3) 0).toNat with h1 | h1 | h1 | h1 | h1
          · omega
          · rw [h1.2.2.2.2]; exact h1.2.2.2.1
          · rw [h1.2.2.2.2.2]; have := h1.2.2.2.2.1; omega
          · omega
          · rw [h1]; decide
        rw [if_pos (figP_big hbig)]
        have hn : noFig s.data.toList[pos] = true := by
          unfold noFig
          rw [Bool.or_eq_true, decide_eq_true_eq, decide_eq_true_eq]
          omega
        rw [hn]
        simp
    · rw [if_neg hp]
      have hd : s.data.toList.drop pos = [] := by
        apply List.drop_eq_nil_of_le
        rw [data_length]
        omega
      rw [hd]
      rfl
theorem idx_fig (s : ByteArray) : decide (0 ≤ Lib.idxFunc figP true s) = s.data.toList.any noFig := by
  unfold Lib.idxFunc
  rw [idx_fig_from s s.size 0 (by omega)]
  rfl
/-! ### Short words for what the print writes over and over: their last premises are found by the same tactics -/
section Sq
theorem Bl_ {P : Prop} (h : P := by repeat (first | (with_reducible first | exact HB.out | apply below_alloc | apply pw_below_drewN | apply below_drew1 | (refine below_set ?_ (Aside0.out (by assumption)))) | exact HB.out)) : P := h
theorem Bs_ {w W w2 : World} (k : Below W.heap.size W w2) (h : Below w.heap.size w W := by repeat (first | (with_reducible first | exact HB.out | apply below_alloc | apply pw_below_drewN | apply below_drew1 | (refine below_set ?_ (Aside0.out (by assumption)))) | exact HB.out)) : Aside0 (Below w.heap.size w w2) := ⟨below_step h k⟩
theorem Bz_ {w W : World} (h : Below w.heap.size w W := by repeat (first | (with_reducible first | exact HB.out | apply below_alloc | apply pw_below_drewN | apply below_drew1 | (refine below_set ?_ (Aside0.out (by assumption)))) | exact HB.out)) : w.heap.size ≤ W.heap.size := h.size
theorem Bg_ {w W : World} {g : Nat} (hg : g = W.heap.size) (h : Below w.heap.size w W := by repeat (first | (with_reducible first | exact HB.out | apply below_alloc | apply pw_below_drewN | apply below_drew1 | (refine below_set ?_ (Aside0.out (by assumption)))) | exact HB.out)) : Aside0 (w.heap.size ≤ g) := ⟨hg ▸ h.size⟩
theorem Pr_ {P Q : Prop} (q : Q) (h : Q → P := by (intro q_; (with_reducible repeat (first | apply Kd.R_alloc | apply Kd.R_drewN | apply Kd.R_drew)); exact q_)) : P := h q
theorem Pv_ {P Q : Prop} (q : Q) (h : Q → P := by (intro q_; (with_reducible repeat (first | apply Kd.V_alloc | apply Kd.V_drewN | apply Kd.V_drew)); exact q_)) : P := h q
theorem Bk_ {P Q : Prop} (q : Q) (h : Q → P := by (intro q_; (with_reducible repeat (first | refine blk_drewN ?_ _ | refine blk_drew ?_ | refine blk_alloc ?_ _)); exact q_)) : P := h q
theorem kb_ {W W1 W2 : World} {g : Nat} {o : Obj} (q : Aside0 (W.heap[g]? = some o)) (hb : Below W1.heap.size W1 W2) (h : W.heap[g]? = some o → W1.heap[g]? = some o := by (intro q_; (with_reducible repeat (first | refine blk_drewN ?_ _ | refine blk_drew ?_ | refine blk_alloc ?_ _)); exact q_)) : Aside0 (W2.heap[g]? = some o) := ⟨blk_below (h q.out) hb⟩
theorem kg_ {W W1 W2 : World} {g : Nat} {o : Obj} {row : Option Nat} (q : Aside0 (W.heap[g]? = some o)) (hg : W1.grownBy W2 row) (hne : some g ≠ row) (h : W.heap[g]? = some o → W1.heap[g]? = some o := by (intro q_; (with_reducible repeat (first | refine blk_drewN ?_ _ | refine blk_drew ?_ | refine blk_alloc ?_ _)); exact q_)) : Aside0 (W2.heap[g]? = some o) := ⟨blk_grown (h q.out) hg hne⟩
theorem nl_ {W W1 : World} {g g' : Nat} {o : Obj} (hg : g' = W1.heap.size) (q : Aside0 (W.heap[g]? = some o)) (h : W.heap[g]? = some o → W1.heap[g]? = some o := by (intro q_; (with_reducible repeat (first | refine blk_drewN ?_ _ | refine blk_drew ?_ | refine blk_alloc ?_ _)); exact q_)) : Aside0 (g ≠ g') := ⟨hg ▸ Nat.ne_of_lt (blk_lt (h q.out))⟩
theorem ng_ {W W1 : World} {g g' : Nat} {o : Obj} (hg : g' = W1.heap.size) (q : Aside0 (W.heap[g]? = some o)) (h : W.heap[g]? = some o → W1.heap[g]? = some o := by (intro q_; (with_reducible repeat (first | refine blk_drewN ?_ _ | refine blk_drew ?_ | refine blk_alloc ?_ _)); exact q_)) : Aside0 (g' ≠ g) := ⟨hg ▸ Nat.ne_of_gt (blk_lt (h q.out))⟩
theorem Pc_ {P Q : Prop} (q : Q) (h : Q → P := by (intro q_; (repeat (first | exact q_ | (with_reducible refine Kd.C_alloc ?_ _) | (with_reducible refine Kd.C_drewN ?_ _) | (with_reducible refine Kd.C_drew ?_))))) : P := h q
theorem Ga_ {P : Prop} (h : P := by (try simp only [List.map_toArray, List.map_cons, List.map_nil]); first | done | rfl | (simp only [List.length_drop, List.length_take]; rfl)) : P := h
theorem As_ {P : Prop} (h : P := by first | (with_reducible assumption) | assumption) : P := h
theorem Rf_ {P : Prop} (h : P := by first | rfl | (simp; done) | (simp [*]; done)) : P := h
theorem Re_ {P : Prop} (h : P := by first | rfl | (simp [errW_none, errW_some] <;> rfl) | (simp [*, errW_none, errW_some] <;> rfl)) : P := h
theorem Dw_ {P : Prop} (h : P := by repeat (first | exact Drawn0.refl _ | apply Drawn0.step)) : P := h
theorem c1_ {w : World} {g t : Nat} {a : Value} (q : Aside0 (w.heap[g]? = some (.cells #[a] t (0, 0)))) : w.cell? ⟨g, 0, none⟩ = some a := (blk_cell q.out 0).trans rfl
theorem c2_ {w : World} {g t : Nat} {a b : Value} (q : Aside0 (w.heap[g]? = some (.cells #[a, b] t (0, 0)))) : w.cell? ⟨g, 0, none⟩ = some a ∧ w.cell? ⟨g, 1, none⟩ = some b := ⟨(blk_cell q.out 0).trans rfl, (blk_cell q.out 1).trans rfl⟩
theorem f2_ {w : World} {g t : Nat} {cs : Array Value} (q : Aside0 (w.heap[g]? = some (.cells cs t (0, 0)))) : w.frozen? ⟨g, 0, none⟩ = false ∧ w.frozen? ⟨g, 1, none⟩ = false := ⟨blk_frozen q.out 0, blk_frozen q.out 1⟩
theorem f3_ {w : World} {g t : Nat} {cs : Array Value} (q : Aside0 (w.heap[g]? = some (.cells cs t (0, 0)))) : w.frozen? ⟨g, 0, none⟩ = false ∧ w.frozen? ⟨g, 1, none⟩ = false ∧ w.frozen? ⟨g, 2, none⟩ = false := ⟨blk_frozen q.out 0, blk_frozen q.out 1, blk_frozen q.out 2⟩
theorem f4_ {w : World} {g t : Nat} {cs : Array Value} (q : Aside0 (w.heap[g]? = some (.cells cs t (0, 0)))) : w.frozen? ⟨g, 0, none⟩ = false ∧ w.frozen? ⟨g, 1, none⟩ = false ∧ w.frozen? ⟨g, 2, none⟩ = false ∧ w.frozen? ⟨g, 3, none⟩ = false := ⟨blk_frozen q.out 0, blk_frozen q.out 1, blk_frozen q.out 2, blk_frozen q.out 3⟩
theorem bnd_ {α β : Type} {a : Option α} {f : α → Option β} {r : β} (h : a.bind f = some r) : ∃ t, Aside0 (a = some t) ∧ f t = some r := (Option.bind_eq_some_iff.mp h).imp fun _ h => ⟨⟨h.1⟩, h.2⟩
variable {P : Program} {ops : Array Oper} {rest : List Oper} {o : Oper} {a : Act} {Q : Exit → Act → World → Prop}
theorem bx_ {W : World} (N : Tmp) (cs : Array Value) (t : TypeId)
    (h : ∀ g, g = W.heap.size → ∀ w1, w1.heap[g]? = some (.cells cs t (0, 0)) → Below W.heap.size W w1 → wpList P ops Q rest (a.put o.dst (.pointer (some ⟨g, 0, none⟩))) w1)
    (hd : o.dst = some N := by rfl) (hgd : o.guard = none := by rfl)
    (hrun : (execOp a.eval o).run P W = .ok (.value (.pointer (some ⟨W.heap.size, 0, none⟩))) (W.alloc (.cells cs t (0, 0))) := by first | (go_simp; done) | (go_simp; rfl)) : wpList P ops Q (o :: rest) a W := box_event hgd hd hrun h
variable {md : Region.Mode} {S : World → Prop} {ds : List Nat}
theorem pu_ {T : Bool × List (List Nat × List Nat)} {oi : Oper} {v : Value} {fuel : Nat} {l : Array Bool} {w : World} {a' : Act} (i : Nat) (N : Option Tmp) (hT : Aside0 (rtab md ops = T)) (l' : Array Bool) (h : wpAnyLast P md ops Q S ds fuel l' a' w) (hi : ops[i]? = some oi := by rfl) (hN : oi.dst = N := by rfl) (hc : anyT T l.toList l'.toList i = true := by kernel_rfl)
    (hQ : ∀ c a w, Q (.panic c) (a.put oi.dst v) w → Q (.panic c) a w := by exact fun _ _ _ h => h) (hy : Yields P ops oi v a := by (refine Or.inl ⟨by rfl, ?_⟩; intro w'; go_simp; with_reducible rfl)) (ha : a.put N v = a' := by (simp only [Act.put, List.setIfInBounds_toArray, List.set_cons_zero, List.set_cons_succ, i64_w, i32_w]; rfl)) : wpAnyLast P md ops Q S ds (fuel + 1) l a w :=
  pure_ l' hi hN (any_of hT.out hc) hQ hy ha h
theorem pk_ {oi : Oper} {v : Value} {fuel : Nat} {l : Array Bool} {w : World} {a' : Act} (i : Nat) (N : Option Tmp) (l' : Array Bool) (h : wpAnyLast P md ops Q S ds fuel l' a' w) (hi : ops[i]? = some oi := by rfl) (hN : oi.dst = N := by rfl) (hc : anyB md ops l l' i = true := by kernel_rfl)
    (hQ : ∀ c a w, Q (.panic c) (a.put oi.dst v) w → Q (.panic c) a w := by exact fun _ _ _ h => h) (hy : Yields P ops oi v a := by (refine Or.inl ⟨by rfl, ?_⟩; intro w'; go_simp; with_reducible rfl)) (ha : a.put N v = a' := by (simp only [Act.put, List.setIfInBounds_toArray, List.set_cons_zero, List.set_cons_succ, i64_w, i32_w]; rfl)) : wpAnyLast P md ops Q S ds (fuel + 1) l a w :=
  pure_ l' hi hN hc hQ hy ha h
end Sq
end Go.Proofs.YtfjilihppnndkaaDoor.P
namespace Go.Proofs.YtfjilihppnndkaaDoor.P
open Go.RowKit Go.Proofs.YtfjilihppnndkaaDoorW.PrintWords Go.Proofs.YtfjilihppnndkaaDoorW.PrintLast Go.Proofs.YtfjilihppnndkaaDoorW.PrintMore
attribute [local go_sem] max2_int min2_int max_two min_two max_three min_three max_four min_four   -- for this text's walks alone
set_option linter.unusedVariables false
set_option linter.unusedSimpArgs false

def errW : Option Int → Value
  | none => .nilIface
  | some c => .iface 0 (.int .i64 c)
theorem errW_none : errW none = .nilIface := rfl
theorem errW_some (c : Int) : errW (some c) = .iface 0 (.int .i64 c) := rfl

theorem info3 : (Tryd.prog.info? 3).map (fun i => (i.zero, i.size, i.bytes)) = some (some (.int .i64 0), 1, 8) := by kernel_rfl
theorem info9 : (Tryd.prog.info? 9).map (fun i => (i.zero, i.size, i.bytes)) = some (some (.string ⟨#[]⟩), 1, 16) := by kernel_rfl
-- the values' own types

/-! #### struct type 29 -/
structure S29 where
  f0 : Int
  f1 : (List Int)
  f2 : ByteArray

/-! #### struct type 25 -/
structure S25 where
  f0 : (List Int)
  f1 : (List ByteArray)
def z25 : S25 := ⟨([] : List Int), ([] : List ByteArray)⟩
def k25 : Kd S25 := Kd.iso (Kd.pair (Kd.slice 3 (Kd.int .i64)) (Kd.slice 9 Kd.string)) (fun x : S25 => (x.f0, x.f1))
theorem k25_open {w : World} {x : S25} {cs : List Value} (h : k25.K w x cs) : ∃ A0 c0 A1 c1, cs = [.slice A0 x.f0.length c0, .slice A1 x.f1.length c1] ∧ x.f0.length ≤ c0 ∧ (Kd.int .i64).C w A0 x.f0.length x.f0 ∧ x.f1.length ≤ c1 ∧ Kd.string.C w A1 x.f1.length x.f1 := by
  obtain ⟨_, _, rfl, ⟨A0, c0, rfl, l0, g0⟩, ⟨A1, c1, rfl, l1, g1⟩⟩ := h
  exact ⟨A0, c0, A1, c1, rfl, l0, g0, l1, g1⟩
theorem k25_mk (w : World) (x : S25) {A0 : Option Addr} {c0 : Nat} (l0 : x.f0.length ≤ c0) (g0 : (Kd.int .i64).C w A0 x.f0.length x.f0) {A1 : Option Addr} {c1 : Nat} (l1 : x.f1.length ≤ c1) (g1 : Kd.string.C w A1 x.f1.length x.f1) : k25.K w x [.slice A0 x.f0.length c0, .slice A1 x.f1.length c1] := ⟨[.slice A0 x.f0.length c0], [.slice A1 x.f1.length c1], rfl, ⟨A0, c0, rfl, l0, g0⟩, ⟨A1, c1, rfl, l1, g1⟩⟩
theorem k25_mkF (W : World) (ok : Nat → Prop) (x : S25) {A0 : Option Addr} {c0 : Nat} (l0 : x.f0.length ≤ c0) (g0 : Kd.F (Kd.int .i64) W ok A0 x.f0.length x.f0) {A1 : Option Addr} {c1 : Nat} (l1 : x.f1.length ≤ c1) (g1 : Kd.F Kd.string W ok A1 x.f1.length x.f1) : Kd.FK k25 W ok x [.slice A0 x.f0.length c0, .slice A1 x.f1.length c1] := fun W2 hW => k25_mk W2 x l0 (g0 W2 hW) l1 (g1 W2 hW)
def rd_T25 (xs : List S25) (i : Int) : S25 := xs.getD i.toNat z25
theorem at_T25 {w : World} {A : Option Addr} {n : Nat} {xs : List S25} (h : Kd.C k25 w A n xs) (i : Int) (h0 : 0 ≤ i) (h1 : i < n) : ∃ ad A0 c0 A1 c1, A = some ad ∧ w.cell? (ad.add (i.toNat * 2)) = some (.slice A0 (rd_T25 xs i).f0.length c0) ∧ w.cell? ⟨(ad.add (i.toNat * 2)).block, (ad.add (i.toNat * 2)).off + 1, none⟩ = some (.slice A1 (rd_T25 xs i).f1.length c1) ∧ (rd_T25 xs i).f0.length ≤ c0 ∧ (Kd.int .i64).C w A0 (rd_T25 xs i).f0.length (rd_T25 xs i).f0 ∧ (rd_T25 xs i).f1.length ≤ c1 ∧ Kd.string.C w A1 (rd_T25 xs i).f1.length (rd_T25 xs i).f1 := by
  obtain ⟨ad, c, e, _, hK, hc0⟩ := Kd.C_get h z25 i h0 h1
  have hc : ∀ j u, c[j]? = some u → w.cell? (ad.add (i.toNat * 2 + j)) = some u := hc0
  obtain ⟨A0, c0, A1, c1, rfl, l0, g0, l1, g1⟩ := k25_open hK
  exact ⟨ad, A0, c0, A1, c1, e, hc 0 _ rfl, by rw [← add_field _ _ 1 (by omega)]; exact hc 1 _ rfl, l0, g0, l1, g1⟩

end Go.Proofs.YtfjilihppnndkaaDoor.P
