-- Written by drive.py of this claim's own session, by way of the kit's print. Lean checks it.
import Derived.Shelf.Small.Wraps
import Derived.Shelf.Strconv.Itoa0
import Derived.Shelf.Strconv.Itoa1
import Derived.Shelf.LaysM
import Derived.Shelf.Strconv.Itoa2
import Derived.Shelf.Strconv.Itoa3
import Derived.Shelf.Strconv.Itoa4
import Derived.Shelf.Strconv.ParseIntEmpty
import Derived.Shelf.Strconv.Clone
import Derived.Shelf.Strconv.SyntaxError
import Derived.Shelf.LaysC
import Derived.Shelf.Strconv.ToError
import Derived.Shelf.Strconv.Lower
import Derived.Shelf.Strconv.ParseUint10
import Derived.Shelf.Strconv.ParseUint10Empty
import Derived.Shelf.Strconv.ParseUint10Any
import Derived.Shelf.Strconv.ParseInt10
import Derived.Shelf.Strconv.RangeError
import Derived.Shelf.Strconv.ToErrorRange
import Derived.Shelf.Strconv.ParseUintEmpty
import Derived.Shelf.Strconv.ParseUint10b64
import Derived.Shelf.Strconv.ParseUint10b32
import Derived.Shelf.Strconv.ParseUint10b16
import Derived.Shelf.Strconv.ParseUint10b8
import Derived.Shelf.Strconv.ParseUint10At
import Derived.Shelf.Strconv.ParseInt10At64
import Derived.Shelf.Strconv.ParseInt10At32
import Derived.Shelf.Strconv.ParseInt10At16
import Derived.Shelf.Strconv.ParseInt10At8
import Derived.Shelf.Strconv.ParseInt10All
import Derived.Shelf.Strconv.ParseIntPublic10
import Derived.Shelf.Strconv.ErrVarParseInt
import Derived.Ground.MpProg
import Derived.Shelf.Pu.ParseUintPublic10
import Derived.Shelf.Pu.ErrVarParseUint
import Derived.Shelf.GgClosure.StringsIndexFunc
import Derived.Ground.GgwProg
import Derived.Shelf.GgClosure.StringsIndexFuncTop
import Derived.Shelf.GgClosure.StringsRunes
import Derived.Shelf.Strings.Prefix
import Derived.Shelf.Bits.Mul64
import Derived.Shelf.Strings.FuncGrows
import Derived.Shelf.Slices.Turned
import Derived.Shelf.Slices.Reverse
import Derived.Shelf.Slices.Equal
import Derived.Ground.Names2Prog
import Derived.Shelf.Slices.Clone
import Derived.Shelf.Slices.SearchI
import Derived.Shelf.Slices.Cells
import Derived.Shelf.Slices.Empties2
import Derived.Ground.SlgnProg
import Derived.Shelf.SlicesE.Reverse
import Derived.Shelf.SlicesE.Clone
import Derived.Ground.SlgfProg
import Derived.Shelf.SlicesE.IndexFunc
import Derived.Test.YtlemmdfjcnhjkaaGreatDoorProg
import Derived.Test.YtlemmdfjcnhjkaaGreatDoorWWords
import Derived.Test.YtlemmdfjcnhjkaaGreatDoorWMore
import Derived.Test.YtlemmdfjcnhjkaaGreatDoorWGuard
import Derived.Test.YtlemmdfjcnhjkaaGreatDoorWTab
import Derived.Test.YtlemmdfjcnhjkaaGreatDoorWLast
import Derived.WalkSmall
import Derived.Lib.TrimUEq
import Derived.Lib.SpaceUEq
import Derived.Lib.AppendIntMem
import Derived.Below
import Derived.Deep.Draws
import Derived.Deep.AppendLies
import Derived.Maps.AppendAt
import Derived.OwnWalk
import Derived.Laws.BytesArg
import Derived.Laws.MakeOwn
import Derived.Laws.OwnMore
import Derived.Deep.OwnRows
import Derived.Tactics
import Derived.Lib.ConvBytes
import Derived.Laws.Slices
import Derived.WalkKit
import Derived.KernelRfl
import Derived.RowKit3
import Derived.Deep.LoopGhost
import Derived.Deep.QuietTactic
import Derived.BigQuiet
import Derived.WideLaws
import Derived.Deep.DeepCutAuto
import Derived.Deep.CutBlock
import Derived.Deep.RegionHeld3
import Derived.Laws.Rows
import Derived.Lib.AppendStr
import Derived.ArgAppend
import Derived.Laws.IdiomCopy
import Derived.OrdersHeld
import Derived.Laws.BitsLemmas
import Derived.RowKit
import Derived.Test.YtlemmdfjcnhjkaaGreatDoorWQPut
import Derived.Test.YtlemmdfjcnhjkaaGreatDoorWApart
import Derived.Test.YtlemmdfjcnhjkaaGreatDoorWArr
import Derived.Test.YtlemmdfjcnhjkaaGreatDoorWZeros
import Derived.Test.YtlemmdfjcnhjkaaGreatDoorWFoot
import Derived.Test.YtlemmdfjcnhjkaaGreatDoorWKept
import Derived.Test.YtlemmdfjcnhjkaaGreatDoorWShare
import Derived.Test.YtlemmdfjcnhjkaaGreatDoorWN
import Derived.Test.YtlemmdfjcnhjkaaGreatDoorWRepsOne
import Derived.Test.YtlemmdfjcnhjkaaGreatDoorWNEv
namespace Go.Proofs
open Go.Shelf
def Tryz.laysM173_ren : Go.Shelf.Ren := ⟨fun | 173 => 129 | 246 => 176 | 283 => 205 | 284 => 206 | 285 => 207 | 286 => 208 | 129 => 225 | 317 => 224 | 318 => 226 | 319 => 227 | 320 => 228 | 337 => 234 | 338 => 235 | n => n, fun | 2 => 2 | 3 => 3 | 9 => 9 | 4 => 4 | 171 => 205 | 0 => 0 | 53 => 167 | 37 => 55 | 5 => 5 | 173 => 208 | 212 => 222 | 51 => 182 | 20 => 20 | 213 => 223 | 46 => 130 | 232 => 234 | 233 => 235 | n => n, fun | 17 => 0 | 18 => 3 | 19 => 4 | n => n⟩
theorem Tryz.laysM173 : Go.Proofs.LaysM.n173 Tryz.prog Tryz.laysM173_ren := {
  mixed := by kernel_rfl
  f129 := Tryz.func225.trans (congrArg some (by kernel_rfl))
  f173 := Tryz.func129.trans (congrArg some (by kernel_rfl))
  f246 := Tryz.func176.trans (congrArg some (by kernel_rfl))
  f283 := Tryz.func205.trans (congrArg some (by kernel_rfl))
  f284 := Tryz.func206.trans (congrArg some (by kernel_rfl))
  f285 := Tryz.func207.trans (congrArg some (by kernel_rfl))
  f286 := Tryz.func208.trans (congrArg some (by kernel_rfl))
  f317 := Tryz.func224.trans (congrArg some (by kernel_rfl))
  f318 := Tryz.func226.trans (congrArg some (by kernel_rfl))
  f319 := Tryz.func227.trans (congrArg some (by kernel_rfl))
  f320 := Tryz.func228.trans (congrArg some (by kernel_rfl))
  f337 := Tryz.func234.trans (congrArg some (by kernel_rfl))
  f338 := Tryz.func235.trans (congrArg some (by kernel_rfl))
  t0 := Tryz.underlying0
  a0 := Tryz.isAgg0
  z0 := Tryz.sizeOf0
  v0 := Tryz.zeroValue0
  t2 := Tryz.underlying2
  a2 := Tryz.isAgg2
  z2 := Tryz.sizeOf2
  v2 := Tryz.zeroValue2
  t3 := Tryz.underlying3
  a3 := Tryz.isAgg3
  z3 := Tryz.sizeOf3
  v3 := Tryz.zeroValue3
  t4 := Tryz.underlying4
  a4 := Tryz.isAgg4
  z4 := Tryz.sizeOf4
  v4 := Tryz.zeroValue4
  t5 := Tryz.underlying5
  a5 := Tryz.isAgg5
  z5 := Tryz.sizeOf5
  v5 := Tryz.zeroValue5
  t9 := Tryz.underlying9
  a9 := Tryz.isAgg9
  z9 := Tryz.sizeOf9
  v9 := Tryz.zeroValue9
  t20 := Tryz.underlying20
  a20 := Tryz.isAgg20
  z20 := Tryz.sizeOf20
  v20 := Tryz.zeroValue20
  t37 := Tryz.underlying55
  a37 := Tryz.isAgg55
  z37 := Tryz.sizeOf55
  v37 := Tryz.zeroValue55
  t46 := Tryz.underlying130
  a46 := Tryz.isAgg130
  z46 := Tryz.sizeOf130
  v46 := Tryz.zeroValue130
  t51 := Tryz.underlying182
  a51 := Tryz.isAgg182
  z51 := Tryz.sizeOf182
  v51 := Tryz.zeroValue182
  t53 := Tryz.underlying167
  a53 := Tryz.isAgg167
  z53 := Tryz.sizeOf167
  v53 := Tryz.zeroValue167
  t171 := Tryz.underlying205
  a171 := Tryz.isAgg205
  z171 := Tryz.sizeOf205
  v171 := Tryz.zeroValue205
  t173 := Tryz.underlying208
  a173 := Tryz.isAgg208
  z173 := Tryz.sizeOf208
  v173 := Tryz.zeroValue208
  t212 := Tryz.underlying222
  a212 := Tryz.isAgg222
  z212 := Tryz.sizeOf222
  v212 := Tryz.zeroValue222
  t213 := Tryz.underlying223
  a213 := Tryz.isAgg223
  z213 := Tryz.sizeOf223
  t232 := Tryz.underlying234
  a232 := Tryz.isAgg234
  z232 := Tryz.sizeOf234
  v232 := Tryz.zeroValue234
  t233 := Tryz.underlying235
  a233 := Tryz.isAgg235
  z233 := Tryz.sizeOf235
  v233 := Tryz.zeroValue235
  g17 := by kernel_rfl
  g18 := by kernel_rfl
  g19 := by kernel_rfl
  i0 := by kernel_rfl
  i2 := by kernel_rfl
  i3 := by kernel_rfl
  i4 := by kernel_rfl
  i5 := by kernel_rfl
  i9 := by kernel_rfl
  i20 := by kernel_rfl
  i37 := by kernel_rfl
  i46 := by kernel_rfl
  i51 := by kernel_rfl
  i53 := by kernel_rfl
  i171 := by kernel_rfl
  i173 := by kernel_rfl
  i212 := by kernel_rfl
  i232 := by kernel_rfl
  i233 := by kernel_rfl
  m17 := by kernel_rfl
  m18 := by kernel_rfl
  m19 := by kernel_rfl }
open Go.RowKit Go.Sort Go.Lib in
/-- strconv.FormatInt: "FormatInt returns the string representation of i in the given base": AT BASE 10: i's decimal numeral, for every int64. (LAID: no walk: one application.) -/
theorem Tryz.strconv_FormatInt_10 (n : Int) (h0 : -9223372036854775808 ≤ n) (h1 : n ≤ 9223372036854775807) (w : World) (htab : Lib.TabIs Tryz.prog w "internal/strconv.uint64pow10" .u64 Lib.pow10Tab) :
    Calls Tryz.prog 129 #[.int .i64 n, .int .i64 10] w fun e w' => e = .returned (.string ⟨(Lib.itoa n).toArray⟩) ∧ ∃ k os, w' = grow (w.drewN k) os := Any.strconv_FormatInt_10 Tryz.laysM173 n h0 h1 w htab
def Tryz.laysC174_ren : Go.Shelf.Ren := ⟨fun | 174 => 175 | 247 => 204 | 245 => 201 | 287 => 200 | 279 => 220 | 280 => 221 | 281 => 222 | 282 => 223 | 321 => 218 | 322 => 219 | 316 => 231 | 171 => 233 | 205 => 232 | 243 => 236 | 246 => 176 | 283 => 205 | 284 => 206 | 285 => 207 | 286 => 208 | 129 => 225 | 317 => 224 | 318 => 226 | 319 => 227 | 320 => 228 | 337 => 234 | 338 => 235 | n => n, fun | 9 => 9 | 3 => 3 | 2 => 2 | 75 => 169 | 85 => 175 | 4 => 4 | 167 => 215 | 5 => 5 | 53 => 167 | 175 => 170 | 46 => 130 | 168 => 217 | 37 => 55 | 0 => 0 | 210 => 227 | 21 => 21 | 127 => 230 | 145 => 233 | 143 => 231 | 171 => 205 | 173 => 208 | 212 => 222 | 51 => 182 | 20 => 20 | 213 => 223 | 232 => 234 | 233 => 235 | 80 => 236 | n => n, fun | 15 => 1 | 16 => 2 | 17 => 0 | 18 => 3 | 19 => 4 | n => n⟩
theorem Tryz.laysC174 : Go.Proofs.LaysC.n174 Tryz.prog Tryz.laysC174_ren := {
  mixed := by kernel_rfl
  f129 := Tryz.func225.trans (congrArg some (by kernel_rfl))
  f171 := Tryz.func233.trans (congrArg some (by kernel_rfl))
  f174 := Tryz.func175.trans (congrArg some (by kernel_rfl))
  f205 := Tryz.func232.trans (congrArg some (by kernel_rfl))
  f243 := Tryz.func236.trans (congrArg some (by kernel_rfl))
  f245 := Tryz.func201.trans (congrArg some (by kernel_rfl))
  f246 := Tryz.func176.trans (congrArg some (by kernel_rfl))
  f247 := Tryz.func204.trans (congrArg some (by kernel_rfl))
  f279 := Tryz.func220.trans (congrArg some (by kernel_rfl))
  f280 := Tryz.func221.trans (congrArg some (by kernel_rfl))
  f281 := Tryz.func222.trans (congrArg some (by kernel_rfl))
  f282 := Tryz.func223.trans (congrArg some (by kernel_rfl))
  f283 := Tryz.func205.trans (congrArg some (by kernel_rfl))
  f284 := Tryz.func206.trans (congrArg some (by kernel_rfl))
  f285 := Tryz.func207.trans (congrArg some (by kernel_rfl))
  f286 := Tryz.func208.trans (congrArg some (by kernel_rfl))
  f287 := Tryz.func200.trans (congrArg some (by kernel_rfl))
  f316 := Tryz.func231.trans (congrArg some (by kernel_rfl))
  f317 := Tryz.func224.trans (congrArg some (by kernel_rfl))
  f318 := Tryz.func226.trans (congrArg some (by kernel_rfl))
  f319 := Tryz.func227.trans (congrArg some (by kernel_rfl))
  f320 := Tryz.func228.trans (congrArg some (by kernel_rfl))
  f321 := Tryz.func218.trans (congrArg some (by kernel_rfl))
  f322 := Tryz.func219.trans (congrArg some (by kernel_rfl))
  f337 := Tryz.func234.trans (congrArg some (by kernel_rfl))
  f338 := Tryz.func235.trans (congrArg some (by kernel_rfl))
  t0 := Tryz.underlying0
  a0 := Tryz.isAgg0
  z0 := Tryz.sizeOf0
  v0 := Tryz.zeroValue0
  t2 := Tryz.underlying2
  a2 := Tryz.isAgg2
  z2 := Tryz.sizeOf2
  v2 := Tryz.zeroValue2
  t3 := Tryz.underlying3
  a3 := Tryz.isAgg3
  z3 := Tryz.sizeOf3
  v3 := Tryz.zeroValue3
  t4 := Tryz.underlying4
  a4 := Tryz.isAgg4
  z4 := Tryz.sizeOf4
  v4 := Tryz.zeroValue4
  t5 := Tryz.underlying5
  a5 := Tryz.isAgg5
  z5 := Tryz.sizeOf5
  v5 := Tryz.zeroValue5
  t9 := Tryz.underlying9
  a9 := Tryz.isAgg9
  z9 := Tryz.sizeOf9
  v9 := Tryz.zeroValue9
  t20 := Tryz.underlying20
  a20 := Tryz.isAgg20
  z20 := Tryz.sizeOf20
  v20 := Tryz.zeroValue20
  t21 := Tryz.underlying21
  a21 := Tryz.isAgg21
  z21 := Tryz.sizeOf21
  v21 := Tryz.zeroValue21
  t37 := Tryz.underlying55
  a37 := Tryz.isAgg55
  z37 := Tryz.sizeOf55
  v37 := Tryz.zeroValue55
  t46 := Tryz.underlying130
  a46 := Tryz.isAgg130
  z46 := Tryz.sizeOf130
  v46 := Tryz.zeroValue130
  t51 := Tryz.underlying182
  a51 := Tryz.isAgg182
  z51 := Tryz.sizeOf182
  v51 := Tryz.zeroValue182
  t53 := Tryz.underlying167
  a53 := Tryz.isAgg167
  z53 := Tryz.sizeOf167
  v53 := Tryz.zeroValue167
  t75 := Tryz.underlying169
  a75 := Tryz.isAgg169
  z75 := Tryz.sizeOf169
  v75 := Tryz.zeroValue169
  t85 := Tryz.underlying175
  a85 := Tryz.isAgg175
  z85 := Tryz.sizeOf175
  v85 := Tryz.zeroValue175
  t127 := Tryz.underlying230
  a127 := Tryz.isAgg230
  z127 := Tryz.sizeOf230
  v127 := Tryz.zeroValue230
  t143 := Tryz.underlying231
  a143 := Tryz.isAgg231
  z143 := Tryz.sizeOf231
  v143 := Tryz.zeroValue231
  t145 := Tryz.underlying233
  a145 := Tryz.isAgg233
  z145 := Tryz.sizeOf233
  v145 := Tryz.zeroValue233
  t167 := Tryz.underlying215
  a167 := Tryz.isAgg215
  z167 := Tryz.sizeOf215
  v167 := Tryz.zeroValue215
  t168 := Tryz.underlying217
  a168 := Tryz.isAgg217
  z168 := Tryz.sizeOf217
  v168 := Tryz.zeroValue217
  t171 := Tryz.underlying205
  a171 := Tryz.isAgg205
  z171 := Tryz.sizeOf205
  v171 := Tryz.zeroValue205
  t173 := Tryz.underlying208
  a173 := Tryz.isAgg208
  z173 := Tryz.sizeOf208
  v173 := Tryz.zeroValue208
  t175 := Tryz.underlying170
  a175 := Tryz.isAgg170
  z175 := Tryz.sizeOf170
  v175 := Tryz.zeroValue170
  t210 := Tryz.underlying227
  a210 := Tryz.isAgg227
  z210 := Tryz.sizeOf227
  v210 := Tryz.zeroValue227
  t212 := Tryz.underlying222
  a212 := Tryz.isAgg222
  z212 := Tryz.sizeOf222
  v212 := Tryz.zeroValue222
  t213 := Tryz.underlying223
  a213 := Tryz.isAgg223
  z213 := Tryz.sizeOf223
  t232 := Tryz.underlying234
  a232 := Tryz.isAgg234
  z232 := Tryz.sizeOf234
  v232 := Tryz.zeroValue234
  t233 := Tryz.underlying235
  a233 := Tryz.isAgg235
  z233 := Tryz.sizeOf235
  v233 := Tryz.zeroValue235
  g15 := by kernel_rfl
  g16 := by kernel_rfl
  g17 := by kernel_rfl
  g18 := by kernel_rfl
  g19 := by kernel_rfl
  t80 := Tryz.underlying236
  a80 := Tryz.isAgg236
  z80 := Tryz.sizeOf236
  v80 := Tryz.zeroValue236
  i0 := by kernel_rfl
  i2 := by kernel_rfl
  i3 := by kernel_rfl
  i4 := by kernel_rfl
  i5 := by kernel_rfl
  i9 := by kernel_rfl
  i20 := by kernel_rfl
  i21 := by kernel_rfl
  i37 := by kernel_rfl
  i46 := by kernel_rfl
  i51 := by kernel_rfl
  i53 := by kernel_rfl
  i75 := by kernel_rfl
  i80 := by kernel_rfl
  i85 := by kernel_rfl
  i127 := by kernel_rfl
  i143 := by kernel_rfl
  i145 := by kernel_rfl
  i167 := by kernel_rfl
  i168 := by kernel_rfl
  i171 := by kernel_rfl
  i173 := by kernel_rfl
  i175 := by kernel_rfl
  i210 := by kernel_rfl
  i212 := by kernel_rfl
  i232 := by kernel_rfl
  i233 := by kernel_rfl
  m15 := by kernel_rfl
  m16 := by kernel_rfl
  m17 := by kernel_rfl
  m18 := by kernel_rfl
  m19 := by kernel_rfl
  c0 := by kernel_rfl
  c2 := by kernel_rfl
  c3 := by kernel_rfl
  c4 := by kernel_rfl
  c5 := by kernel_rfl
  c9 := by kernel_rfl
  c20 := by kernel_rfl
  c21 := by kernel_rfl
  c37 := by kernel_rfl
  c46 := by kernel_rfl
  c51 := by kernel_rfl
  c53 := by kernel_rfl
  c75 := by kernel_rfl
  c80 := by kernel_rfl
  c85 := by kernel_rfl
  c127 := by kernel_rfl
  c143 := by kernel_rfl
  c145 := by kernel_rfl
  c167 := by kernel_rfl
  c168 := by kernel_rfl
  c171 := by kernel_rfl
  c173 := by kernel_rfl
  c175 := by kernel_rfl
  c210 := by kernel_rfl
  c212 := by kernel_rfl
  c213 := by kernel_rfl
  c232 := by kernel_rfl
  c233 := by kernel_rfl }
open Go.RowKit in
/-- strconv.ParseInt(s, 10, 64), AT EVERY STRING THAT SPELLS AN int64 ('Lib.parseIntB 64 s.data.toList = .ok v'): v, AND NO ERROR. (LAID: no walk: one application.) -/
theorem Tryz.strconv_ParseInt_10_at64_ok (s : ByteArray) (hmax : s.size ≤ 9223372036854775806) (v : Int) (h : Lib.parseIntB 64 s.data.toList = .ok v) (w : World) :
    Calls Tryz.prog 175 #[.string s, .int .i64 10, .int .i64 64] w fun e w' => e = .returned (.tuple #[.int .i64 v, .nilIface]) ∧ (w' = w ∨ ∃ t, w' = Lib.bytesWorld w 5 t) := Any.strconv_ParseInt_10_at64_ok Tryz.laysC174 s hmax v h w
open Go.RowKit in
theorem Tryz.strconv_ParseInt_10_at64_range_var (s : ByteArray) (hlim : s.size ≤ 281474976710656) (h : Lib.parseIntB 64 s.data.toList = .range) (tp : TypeId) (p : Value) (w : World) (hvar : w.var? Tryz.prog "strconv.ErrRange" = some #[.iface tp p]) :
    Calls Tryz.prog 175 #[.string s, .int .i64 10, .int .i64 64] w fun e w' => ∃ N, e = .returned (.tuple #[.int .i64 (Lib.intSat 64 s.data.toList), .iface 217 (.pointer (some ⟨N, 0, none⟩))]) ∧ w.heap.size ≤ N ∧ w'.heap[N]? = some (.cells #[.string ⟨#[80, 97, 114, 115, 101, 73, 110, 116]⟩, .string s, .iface tp p] 227 (0, 0)) ∧ Below w.heap.size w w' := Any.strconv_ParseInt_10_at64_range_var Tryz.laysC174 s hlim h tp p w hvar
def Tryz.laysGw17_ren : Go.Shelf.Ren := ⟨fun | 17 => 165 | 15 => 195 | 20 => 214 | n => n, fun | 9 => 9 | 23 => 163 | 4 => 4 | 3 => 3 | 0 => 0 | 21 => 21 | n => n, fun | n => n⟩
theorem Tryz.laysGw17 : Go.Proofs.LaysGw.n17 Tryz.prog Tryz.laysGw17_ren := {
  mixed := by kernel_rfl
  f15 := Tryz.func195.trans (congrArg some (by kernel_rfl))
  f17 := Tryz.func165.trans (congrArg some (by kernel_rfl))
  f20 := Tryz.func214.trans (congrArg some (by kernel_rfl))
  t0 := Tryz.underlying0
  a0 := Tryz.isAgg0
  z0 := Tryz.sizeOf0
  v0 := Tryz.zeroValue0
  i0 := by kernel_rfl
  t3 := Tryz.underlying3
  a3 := Tryz.isAgg3
  z3 := Tryz.sizeOf3
  v3 := Tryz.zeroValue3
  i3 := by kernel_rfl
  t4 := Tryz.underlying4
  a4 := Tryz.isAgg4
  z4 := Tryz.sizeOf4
  v4 := Tryz.zeroValue4
  i4 := by kernel_rfl
  t9 := Tryz.underlying9
  a9 := Tryz.isAgg9
  z9 := Tryz.sizeOf9
  v9 := Tryz.zeroValue9
  i9 := by kernel_rfl
  t21 := Tryz.underlying21
  a21 := Tryz.isAgg21
  z21 := Tryz.sizeOf21
  v21 := Tryz.zeroValue21
  i21 := by kernel_rfl
  t23 := Tryz.underlying163
  a23 := Tryz.isAgg163
  z23 := Tryz.sizeOf163
  v23 := Tryz.zeroValue163
  i23 := by kernel_rfl }
open Go.RowKit Go.Lib in
theorem Tryz.strings_ContainsFunc (g : Nat) (lb : Array Value) (eg : ∀ args w, (callFunc g args).run Tryz.prog w = .ok (.enter g args) w) (p : Nat → Bool) (s : ByteArray) (w : World) (hp : PredAt Tryz.prog g lb encR p w) :
    Calls Tryz.prog 165 #[.string s, .func (.func g) #[] lb] w fun e w' => e = .returned (.bool (decide (0 ≤ Lib.idxFunc p true s))) ∧ Below w.heap.size w w' := Any.strings_ContainsFunc Tryz.laysGw17 g lb eg p s w hp
def Tryz.lays113_ren : Go.Shelf.Ren := ⟨fun | 113 => 203 | n => n, fun | 28 => 22 | 3 => 3 | 4 => 4 | 9 => 9 | 20 => 20 | 0 => 0 | n => n, fun | n => n⟩
theorem Tryz.lays113 : Go.Proofs.Lays.n113 Tryz.prog Tryz.lays113_ren := {
  mixed := by kernel_rfl
  f113 := Tryz.func203.trans (congrArg some (by kernel_rfl))
  t0 := Tryz.underlying0
  a0 := Tryz.isAgg0
  z0 := Tryz.sizeOf0
  v0 := Tryz.zeroValue0
  t3 := Tryz.underlying3
  a3 := Tryz.isAgg3
  z3 := Tryz.sizeOf3
  v3 := Tryz.zeroValue3
  t4 := Tryz.underlying4
  a4 := Tryz.isAgg4
  z4 := Tryz.sizeOf4
  v4 := Tryz.zeroValue4
  t9 := Tryz.underlying9
  a9 := Tryz.isAgg9
  z9 := Tryz.sizeOf9
  v9 := Tryz.zeroValue9
  t20 := Tryz.underlying20
  a20 := Tryz.isAgg20
  z20 := Tryz.sizeOf20
  v20 := Tryz.zeroValue20
  t28 := Tryz.underlying22
  a28 := Tryz.isAgg22
  z28 := Tryz.sizeOf22
  v28 := Tryz.zeroValue22 }
open Go.Lib in
/-- slices.Max at []int: "Max returns the maximal value in x. It panics if x is empty.": OF A SLICE THAT IS NOT EMPTY IT RETURNS 'Lib.maxOf (the elements)'; the world is as it was. (Of an empty one it panics: no contract here.) (LAID: no walk: one application.) -/
theorem Tryz.slices_Max_int (b off n c : Nat) (zs : List Int) (w : World) (hn : 0 < n) (hz : n ≤ zs.length) (hbig : n ≤ 9223372036854775807) (hc : ∀ j, j < zs.length → w.cell? ⟨b, off + j, none⟩ = some (.int .i64 (zs.getD j 0))) :
    Calls Tryz.prog 203 #[.slice (some ⟨b, off, none⟩) n c] w fun e w' => e = .returned (.int .i64 (Lib.maxOf (zs.take n))) ∧ w' = w := Any.slices_Max_int Tryz.lays113 b off n c zs w hn hz hbig hc
def Tryz.laysNm215_ren : Go.Shelf.Ren := ⟨fun | 15 => 66 | n => n, fun | 22 => 22 | 3 => 3 | 4 => 4 | n => n, fun | n => n⟩
theorem Tryz.laysNm215 : Go.Proofs.Lays2.n15 Tryz.prog Tryz.laysNm215_ren := {
  mixed := by kernel_rfl
  f15 := Tryz.func66.trans (congrArg some (by kernel_rfl))
  t3 := Tryz.underlying3
  a3 := Tryz.isAgg3
  z3 := Tryz.sizeOf3
  v3 := Tryz.zeroValue3
  t4 := Tryz.underlying4
  a4 := Tryz.isAgg4
  z4 := Tryz.sizeOf4
  v4 := Tryz.zeroValue4
  t22 := Tryz.underlying22
  a22 := Tryz.isAgg22
  z22 := Tryz.sizeOf22
  v22 := Tryz.zeroValue22
  i3 := by kernel_rfl }
open Go.RowKit Go.Lib in
/-- slices.Clone at []int: "Clone returns a copy of the slice. The elements are copied using assignment, so this is a shallow clone. The result may have additional unused capacity. The result preserves the nilness of s.": OF A SLICE THAT IS NOT nil IT RETURNS A SLICE THAT IS NOT nil, OF THE SAME ELEMENTS, IN MEMORY OF THE CALL's OWN: in the how-to's words (6f): 'w'.ownsRow B e 1 v' n cells': v' begins at the head of a row among the blocks from B on (B: the heap's size at the call), not frozen, whose first cells are the elements · 'Below B w w'': below B all is as it was. The capacity is whatever the run-time gives. 'zs': what the cells behind the slice's address hold; 'zs.take n': its elements. (LAID: no walk: one application.) -/
theorem Tryz.slices_Clone_int (b off n c : Nat) (zs : List Int) (w : World) (hz : n ≤ zs.length) (hbig : n * 8 ≤ 140737488355328) (hc : ∀ j, j < zs.length → w.cell? ⟨b, off + j, none⟩ = some (.int .i64 (zs.getD j 0))) :
    Calls Tryz.prog 66 #[.slice (some ⟨b, off, none⟩) n c] w fun e w' => ∃ v', e = .returned v' ∧ w'.ownsRow w.heap.size 3 1 v' n ((zs.take n).map (Value.int .i64)) ∧ v' ≠ .slice none 0 0 ∧ Below w.heap.size w w' := Any.slices_Clone_int Tryz.laysNm215 b off n c zs w hz hbig hc
open Go.RowKit Go.Lib in
/-- The same at nil: nil comes back; the world is as it was. (LAID: no walk: one application.) -/
theorem Tryz.slices_Clone_int_nil (n c : Nat) (w : World) :
    Calls Tryz.prog 66 #[.slice none n c] w fun e w' => e = .returned (.slice none 0 0) ∧ w' = w := Any.slices_Clone_int_nil Tryz.laysNm215 n c w
open Go.RowKit Go.Lib in
/-- The same at a slice of length 0 that is not nil, WHATEVER ITS ADDRESS (no cell is asked for): a slice that is not nil and owns nothing comes back. (LAID: no walk: one application.) -/
theorem Tryz.slices_Clone_int_zero (a : Addr) (c : Nat) (w : World) :
    Calls Tryz.prog 66 #[.slice (some a) 0 c] w fun e w' => ∃ v', e = .returned v' ∧ w'.ownsRow w.heap.size 3 1 v' 0 [] ∧ v' ≠ .slice none 0 0 ∧ Below w.heap.size w w' := Any.slices_Clone_int_zero Tryz.laysNm215 a c w
def Tryz.laysSlH8_f71_ren : Go.Shelf.Ren := ⟨fun | 8 => 71 | 6 => 131 | n => n, fun | 22 => 69 | 23 => 2 | 25 => 75 | 4 => 4 | 3 => 3 | 0 => 0 | n => n, fun | n => n⟩
theorem Tryz.laysSlH8_f71 : Go.Proofs.SlLaysH.n8 Tryz.prog Tryz.laysSlH8_f71_ren := {
  mixed := by kernel_rfl
  f6 := ⟨Tryz.f131.name, by decide, Tryz.func131.trans (congrArg some (by kernel_rfl))⟩
  f8 := ⟨Tryz.f71.name, by decide, Tryz.func71.trans (congrArg some (by kernel_rfl))⟩
  t0 := Tryz.underlying0
  a0 := Tryz.isAgg0
  z0 := Tryz.sizeOf0
  v0 := Tryz.zeroValue0
  t3 := Tryz.underlying3
  a3 := Tryz.isAgg3
  z3 := Tryz.sizeOf3
  v3 := Tryz.zeroValue3
  t4 := Tryz.underlying4
  a4 := Tryz.isAgg4
  z4 := Tryz.sizeOf4
  v4 := Tryz.zeroValue4
  t22 := Tryz.underlying69
  a22 := Tryz.isAgg69
  z22 := Tryz.sizeOf69
  v22 := Tryz.zeroValue69
  a23 := Tryz.isAgg2
  z23 := Tryz.sizeOf2
  t25 := Tryz.underlying75
  a25 := Tryz.isAgg75
  z25 := Tryz.sizeOf75
  v25 := Tryz.zeroValue75 }
open Go.RowKit Go.Lib in
/-- slices.ContainsFunc: "ContainsFunc reports whether at least one element e of s satisfies f(e).": ITS CALLEE slices.IndexFunc IS MET BY ITS OWN CONTRACT. (LAID AT THE INSTANCE 'slices.ContainsFunc[[]int64,int64]': no walk: one application.) -/
theorem Tryz.slices_ContainsFunc_f71 {α : Type} [Inhabited α] (enc : α → Value) (p : α → Bool) (g : Nat) (lb : Array Value) (eg : ∀ args w, (callFunc g args).run Tryz.prog w = .ok (.enter g args) w) (b off n c : Nat) (zs : List α) (w : World) (hp : PredAt Tryz.prog g lb enc p w) (hz : n ≤ zs.length) (hbig : n ≤ 9223372036854775807) (hc : ∀ j, j < zs.length → w.cell? ⟨b, off + j, none⟩ = some (enc zs[j]!)) :
    Calls Tryz.prog 71 #[.slice (some ⟨b, off, none⟩) n c, .func (.func g) #[] lb] w fun e w' => e = .returned (.bool ((zs.take n).any p)) ∧ ∃ q, w' = w.drewN q := AnyE.slices_ContainsFunc Tryz.laysSlH8_f71 enc p g lb eg b off n c zs w hp hz hbig hc
open Go.RowKit Go.Lib in
/-- The same at a slice of length 0, a nil one too. (LAID AT THE INSTANCE 'slices.ContainsFunc[[]int64,int64]': no walk: one application.) -/
theorem Tryz.slices_ContainsFunc_empty_f71 {α : Type} [Inhabited α] (a : Option Addr) (c : Nat) (fv : Value) (w : World) :
    Calls Tryz.prog 71 #[.slice a 0 c, fv] w fun e w' => e = .returned (.bool false) ∧ w' = w := AnyE.slices_ContainsFunc_empty Tryz.laysSlH8_f71 a c fv w
end Go.Proofs
namespace Go.Proofs.YtlemmdfjcnhjkaaGreatDoor.P
open Go.RowKit Go.Proofs.YtlemmdfjcnhjkaaGreatDoorW.PrintWords Go.Proofs.YtlemmdfjcnhjkaaGreatDoorW.PrintLast Go.Proofs.YtlemmdfjcnhjkaaGreatDoorW.PrintMore

/-- What the package variables of strconv read as: the table of the powers of ten, and an error that is there. -/
def Glob (w : World) : Prop := Lib.TabIs Tryz.prog w "internal/strconv.uint64pow10" .u64 Lib.pow10Tab ∧ ∃ tp p, w.var? Tryz.prog "strconv.ErrRange" = some #[.iface tp p]

theorem var_keeps {w w' : World} {n : String} {cs : Array Value} (hb : Below w.heap.size w w') (hv : w.var? Tryz.prog n = some cs) : w'.var? Tryz.prog n = some cs := by
  have hv0 := hv
  unfold World.var? at hv0
  cases hg : Tryz.prog.globalNamed n with
  | none => rw [hg] at hv0; simp at hv0
  | some g =>
    rw [hg] at hv0
    simp only [Option.bind_some] at hv0
    have hlt : g < w.heap.size := by
      cases hq : w.heap[g]? with
      | none => rw [hq] at hv0; simp at hv0
      | some o => exact (Array.getElem?_eq_some_iff.1 hq).1
    exact var?_below hb hg hlt hv

theorem Glob.below {w w' : World} (h : Glob w) (hb : Below w.heap.size w w') : Glob w' := by
  obtain ⟨h1, tp, p, h2⟩ := h
  exact ⟨var_keeps hb h1, tp, p, var_keeps hb h2⟩

/-- A function value's contract out of a function's. -/
theorem predAt_of {α : Type} {P : Program} {g : Nat} {enc : α → Value} {p : α → Bool} {w : World} (h : ∀ (x : α) (W : World), Calls P g #[enc x] W fun e w' => e = .returned (.bool (p x)) ∧ Drawn0 W w') : PredAt P g #[] enc p w := by
  intro W x _
  unfold FnGives
  have := h x W
  simp only [Array.append_empty]
  exact this.mono fun e w' ⟨he, hd⟩ => ⟨he, hd.out⟩

/-- A read row's cells, one by one. -/
theorem cells_of_C {α : Type} {w : World} {A : Option Addr} {xs : List α} {n : Nat} {enc : α → Value} {d : Kd α} (h1 : d.sz = 1) (hK : ∀ x cs, d.K w x cs → cs = [enc x]) (h : Kd.C d w A n xs) (hn : n = xs.length) (hx : 0 < n) :
    ∃ ad, A = some ad ∧ ∀ (j : Nat) (z : α), j < xs.length → w.cell? (ad.add j) = some (enc (xs.getD j z)) := by
  subst hn
  cases xs with
  | nil => simp at hx
  | cons x0 xs =>
    obtain ⟨ad, c, e, _, hc, hc0⟩ := Kd.C_get h x0 0 (by omega) (by simp)
    refine ⟨ad, e, fun j z hj => ?_⟩
    obtain ⟨ad', c', e', _, hK', hc'⟩ := Kd.C_get h z (j : Int) (by omega) (by simp only [List.length_cons] at hj ⊢; omega)
    rw [e] at e'
    obtain rfl := Option.some.inj e'
    have hcs := hK _ _ hK'
    subst hcs
    have := hc' 0 _ rfl
    rw [h1] at this
    simpa using this

theorem plain_addr {w : World} {ad : Addr} {v : Value} (h : w.cell? ad = some v) : ad = ⟨ad.block, ad.off, none⟩ := by
  obtain ⟨b, o, s⟩ := ad
  cases s with
  | none => rfl
  | some x =>
    unfold World.cell? at h
    simp only at h
    split at h <;> simp at h

/-- A read row of one-cell elements: nil, empty, or a place whose cells they are. -/
theorem row_cases {α : Type} {w : World} {A : Option Addr} {xs : List α} {enc : α → Value} {h1 : ∀ x, (enc x).oneCell' = true} (h : Kd.C (Kd.scalar enc h1) w A xs.length xs) :
    (A = none ∧ xs = []) ∨ (∃ a, A = some a ∧ xs = []) ∨ ∃ b off, A = some ⟨b, off, none⟩ ∧ 0 < xs.length ∧ ∀ (j : Nat) (z : α), j < xs.length → w.cell? ⟨b, off + j, none⟩ = some (enc (xs.getD j z)) := by
  cases xs with
  | nil => cases A with
    | none => exact .inl ⟨rfl, rfl⟩
    | some a => exact .inr (.inl ⟨a, rfl, rfl⟩)
  | cons x0 xs =>
    obtain ⟨ad, e, hc⟩ := cells_of_C (enc := enc) (d := Kd.scalar enc h1) rfl (fun _ _ hk => hk) h rfl (by simp)
    have h0 := hc 0 x0 (by simp)
    have hp := plain_addr (ad := ad) (by simpa [Addr.add] using h0)
    refine .inr (.inr ⟨ad.block, ad.off, by rw [e, ← hp], by simp, fun j z hj => ?_⟩)
    have := hc j z hj
    rw [hp] at this
    rwa [add_at] at this

/-- A literal row. -/
theorem row_lit {α : Type} {enc : α → Value} {h1 : ∀ x, (enc x).oneCell' = true} {w : World} {g : Nat} {xs : List α} {t : Nat} (d : α) (hx : xs.length ≤ 9223372036854775807) (h : w.heap[g]? = some (.cells (xs.map enc).toArray t (0, 0))) : Kd.C (Kd.scalar enc h1) w (some ⟨g, 0, none⟩) xs.length xs := by
  refine Kd.C_of_reads (d := d) ⟨rfl, hx, fun _ => ⟨_, rfl, fun j hj => ?_⟩⟩
  have := blk_cell h j
  have e : (⟨g, 0, none⟩ : Addr).add j = ⟨g, j, none⟩ := by
    cases j with
    | zero => rfl
    | succ j => simp [Addr.add]
  rw [e, this]
  simp [List.getD_eq_getElem?_getD, List.getElem?_eq_getElem hj]

/-! ### strings.ContainsFunc with a test of figures -/
/-- Is a byte no figure? -/
def noFig (c : UInt8) : Bool := decide (c.toNat < 48) || decide (57 < c.toNat)
def figP (n : Nat) : Bool := decide (n < 48) || decide (57 < n)
theorem figP_big {n : Nat} (h : 128 ≤ n) : figP n = true := by
  unfold figP
  simp
  omega
theorem idx_fig_from (s : ByteArray) : ∀ (f pos : Nat), s.size ≤ pos + f → decide (0 ≤ Lib.idxFuncFrom figP true s f pos) = (s.data.toList.drop pos).any noFig
  | 0, pos, h => by
    have hd : s.data.toList.drop pos = [] := by
      apply List.drop_eq_nil_of_le
      rw [data_length]
      omega
    rw [hd]
    rfl
  | f + 1, pos, h => by
    unfold Lib.idxFuncFrom
    by_cases hp : pos < s.size
    · rw [if_pos hp]
      have hl : pos < s.data.toList.length := by rw [data_length]; exact hp
      have hdrop : s.data.toList.drop pos = s.data.toList[pos] :: s.data.toList.drop (pos + 1) := List.drop_eq_getElem_cons hl
      have hget : s.data.toList.getD pos 0 = s.data.toList[pos] := by rw [List.getD_eq_getElem?_getD, List.getElem?_eq_getElem hl]; rfl
      have hlt := (s.data.toList[pos]).toNat_lt
      rw [Lib.decode_N, hget]
      rw [hdrop, List.any_cons]
      by_cases ha : (s.data.toList[pos]).toNat < 128
      · rw [Lib.decodeN_ascii _ _ _ _ _ ha]
        have hf : figP (s.data.toList[pos]).toNat = noFig s.data.toList[pos] := rfl
        cases hn : noFig s.data.toList[pos] with
        | true =>
          rw [if_pos (by rw [hf, hn])]
          simp
        | false =>
          rw [if_neg (by rw [hf, hn]; simp)]
          rw [idx_fig_from s f (pos + 1) (by omega)]
          simp
      · have hbig : 128 ≤ (Lib.decodeN (s.data.toList.length - pos) (s.data.toList[pos]).toNat (s.data.toList.getD (pos + 1) 0).toNat (s.data.toList.getD (pos + 2) 0).toNat (s.data.toList.getD (pos + 3) 0).toNat).1 := by
          rcases Lib.decodeN_cases (s.data.toList.length - pos) (s.data.toList[pos]).toNat (s.data.toList.getD (pos + 1) 0).toNat (s.data.toList.getD (pos + 2) 0).toNat (s.data.toList.getD (pos + 3) 0).toNat with h1 | h1 | h1 | h1 | h1
          · omega
          · rw [h1.2.2.2.2]; exact h1.2.2.2.1
          · rw [h1.2.2.2.2.2]; have := h1.2.2.2.2.1; omega
          · omega
          · rw [h1]; decide
        rw [if_pos (figP_big hbig)]
        have hn : noFig s.data.toList[pos] = true := by
          unfold noFig
          rw [Bool.or_eq_true, decide_eq_true_eq, decide_eq_true_eq]
          omega
        rw [hn]
        simp
    · rw [if_neg hp]
      have hd : s.data.toList.drop pos = [] := by
        apply List.drop_eq_nil_of_le
        rw [data_length]
        omega
      rw [hd]
      rfl
theorem idx_fig (s : ByteArray) : decide (0 ≤ Lib.idxFunc figP true s) = s.data.toList.any noFig := by
  unfold Lib.idxFunc
  rw [idx_fig_from s s.size 0 (by omega)]
  rfl
/-! ### Short words for what the print writes over and over: their last premises are found by the same tactics -/
section Sq
theorem Bl_ {P : Prop} (h : P := by repeat (first | (with_reducible first | exact HB.out | apply below_alloc | apply pw_below_drewN | apply below_drew1 | (refine below_set ?_ (Aside0.out (by assumption)))) | exact HB.out)) : P := h
theorem Bs_ {w W w2 : World} (k : Below W.heap.size W w2) (h : Below w.heap.size w W := by repeat (first | (with_reducible first | exact HB.out | apply below_alloc | apply pw_below_drewN | apply below_drew1 | (refine below_set ?_ (Aside0.out (by assumption)))) | exact HB.out)) : Aside0 (Below w.heap.size w w2) := ⟨below_step h k⟩
theorem Bz_ {w W : World} (h : Below w.heap.size w W := by repeat (first | (with_reducible first | exact HB.out | apply below_alloc | apply pw_below_drewN | apply below_drew1 | (refine below_set ?_ (Aside0.out (by assumption)))) | exact HB.out)) : w.heap.size ≤ W.heap.size := h.size
theorem Bg_ {w W : World} {g : Nat} (hg : g = W.heap.size) (h : Below w.heap.size w W := by repeat (first | (with_reducible first | exact HB.out | apply below_alloc | apply pw_below_drewN | apply below_drew1 | (refine below_set ?_ (Aside0.out (by assumption)))) | exact HB.out)) : Aside0 (w.heap.size ≤ g) := ⟨hg ▸ h.size⟩
theorem Pr_ {P Q : Prop} (q : Q) (h : Q → P := by (intro q_; (with_reducible repeat (first | apply Kd.R_alloc | apply Kd.R_drewN | apply Kd.R_drew)); exact q_)) : P := h q
theorem Pv_ {P Q : Prop} (q : Q) (h : Q → P := by (intro q_; (with_reducible repeat (first | apply Kd.V_alloc | apply Kd.V_drewN | apply Kd.V_drew)); exact q_)) : P := h q
theorem Bk_ {P Q : Prop} (q : Q) (h : Q → P := by (intro q_; (with_reducible repeat (first | refine blk_drewN ?_ _ | refine blk_drew ?_ | refine blk_alloc ?_ _)); exact q_)) : P := h q
theorem kb_ {W W1 W2 : World} {g : Nat} {o : Obj} (q : Aside0 (W.heap[g]? = some o)) (hb : Below W1.heap.size W1 W2) (h : W.heap[g]? = some o → W1.heap[g]? = some o := by (intro q_; (with_reducible repeat (first | refine blk_drewN ?_ _ | refine blk_drew ?_ | refine blk_alloc ?_ _)); exact q_)) : Aside0 (W2.heap[g]? = some o) := ⟨blk_below (h q.out) hb⟩
theorem kg_ {W W1 W2 : World} {g : Nat} {o : Obj} {row : Option Nat} (q : Aside0 (W.heap[g]? = some o)) (hg : W1.grownBy W2 row) (hne : some g ≠ row) (h : W.heap[g]? = some o → W1.heap[g]? = some o := by (intro q_; (with_reducible repeat (first | refine blk_drewN ?_ _ | refine blk_drew ?_ | refine blk_alloc ?_ _)); exact q_)) : Aside0 (W2.heap[g]? = some o) := ⟨blk_grown (h q.out) hg hne⟩
theorem nl_ {W W1 : World} {g g' : Nat} {o : Obj} (hg : g' = W1.heap.size) (q : Aside0 (W.heap[g]? = some o)) (h : W.heap[g]? = some o → W1.heap[g]? = some o := by (intro q_; (with_reducible repeat (first | refine blk_drewN ?_ _ | refine blk_drew ?_ | refine blk_alloc ?_ _)); exact q_)) : Aside0 (g ≠ g') := ⟨hg ▸ Nat.ne_of_lt (blk_lt (h q.out))⟩
theorem ng_ {W W1 : World} {g g' : Nat} {o : Obj} (hg : g' = W1.heap.size) (q : Aside0 (W.heap[g]? = some o)) (h : W.heap[g]? = some o → W1.heap[g]? = some o := by (intro q_; (with_reducible repeat (first | refine blk_drewN ?_ _ | refine blk_drew ?_ | refine blk_alloc ?_ _)); exact q_)) : Aside0 (g' ≠ g) := ⟨hg ▸ Nat.ne_of_gt (blk_lt (h q.out))⟩
theorem Pc_ {P Q : Prop} (q : Q) (h : Q → P := by (intro q_; (repeat (first | exact q_ | (with_reducible refine Kd.C_alloc ?_ _) | (with_reducible refine Kd.C_drewN ?_ _) | (with_reducible refine Kd.C_drew ?_))))) : P := h q
theorem Ga_ {P : Prop} (h : P := by (try simp only [List.map_toArray, List.map_cons, List.map_nil]); first | done | rfl | (simp only [List.length_drop, List.length_take]; rfl)) : P := h
theorem As_ {P : Prop} (h : P := by first | (with_reducible assumption) | assumption) : P := h
theorem Rf_ {P : Prop} (h : P := by first | rfl | (simp; done) | (simp [*]; done)) : P := h
theorem Re_ {P : Prop} (h : P := by first | rfl | (simp [errW_none, errW_some] <;> rfl) | (simp [*, errW_none, errW_some] <;> rfl)) : P := h
theorem Dw_ {P : Prop} (h : P := by repeat (first | exact Drawn0.refl _ | apply Drawn0.step)) : P := h
theorem c2_ {w : World} {g t : Nat} {a b : Value} (q : Aside0 (w.heap[g]? = some (.cells #[a, b] t (0, 0)))) : w.cell? ⟨g, 0, none⟩ = some a ∧ w.cell? ⟨g, 1, none⟩ = some b := ⟨(blk_cell q.out 0).trans rfl, (blk_cell q.out 1).trans rfl⟩
theorem c3_ {w : World} {g t : Nat} {a b c : Value} (q : Aside0 (w.heap[g]? = some (.cells #[a, b, c] t (0, 0)))) : w.cell? ⟨g, 0, none⟩ = some a ∧ w.cell? ⟨g, 1, none⟩ = some b ∧ w.cell? ⟨g, 2, none⟩ = some c := ⟨(blk_cell q.out 0).trans rfl, (blk_cell q.out 1).trans rfl, (blk_cell q.out 2).trans rfl⟩
theorem f2_ {w : World} {g t : Nat} {cs : Array Value} (q : Aside0 (w.heap[g]? = some (.cells cs t (0, 0)))) : w.frozen? ⟨g, 0, none⟩ = false ∧ w.frozen? ⟨g, 1, none⟩ = false := ⟨blk_frozen q.out 0, blk_frozen q.out 1⟩
theorem f3_ {w : World} {g t : Nat} {cs : Array Value} (q : Aside0 (w.heap[g]? = some (.cells cs t (0, 0)))) : w.frozen? ⟨g, 0, none⟩ = false ∧ w.frozen? ⟨g, 1, none⟩ = false ∧ w.frozen? ⟨g, 2, none⟩ = false := ⟨blk_frozen q.out 0, blk_frozen q.out 1, blk_frozen q.out 2⟩
theorem f4_ {w : World} {g t : Nat} {cs : Array Value} (q : Aside0 (w.heap[g]? = some (.cells cs t (0, 0)))) : w.frozen? ⟨g, 0, none⟩ = false ∧ w.frozen? ⟨g, 1, none⟩ = false ∧ w.frozen? ⟨g, 2, none⟩ = false ∧ w.frozen? ⟨g, 3, none⟩ = false := ⟨blk_frozen q.out 0, blk_frozen q.out 1, blk_frozen q.out 2, blk_frozen q.out 3⟩
theorem bnd_ {α β : Type} {a : Option α} {f : α → Option β} {r : β} (h : a.bind f = some r) : ∃ t, Aside0 (a = some t) ∧ f t = some r := (Option.bind_eq_some_iff.mp h).imp fun _ h => ⟨⟨h.1⟩, h.2⟩
variable {P : Program} {ops : Array Oper} {rest : List Oper} {o : Oper} {a : Act} {Q : Exit → Act → World → Prop}
theorem bx_ {W : World} (N : Tmp) (cs : Array Value) (t : TypeId)
    (h : ∀ g, g = W.heap.size → ∀ w1, w1.heap[g]? = some (.cells cs t (0, 0)) → Below W.heap.size W w1 → wpList P ops Q rest (a.put o.dst (.pointer (some ⟨g, 0, none⟩))) w1)
    (hd : o.dst = some N := by rfl) (hgd : o.guard = none := by rfl)
    (hrun : (execOp a.eval o).run P W = .ok (.value (.pointer (some ⟨W.heap.size, 0, none⟩))) (W.alloc (.cells cs t (0, 0))) := by first | (go_simp; done) | (go_simp; rfl)) : wpList P ops Q (o :: rest) a W := box_event hgd hd hrun h
variable {md : Region.Mode} {S : World → Prop} {ds : List Nat}
theorem pu_ {T : Bool × List (List Nat × List Nat)} {oi : Oper} {v : Value} {fuel : Nat} {l : Array Bool} {w : World} {a' : Act} (i : Nat) (N : Option Tmp) (hT : Aside0 (rtab md ops = T)) (l' : Array Bool) (h : wpAnyLast P md ops Q S ds fuel l' a' w) (hi : ops[i]? = some oi := by rfl) (hN : oi.dst = N := by rfl) (hc : anyT T l.toList l'.toList i = true := by kernel_rfl)
    (hQ : ∀ c a w, Q (.panic c) (a.put oi.dst v) w → Q (.panic c) a w := by exact fun _ _ _ h => h) (hy : Yields P ops oi v a := by (refine Or.inl ⟨by rfl, ?_⟩; intro w'; go_simp; with_reducible rfl)) (ha : a.put N v = a' := by (simp only [Act.put, List.setIfInBounds_toArray, List.set_cons_zero, List.set_cons_succ, i64_w, i32_w]; rfl)) : wpAnyLast P md ops Q S ds (fuel + 1) l a w :=
  pure_ l' hi hN (any_of hT.out hc) hQ hy ha h
theorem pk_ {oi : Oper} {v : Value} {fuel : Nat} {l : Array Bool} {w : World} {a' : Act} (i : Nat) (N : Option Tmp) (l' : Array Bool) (h : wpAnyLast P md ops Q S ds fuel l' a' w) (hi : ops[i]? = some oi := by rfl) (hN : oi.dst = N := by rfl) (hc : anyB md ops l l' i = true := by kernel_rfl)
    (hQ : ∀ c a w, Q (.panic c) (a.put oi.dst v) w → Q (.panic c) a w := by exact fun _ _ _ h => h) (hy : Yields P ops oi v a := by (refine Or.inl ⟨by rfl, ?_⟩; intro w'; go_simp; with_reducible rfl)) (ha : a.put N v = a' := by (simp only [Act.put, List.setIfInBounds_toArray, List.set_cons_zero, List.set_cons_succ, i64_w, i32_w]; rfl)) : wpAnyLast P md ops Q S ds (fuel + 1) l a w :=
  pure_ l' hi hN hc hQ hy ha h
end Sq
end Go.Proofs.YtlemmdfjcnhjkaaGreatDoor.P
namespace Go.Proofs.YtlemmdfjcnhjkaaGreatDoor.P
open Go.RowKit Go.Proofs.YtlemmdfjcnhjkaaGreatDoorW.PrintWords Go.Proofs.YtlemmdfjcnhjkaaGreatDoorW.PrintLast Go.Proofs.YtlemmdfjcnhjkaaGreatDoorW.PrintMore
attribute [local go_sem] max2_int min2_int max_two min_two max_three min_three max_four min_four   -- for this text's walks alone
set_option linter.unusedVariables false
set_option linter.unusedSimpArgs false

def errW : Option Int → Value
  | none => .nilIface
  | some c => .iface 215 (.int .i64 c)
theorem errW_none : errW none = .nilIface := rfl
theorem errW_some (c : Int) : errW (some c) = .iface 215 (.int .i64 c) := rfl

theorem info2 : (Tryz.prog.info? 2).map (fun i => (i.zero, i.size, i.bytes)) = some (some (.int .i64 0), 1, 8) := by kernel_rfl
theorem info3 : (Tryz.prog.info? 3).map (fun i => (i.zero, i.size, i.bytes)) = some (some (.int .i64 0), 1, 8) := by kernel_rfl
theorem info5 : (Tryz.prog.info? 5).map (fun i => (i.zero, i.size, i.bytes)) = some (some (.int .u8 0), 1, 1) := by kernel_rfl
theorem info9 : (Tryz.prog.info? 9).map (fun i => (i.zero, i.size, i.bytes)) = some (some (.string ⟨#[]⟩), 1, 16) := by kernel_rfl
-- the values' own types

/-! #### struct type 27 -/
structure S27 where
  f0 : Int
  f1 : (List Int)
  f2 : ByteArray

/-! #### struct type 34 -/
structure S34 where
  f0 : (List Int)
  f1 : (List ByteArray)

end Go.Proofs.YtlemmdfjcnhjkaaGreatDoor.P
