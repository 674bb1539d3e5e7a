/- Part of the proofs of: the law TopKeeps: what is changed and not committed is there, or put aside, behind every command that does not say otherwise (any acts, any line), where what is read is of bulk at most 1048576 -/
import Derived.Shelf.Strings.OnBuilder
import Derived.Shelf.LaysM
import Derived.Shelf.Strconv.Itoa3
import Derived.Shelf.Strings.Search3
import Derived.Shelf.Sort.Plain
import Derived.Shelf.Slices.CompactS
import Derived.Shelf.Slices.In.SortNone
import Derived.Test.YtaohfeokfcdojaaGreatDoorProg
import Derived.Shelf.SlIter.Nil
import Derived.Shelf.SortM.Plain
import Derived.Shelf.SortM.SortNone
import Derived.Test.YtaohfeokfcdojaaGreatDoorRows
import Derived.Shelf.Bits.Mul64
import Derived.Test.YtaohfeokfcdojaaGreatDoorTAb
set_option linter.unusedVariables false
set_option linter.unusedSimpArgs false
set_option linter.unusedSectionVars false
section
namespace Go.Proofs
open Go.Shelf
def Tryz.aAI:Go.Shelf.Ren:=⟨fun | 156=>366 | 165=>372 | 166=>354 | 169=>357 | 240=>364 | 241=>379 | 276=>370 | 277=>386 | n=>n,fun | 31=>45 | 9=>9 | 3=>3 | 4=>4 | 0=>0 | 20=>20 | 72=>405 | 76=>408 | 70=>403 | 37=>109 | 75=>28 | 127=>420 | 164=>269 | 5=>5 | 80=>211 | n=>n,fun | n=>n⟩
theorem Tryz.aKJ:Go.Proofs.Lays.n156 Tryz.prog Tryz.aAI:={
  mixed:=by kernel_rfl
  f156:=Tryz.func366.trans (congrArg some (by kernel_rfl))
  f165:=Tryz.func372.trans (congrArg some (by kernel_rfl))
  f166:=Tryz.func354.trans (congrArg some (by kernel_rfl))
  f169:=Tryz.func357.trans (congrArg some (by kernel_rfl))
  f240:=Tryz.func364.trans (congrArg some (by kernel_rfl))
  f241:=Tryz.func379.trans (congrArg some (by kernel_rfl))
  f276:=Tryz.func370.trans (congrArg some (by kernel_rfl))
  f277:=Tryz.func386.trans (congrArg some (by kernel_rfl))
  t0:=Tryz.underlying0
  a0:=Tryz.isAgg0
  z0:=Tryz.sizeOf0
  v0:=Tryz.zeroValue0
  t3:=Tryz.underlying3
  a3:=Tryz.isAgg3
  z3:=Tryz.sizeOf3
  v3:=Tryz.zeroValue3
  t4:=Tryz.underlying4
  a4:=Tryz.isAgg4
  z4:=Tryz.sizeOf4
  v4:=Tryz.zeroValue4
  t9:=Tryz.underlying9
  a9:=Tryz.isAgg9
  z9:=Tryz.sizeOf9
  v9:=Tryz.zeroValue9
  t20:=Tryz.underlying20
  a20:=Tryz.isAgg20
  z20:=Tryz.sizeOf20
  v20:=Tryz.zeroValue20
  t31:=Tryz.underlying45
  a31:=Tryz.isAgg45
  z31:=Tryz.sizeOf45
  v31:=Tryz.zeroValue45
  t37:=Tryz.underlying109
  a37:=Tryz.isAgg109
  z37:=Tryz.sizeOf109
  v37:=Tryz.zeroValue109
  t70:=Tryz.underlying403
  a70:=Tryz.isAgg403
  z70:=Tryz.sizeOf403
  v70:=Tryz.zeroValue403
  t72:=Tryz.underlying405
  a72:=Tryz.isAgg405
  z72:=Tryz.sizeOf405
  v72:=Tryz.zeroValue405
  t75:=Tryz.underlying28
  a75:=Tryz.isAgg28
  z75:=Tryz.sizeOf28
  v75:=Tryz.zeroValue28
  t76:=Tryz.underlying408
  a76:=Tryz.isAgg408
  z76:=Tryz.sizeOf408
  v76:=Tryz.zeroValue408
  t127:=Tryz.underlying420
  a127:=Tryz.isAgg420
  z127:=Tryz.sizeOf420
  v127:=Tryz.zeroValue420
  t164:=Tryz.underlying269
  a164:=Tryz.isAgg269
  z164:=Tryz.sizeOf269
  v164:=Tryz.zeroValue269 }
theorem Tryz.LJ:Builder.Extra Tryz.prog Tryz.aAI:={
  sizeBuilder:=by kernel_rfl
  liesBuilder:=by kernel_rfl
  t5:=Tryz.underlying5
  a5:=Tryz.isAgg5
  z5:=Tryz.sizeOf5
  v5:=Tryz.zeroValue5
  infoByte:=by kernel_rfl
  cellsByte:=by kernel_rfl
  sizeByte:=by kernel_rfl
  neB5:=by decide }
open Go.RowKit in
/-- No element: the empty string; the world is as it was. (Whatever the slice's address and capacity: a nil slice too.) (LAID: no walk: one application.) -/
theorem Tryz.strings_Join_none (a:Option Addr) (c:Nat) (sep:ByteArray) (w:World) :
    Calls Tryz.prog 366 #[.slice a 0 c,.string sep] w fun e w'=>e = .returned (.string ⟨#[]⟩)∧w'=w:=Any.strings_Join_none Tryz.aKJ Tryz.LJ a c sep w
open Go.RowKit in
/-- strings.Join: "Join concatenates the elements of its first argument to create a single string. The separator string sep is placed between elements in the resulting string.": HOWEVER MANY ELEMENTS. Below the heap's end the world is as it was. (LAID: no walk: one application.) -/
theorem Tryz.strings_Join (bk o c:Nat) (xs:List ByteArray) (sep:ByteArray) (w:World) (hcells : ∀ (j:Nat) x,xs[j]? = some x→w.cell? ⟨bk,o+j,none⟩=some (.string x)) (hbk:bk < w.heap.size) (hN:xs.length≤140737488355328) (hcap:xs.length≤c) (hlen:(Lib.join (xs.map (·.data.toList)) sep.data.toList).length≤140737488355328) :
    Calls Tryz.prog 366 #[.slice (some ⟨bk,o,none⟩) xs.length c,.string sep] w fun e w'=>e = .returned (.string ⟨(Lib.join (xs.map (·.data.toList)) sep.data.toList).toArray⟩)∧Below w.heap.size w w':=Any.strings_Join Tryz.aKJ Tryz.LJ bk o c xs sep w hcells hbk hN hcap hlen
def Tryz.aGN:Go.Shelf.Ren:=⟨fun | 171=>186 | 243=>260 | 246=>311 | 283=>333 | 284=>334 | 285=>335 | 286=>336 | 129=>305 | 317=>346 | 318=>347 | 319=>348 | 320=>349 | 337=>358 | 338=>359 | n=>n,fun | 3=>3 | 9=>9 | 2=>2 | 4=>4 | 171=>381 | 0=>0 | 53=>262 | 37=>109 | 5=>5 | 173=>383 | 212=>395 | 51=>264 | 20=>20 | 213=>396 | 46=>192 | 232=>421 | 233=>422 | n=>n,fun | 17=>4 | 18=>5 | 19=>6 | n=>n⟩
theorem Tryz.aRN:Go.Proofs.LaysM.n171 Tryz.prog Tryz.aGN:={
  mixed:=by kernel_rfl
  f129:=Tryz.func305.trans (congrArg some (by kernel_rfl))
  f171:=Tryz.func186.trans (congrArg some (by kernel_rfl))
  f243:=Tryz.func260.trans (congrArg some (by kernel_rfl))
  f246:=Tryz.func311.trans (congrArg some (by kernel_rfl))
  f283:=Tryz.func333.trans (congrArg some (by kernel_rfl))
  f284:=Tryz.func334.trans (congrArg some (by kernel_rfl))
  f285:=Tryz.func335.trans (congrArg some (by kernel_rfl))
  f286:=Tryz.func336.trans (congrArg some (by kernel_rfl))
  f317:=Tryz.func346.trans (congrArg some (by kernel_rfl))
  f318:=Tryz.func347.trans (congrArg some (by kernel_rfl))
  f319:=Tryz.func348.trans (congrArg some (by kernel_rfl))
  f320:=Tryz.func349.trans (congrArg some (by kernel_rfl))
  f337:=Tryz.func358.trans (congrArg some (by kernel_rfl))
  f338:=Tryz.func359.trans (congrArg some (by kernel_rfl))
  t0:=Tryz.underlying0
  a0:=Tryz.isAgg0
  z0:=Tryz.sizeOf0
  v0:=Tryz.zeroValue0
  t2:=Tryz.underlying2
  a2:=Tryz.isAgg2
  z2:=Tryz.sizeOf2
  v2:=Tryz.zeroValue2
  t3:=Tryz.underlying3
  a3:=Tryz.isAgg3
  z3:=Tryz.sizeOf3
  v3:=Tryz.zeroValue3
  t4:=Tryz.underlying4
  a4:=Tryz.isAgg4
  z4:=Tryz.sizeOf4
  v4:=Tryz.zeroValue4
  t5:=Tryz.underlying5
  a5:=Tryz.isAgg5
  z5:=Tryz.sizeOf5
  v5:=Tryz.zeroValue5
  t9:=Tryz.underlying9
  a9:=Tryz.isAgg9
  z9:=Tryz.sizeOf9
  v9:=Tryz.zeroValue9
  t20:=Tryz.underlying20
  a20:=Tryz.isAgg20
  z20:=Tryz.sizeOf20
  v20:=Tryz.zeroValue20
  t37:=Tryz.underlying109
  a37:=Tryz.isAgg109
  z37:=Tryz.sizeOf109
  v37:=Tryz.zeroValue109
  t46:=Tryz.underlying192
  a46:=Tryz.isAgg192
  z46:=Tryz.sizeOf192
  v46:=Tryz.zeroValue192
  t51:=Tryz.underlying264
  a51:=Tryz.isAgg264
  z51:=Tryz.sizeOf264
  v51:=Tryz.zeroValue264
  t53:=Tryz.underlying262
  a53:=Tryz.isAgg262
  z53:=Tryz.sizeOf262
  v53:=Tryz.zeroValue262
  t171:=Tryz.underlying381
  a171:=Tryz.isAgg381
  z171:=Tryz.sizeOf381
  v171:=Tryz.zeroValue381
  t173:=Tryz.underlying383
  a173:=Tryz.isAgg383
  z173:=Tryz.sizeOf383
  v173:=Tryz.zeroValue383
  t212:=Tryz.underlying395
  a212:=Tryz.isAgg395
  z212:=Tryz.sizeOf395
  v212:=Tryz.zeroValue395
  t213:=Tryz.underlying396
  a213:=Tryz.isAgg396
  z213:=Tryz.sizeOf396
  t232:=Tryz.underlying421
  a232:=Tryz.isAgg421
  z232:=Tryz.sizeOf421
  v232:=Tryz.zeroValue421
  t233:=Tryz.underlying422
  a233:=Tryz.isAgg422
  z233:=Tryz.sizeOf422
  v233:=Tryz.zeroValue422
  g17:=by kernel_rfl
  g18:=by kernel_rfl
  g19:=by kernel_rfl
  i0:=by kernel_rfl
  i2:=by kernel_rfl
  i3:=by kernel_rfl
  i4:=by kernel_rfl
  i5:=by kernel_rfl
  i9:=by kernel_rfl
  i20:=by kernel_rfl
  i37:=by kernel_rfl
  i46:=by kernel_rfl
  i51:=by kernel_rfl
  i53:=by kernel_rfl
  i171:=by kernel_rfl
  i173:=by kernel_rfl
  i212:=by kernel_rfl
  i232:=by kernel_rfl
  i233:=by kernel_rfl
  m17:=by kernel_rfl
  m18:=by kernel_rfl
  m19:=by kernel_rfl }
open Go.RowKit Go.Sort Go.Lib in
/-- strconv.Itoa: "Itoa is equivalent to FormatInt(int64(i), 10).": i's DECIMAL NUMERAL ('Lib.itoa': a '-' where i is negative, then the digits), FOR EVERY int. The world behind the call: the world before it, new blocks behind the heap (the library's 'var a [24]byte'), draws. (LAID: no walk: one application.) -/
theorem Tryz.strconv_Itoa (n:Int) (h0 : -9223372036854775808≤n) (h1:n≤9223372036854775807) (w:World) (htab:Lib.TabIs Tryz.prog w "internal/strconv.uint64pow10" .u64 Lib.pow10Tab) :
    Calls Tryz.prog 186 #[.int .i64 n] w fun e w'=>e = .returned (.string ⟨(Lib.itoa n).toArray⟩) ∧ ∃ k os,w'=grow (w.drewN k) os:=Any.strconv_Itoa Tryz.aRN n h0 h1 w htab
def Tryz.aGM:Go.Shelf.Ren:=⟨fun | 144=>64 | 143=>131 | 219=>65 | 217=>132 | 225=>133 | 224=>134 | 267=>135 | 266=>213 | 314=>214 | n=>n,fun | 9=>9 | 4=>4 | 3=>3 | 5=>5 | 46=>192 | 146=>265 | 51=>264 | n=>n,fun | 1=>0 | n=>n⟩
theorem Tryz.aGb:Go.Proofs.LaysM.n144 Tryz.prog Tryz.aGM:={
  mixed:=by kernel_rfl
  f143:=Tryz.func131.trans (congrArg some (by kernel_rfl))
  f144:=Tryz.func64.trans (congrArg some (by kernel_rfl))
  f217:=Tryz.func132.trans (congrArg some (by kernel_rfl))
  f219:=Tryz.func65.trans (congrArg some (by kernel_rfl))
  f224:=Tryz.func134.trans (congrArg some (by kernel_rfl))
  f225:=Tryz.func133.trans (congrArg some (by kernel_rfl))
  f266:=Tryz.func213.trans (congrArg some (by kernel_rfl))
  f267:=Tryz.func135.trans (congrArg some (by kernel_rfl))
  f314:=Tryz.func214.trans (congrArg some (by kernel_rfl))
  t3:=Tryz.underlying3
  a3:=Tryz.isAgg3
  z3:=Tryz.sizeOf3
  v3:=Tryz.zeroValue3
  t4:=Tryz.underlying4
  a4:=Tryz.isAgg4
  z4:=Tryz.sizeOf4
  v4:=Tryz.zeroValue4
  t5:=Tryz.underlying5
  a5:=Tryz.isAgg5
  z5:=Tryz.sizeOf5
  v5:=Tryz.zeroValue5
  t9:=Tryz.underlying9
  a9:=Tryz.isAgg9
  z9:=Tryz.sizeOf9
  v9:=Tryz.zeroValue9
  t46:=Tryz.underlying192
  a46:=Tryz.isAgg192
  z46:=Tryz.sizeOf192
  v46:=Tryz.zeroValue192
  t51:=Tryz.underlying264
  a51:=Tryz.isAgg264
  z51:=Tryz.sizeOf264
  v51:=Tryz.zeroValue264
  t146:=Tryz.underlying265
  a146:=Tryz.isAgg265
  z146:=Tryz.sizeOf265
  v146:=Tryz.zeroValue265
  g1:=by kernel_rfl
  i3:=by kernel_rfl
  i4:=by kernel_rfl
  i5:=by kernel_rfl
  i9:=by kernel_rfl
  i46:=by kernel_rfl
  i51:=by kernel_rfl
  i146:=by kernel_rfl
  m1:=by kernel_rfl
  s1_3:=fun w h=>Go.Proofs.cell_of_shapedOpen_int (zero := #[.int .i64 0]) (t:=3) h (of_decide_eq_true (by kernel_rfl)) (by kernel_rfl) rfl (by kernel_rfl) (by kernel_rfl) Tryz.underlying3 }
def Tryz.aHn:Go.Shelf.Ren:=⟨fun | 190=>174 | 125=>252 | 258=>251 | 128=>304 | 129=>305 | 302=>295 | 303=>296 | 304=>297 | 305=>298 | 306=>299 | 307=>300 | 308=>301 | 309=>302 | 310=>303 | 333=>325 | 329=>326 | 330=>327 | 334=>328 | 335=>329 | 336=>278 | 344=>343 | n=>n,fun | 31=>45 | 9=>9 | 3=>3 | 46=>192 | 0=>0 | 51=>264 | 53=>262 | 4=>4 | 183=>350 | 182=>349 | 131=>124 | 5=>5 | 218=>371 | 222=>375 | 228=>388 | 229=>389 | n=>n,fun | n=>n⟩
theorem Tryz.aKK:Go.Proofs.Lays.n190 Tryz.prog Tryz.aHn:={
  mixed:=by kernel_rfl
  f125:=Tryz.func252.trans (congrArg some (by kernel_rfl))
  f128:=Tryz.func304.trans (congrArg some (by kernel_rfl))
  f129:=Tryz.func305.trans (congrArg some (by kernel_rfl))
  f190:=Tryz.func174.trans (congrArg some (by kernel_rfl))
  f258:=Tryz.func251.trans (congrArg some (by kernel_rfl))
  f302:=Tryz.func295.trans (congrArg some (by kernel_rfl))
  f303:=Tryz.func296.trans (congrArg some (by kernel_rfl))
  f304:=Tryz.func297.trans (congrArg some (by kernel_rfl))
  f305:=Tryz.func298.trans (congrArg some (by kernel_rfl))
  f306:=Tryz.func299.trans (congrArg some (by kernel_rfl))
  f307:=Tryz.func300.trans (congrArg some (by kernel_rfl))
  f308:=Tryz.func301.trans (congrArg some (by kernel_rfl))
  f309:=Tryz.func302.trans (congrArg some (by kernel_rfl))
  f310:=Tryz.func303.trans (congrArg some (by kernel_rfl))
  f329:=Tryz.func326.trans (congrArg some (by kernel_rfl))
  f330:=Tryz.func327.trans (congrArg some (by kernel_rfl))
  f333:=Tryz.func325.trans (congrArg some (by kernel_rfl))
  f334:=Tryz.func328.trans (congrArg some (by kernel_rfl))
  f335:=Tryz.func329.trans (congrArg some (by kernel_rfl))
  f336:=Tryz.func278.trans (congrArg some (by kernel_rfl))
  f344:=Tryz.func343.trans (congrArg some (by kernel_rfl))
  t0:=Tryz.underlying0
  a0:=Tryz.isAgg0
  z0:=Tryz.sizeOf0
  v0:=Tryz.zeroValue0
  t3:=Tryz.underlying3
  a3:=Tryz.isAgg3
  z3:=Tryz.sizeOf3
  v3:=Tryz.zeroValue3
  t4:=Tryz.underlying4
  a4:=Tryz.isAgg4
  z4:=Tryz.sizeOf4
  v4:=Tryz.zeroValue4
  t5:=Tryz.underlying5
  a5:=Tryz.isAgg5
  z5:=Tryz.sizeOf5
  v5:=Tryz.zeroValue5
  t9:=Tryz.underlying9
  a9:=Tryz.isAgg9
  z9:=Tryz.sizeOf9
  v9:=Tryz.zeroValue9
  t31:=Tryz.underlying45
  a31:=Tryz.isAgg45
  z31:=Tryz.sizeOf45
  v31:=Tryz.zeroValue45
  t46:=Tryz.underlying192
  a46:=Tryz.isAgg192
  z46:=Tryz.sizeOf192
  v46:=Tryz.zeroValue192
  t51:=Tryz.underlying264
  a51:=Tryz.isAgg264
  z51:=Tryz.sizeOf264
  v51:=Tryz.zeroValue264
  t53:=Tryz.underlying262
  a53:=Tryz.isAgg262
  z53:=Tryz.sizeOf262
  v53:=Tryz.zeroValue262
  t131:=Tryz.underlying124
  a131:=Tryz.isAgg124
  z131:=Tryz.sizeOf124
  v131:=Tryz.zeroValue124
  t182:=Tryz.underlying349
  a182:=Tryz.isAgg349
  z182:=Tryz.sizeOf349
  v182:=Tryz.zeroValue349
  t183:=Tryz.underlying350
  a183:=Tryz.isAgg350
  z183:=Tryz.sizeOf350
  v183:=Tryz.zeroValue350
  t218:=Tryz.underlying371
  a218:=Tryz.isAgg371
  z218:=Tryz.sizeOf371
  v218:=Tryz.zeroValue371
  t222:=Tryz.underlying375
  a222:=Tryz.isAgg375
  z222:=Tryz.sizeOf375
  v222:=Tryz.zeroValue375
  t228:=Tryz.underlying388
  a228:=Tryz.isAgg388
  z228:=Tryz.sizeOf388
  v228:=Tryz.zeroValue388
  t229:=Tryz.underlying389
  a229:=Tryz.isAgg389
  z229:=Tryz.sizeOf389
  v229:=Tryz.zeroValue389 }
open Go.Sort Go.RowKit in
theorem Tryz.slices_Sort_string (blk off cap:Nat) (ss:List (List UInt8)) (w:World) (hH:Holds encStr w blk off ss.toArray) (hblk:blk < w.heap.size) (hsz:ss.length < 4611686018427387904) :
    Calls Tryz.prog 174 #[.slice (some ⟨blk,off,none⟩) ss.length cap] w fun e w' =>
      e = .returned (.tuple #[]) ∧ ∃ n os,w'=grow (putRow encStr (Sort.ahead w n) blk off (ss.mergeSort fun x y=>decide (x≤y)).toArray) os:=Any.slices_Sort_string Tryz.aKK blk off cap ss w hH hblk hsz
def Tryz.aHo:Go.Shelf.Ren:=⟨fun | 194=>175 | n=>n,fun | 31=>45 | 9=>9 | 3=>3 | 4=>4 | 0=>0 | n=>n,fun | n=>n⟩
theorem Tryz.aEn:Go.Proofs.Lays.n194 Tryz.prog Tryz.aHo:={
  mixed:=by kernel_rfl
  f194:=Tryz.func175.trans (congrArg some (by kernel_rfl))
  t0:=Tryz.underlying0
  a0:=Tryz.isAgg0
  z0:=Tryz.sizeOf0
  v0:=Tryz.zeroValue0
  t3:=Tryz.underlying3
  a3:=Tryz.isAgg3
  z3:=Tryz.sizeOf3
  v3:=Tryz.zeroValue3
  t4:=Tryz.underlying4
  a4:=Tryz.isAgg4
  z4:=Tryz.sizeOf4
  v4:=Tryz.zeroValue4
  t9:=Tryz.underlying9
  a9:=Tryz.isAgg9
  z9:=Tryz.sizeOf9
  v9:=Tryz.zeroValue9
  t31:=Tryz.underlying45
  a31:=Tryz.isAgg45
  z31:=Tryz.sizeOf45
  v31:=Tryz.zeroValue45 }
open Go.RowKit Go.Lib Go.Sort in
/-- slices.Compact at []string, over an array: the library's two loops are walked. (LAID: no walk: one application.) -/
theorem Tryz.slices_Compact_string_arr (blk off cap:Nat) (d:Array (List UInt8)) (w:World) (hH:Holds encStr w blk off d) (hsz:d.size≤9223372036854775807) (hcap:d.size≤cap) :
    Calls Tryz.prog 175 #[.slice (some ⟨blk,off,none⟩) d.size cap] w fun e w'=>e = .returned (.slice (some ⟨blk,off,none⟩) (compactUpTo d d.size).length cap) ∧ ∃ q,w'=putRow encStr (Sort.ahead w q) blk off (compactUpTo d d.size++List.replicate (d.size - (compactUpTo d d.size).length) []).toArray:=Any.slices_Compact_string_arr Tryz.aEn blk off cap d w hH hsz hcap
open Go.RowKit Go.Lib Go.Sort in
/-- slices.Compact at []string: "Compact replaces consecutive runs of equal elements with a single copy. This is like the uniq command found on Unix. Compact modifies the contents of the slice s and returns the modified slice, which may have a smaller length. Compact zeroes the elements between the new length and the original length. The result preserves the nilness of s.": IT RETURNS THE SLICE CUT TO 'Lib.compact zs'; ITS CELLS HOLD 'Lib.compact zs', THEN ZERO VALUES up to the old length; all else is as it was, but for the count of draws. IN THE WORDS OF slices.Sort's CONTRACT ('Holds', 'putRow'): so the everyday 'slices.Sort(xs); xs = slices.Compact(xs)' goes from the one contract to the other. It asks 'zs.length ≤ cap' (every slice's: the reslicing 's[:k]' looks at it). Length 0, nil: '.._empty'. (LAID: no walk: one application.) -/
theorem Tryz.slices_Compact_string (blk off cap:Nat) (zs:List (List UInt8)) (w:World) (hH:Holds encStr w blk off zs.toArray) (hsz:zs.length≤9223372036854775807) (hcap:zs.length≤cap) :
    Calls Tryz.prog 175 #[.slice (some ⟨blk,off,none⟩) zs.length cap] w fun e w'=>e = .returned (.slice (some ⟨blk,off,none⟩) (Lib.compact zs).length cap) ∧ ∃ q,w'=putRow encStr (Sort.ahead w q) blk off (Lib.compact zs++List.replicate (zs.length - (Lib.compact zs).length) []).toArray:=Any.slices_Compact_string Tryz.aEn blk off cap zs w hH hsz hcap
open Go.RowKit Go.Lib Go.Sort in
/-- The same at a slice of length 0, a nil one too: it comes back as it is. (LAID: no walk: one application.) -/
theorem Tryz.slices_Compact_string_empty (a:Option Addr) (cap:Nat) (w:World) :
    Calls Tryz.prog 175 #[.slice a 0 cap] w fun e w'=>e = .returned (.slice a 0 cap)∧w'=w:=Any.slices_Compact_string_empty Tryz.aEn a cap w
open Go.RowKit Go.Sort in
/-- .. and plain. (LAID: no walk: one application.) -/
theorem Tryz.slices_Sort_string_none (p:Option Addr) (cap:Nat) (w:World) :
    Calls Tryz.prog 174 #[.slice p 0 cap] w fun e w'=>e = .returned (.tuple #[])∧w'=w:=Any.slices_Sort_string_none Tryz.aKK p cap w
end Go.Proofs
end

section
namespace Go.Proofs
open Go.Shelf
def Tryz.aAH:Go.Shelf.Ren:=⟨fun | 7=>245 | 10=>290 | n=>n,fun | 23=>293 | 26=>9 | 3=>4 | 28=>296 | 0=>0 | 27=>295 | 33=>132 | 4=>4 | n=>n,fun | n=>n⟩
theorem Tryz.aKG:Go.Proofs.SlLaysZ.n7 Tryz.prog Tryz.aAH:={
  mixed:=by kernel_rfl
  f7:=⟨Tryz.f245.name,by decide,Tryz.func245.trans (congrArg some (by kernel_rfl))⟩
  f10:=⟨Tryz.f290.name,by decide,Tryz.func290.trans (congrArg some (by kernel_rfl))⟩
  t0:=Tryz.underlying0
  a0:=Tryz.isAgg0
  z0:=Tryz.sizeOf0
  v0:=Tryz.zeroValue0
  t4:=Tryz.underlying4
  a4:=Tryz.isAgg4
  z4:=Tryz.sizeOf4
  v4:=Tryz.zeroValue4
  t23:=Tryz.underlying293
  a23:=Tryz.isAgg293
  z23:=Tryz.sizeOf293
  v23:=Tryz.zeroValue293
  t26:=Tryz.underlying9
  a26:=Tryz.isAgg9
  z26:=Tryz.sizeOf9
  v26:=Tryz.zeroValue9
  t27:=Tryz.underlying295
  a27:=Tryz.isAgg295
  z27:=Tryz.sizeOf295
  v27:=Tryz.zeroValue295
  t28:=Tryz.underlying296
  a28:=Tryz.isAgg296
  z28:=Tryz.sizeOf296
  v28:=Tryz.zeroValue296
  t33:=Tryz.underlying132
  a33:=Tryz.isAgg132
  z33:=Tryz.sizeOf132
  v33:=Tryz.zeroValue132 }
def Tryz.US:Go.Shelf.Ren:=⟨fun | 6=>244 | 8=>289 | 9=>174 | 11=>322 | 13=>252 | 12=>251 | 23=>304 | 24=>305 | 14=>295 | 15=>296 | 16=>297 | 17=>298 | 18=>299 | 19=>300 | 20=>301 | 21=>302 | 22=>303 | 25=>325 | 26=>326 | 27=>327 | 28=>328 | 29=>329 | 30=>278 | 31=>343 | n=>n,fun | 26=>9 | 28=>296 | 24=>45 | 0=>0 | 3=>3 | 37=>192 | 48=>264 | 50=>262 | 4=>4 | 40=>350 | 39=>349 | 45=>124 | 5=>5 | 9=>9 | 51=>371 | 55=>375 | 57=>388 | 58=>389 | 33=>132 | n=>n,fun | n=>n⟩
theorem Tryz.aMe:Go.Proofs.SlLaysZ.n6 Tryz.prog Tryz.US:={
  mixed:=by kernel_rfl
  f6:=⟨Tryz.f244.name,by decide,Tryz.func244.trans (congrArg some (by kernel_rfl))⟩
  f8:=⟨Tryz.f289.name,by decide,Tryz.func289.trans (congrArg some (by kernel_rfl))⟩
  f11:=⟨Tryz.f322.name,by decide,Tryz.func322.trans (congrArg some (by kernel_rfl))⟩
  t0:=Tryz.underlying0
  a0:=Tryz.isAgg0
  z0:=Tryz.sizeOf0
  v0:=Tryz.zeroValue0
  t24:=Tryz.underlying45
  a24:=Tryz.isAgg45
  z24:=Tryz.sizeOf45
  v24:=Tryz.zeroValue45
  t26:=Tryz.underlying9
  a26:=Tryz.isAgg9
  z26:=Tryz.sizeOf9
  v26:=Tryz.zeroValue9
  t28:=Tryz.underlying296
  a28:=Tryz.isAgg296
  z28:=Tryz.sizeOf296
  v28:=Tryz.zeroValue296
  i26:=by kernel_rfl }
def Tryz.aHy:Go.Shelf.Ren:=⟨fun | 6=>174 | 8=>252 | 9=>251 | 19=>304 | 20=>305 | 21=>295 | 22=>296 | 23=>297 | 24=>298 | 25=>299 | 26=>300 | 27=>301 | 28=>302 | 29=>303 | 36=>325 | 31=>326 | 32=>327 | 37=>328 | 38=>329 | 39=>278 | 41=>343 | n=>n,fun | 27=>45 | 29=>9 | 3=>3 | 32=>192 | 26=>45 | 0=>0 | 44=>264 | 46=>262 | 4=>4 | 36=>350 | 35=>349 | 41=>124 | 5=>5 | 9=>9 | 53=>371 | 57=>375 | 63=>388 | 64=>389 | n=>n,fun | n=>n⟩
theorem Tryz.aLQ:Go.Proofs.SlLaysM.n6 Tryz.prog Tryz.aHy:={
  mixed:=by kernel_rfl
  f6:=⟨Tryz.f174.name,by decide,Tryz.func174.trans (congrArg some (by kernel_rfl))⟩
  f8:=Tryz.func252.trans (congrArg some (by kernel_rfl))
  f9:=⟨Tryz.f251.name,by decide,Tryz.func251.trans (congrArg some (by kernel_rfl))⟩
  f19:=Tryz.func304.trans (congrArg some (by kernel_rfl))
  f20:=Tryz.func305.trans (congrArg some (by kernel_rfl))
  f21:=⟨Tryz.f295.name,by decide,Tryz.func295.trans (congrArg some (by kernel_rfl))⟩
  f22:=⟨Tryz.f296.name,by decide,Tryz.func296.trans (congrArg some (by kernel_rfl))⟩
  f23:=⟨Tryz.f297.name,by decide,Tryz.func297.trans (congrArg some (by kernel_rfl))⟩
  f24:=⟨Tryz.f298.name,by decide,Tryz.func298.trans (congrArg some (by kernel_rfl))⟩
  f25:=⟨Tryz.f299.name,by decide,Tryz.func299.trans (congrArg some (by kernel_rfl))⟩
  f26:=⟨Tryz.f300.name,by decide,Tryz.func300.trans (congrArg some (by kernel_rfl))⟩
  f27:=⟨Tryz.f301.name,by decide,Tryz.func301.trans (congrArg some (by kernel_rfl))⟩
  f28:=⟨Tryz.f302.name,by decide,Tryz.func302.trans (congrArg some (by kernel_rfl))⟩
  f29:=⟨Tryz.f303.name,by decide,Tryz.func303.trans (congrArg some (by kernel_rfl))⟩
  f31:=Tryz.func326.trans (congrArg some (by kernel_rfl))
  f32:=Tryz.func327.trans (congrArg some (by kernel_rfl))
  f36:=⟨Tryz.f325.name,by decide,Tryz.func325.trans (congrArg some (by kernel_rfl))⟩
  f37:=⟨Tryz.f328.name,by decide,Tryz.func328.trans (congrArg some (by kernel_rfl))⟩
  f38:=⟨Tryz.f329.name,by decide,Tryz.func329.trans (congrArg some (by kernel_rfl))⟩
  f39:=⟨Tryz.f278.name,by decide,Tryz.func278.trans (congrArg some (by kernel_rfl))⟩
  f41:=⟨Tryz.f343.name,by decide,Tryz.func343.trans (congrArg some (by kernel_rfl))⟩
  t0:=Tryz.underlying0
  a0:=Tryz.isAgg0
  z0:=Tryz.sizeOf0
  v0:=Tryz.zeroValue0
  t3:=Tryz.underlying3
  a3:=Tryz.isAgg3
  z3:=Tryz.sizeOf3
  v3:=Tryz.zeroValue3
  t4:=Tryz.underlying4
  a4:=Tryz.isAgg4
  z4:=Tryz.sizeOf4
  v4:=Tryz.zeroValue4
  t5:=Tryz.underlying5
  a5:=Tryz.isAgg5
  z5:=Tryz.sizeOf5
  v5:=Tryz.zeroValue5
  t9:=Tryz.underlying9
  a9:=Tryz.isAgg9
  z9:=Tryz.sizeOf9
  v9:=Tryz.zeroValue9
  t26:=Tryz.underlying45
  a26:=Tryz.isAgg45
  z26:=Tryz.sizeOf45
  v26:=Tryz.zeroValue45
  t27:=Tryz.underlying45
  a27:=Tryz.isAgg45
  z27:=Tryz.sizeOf45
  v27:=Tryz.zeroValue45
  t29:=Tryz.underlying9
  a29:=Tryz.isAgg9
  z29:=Tryz.sizeOf9
  v29:=Tryz.zeroValue9
  t32:=Tryz.underlying192
  a32:=Tryz.isAgg192
  z32:=Tryz.sizeOf192
  v32:=Tryz.zeroValue192
  t35:=Tryz.underlying349
  a35:=Tryz.isAgg349
  z35:=Tryz.sizeOf349
  v35:=Tryz.zeroValue349
  t36:=Tryz.underlying350
  a36:=Tryz.isAgg350
  z36:=Tryz.sizeOf350
  v36:=Tryz.zeroValue350
  t41:=Tryz.underlying124
  a41:=Tryz.isAgg124
  z41:=Tryz.sizeOf124
  v41:=Tryz.zeroValue124
  t44:=Tryz.underlying264
  a44:=Tryz.isAgg264
  z44:=Tryz.sizeOf264
  v44:=Tryz.zeroValue264
  t46:=Tryz.underlying262
  a46:=Tryz.isAgg262
  z46:=Tryz.sizeOf262
  v46:=Tryz.zeroValue262
  t53:=Tryz.underlying371
  a53:=Tryz.isAgg371
  z53:=Tryz.sizeOf371
  v53:=Tryz.zeroValue371
  t57:=Tryz.underlying375
  a57:=Tryz.isAgg375
  z57:=Tryz.sizeOf375
  v57:=Tryz.zeroValue375
  t63:=Tryz.underlying388
  a63:=Tryz.isAgg388
  z63:=Tryz.sizeOf388
  v63:=Tryz.zeroValue388
  t64:=Tryz.underlying389
  a64:=Tryz.isAgg389
  z64:=Tryz.sizeOf389
  v64:=Tryz.zeroValue389 }
open Go.RowKit Go.Maps Go.Sort
theorem Tryz.aSY (m:Nat):AnyZ.SortsIn Tryz.prog Tryz.US Fence.wide m :=
  ⟨fun blk off cap ss W hH hblk hsz=>callsIn_wide.2 (AnyM.slices_Sort_string Tryz.aLQ blk off cap ss W hH hblk hsz),
   fun p cap W=>callsIn_wide.2 (AnyM.slices_Sort_string_none Tryz.aLQ p cap W)⟩
theorem Tryz.aEp (mb:Option Nat) (W:World):CallsIn Fence.wide 5 Tryz.prog 245 #[.map mb] W fun e w'=>e = .returned (.func (.func 290) #[] #[.pointer (some ⟨W.heap.size,0,none⟩)])∧w'=W.alloc (.cells #[.map mb] 293) :=
  AnyZ.keys_in Tryz.aKG Fence.wide 5 trivial rfl mb W
set_option maxHeartbeats 1000000 in
 theorem Tryz.sortedKeys_244_245 {H:Type} (Bm b nn:Nat) (D0:DataW H) (R:Value→Option (DataW H×List MemPlace)) (w:World) (hBm:Bm < w.heap.size) (hm:w.cell? ⟨Bm,0,none⟩=some (.map (some b))) (hown:w.ownsMap Tryz.prog 9 R b nn D0) (hmax:Maps.size D0≤maxLen) (hbytes:Maps.size D0*16≤140737488355328) :
 Calls Tryz.prog 244 #[.func (.func 290) #[] #[.pointer (some ⟨Bm,0,none⟩)]] w fun e w' => ∃ (v:Value) (ss:List (List UInt8)),e = .returned v∧ss.Perm (strKeys D0) ∧
 w'.ownsRow w.heap.size 9 1 v ss.length ((ss.mergeSort (fun x y=>decide (x≤y))).map encStr)∧(v = .slice none 0 0↔ss=[])∧Below w.heap.size w w':=by
 have hseq:SeqGives Fence.wide 2 Tryz.prog 290 #[.pointer (some ⟨Bm,0,none⟩)] encStr (fun ss=>ss.Perm (strKeys D0)) (Maps.size D0) w :=
   AnyZ.keys_gives (ρ:=Tryz.aAH) { Tryz.aKG with } Fence.wide _ trivial rfl (by omega) Bm b nn D0 _ hBm hm hown
 exact (callsIn_wide (n:=5)).1 (AnyZ.sorted_in Tryz.aMe Fence.wide 5 trivial trivial trivial trivial rfl (by omega) (Tryz.aSY _) (enters_of Tryz.func174 (by kernel_rfl) rfl) 290 #[.pointer (some ⟨Bm,0,none⟩)] trivial (enters_of Tryz.func290 (by kernel_rfl) rfl) _ _ hmax hbytes _ hseq)
theorem Tryz.aGO (mb:Option Nat) (W:World):Calls Tryz.prog 245 #[.map mb] W fun e w'=>e = .returned (.func (.func 290) #[] #[.pointer (some ⟨W.heap.size,0,none⟩)])∧w'=W.alloc (.cells #[.map mb] 293) :=
  (callsIn_wide (n:=5)).1 (Tryz.aEp mb W)
end Go.Proofs
end

section
namespace Go.V
open Go.RowKit Go.S
def aCj (g:Nat):Mo:=⟨fun h => ∃ m cs t f,h g=some (.cells cs t f)∧cs[0]? = some (.int .i64 m),fun k ⟨m,cs,t,f,e,q⟩=>⟨m,cs,t,f,k _ _ e,q⟩⟩
theorem aCj.cell {g:Nat} {h:Hp} {w:World} (m:(aCj g).on h) (l:h.le (wh w)) : ∃ m,w.cell? ⟨g,0,none⟩=some (.int .i64 m):=by
 obtain ⟨m,cs,t,f,e,q⟩:=m
 have:=l _ _ e
 unfold wh at this
 exact ⟨m,by simp [World.cell?,this,q]⟩
theorem aCj.aVk {g:Nat} {w:World} (h : ∃ m,w.cell? ⟨g,0,none⟩=some (.int .i64 m)):(aCj g).on (wh w):=by
 obtain ⟨m,h⟩:=h
 unfold World.cell? at h
 dsimp only at h
 split at h
 ·
  next c t f hc=>exact ⟨m,c,t,f,hc,by simpa using h⟩
 cases h
end Go.V
end

section
namespace Go.V
open Go.RowKit
open Go.S
instance:O0:=⟨68,78⟩
@[reducible] def Gl:Mo:=((O1 4 (Lib.pow10Tab.map fun z=>Value.int .u64 z).toArray).and ((O1 1 #[.iface 333 (.agg #[.pointer (some ⟨7,28,none⟩)])]).and (aCj 0)))
instance:bB aC:=⟨3,fun x=>[str x.path,i64 x.mode,str x.data],fun _=>rfl,fun _ u h=>by simp only [List.mem_cons,List.not_mem_nil,or_false] at h; rcases h with rfl | rfl | rfl <;> first | rfl | exact Er.one _,fun _=>Mo.tt⟩
instance:Flat aC:=⟨fun _=>rfl⟩
instance:bB dP:=⟨2,fun x=>[str x.name,i64 x.cF],fun _=>rfl,fun _ u h=>by simp only [List.mem_cons,List.not_mem_nil,or_false] at h; rcases h with rfl | rfl <;> first | rfl | exact Er.one _,fun _=>Mo.tt⟩
instance:Flat dP:=⟨fun _=>rfl⟩
instance:bB IndexEntry:=⟨6,fun x=>[str x.path,i64 x.fA,i64 x.mode,str x.data,i64 x.time,i64 x.size],fun _=>rfl,fun _ u h=>by simp only [List.mem_cons,List.not_mem_nil,or_false] at h; rcases h with rfl | rfl | rfl | rfl | rfl | rfl <;> first | rfl | exact Er.one _,fun _=>Mo.tt⟩
instance:Flat IndexEntry:=⟨fun _=>rfl⟩
structure bN where
  base:Int
  index:Sv aC
  work:Sv aC
  text:bI
@[reducible] def bN.m (x:bN):Mo:=(x.index.ok.and x.work.ok)
@[reducible] def bN.pl (x:bN):dA:=⟨x.base,x.index.l,x.work.l,x.text⟩
instance:bB bN:=⟨4,fun x=>[i64 x.base,x.index.val,x.work.val,str x.text],fun _=>rfl,fun _ u h=>by simp only [List.mem_cons,List.not_mem_nil,or_false] at h; rcases h with rfl | rfl | rfl | rfl <;> first | rfl | exact Er.one _,bN.m⟩
instance:bB iV:=⟨4,fun x=>[str x.line,str x.path,str x.data,.bool x.gone],fun _=>rfl,fun _ u h=>by simp only [List.mem_cons,List.not_mem_nil,or_false] at h; rcases h with rfl | rfl | rfl | rfl <;> first | rfl | exact Er.one _,fun _=>Mo.tt⟩
instance:Flat iV:=⟨fun _=>rfl⟩
instance:bB bJ:=⟨3,fun x=>[str x.verb,i64 x.cF,str x.text],fun _=>rfl,fun _ u h=>by simp only [List.mem_cons,List.not_mem_nil,or_false] at h; rcases h with rfl | rfl | rfl <;> first | rfl | exact Er.one _,fun _=>Mo.tt⟩
instance:Flat bJ:=⟨fun _=>rfl⟩
structure cD where
  tree:Sv aC
  parents:Sv Int
  time:Int
  text:bI
@[reducible] def cD.m (x:cD):Mo:=(x.tree.ok.and x.parents.ok)
@[reducible] def cD.pl (x:cD):fB:=⟨x.tree.l,x.parents.l,x.time,x.text⟩
instance:bB cD:=⟨4,fun x=>[x.tree.val,x.parents.val,i64 x.time,str x.text],fun _=>rfl,fun _ u h=>by simp only [List.mem_cons,List.not_mem_nil,or_false] at h; rcases h with rfl | rfl | rfl | rfl <;> first | rfl | exact Er.one _,cD.m⟩
structure aL where
  aU:Sv aC
  aS:Sv IndexEntry
  aZ:Sv dP
  aH:bI
  aG:Int
  aR:bI
  aM:Int
  aT:bI
  aN:Sv bJ
  aP:Sv bJ
  aO:Int
  aJ:bI
  aD:bI
  aE:Int
  aK:Sv IndexEntry
  aQ:Sv aC
  aW:Sv bN
  aX:Sv cD
  bF:Sv bI
  aY:Sv bI
  time:Int
@[reducible] def aL.m (x:aL):Mo:=(x.aU.ok.and (x.aS.ok.and (x.aZ.ok.and (x.aN.ok.and (x.aP.ok.and (x.aK.ok.and (x.aQ.ok.and (x.aW.ok.and (x.aX.ok.and (x.bF.ok.and x.aY.ok))))))))))
@[reducible] def aL.pl (x:aL):aF:=⟨x.aU.l,x.aS.l,x.aZ.l,x.aH,x.aG,x.aR,x.aM,x.aT,x.aN.l,x.aP.l,x.aO,x.aJ,x.aD,x.aE,x.aK.l,x.aQ.l,(x.aW.l.map bN.pl),(x.aX.l.map cD.pl),x.bF.l,x.aY.l,x.time⟩
instance:bB aL:=⟨21,fun x=>[x.aU.val,x.aS.val,x.aZ.val,str x.aH,i64 x.aG,str x.aR,i64 x.aM,str x.aT,x.aN.val,x.aP.val,i64 x.aO,str x.aJ,str x.aD,i64 x.aE,x.aK.val,x.aQ.val,x.aW.val,x.aX.val,x.bF.val,x.aY.val,i64 x.time],fun _=>rfl,fun _ u h=>by simp only [List.mem_cons,List.not_mem_nil,or_false] at h; rcases h with rfl | rfl | rfl | rfl | rfl | rfl | rfl | rfl | rfl | rfl | rfl | rfl | rfl | rfl | rfl | rfl | rfl | rfl | rfl | rfl | rfl <;> first | rfl | exact Er.one _,aL.m⟩
structure dX where
  eZ:Sv UInt8
@[reducible] def dX.m (x:dX):Mo:=x.eZ.ok
@[reducible] def dX.pl (x:dX):dV:=⟨x.eZ.l⟩
instance:bB dX:=⟨1,fun x=>[x.eZ.val],fun _=>rfl,fun _ u h=>by simp only [List.mem_cons,List.not_mem_nil,or_false] at h; rcases h with rfl <;> first | rfl | exact Er.one _,dX.m⟩
structure iY where
  work:Sv aC
  index:Sv IndexEntry
  refs:Sv dP
  cH:bI
  cB:Int
  fG:bI
  eO:Int
  fH:bI
  dJ:Sv bJ
  eB:Sv bJ
  fD:Int
  dW:bI
  bV:bI
  bW:Int
  dK:Sv IndexEntry
  eD:Sv aC
  gD:Sv bN
@[reducible] def iY.m (x:iY):Mo:=(x.work.ok.and (x.index.ok.and (x.refs.ok.and (x.dJ.ok.and (x.eB.ok.and (x.dK.ok.and (x.eD.ok.and x.gD.ok)))))))
@[reducible] def iY.pl (x:iY):eS:=⟨x.work.l,x.index.l,x.refs.l,x.cH,x.cB,x.fG,x.eO,x.fH,x.dJ.l,x.eB.l,x.fD,x.dW,x.bV,x.bW,x.dK.l,x.eD.l,(x.gD.l.map bN.pl)⟩
instance:bB iY:=⟨17,fun x=>[x.work.val,x.index.val,x.refs.val,str x.cH,i64 x.cB,str x.fG,i64 x.eO,str x.fH,x.dJ.val,x.eB.val,i64 x.fD,str x.dW,str x.bV,i64 x.bW,x.dK.val,x.eD.val,x.gD.val],fun _=>rfl,fun _ u h=>by simp only [List.mem_cons,List.not_mem_nil,or_false] at h; rcases h with rfl | rfl | rfl | rfl | rfl | rfl | rfl | rfl | rfl | rfl | rfl | rfl | rfl | rfl | rfl | rfl | rfl <;> first | rfl | exact Er.one _,iY.m⟩
instance:bB l5:=⟨2,fun x=>[str x.branch,i64 x.cF],fun _=>rfl,fun _ u h=>by simp only [List.mem_cons,List.not_mem_nil,or_false] at h; rcases h with rfl | rfl <;> first | rfl | exact Er.one _,fun _=>Mo.tt⟩
instance:Flat l5:=⟨fun _=>rfl⟩
structure uC where
  kind:bI
  other:Int
  text:bI
  HP:Sv bJ
  todo:Sv bJ
  made:Int
  branch:bI
  cH:bI
  cB:Int
  index:Sv IndexEntry
  work:Sv aC
@[reducible] def uC.m (x:uC):Mo:=(x.HP.ok.and (x.todo.ok.and (x.index.ok.and x.work.ok)))
@[reducible] def uC.pl (x:uC):qJ:=⟨x.kind,x.other,x.text,x.HP.l,x.todo.l,x.made,x.branch,x.cH,x.cB,x.index.l,x.work.l⟩
instance:bB uC:=⟨11,fun x=>[str x.kind,i64 x.other,str x.text,x.HP.val,x.todo.val,i64 x.made,str x.branch,str x.cH,i64 x.cB,x.index.val,x.work.val],fun _=>rfl,fun _ u h=>by simp only [List.mem_cons,List.not_mem_nil,or_false] at h; rcases h with rfl | rfl | rfl | rfl | rfl | rfl | rfl | rfl | rfl | rfl | rfl <;> first | rfl | exact Er.one _,uC.m⟩
structure bT where
  b:Sv UInt8
  at_:Int
  err:Er
@[reducible] def bT.m (x:bT):Mo:=(x.b.ok.and x.err.ok)
@[reducible] def bT.pl (x:bT):bA:=⟨x.b.l,x.at_,x.err.pl⟩
instance:bB bT:=⟨3,fun x=>[x.b.val,i64 x.at_,x.err.val],fun _=>rfl,fun _ u h=>by simp only [List.mem_cons,List.not_mem_nil,or_false] at h; rcases h with rfl | rfl | rfl <;> first | rfl | exact Er.one _,bT.m⟩
structure l8 where
  verb:bI
  name:bI
  n:Int
  text:bI
  force:Bool
  todo:Sv bJ
@[reducible] def l8.m (x:l8):Mo:=x.todo.ok
@[reducible] def l8.pl (x:l8):fO:=⟨x.verb,x.name,x.n,x.text,x.force,x.todo.l⟩
instance:bB l8:=⟨6,fun x=>[str x.verb,str x.name,i64 x.n,str x.text,.bool x.force,x.todo.val],fun _=>rfl,fun _ u h=>by simp only [List.mem_cons,List.not_mem_nil,or_false] at h; rcases h with rfl | rfl | rfl | rfl | rfl | rfl <;> first | rfl | exact Er.one _,l8.m⟩
structure cQ where
  files:Sv aC
  entries:Sv IndexEntry
  conflicts:Sv bI
@[reducible] def cQ.m (x:cQ):Mo:=(x.files.ok.and (x.entries.ok.and x.conflicts.ok))
@[reducible] def cQ.pl (x:cQ):cW:=⟨x.files.l,x.entries.l,x.conflicts.l⟩
instance:bB cQ:=⟨3,fun x=>[x.files.val,x.entries.val,x.conflicts.val],fun _=>rfl,fun _ u h=>by simp only [List.mem_cons,List.not_mem_nil,or_false] at h; rcases h with rfl | rfl | rfl <;> first | rfl | exact Er.one _,cQ.m⟩
instance:bB lB:=⟨4,fun x=>[str x.bU,i64 x.cK,str x.bS,.bool x.is],fun _=>rfl,fun _ u h=>by simp only [List.mem_cons,List.not_mem_nil,or_false] at h; rcases h with rfl | rfl | rfl | rfl <;> first | rfl | exact Er.one _,fun _=>Mo.tt⟩
instance:Flat lB:=⟨fun _=>rfl⟩
structure iM where
  base:Sv bI
  ours:Sv bI
  cR:Sv bI
  pF:Bool
  out:Sv bI
@[reducible] def iM.m (x:iM):Mo:=(x.base.ok.and (x.ours.ok.and (x.cR.ok.and x.out.ok)))
@[reducible] def iM.pl (x:iM):o4:=⟨x.base.l,x.ours.l,x.cR.l,x.pF,x.out.l⟩
instance:bB iM:=⟨5,fun x=>[x.base.val,x.ours.val,x.cR.val,.bool x.pF,x.out.val],fun _=>rfl,fun _ u h=>by simp only [List.mem_cons,List.not_mem_nil,or_false] at h; rcases h with rfl | rfl | rfl | rfl | rfl <;> first | rfl | exact Er.one _,iM.m⟩
structure r9 where
  a:Sv bI
  b:Sv bI
  n:Sv Int
@[reducible] def r9.m (x:r9):Mo:=(x.a.ok.and (x.b.ok.and x.n.ok))
@[reducible] def r9.pl (x:r9):oA:=⟨x.a.l,x.b.l,x.n.l⟩
instance:bB r9:=⟨3,fun x=>[x.a.val,x.b.val,x.n.val],fun _=>rfl,fun _ u h=>by simp only [List.mem_cons,List.not_mem_nil,or_false] at h; rcases h with rfl | rfl | rfl <;> first | rfl | exact Er.one _,r9.m⟩
instance:bB iL:=⟨2,fun x=>[i64 x.op,str x.line],fun _=>rfl,fun _ u h=>by simp only [List.mem_cons,List.not_mem_nil,or_false] at h; rcases h with rfl | rfl <;> first | rfl | exact Er.one _,fun _=>Mo.tt⟩
instance:Flat iL:=⟨fun _=>rfl⟩
instance:bB gC:=⟨3,fun x=>[i64 x.a,i64 x.b,i64 x.n],fun _=>rfl,fun _ u h=>by simp only [List.mem_cons,List.not_mem_nil,or_false] at h; rcases h with rfl | rfl | rfl <;> first | rfl | exact Er.one _,fun _=>Mo.tt⟩
instance:Flat gC:=⟨fun _=>rfl⟩
instance:bB D2:=⟨4,fun x=>[str x.bU,i64 x.cK,str x.bS,.bool x.is],fun _=>rfl,fun _ u h=>by simp only [List.mem_cons,List.not_mem_nil,or_false] at h; rcases h with rfl | rfl | rfl | rfl <;> first | rfl | exact Er.one _,fun _=>Mo.tt⟩
instance:Flat D2:=⟨fun _=>rfl⟩
structure oH where
  back:Sv bI
  kR:Sv bI
@[reducible] def oH.m (x:oH):Mo:=(x.back.ok.and x.kR.ok)
@[reducible] def oH.pl (x:oH):o9:=⟨x.back.l,x.kR.l⟩
instance:bB oH:=⟨2,fun x=>[x.back.val,x.kR.val],fun _=>rfl,fun _ u h=>by simp only [List.mem_cons,List.not_mem_nil,or_false] at h; rcases h with rfl | rfl <;> first | rfl | exact Er.one _,oH.m⟩
end Go.V
end

section
namespace Go.V
open Go.RowKit
variable {P:Program} {N:Nat} {c:Cx} {ops:Array Oper} {Q Q1:Exit→Act→World→Prop} {rest:List Oper} {ρ:Env} {M:Mo} {E:Ow} {v u:Value} {d:Nat} {ty:TypeId} {pos:String} {after:Array Edge} {x y z:Operand} {q p:Code}
theorem Zm (k:VL P N c ops Q rest ((d,v)::ρ) M E) (e:ρ.ev x=some v:=by exact rfl) (hd:d < N:=by decide):VL P N c ops Q (⟨some d,.move x,ty,pos,after,none⟩::rest) ρ M E:=VL.q (fR e) hd k
theorem Za (k:VL P N c ops Q rest ((d,v)::ρ) M E) (e:ρ.ev x=some v:=by exact rfl) (hd:d < N:=by decide):VL P N c ops Q (⟨some d,.assign x,ty,pos,after,none⟩::rest) ρ M E:=VL.q (uD e) hd k
theorem Zf (k:VL P N c ops Q rest ((d,u)::ρ) M E) (e:ρ.ev x=some (.bool false):=by exact rfl) (h1:ρ.ev z=some u:=by exact rfl) (hd:d < N:=by decide):VL P N c ops Q (⟨some d,.pick x y z,ty,pos,after,none⟩::rest) ρ M E:=VL.q (DJ e h1) hd k
theorem Zt (k:VL P N c ops Q rest ((d,u)::ρ) M E) (e:ρ.ev x=some (.bool true):=by exact rfl) (h1:ρ.ev y=some u:=by exact rfl) (hd:d < N:=by decide):VL P N c ops Q (⟨some d,.pick x y z,ty,pos,after,none⟩::rest) ρ M E:=VL.q (H6 e h1) hd k
theorem Zn {op:Op} {j t:Nat} {w b:Bool} (k:VL P N c ops Q rest ((d,undef)::ρ) M E) (hj:(ops[j]?).bind (·.dst)=some t:=by exact rfl) (hb:ρ.get t=some (.bool b):=by exact rfl) (hw:(b==w)=false:=by exact rfl) (hd:d < N:=by decide) :
    VL P N c ops Q (⟨some d,op,ty,pos,after,some (j,w)⟩::rest) ρ M E:=VL.gn hj hb hw hd k
theorem Zg {j t:Nat} {w:Bool} (k:VL P N c ops Q rest ((d,v)::ρ) M E) (hj:(ops[j]?).bind (·.dst)=some t:=by exact rfl) (hb:ρ.get t=some (.bool w):=by exact rfl) (e:ρ.ev x=some v:=by exact rfl) (hd:d < N:=by decide) :
    VL P N c ops Q (⟨some d,.move x,ty,pos,after,some (j,w)⟩::rest) ρ M E:=VL.gy hj hb (fR e) hd k
theorem Zs {s s':List UInt8} {t t':TypeId} (k:VL P N c ops Q rest ((d,.bool (decide (s=s')))::ρ) M E) (e1:ρ.ev x=some (str s):=by exact rfl) (e2:ρ.ev y=some (str s'):=by exact rfl) (hd:d < N:=by decide):VL P N c ops Q (⟨some d,.binOp .eql t x y t',ty,pos,after,none⟩::rest) ρ M E:=VL.q (UL e1 e2) hd k
theorem Zl (h:VC P N c Q1 q ρ M E) (e : ∀ a w,q.wp P Q1 a w→Q .normal a w:=by exact fun _ _ h=>h):VL P N c ops Q [] ρ M E:=VL.to e h
theorem Zk (h:VC P N c Q1 q ρ M E) (e : ∀ a w,q.wp P Q1 a w→Q .normal a w:=by exact fun _ _ h=>h):VC P N c Q .skip ρ M E:=VC.aAf e h
theorem Zx {id:Nat} (h:VC P N c Q1 q ρ M E) (e : ∀ a w,q.wp P Q1 a w→Q (.exit id) a w:=by exact fun _ _ h=>h):VC P N c Q (.exit id) ρ M E:=VC.aJU e h
theorem Zq (h:VC P N c (Exit.then (q.wp P Q) Q) p ρ M E):VC P N c Q (.seq p q) ρ M E:=VC.seq h
theorem Zr {id:Nat} {l:List Oper} (h:VL P N c l.toArray Q l ρ M E):VC P N c Q (.region id l.toArray false) ρ M E:=VC.region h
theorem Zb {id:Nat} {b:Code} (h:VC P N c (Exit.inBlock id Q) b ρ M E):VC P N c Q (.block id b) ρ M E:=VC.block h
theorem Zd {op:Op} {k j t:Nat} {w b:Bool} {r:List (Nat×Bool)} {D:List (Nat×Value)} (n:VD P N c ops Q r (D3 ops k undef D) ((d,undef)::ρ) M E) (hk:ops[k]? = some ⟨some d,op,ty,pos,after,some (j,w)⟩:=by exact rfl) (hj:(ops[j]?).bind (·.dst)=some t:=by exact rfl) (hb:ρ.get t=some (.bool b):=by exact rfl) (hw:(b==w)=false:=by exact rfl) (hd:d < N:=by decide) :
    VD P N c ops Q ((k,true)::r) D ρ M E:=VD.gn hk hj hb hw hd n
theorem Ze {t:Nat} {fn:Func} {val:Unit→Value} (e : ∀ a w,bodyPost P fn (fun en w' => ∃ r,en = .returned r∧Post val (fun _=>True) (fun _=>Mo.tt) (fun _=>Ow.emp) c r w') .ret a w→Q .ret a w:=by exact fun _ _ h=>h)
    (hres:fn.results = #[.tmp t]:=by exact rfl) (ht:ρ.get t=some v:=by exact rfl) (hv:v=val ():=by exact rfl):VC P N c Q .ret ρ M E :=
  VC.ret fun a w x y=>e a w (GI (.inr rfl) hres ht () hv trivial (fun _ _=>trivial) (fun _ _=>trivial) a w x y)
theorem Zu {op:Op} (h:Qt P N c ⟨some d,op,ty,pos,after,none⟩ v ρ M E) (k:VL P N c ops Q rest ((d,v)::ρ) M E) (hd:d < N:=by decide):VL P N c ops Q (⟨some d,op,ty,pos,after,none⟩::rest) ρ M E:=VL.q h hd k
theorem Zh {op:Op} {j t:Nat} {w:Bool} (h:Qt P N c ⟨some d,op,ty,pos,after,some (j,w)⟩ v ρ M E) (k:VL P N c ops Q rest ((d,v)::ρ) M E) (hj:(ops[j]?).bind (·.dst)=some t:=by exact rfl) (hb:ρ.get t=some (.bool w):=by exact rfl) (hd:d < N:=by decide):VL P N c ops Q (⟨some d,op,ty,pos,after,some (j,w)⟩::rest) ρ M E:=VL.gy hj hb h hd k
theorem Zw {k:Nat} {op:Op} {r:List (Nat×Bool)} {D:List (Nat×Value)} (hk:ops[k]? = some ⟨some d,op,ty,pos,after,none⟩) (h:Qt P N c ⟨some d,op,ty,pos,after,none⟩ v ρ M E) (n:VD P N c ops Q r (D3 ops k v D) ((d,v)::ρ) M E) (hd:d < N:=by decide):VD P N c ops Q ((k,true)::r) D ρ M E:=VD.q hk h hd n
theorem Zi {op:Op} {k j t:Nat} {w:Bool} {r:List (Nat×Bool)} {D:List (Nat×Value)} (hk:ops[k]? = some ⟨some d,op,ty,pos,after,some (j,w)⟩) (h:Qt P N c ⟨some d,op,ty,pos,after,some (j,w)⟩ v ρ M E) (n:VD P N c ops Q r (D3 ops k v D) ((d,v)::ρ) M E) (hj:(ops[j]?).bind (·.dst)=some t:=by exact rfl) (hb:ρ.get t=some (.bool w):=by exact rfl) (hd:d < N:=by decide):VD P N c ops Q ((k,true)::r) D ρ M E:=VD.gy hk hj hb h hd n
theorem aVY {R:Type} {b:Bool} {A B:Option R} {r:R} (hc:b=false) (h:(if b=true then A else B)=some r):B=some r:=by subst hc; exact h
section
variable {R:Type} {φ:Prop} [Decidable φ] {A B:Option R} {r:R} {b:Bool}
theorem Zc (hS:(if φ then A else B)=some r) (h1:φ→A=some r→VC P N c Q p ρ M E) (h2 : ¬ φ→B=some r→VC P N c Q q ρ M E) (e:ρ.ev x=some (.bool (decide φ)):=by exact rfl):VC P N c Q (.cond x p q) ρ M E:=VC.mY e (fun h=>h1 h (Go.S.KR h hS)) (fun h=>h2 h (Go.S.W7 h hS))
theorem qD (hS:(if φ then A else B)=some r) (h1 : ¬ φ→B=some r→VC P N c Q p ρ M E) (h2:φ→A=some r→VC P N c Q q ρ M E) (e:ρ.ev x=some (.bool (!decide φ)):=by exact rfl):VC P N c Q (.cond x p q) ρ M E:=VC.aLq e (fun h=>h1 h (Go.S.W7 h hS)) (fun h=>h2 h (Go.S.KR h hS))
theorem iG (hS:(if b=true then A else B)=some r) (h1:b=true→A=some r→VC P N c Q p ρ M E) (h2:b=false→B=some r→VC P N c Q q ρ M E) (e:ρ.ev x=some (.bool b):=by exact rfl):VC P N c Q (.cond x p q) ρ M E:=VC.cond e (fun h=>h1 h (Go.S.KR h hS)) (fun h=>h2 h (aVY h hS))
theorem oT (t:Nat) (hS:(if φ then A else B)=some r) (h1:φ→A=some r→VL P N c ops Q rest ((t,.bool true)::ρ) M E) (h2 : ¬ φ→B=some r→VL P N c ops Q rest ((t,.bool false)::ρ) M E) (e:ρ.get t=some (.bool (decide φ)):=by exact rfl):VL P N c ops Q rest ρ M E:=VL.wO t e (fun h=>h1 h (Go.S.KR h hS)) (fun h=>h2 h (Go.S.W7 h hS))
theorem S5 (t:Nat) (hS:(if φ then A else B)=some r) (h1 : ¬ φ→B=some r→VL P N c ops Q rest ((t,.bool true)::ρ) M E) (h2:φ→A=some r→VL P N c ops Q rest ((t,.bool false)::ρ) M E) (e:ρ.get t=some (.bool (!decide φ)):=by exact rfl):VL P N c ops Q rest ρ M E:=VL.aLS t e (fun h=>h1 h (Go.S.W7 h hS)) (fun h=>h2 h (Go.S.KR h hS))
theorem B3 (t:Nat) (hS:(if b=true then A else B)=some r) (h1:b=true→A=some r→VL P N c ops Q rest ((t,.bool true)::ρ) M E) (h2:b=false→B=some r→VL P N c ops Q rest ((t,.bool false)::ρ) M E) (e:ρ.get t=some (.bool b):=by exact rfl):VL P N c ops Q rest ρ M E:=VL.split t e (fun h=>h1 h (Go.S.KR h hS)) (fun h=>h2 h (aVY h hS))
end
theorem Zo {X:Type} {f:FuncId} {fn:Func} {code:Code} {args:List Value} {val:X→Value} {φ:X→Prop} {M':X→Mo} {E':X→Ow} (hf:P.funcs[f]? = some fn) (hn:fn.ntmps=N) (h : ∀ c,VC P N c (bodyPost P fn fun en w' => ∃ r,en = .returned r∧Post val φ M' E' c r w') code (Env.of 0 args) M E) (hb:fn.body=some code:=by exact rfl) (hnm:(fn.name == "runtime.NumGoroutine")=false:=by kernel_rfl) (hl:args.length≤N:=by simp):Ct P f args M E val φ M' E':=Ct.of hf hb hnm hn hl h
theorem Zv {F:Ow} {T:TypeId} {t:TypeId} {b j n:Nat} {cs vc cs':List Value} (e1:ρ.ev x=some (ptr b j)) (hs:(P.info? t).map (·.size)=some n) (k:VL P N c ops Q rest ρ M (Ow.star (bM b cs' T) F)) (e2:ρ.ev y=some v:=by exact rfl) [hE:oS E b cs T F] (hv:v.cells=vc.toArray:=by exact rfl) (hn:vc.length=n:=by exact rfl) (h1:vc.all (·.oneCell')=true:=by exact rfl) (hl:j+vc.length≤cs.length:=by exact Nat.le_of_ble_eq_true rfl) (hc:cs.take j++vc++cs.drop (j+vc.length)=cs':=by exact rfl):VL P N c ops Q (⟨none,.store t x y,ty,pos,after,none⟩::rest) ρ M E:=VL.store e1 e2 hv hs hn h1 hl hc k
end Go.V
end

section
namespace Go.V
open Go.RowKit
section
variable {P:Program} {N:Nat} {c:Cx} {ops:Array Oper} {Q Q1:Exit→Act→World→Prop} {rest:List Oper} {ρ:Env} {M:Mo} {E:Ow} {v u w3:Value} {d:Nat} {ty T:TypeId} {pos:String} {after:Array Edge} {x y z:Operand} {q p:Code}
theorem qC (cs:List Value) (k : ∀ b:Nat,VL P N c ops Q rest ((d,ptr b 0)::ρ) M (Ow.star (bM b cs T) E)) (e:ρ.ev x=some v:=by exact rfl) (hc:v.cells=cs.toArray:=by exact rfl) (hd:d < N:=by decide):VL P N c ops Q (⟨some d,.box T x,ty,pos,after,none⟩::rest) ρ M E:=VL.box e hc hd k
theorem hU {id:Nat} (ord:List (Nat×Bool)) (h:VD P N c ops Q ord [] ρ M E) (hm:P.follows .mixedOrders=true:=by kernel_rfl) (hs:Region.noSelect ops=true:=by kernel_rfl) (hn:ord.length=ops.size:=by kernel_rfl) (hB:(okD ops ord [] (Array.replicate ops.size false)&&(Region.ready .any ops (marked ord (Array.replicate ops.size false))).isEmpty)=true:=by kernel_rfl):VC P N c Q (.region id ops true) ρ M E:=VC.draw ord hm hs hn hB h
theorem QA {k:Nat} {r:List (Nat×Bool)} {D:List (Nat×Value)} {R:List (Nat×Value)→Act→World→Prop} (D':List (Nat×Value)) (hp:bR P N c ops D' ρ M E) (h:HA P N c ops R r D' ρ M E) (hD:gM ops k D=D':=by kernel_rfl):VL P N c ops (toR P N c ops fun a w=>(∀ p∈gM ops k D,YI P ops p a w)∧wpD P ops R r (gM ops k D) a w) [] ρ M E:=VL.back hD hp h
theorem eY {k:Nat} {r:List (Nat×Bool)} {D:List (Nat×Value)} {R:List (Nat×Value)→Act→World→Prop} (h:HA P N c ops R r [] ρ M E) (hD:gM ops k D=[]:=by kernel_rfl):VL P N c ops (toR P N c ops fun a w=>(∀ p∈gM ops k D,YI P ops p a w)∧wpD P ops R r (gM ops k D) a w) [] ρ M E:=VL.back hD bR.nil h
abbrev Cp (P:Program) (f:FuncId) (args:List Value) (M:Mo) (v:Value):Prop:=Ct P f args M Ow.emp (X:=Unit) (fun _=>v) (fun _=>True) (fun _=>Mo.tt) (fun _=>Ow.emp)
end
section
variable {P:Program} {N:Nat} {c:Cx} {Q:Exit→Act→World→Prop} {ρ:Env} {M:Mo} {E:Ow} {v v' v'':Value} {fn:Func} {X:Type} {val:X→Value} {φ:X→Prop} {M2:X→Mo} {E2:X→Ow}
theorem Z1 (x:X) {t:Nat} (hres:fn.results = #[.tmp t]:=by exact rfl) (ht:ρ.get t=some v:=by exact rfl) (hv:v=val x:=by exact rfl) (hφ:φ x:=by first | exact rfl | exact trivial) (h1 : ∀ h,M.on h→(M2 x).on h:=by first | exact fun _ _=>trivial | ((try dsimp only); exact dM.out)) (h2 : ∀ e,E e→E2 x e:=by first | exact fun _ _=>trivial | ((try dsimp only); exact fL.out)) : ∀ a w,rW N ρ a→St c M E w→bodyPost P fn (fun en w' => ∃ r,en = .returned r∧Post val φ M2 E2 c r w') .ret a w:=GI (.inr rfl) hres ht x hv hφ h1 h2
theorem Z2 (x:X) {t u:Nat} (hres:fn.results = #[.tmp t,.tmp u]:=by exact rfl) (ht:ρ.get t=some v:=by exact rfl) (hu:ρ.get u=some v':=by exact rfl) (hv : .tuple #[v,v']=val x:=by exact rfl) (hφ:φ x:=by first | exact rfl | exact trivial) (h1 : ∀ h,M.on h→(M2 x).on h:=by first | exact fun _ _=>trivial | ((try dsimp only); exact dM.out)) (h2 : ∀ e,E e→E2 x e:=by first | exact fun _ _=>trivial | ((try dsimp only); exact fL.out)) : ∀ a w,rW N ρ a→St c M E w→bodyPost P fn (fun en w' => ∃ r,en = .returned r∧Post val φ M2 E2 c r w') .ret a w:=aUS (.inr rfl) hres ht hu x hv hφ h1 h2
end
end Go.V
end

section
namespace Go.V
open Go.RowKit
section
variable {P:Program} {N:Nat} {c:Cx} {ops:Array Oper} {Q:Exit→Act→World→Prop} {rest:List Oper} {ρ:Env} {M:Mo} {E:Ow} {v:Value} {d:Nat} {od:Option Nat} {t s t' ty:TypeId} {i:Nat} {pos:String} {after:Array Edge} {gd:Option (Nat×Bool)} {x y z:Operand} {op:Op} {b:BinOp} {cl:Call} {k:Code} {r:List (Nat×Bool)} {D:List (Nat×Value)} {j:Nat} {w:Bool} {o:Oper}
theorem gqF (h:Qt P N c ⟨od,.fieldAddr s x i,ty,pos,after,gd⟩ v ρ M E):Qt P N c ⟨od,.fieldAddr s x i,ty,pos,after,gd⟩ v ρ M E:=h
theorem gqL (h:Qt P N c ⟨od,.load t x,ty,pos,after,gd⟩ v ρ M E):Qt P N c ⟨od,.load t x,ty,pos,after,gd⟩ v ρ M E:=h
theorem gqB (h:Qt P N c ⟨od,.binOp b t x y t',ty,pos,after,gd⟩ v ρ M E):Qt P N c ⟨od,.binOp b t x y t',ty,pos,after,gd⟩ v ρ M E:=h
theorem gqC (h:Qt P N c ⟨od,.call cl,ty,pos,after,gd⟩ v ρ M E):Qt P N c ⟨od,.call cl,ty,pos,after,gd⟩ v ρ M E:=h
theorem gqP (h:Qt P N c ⟨od,.pick x y z,ty,pos,after,gd⟩ v ρ M E):Qt P N c ⟨od,.pick x y z,ty,pos,after,gd⟩ v ρ M E:=h
theorem gVC (h:VC P N c Q k ρ M E):VC P N c Q k ρ M E:=h
theorem gVD (h:VD P N c ops Q r D ρ M E):VD P N c ops Q r D ρ M E:=h
theorem gO (h:VL P N c ops Q (⟨some d,op,ty,pos,after,none⟩::rest) ρ M E):VL P N c ops Q (⟨some d,op,ty,pos,after,none⟩::rest) ρ M E:=h
theorem gG (h:VL P N c ops Q (⟨some d,op,ty,pos,after,some (j,w)⟩::rest) ρ M E):VL P N c ops Q (⟨some d,op,ty,pos,after,some (j,w)⟩::rest) ρ M E:=h
theorem gN (h:VL P N c ops Q [] ρ M E):VL P N c ops Q [] ρ M E:=h
theorem gCa (h:VL P N c ops Q (⟨some d,.call cl,ty,pos,after,none⟩::rest) ρ M E):VL P N c ops Q (⟨some d,.call cl,ty,pos,after,none⟩::rest) ρ M E:=h
end
class EqB (a b:Bool):Prop where out:a=b
instance EqB.i (a:Bool):EqB a a:=⟨rfl⟩
class HH (ρ:Env) (t:Nat) (v:outParam Value):Prop where out:ρ.get t=some v
instance HH.there {ρ:Env} {t k:Nat} {u v:Value} [h:EqB (Nat.beq k t) false] [i:HH ρ t v]:HH ((k,u)::ρ) t v:=⟨by simp only [Env.get,h.out]; exact i.out⟩
instance HH.here {ρ:Env} {t:Nat} {v:Value}:HH ((t,v)::ρ) t v:=⟨by simp [Env.get]⟩
instance HH.of {n t:Nat} {v w:Value} {vs:List Value} [i:HH ((n,v)::Env.of (n+1) vs) t w]:HH (Env.of n (v::vs)) t w:=⟨i.out⟩
class J9 (l:List Nat) (ρ:Env) (ρ':outParam Env):Prop where out:ρ.keep l=ρ'
instance J9.n {ρ:Env}:J9 [] ρ []:=⟨rfl⟩
instance J9.c {ρ ρ':Env} {t:Nat} {r:List Nat} {v:Value} [a:HH ρ t v] [b:J9 r ρ ρ']:J9 (t::r) ρ ((t,v)::ρ'):=⟨by simp only [Env.keep,a.out,b.out]⟩
theorem VC.bD {P:Program} {N:Nat} {c:Cx} {Q:Exit→Act→World→Prop} {ρ ρ':Env} {M:Mo} {E:Ow} {k:Code} (l:List Nat) [h:J9 l ρ ρ'] (n:VC P N c Q k ρ' M E):VC P N c Q k ρ M E:=VC.keep l h.out n
class j7 (P:Program) (s:TypeId) (i:Nat) (off:outParam Nat):Prop where out:cC P s i off
class KV (P:Program) (t:TypeId):Prop where out:OneCell P t
class MZ (P:Program) (t:TypeId) (n:outParam Nat):Prop where out:rO P t n
class KA (P:Program) (t:TypeId) (d:outParam TypeDesc):Prop where out:P.underlying t=some d
class yM (P:Program) (t:TypeId) (n:outParam Nat):Prop where out:(P.info? t).map (·.size)=some n
class aBP (l:List (Nat×Operand)) (k:Nat) (xs:outParam (List Operand)):Prop where out:l=(xs.zipIdx k).map fun x=>(x.2,x.1)
instance aBP.n {k:Nat}:aBP [] k []:=⟨rfl⟩
instance aBP.c {k k':Nat} {x:Operand} {l:List (Nat×Operand)} {xs:List Operand} [e:EqB (Nat.beq k' k) true] [h:aBP l (k+1) xs]:aBP ((k',x)::l) k (x::xs):=⟨by rw [h.out,Nat.eq_of_beq_eq_true e.out]; rfl⟩
class JC (P:Program) (e:TypeId) (n:outParam Nat):Prop where out:((P.info? e).map fun i=>(i.size,i.zero.isSome))=some (n,true)
class LI (P:Program) (e:TypeId) (n bt:outParam Nat):Prop where out:((P.info? e).map fun i=>(i.size,i.bytes,(i.zero.map fun z=>z.cells.size)))=some (n,bt,some n)
class ElC {α:Type} (l:List α) (i:Nat) (z:outParam α):Prop where out:l[i]? = some z
class IfC (P:Program) (t:TypeId):Prop where out : ∃ ms,P.underlying t=some (.interface ms)
class EqV (u v:Value):Prop where out:u=v
instance (priority:=2000) {u:Value}:EqV u u:=⟨rfl⟩
instance {α:Type}:EqV (.slice none 0 0) (Sv.val (⟨none,0,[]⟩:Sv α)):=⟨rfl⟩
instance [O0]:EqV .nilIface (Er.val .nil):=⟨rfl⟩
class EqT (a b:Nat):Prop where out:a=b
instance {a:Nat}:EqT a a:=⟨rfl⟩
instance [O0] {n:Int} {t:TypeId} [h:EqT t O0.no]:EqV (.iface t (.int .i64 n)) (Er.val (.no n)):=⟨by rw [h.out]; rfl⟩
instance [O0] {t:TypeId} {b:Nat} {p:List UInt8} {a:Int} {e:Er} [h:EqT t O0.pf]:EqV (.iface t (.pointer (some ⟨b,0,none⟩))) (Er.val (.fault b p a e)):=⟨by rw [h.out]; rfl⟩
class EqL (u v:List Value):Prop where out:u=v
instance:EqL [] []:=⟨rfl⟩
instance {u v:Value} {l m:List Value} [a:EqV u v] [b:EqL l m]:EqL (u::l) (v::m):=⟨by rw [a.out,b.out]⟩
instance (priority:=900) Fo.blk {E F:Ow} {b:Nat} {cs cs':List Value} {T:TypeId} [u:oS E b cs T F] [q:EqL cs cs']:Fo E (bM b cs' T) F:=⟨by rw [← q.out]; exact u.out⟩
instance (priority:=700) fL.blkE {E:Ow} {b:Nat} {cs cs':List Value} {T:TypeId} [i:BR E b cs T] [q:EqL cs cs']:fL E (bM b cs' T):=⟨by rw [← q.out]; exact i.out⟩
class UnD (P:Program) (t:TypeId) (d:outParam TypeDesc):Prop where out:P.underlying t=some d
class PlC (α:Type) {β:outParam Type} (g:outParam (α→β)):Prop where out:True
class MkI (P:Program) (t:TypeId):Prop where out : ∃ D,P.underlying t=some D ∧ ∀ ms,D ≠ .interface ms
theorem MkI.mk' {P:Program} {t:TypeId} {D:TypeDesc} (h:P.underlying t=some D) (n : ∀ ms,D ≠ .interface ms):MkI P t:=⟨D,h,n⟩
class Y1 (cs:List Value) (j:Nat) (vc:List Value) (cs':outParam (List Value)):Prop where
  out:cs.take j++vc++cs.drop (j+vc.length)=cs'∧j+vc.length≤cs.length
instance Y1.nil {cs:List Value} {j:Nat} [e:EqB (Nat.beq j 0) true]:Y1 cs j [] cs:=⟨by have:=Nat.eq_of_beq_eq_true e.out; subst this; exact ⟨by simp,by simp⟩⟩
instance Y1.skip {c:Value} {cs vc cs':List Value} {j:Nat} [e:EqB (Nat.beq j 0) false] [i:Y1 cs (Nat.sub j 1) vc cs']:Y1 (c::cs) j vc (c::cs'):=⟨by
  have h0:=Nat.ne_of_beq_eq_false e.out
  obtain ⟨k,rfl⟩ : ∃ k,j=k+1:=⟨j - 1,by omega⟩
  have:=i.out
  rw [show Nat.sub (k+1) 1=k from rfl] at this
  rw [← this.1]
  exact ⟨by rw [Nat.add_right_comm]; rfl,by simp only [List.length_cons]; omega⟩⟩
instance Y1.put {c v:Value} {cs vc cs':List Value} {j:Nat} [e:EqB (Nat.beq j 0) true] [i:Y1 cs 0 vc cs']:Y1 (c::cs) j (v::vc) (v::cs'):=⟨by
  have:=Nat.eq_of_beq_eq_true e.out; subst this
  have:=i.out; simp only [List.take_zero,List.nil_append,Nat.zero_add,List.length_cons] at this ⊢; rw [← this.1]; exact ⟨by simp,by omega⟩⟩
class R7 (v:Value):Prop where out:v.oneCell'=true∧v.cells = #[v]
instance {k:IntKind} {n:Int}:R7 (.int k n):=⟨rfl,rfl⟩
instance {s:ByteArray}:R7 (.string s):=⟨rfl,rfl⟩
instance {b:Bool}:R7 (.bool b):=⟨rfl,rfl⟩
instance {a:Option Addr} {l c:Nat}:R7 (.slice a l c):=⟨rfl,rfl⟩
instance {a:Option Addr}:R7 (.pointer a):=⟨rfl,rfl⟩
instance {a:Option Nat}:R7 (.map a):=⟨rfl,rfl⟩
instance:R7 .nilIface:=⟨rfl,rfl⟩
instance {α:Type} {s:Sv α}:R7 s.val:=⟨rfl,rfl⟩
instance {t:TypeId} {v:Value}:R7 (.iface t v):=⟨rfl,rfl⟩
instance [O0] {z:Er}:R7 z.val:=⟨by cases z <;> rfl,by cases z <;> rfl⟩
class aIv (l:List Value):Prop where out:l.all (·.oneCell')=true
instance:aIv []:=⟨rfl⟩
instance {v:Value} {l:List Value} [h:R7 v] [k:aIv l]:aIv (v::l):=⟨by rw [List.all_cons,h.out.1,k.out]; rfl⟩
class I1 (v:Value) (vc:outParam (List Value)):Prop where out:v.cells=vc.toArray∧vc.all (·.oneCell')=true
instance I1.one {v:Value} [h:R7 v]:I1 v [v]:=⟨h.out.2,by simp [h.out.1]⟩
instance I1.agg {l:List Value} [h:aIv l]:I1 (.agg l.toArray) l:=⟨rfl,h.out⟩
class B2 {α:Type} [bB α] (z:α) (cs:outParam (List Value)):Prop where out:bB.enc z=cs
instance I1.enc {α:Type} [bB α] {z:α} {cs:List Value} [h:B2 z cs] [k:aIv cs]:I1 (.agg (bB.enc z).toArray) cs:=⟨by rw [h.out]; rfl,k.out⟩
class aGY (vs:Array Value) (i:Nat) (v:outParam Value):Prop where out:vs[i]? = some v
instance aGY.next {u v:Value} {l:List Value} {i:Nat} [e:EqB (Nat.beq i 0) false] [h:aGY l.toArray (Nat.sub i 1) v]:aGY (u::l).toArray i v:=⟨by
  have h0:=Nat.ne_of_beq_eq_false e.out
  obtain ⟨k,rfl⟩ : ∃ k,i=k+1:=⟨i - 1,by omega⟩
  have:=h.out
  rw [show Nat.sub (k+1) 1=k from rfl] at this
  simpa using this⟩
instance aGY.here {v:Value} {l:List Value} {i:Nat} [e:EqB (Nat.beq i 0) true]:aGY (v::l).toArray i v:=⟨by have:=Nat.eq_of_beq_eq_true e.out; subst this; simp⟩
instance I1.tv {b:Bool}:I1 (YE (some b)) [.bool b]:=⟨rfl,rfl⟩
class aIx (l:List Value) (n:outParam Nat):Prop where out:l.length=n
instance:aIx [] 0:=⟨rfl⟩
instance {v:Value} {l:List Value} {n:Nat} [h:aIx l n]:aIx (v::l) (n+1):=⟨by rw [List.length_cons,h.out]⟩
class R8 (P:Program) (ρ:Env) (M:Mo) (E:Ow) (rs:List ResultVar) (vs:outParam (List Value)):Prop where out:S4 P ρ M E rs vs
section
variable {P:Program} {ρ:Env} {M:Mo} {E:Ow} {rs:List ResultVar} {vs:List Value}
instance R8.n:R8 P ρ M E [] []:=⟨S4.nil⟩
instance R8.t {t:Nat} {v:Value} [a:HH ρ t v] [b:R8 P ρ M E rs vs]:R8 P ρ M E (.tmp t::rs) (v::vs):=⟨S4.tmp a.out b.out⟩
instance R8.c {t b n:Nat} {T T':TypeId} {cs:List Value} [h:MZ P T n] [a:HH ρ t (ptr b 0)] [e:BR E b cs T'] [l:aIx cs n] [k:R8 P ρ M E rs vs]:R8 P ρ M E (.cell t T::rs) (.agg cs.toArray::vs):=⟨S4.cell h.out a.out l.out Rd.blk k.out⟩
instance R8.o {t b:Nat} {T T':TypeId} {v:Value} [h:KV P T] [a:HH ρ t (ptr b 0)] [e:BR E b [v] T'] [k:R8 P ρ M E rs vs]:R8 P ρ M E (.cell t T::rs) (v::vs):=⟨S4.cell1 h.out a.out Rd.blk k.out⟩
variable {N:Nat} {c:Cx} {v v':Value} {fn:Func} {X:Type} {val:X→Value} {φ:X→Prop} {M2:X→Mo} {E2:X→Ow}
theorem Z4 (x:X) (hres:fn.results=rs.toArray) [hr:R8 P ρ M E rs vs] (hv:aOf vs=val x:=by exact rfl) (hφ:φ x:=by first | exact rfl | exact trivial) (h1 : ∀ h,M.on h→(M2 x).on h:=by first | exact fun _ _=>trivial | ((try dsimp only); exact dM.out)) (h2 : ∀ e,E e→E2 x e:=by first | exact fun _ _=>trivial | ((try dsimp only); exact fL.out)) : ∀ a w,rW N ρ a→St c M E w→bodyPost P fn (fun en w' => ∃ r,en = .returned r∧Post val φ M2 E2 c r w') .ret a w:=a8X (.inr rfl) hres hr.out x hv hφ h1 h2
end
section
variable {P:Program} {N:Nat} {c:Cx} {ops:Array Oper} {Q Q1:Exit→Act→World→Prop} {rest:List Oper} {ρ:Env} {M:Mo} {E:Ow} {v u:Value} {d:Nat} {od:Option Nat} {t t' ty T e:TypeId} {pos:String} {after:Array Edge} {gd:Option (Nat×Bool)} {x y z:Operand} {q p:Code} {α:Type} [bB α] {Y R:Type}
theorem aBp {s:TypeId} {i off b o:Nat} [hf:j7 P s i off] (h:ρ.ev x=some (ptr b o)):Qt P N c ⟨od,.fieldAddr s x i,ty,pos,after,gd⟩ (ptr b (o+off)) ρ M E:=bY hf.out h
theorem aFO {s:TypeId} {i off b:Nat} [hf:j7 P s i off] (h:ρ.ev x=some (ptr b 0)):Qt P N c ⟨od,.fieldAddr s x i,ty,pos,after,gd⟩ (ptr b off) ρ M E:=by rw [← Nat.zero_add off]; exact bY hf.out h
theorem aFP {b j:Nat} {cs:List Value} [h1:KV P t] (e1:ρ.ev x=some (ptr b j)) [i:BR E b cs T] (hj:cs[j]? = some v):Qt P N c ⟨od,.load t x,ty,pos,after,gd⟩ v ρ M E:=nI h1.out e1 hj
theorem aA5 {b n:Nat} {cs:List Value} [h1:MZ P t n] (e1:ρ.ev x=some (ptr b 0)) [i:BR E b cs T] (hn:cs.length=n):Qt P N c ⟨od,.load t x,ty,pos,after,gd⟩ (.agg cs.toArray) ρ M E:=rQ h1.out e1 hn
theorem aFQ {s:Sv α} {xs:List Operand} [ht:KA P t (.slice e)] (h:ρ.lH xs=some [s.val]):Qt P N c ⟨od,.call { callee := .builtin .len,args:=xs.toArray,argTypes := #[t]},ty,pos,after,gd⟩ (i64 s.l.length) ρ M E:=J0 ht.out h
theorem UM {s:List UInt8} {xs:List Operand} [ht:KA P t .string] (h:ρ.lH xs=some [str s]):Qt P N c ⟨od,.call { callee := .builtin .len,args:=xs.toArray,argTypes := #[t]},ty,pos,after,gd⟩ (i64 s.length) ρ M E:=xN ht.out h
theorem aA6 {β:Type} {g:α→β} {s:Sv α} {xs:List Operand} [ht:UnD P t (.slice e)] [hg:PlC α g] (h:ρ.lH xs=some [s.val]):Qt P N c ⟨od,.call { callee := .builtin .len,args:=xs.toArray,argTypes := #[t]},ty,pos,after,gd⟩ (i64 (s.l.map g).length) ρ M E:=wW g ht.out h
theorem UI [O0] [ht:IfC P t] {z:Er} (h:ρ.ev x=some z.val):Qt P N c ⟨od,.binOp .neq t x (.const .nilIface) t',ty,pos,after,gd⟩ (.bool (!decide (z.pl.isNil=true))) ρ M E:=by
 obtain ⟨ms,h2⟩:=ht.out
 exact aO7 h2 h
theorem UH [O0] [ht:IfC P t] {z:Er} (h:ρ.ev x=some z.val):Qt P N c ⟨od,.binOp .eql t x (.const .nilIface) t',ty,pos,after,gd⟩ (.bool (decide (z.pl.isNil=true))) ρ M E:=by
 obtain ⟨ms,h2⟩:=ht.out
 exact aD5 h2 h
theorem UK [h:MkI P t] (e:ρ.ev x=some v):Qt P N c ⟨od,.makeInterface t x,ty,pos,after,gd⟩ (.iface t v) ρ M E:=by
 obtain ⟨D,h1,h2⟩:=h.out
 exact a1Q h1 h2 e
theorem ZV {b j n:Nat} {cs vc cs':List Value} {F:Ow} (e1:ρ.ev x=some (ptr b j)) (e2:ρ.ev y=some v) (k:VL P N c ops Q rest ρ M (Ow.star (bM b cs' T) F)) [hE:oS E b cs T F] [hv:I1 v vc] [hp:Y1 cs j vc cs'] [hs:yM P t n] [hn:aIx vc n]:VL P N c ops Q (⟨none,.store t x y,ty,pos,after,none⟩::rest) ρ M E:=VL.store e1 e2 hv.out.1 hs.out hn.out hv.out.2 hp.out.2 hp.out.1 k
theorem Zcq {A:Option Y} {K:Y→Option R} {r:R} {f:FuncId} {xs:List Operand} {ts:Array TypeId} {args:List Value} {M1:Mo} {val:Y→Value} (hS:A.bind K=some r) (h : ∀ {y},A=some y→Cp P f args M1 (val y)) (k : ∀ y,K y=some r→VL P N c ops Q rest ((d,val y)::ρ) M E) (ha:ρ.lH xs=some args:=by exact rfl) [i:dM M M1] (hd:d < N:=by decide):VL P N c ops Q (⟨some d,.call { callee := .value (.func f),args:=xs.toArray,argTypes:=ts },ty,pos,after,none⟩::rest) ρ M E:=by
 obtain ⟨y,e,hK⟩:=Go.S.dU hS
 exact VL.q (eT (h e) ha (fun _ _=>rfl)) hd (k y hK)
theorem HB {A:Option Y} {K:Y→Option R} {r:R} {f:FuncId} {xs:List Operand} {ts:Array TypeId} {args:List Value} {M1:Mo} {X:Type} {val:X→Value} {pl:X→Y} {M2:X→Mo} (hS:A.bind K=some r) (h : ∀ {y},A=some y→Ct P f args M1 Ow.emp val (fun x=>y=pl x) M2 (fun _=>Ow.emp)) (k : ∀ x,K (pl x)=some r→VL P N c ops Q rest ((d,val x)::ρ) ((M2 x).and M) E) (ha:ρ.lH xs=some args:=by exact rfl) [i:dM M M1] (hd:d < N:=by decide):VL P N c ops Q (⟨some d,.call { callee := .value (.func f),args:=xs.toArray,argTypes:=ts },ty,pos,after,none⟩::rest) ρ M E:=by
 obtain ⟨y,e,hK⟩:=Go.S.dU hS
 exact VL.jF (h e) ha hd fun x hx=>k x (by subst hx; exact hK)
theorem x6 {A:Option Y} {K:Y→Option R} {r:R} {f:FuncId} {xs:List Operand} {ts:Array TypeId} {args:List Value} {M1:Mo} {E1 F:Ow} {X:Type} {val:X→Value} {pl:X→Y} {M2:X→Mo} {E2:X→Ow} (hS:A.bind K=some r) (h : ∀ {y},A=some y→Ct P f args M1 E1 val (fun x=>y=pl x) M2 E2) (k : ∀ x,K (pl x)=some r→VL P N c ops Q rest ((d,val x)::ρ) ((M2 x).and M) (Ow.star (E2 x) F)) (ha:ρ.lH xs=some args:=by exact rfl) [i:dM M M1] [j:Fo E E1 F] (hd:d < N:=by decide):VL P N c ops Q (⟨some d,.call { callee := .value (.func f),args:=xs.toArray,argTypes:=ts },ty,pos,after,none⟩::rest) ρ M E:=by
 obtain ⟨y,e,hK⟩:=Go.S.dU hS
 exact VL.nW (h e) ha hd fun x hx=>k x (by subst hx; exact hK)
theorem tE {zs:List α} {K:List α→Option R} {r:R} {n:Nat} {parts:List (Nat×Operand)} {xs:List Operand} {vs:List Value} (hS:Go.S.lt zs K=some r) (k : ∀ s:Sv α,K s.l=some r→VL P N c ops Q rest ((d,s.val)::ρ) (s.ok.and M) E) [hu:KA P t (.slice e)] [hz:JC P e (bB.sz α)] [hp:aBP parts 0 xs] (hpos:0 < bB.sz α:=by decide)
    (hv:ρ.lH xs=some vs:=by exact rfl) (hc:vs.map (fun v=>v.cells.toList)=zs.map bB.enc:=by exact rfl) (hn:zs.length=n:=by exact rfl) (hs:n*bB.sz α≤16777216:=by decide) (hdeep : ∀ h,M.on h → ∀ z∈zs,(bB.deep z).on h:=by exact fun _ _ _ _=>trivial) (hd:d < N:=by decide) (h0:0 < n:=by decide):VL P N c ops Q (⟨some d,.buildSlice t n parts.toArray,ty,pos,after,none⟩::rest) ρ M E :=
  VL.lit zs hu.out hz.out hpos (congrArg List.toArray hp.out) hv hc hn hs hdeep hd (fun s h=>k s (Go.S.dR h hS)) h0
theorem XJ {s q:Sv α} {K:List α→Option R} {r:R} {xs:List Operand} {bt:Nat} {F:Ow} (hS:Go.S.gd (s.l.length+q.l.length≤4294967296) (Go.S.lt (s.l++q.l) K)=some r) (k : ∀ s':Sv α,K s'.l=some r→VL P N c ops Q rest ((d,s'.val)::ρ) M (Ow.star (s'.own e) F)) [hu:KA P t (.slice e)] [hi:LI P e (bB.sz α) bt] (ha:ρ.lH xs=some [s.val,q.val]:=by exact rfl) [hE:Fo E (s.own e) F] [hr:dM M q.ok] (hpos:0 < bB.sz α:=by decide) (hb:bt≤32768:=by decide) (hd:d < N:=by decide) :
 VL P N c ops Q (⟨some d,.call { callee := .builtin .append,args:=xs.toArray,argTypes := #[t,t]},ty,pos,after,none⟩::rest) ρ M E:=by
 obtain ⟨b,h⟩:=Go.S.bX hS
 exact VL.app hu.out hi.out hpos ha hE.out (ap1 b) (ap2 b hb) hd (fun s' h'=>k s' (Go.S.dR h' h))
theorem aA4 {vs:Array Value} {i:Nat} (e:ρ.ev x=some (.tuple vs)) [h:aGY vs i v]:Qt P N c ⟨od,.extract x i,ty,pos,after,gd⟩ v ρ M E:=HZ e h.out
theorem aFM {s:Sv α} {i:Nat} {z:α} [h1:KV P t] (e1:ρ.ev x=some (ptr s.b (s.o+i*bB.sz α))) [hz:ElC s.l i z] (hv:bB.enc z=[v]) [hs:dM M s.ok]:Qt P N c ⟨od,.load t x,ty,pos,after,gd⟩ v ρ M E:=JZ h1.out e1 hz.out hv
theorem aA3 {s:Sv α} {i n:Nat} {z:α} [h1:MZ P t n] (e1:ρ.ev x=some (ptr s.b (s.o+i*bB.sz α))) [hz:ElC s.l i z] (hn:bB.sz α=n) [hs:dM M s.ok]:Qt P N c ⟨od,.load t x,ty,pos,after,gd⟩ (.agg (bB.enc z).toArray) ρ M E:=sR h1.out hn e1 hz.out
theorem aA2 {s:Sv α} {i j:Nat} {z:α} [h1:KV P t] (e1:ρ.ev x=some (ptr s.b (s.o+i*bB.sz α+j))) [hz:ElC s.l i z] (hv:(bB.enc z)[j]? = some v) [hs:dM M s.ok]:Qt P N c ⟨od,.load t x,ty,pos,after,gd⟩ v ρ M E:=aFN h1.out e1 hz.out hv
theorem BY {s:Sv α} {k1:IntKind} {i:Int} {K:α→Option R} {r:R} (hS:(Go.S.at_ s.l i).bind K=some r) (e1:ρ.ev x=some s.val) (k : ∀ z,ElC s.l i.toNat z→K z=some r→VL P N c ops Q rest ((d,ptr s.b (s.o+i.toNat*bB.sz α))::ρ) M E) [ht:KA P t (.slice e)] [hi:yM P e (bB.sz α)] [hs:dM M s.ok] (e2:ρ.ev y=some (.int k1 i):=by exact rfl) (hd:d < N:=by decide):VL P N c ops Q (⟨some d,.indexAddr t x y,ty,pos,after,none⟩::rest) ρ M E:=by
 obtain ⟨z,h0,h1,h2⟩:=Go.S.gQ hS
 exact VL.q (jY ht.out hi.out e1 e2 h0 (Go.S.bQ h0 h1)) hd (k z ⟨h1⟩ h2)
theorem aIz {j u:Nat} {w:Bool} {s:Sv α} {k1:IntKind} {i:Int} {K:α→Option R} {r:R} (hS:(Go.S.at_ s.l i).bind K=some r) (e1:ρ.ev x=some s.val) (k : ∀ z,ElC s.l i.toNat z→K z=some r→VL P N c ops Q rest ((d,ptr s.b (s.o+i.toNat*bB.sz α))::ρ) M E) [ht:KA P t (.slice e)] [hi:yM P e (bB.sz α)] [hs:dM M s.ok] (e2:ρ.ev y=some (.int k1 i):=by exact rfl) (hj:(ops[j]?).bind (·.dst)=some u:=by exact rfl) (hb:ρ.get u=some (.bool w):=by exact rfl) (hd:d < N:=by decide):VL P N c ops Q (⟨some d,.indexAddr t x y,ty,pos,after,some (j,w)⟩::rest) ρ M E:=by
 obtain ⟨z,h0,h1,h2⟩:=Go.S.gQ hS
 exact VL.gy hj hb (jY ht.out hi.out e1 e2 h0 (Go.S.bQ h0 h1)) hd (k z ⟨h1⟩ h2)
theorem aCk {j:Nat} {l:List (Nat×Bool)} {D:List (Nat×Value)} {s:Sv α} {k1:IntKind} {i:Int} {K:α→Option R} {r:R} (hS:(Go.S.at_ s.l i).bind K=some r) (e1:ρ.ev x=some s.val) (k : ∀ z,ElC s.l i.toNat z→K z=some r→VD P N c ops Q l (D3 ops j (ptr s.b (s.o+i.toNat*bB.sz α)) D) ((d,ptr s.b (s.o+i.toNat*bB.sz α))::ρ) M E) [ht:KA P t (.slice e)] [hi:yM P e (bB.sz α)] [hs:dM M s.ok] (hk:ops[j]? = some ⟨some d,.indexAddr t x y,ty,pos,after,none⟩:=by exact rfl) (e2:ρ.ev y=some (.int k1 i):=by exact rfl) (hd:d < N:=by decide):VD P N c ops Q ((j,true)::l) D ρ M E:=by
 obtain ⟨z,h0,h1,h2⟩:=Go.S.gQ hS
 exact VD.q hk (jY ht.out hi.out e1 e2 h0 (Go.S.bQ h0 h1)) hd (k z ⟨h1⟩ h2)
theorem aTJ {j i' u:Nat} {w:Bool} {l:List (Nat×Bool)} {D:List (Nat×Value)} {s:Sv α} {k1:IntKind} {i:Int} {K:α→Option R} {r:R} (hS:(Go.S.at_ s.l i).bind K=some r) (e1:ρ.ev x=some s.val) (k : ∀ z,ElC s.l i.toNat z→K z=some r→VD P N c ops Q l (D3 ops j (ptr s.b (s.o+i.toNat*bB.sz α)) D) ((d,ptr s.b (s.o+i.toNat*bB.sz α))::ρ) M E) [ht:KA P t (.slice e)] [hi:yM P e (bB.sz α)] [hs:dM M s.ok] (hk:ops[j]? = some ⟨some d,.indexAddr t x y,ty,pos,after,some (i',w)⟩:=by exact rfl) (hj:(ops[i']?).bind (·.dst)=some u:=by exact rfl) (hb:ρ.get u=some (.bool w):=by exact rfl) (e2:ρ.ev y=some (.int k1 i):=by exact rfl) (hd:d < N:=by decide):VD P N c ops Q ((j,true)::l) D ρ M E:=by
 obtain ⟨z,h0,h1,h2⟩:=Go.S.gQ hS
 exact VD.gy hk hj hb (jY ht.out hi.out e1 e2 h0 (Go.S.bQ h0 h1)) hd (k z ⟨h1⟩ h2)
theorem cI {id:Nat} {l:List Oper} (h:VL P N c l.toArray (Exit.then (q.wp P Q) Q) l ρ M E):VC P N c Q (.seq (.region id l.toArray false) q) ρ M E:=Zq (Zr h)
theorem ZU {op:Op} (k:VL P N c ops Q rest ((d,v)::ρ) M E) (h:Qt P N c ⟨some d,op,ty,pos,after,none⟩ v ρ M E:=by first | exact fR rfl | exact uD rfl | exact gqF (by first | exact aFO rfl | exact aBp rfl) | exact gqL (by first | exact aFP rfl rfl | exact aFM rfl rfl | exact aA2 rfl rfl | exact aA3 rfl rfl | exact aA5 rfl rfl) | exact gqB (by first | exact qU rfl rfl | exact KE rfl rfl | exact wV rfl rfl | exact aBq rfl rfl | exact MH rfl rfl | exact X9 rfl rfl | exact UL rfl rfl | exact KF rfl rfl | exact UI rfl | exact UH rfl | exact lN rfl rfl (by assumption) | exact MI rfl rfl (by assumption) | exact aFR rfl rfl (by assumption)) | exact lX rfl | exact gqC (by first | exact aFQ rfl | exact UM rfl | exact aA6 rfl) | exact gqP (by first | exact H6 rfl rfl | exact DJ rfl rfl) | exact aA4 rfl | exact GU rfl | exact aA7 rfl | exact UK rfl) (hd:d < N:=by decide):VL P N c ops Q (⟨some d,op,ty,pos,after,none⟩::rest) ρ M E:=VL.q h hd k
theorem ZH {op:Op} {j t:Nat} {w:Bool} (k:VL P N c ops Q rest ((d,v)::ρ) M E) (hj:(ops[j]?).bind (·.dst)=some t:=by exact rfl) (hb:ρ.get t=some (.bool w):=by exact rfl) (h:Qt P N c ⟨some d,op,ty,pos,after,some (j,w)⟩ v ρ M E:=by first | exact fR rfl | exact uD rfl | exact gqF (by first | exact aFO rfl | exact aBp rfl) | exact gqL (by first | exact aFP rfl rfl | exact aFM rfl rfl | exact aA2 rfl rfl | exact aA3 rfl rfl | exact aA5 rfl rfl) | exact gqB (by first | exact qU rfl rfl | exact KE rfl rfl | exact wV rfl rfl | exact aBq rfl rfl | exact MH rfl rfl | exact X9 rfl rfl | exact UL rfl rfl | exact KF rfl rfl | exact UI rfl | exact UH rfl | exact lN rfl rfl (by assumption) | exact MI rfl rfl (by assumption) | exact aFR rfl rfl (by assumption)) | exact lX rfl | exact gqC (by first | exact aFQ rfl | exact UM rfl | exact aA6 rfl) | exact gqP (by first | exact H6 rfl rfl | exact DJ rfl rfl) | exact aA4 rfl | exact GU rfl | exact aA7 rfl | exact UK rfl) (hd:d < N:=by decide):VL P N c ops Q (⟨some d,op,ty,pos,after,some (j,w)⟩::rest) ρ M E:=VL.gy hj hb h hd k
theorem ZW {k:Nat} {op:Op} {r:List (Nat×Bool)} {D:List (Nat×Value)} (n:VD P N c ops Q r (D3 ops k v D) ((d,v)::ρ) M E) (hk:ops[k]? = some ⟨some d,op,ty,pos,after,none⟩:=by exact rfl) (h:Qt P N c ⟨some d,op,ty,pos,after,none⟩ v ρ M E:=by first | exact fR rfl | exact uD rfl | exact gqF (by first | exact aFO rfl | exact aBp rfl) | exact gqL (by first | exact aFP rfl rfl | exact aFM rfl rfl | exact aA2 rfl rfl | exact aA3 rfl rfl | exact aA5 rfl rfl) | exact gqB (by first | exact qU rfl rfl | exact KE rfl rfl | exact wV rfl rfl | exact aBq rfl rfl | exact MH rfl rfl | exact X9 rfl rfl | exact UL rfl rfl | exact KF rfl rfl | exact UI rfl | exact UH rfl | exact lN rfl rfl (by assumption) | exact MI rfl rfl (by assumption) | exact aFR rfl rfl (by assumption)) | exact lX rfl | exact gqC (by first | exact aFQ rfl | exact UM rfl | exact aA6 rfl) | exact gqP (by first | exact H6 rfl rfl | exact DJ rfl rfl) | exact aA4 rfl | exact GU rfl | exact aA7 rfl | exact UK rfl) (hd:d < N:=by decide):VD P N c ops Q ((k,true)::r) D ρ M E:=VD.q hk h hd n
theorem ZI {op:Op} {k j t:Nat} {w:Bool} {r:List (Nat×Bool)} {D:List (Nat×Value)} (n:VD P N c ops Q r (D3 ops k v D) ((d,v)::ρ) M E) (hk:ops[k]? = some ⟨some d,op,ty,pos,after,some (j,w)⟩:=by exact rfl) (hj:(ops[j]?).bind (·.dst)=some t:=by exact rfl) (hb:ρ.get t=some (.bool w):=by exact rfl) (h:Qt P N c ⟨some d,op,ty,pos,after,some (j,w)⟩ v ρ M E:=by first | exact fR rfl | exact uD rfl | exact gqF (by first | exact aFO rfl | exact aBp rfl) | exact gqL (by first | exact aFP rfl rfl | exact aFM rfl rfl | exact aA2 rfl rfl | exact aA3 rfl rfl | exact aA5 rfl rfl) | exact gqB (by first | exact qU rfl rfl | exact KE rfl rfl | exact wV rfl rfl | exact aBq rfl rfl | exact MH rfl rfl | exact X9 rfl rfl | exact UL rfl rfl | exact KF rfl rfl | exact UI rfl | exact UH rfl | exact lN rfl rfl (by assumption) | exact MI rfl rfl (by assumption) | exact aFR rfl rfl (by assumption)) | exact lX rfl | exact gqC (by first | exact aFQ rfl | exact UM rfl | exact aA6 rfl) | exact gqP (by first | exact H6 rfl rfl | exact DJ rfl rfl) | exact aA4 rfl | exact GU rfl | exact aA7 rfl | exact UK rfl) (hd:d < N:=by decide):VD P N c ops Q ((k,true)::r) D ρ M E:=VD.gy hk hj hb h hd n
theorem xE {D:List (Nat×Value)} (h:VC P N c Q1 q ρ M E) (e : ∀ a w,q.wp P Q1 a w→Q .normal a w:=by exact fun _ _ h=>h):VD P N c ops Q [] D ρ M E:=VD.to e h
end
structure Hd (b:Prop):Prop where
  out:b
theorem ZX {a b:Prop} (k:b) (h:Hd b→a:=by
 intro k
 repeat (first | (refine gO ?_; first | refine Zm ?_ | refine Za ?_ | refine ZU ?_) | (refine gVC ?_; first | refine cI ?_ | refine Zk ?_) | refine Zl ?_ | (refine gG ?_; first | refine Zn ?_ | refine Zg ?_ | refine ZH ?_) | (refine gVD ?_; first | refine ZW ?_ | refine ZI ?_ | refine Zd ?_ | refine xE ?_) | refine ZV rfl rfl ?_)
 exact k.out):a:=h ⟨k⟩
theorem ZO {a b:Prop} (k:b) (h:Hd b→a:=by
 intro k
 repeat (first | (refine gO ?_; first | refine Zm ?_ | refine Za ?_ | refine ZU ?_) | (refine gG ?_; first | refine Zn ?_ | refine Zg ?_ | refine ZH ?_) | refine ZV rfl rfl ?_)
 exact k.out):a:=h ⟨k⟩
theorem ZD {a b:Prop} (k:b) (h:Hd b→a:=by
 intro k
 repeat (first | refine ZW ?_ | refine ZI ?_ | refine Zd ?_)
 exact k.out):a:=h ⟨k⟩
section
variable {P:Program} {N:Nat} {c:Cx} {Q:Exit→Act→World→Prop} {p q:Code} {ρ ρ0:Env} {M:Mo} {E F:Ow} {S T R:Type} {r:R} {b:Nat} {cs:List Value} {Ty:TypeId}
open Go.S (jn)
theorem VC.cJ {K:T→Option R} {G:(T→Option R)→Option R} (l:List Nat) (pu:S→T) (va:S→Env→Env) [J9 l ρ ρ0] (hS:jn K G=some r)
    (h1 : ∀ k:T→Option R,G k=some r→VC P N c (Exit.then (Any (fun s=>k (pu s)=some r) P N c (fun s=>va s ρ0) (fun _=>Mo.tt.and M) (fun _=>E)) Q) p ρ M E) (h2 : ∀ s,K (pu s)=some r→VC P N c Q q (va s ρ0) (Mo.tt.and M) E):VC P N c Q (.seq p q) ρ M E:=VC.wT pu (fun s=>va s ρ0) (fun _=>Mo.tt) (fun _=>E) hS h1 h2
theorem VC.cJm {K:T→Option R} {G:(T→Option R)→Option R} (l:List Nat) (pu:S→T) (va:S→Env→Env) (Mx:S→Mo) [J9 l ρ ρ0] (hS:jn K G=some r)
    (h1 : ∀ k:T→Option R,G k=some r→VC P N c (Exit.then (Any (fun s=>k (pu s)=some r) P N c (fun s=>va s ρ0) (fun s=>(Mx s).and M) (fun _=>E)) Q) p ρ M E) (h2 : ∀ s,K (pu s)=some r→VC P N c Q q (va s ρ0) ((Mx s).and M) E):VC P N c Q (.seq p q) ρ M E:=VC.wT pu (fun s=>va s ρ0) Mx (fun _=>E) hS h1 h2
theorem VC.M3 {K:T→Option R} {G:(T→Option R)→Option R} (l:List Nat) (pu:S→T) (va:S→Env→Env) (Mx:S→Mo) (b:Nat) (cs':S→List Value) [J9 l ρ ρ0] [oS E b cs Ty F] (hS:jn K G=some r)
    (h1 : ∀ k:T→Option R,G k=some r→VC P N c (Exit.then (Any (fun s=>k (pu s)=some r) P N c (fun s=>va s ρ0) (fun s=>(Mx s).and M) (fun s=>Ow.star (bM b (cs' s) Ty) F)) Q) p ρ M E) (h2 : ∀ s,K (pu s)=some r→VC P N c Q q (va s ρ0) ((Mx s).and M) (Ow.star (bM b (cs' s) Ty) F)):VC P N c Q (.seq p q) ρ M E:=VC.wT pu (fun s=>va s ρ0) Mx (fun s=>Ow.star (bM b (cs' s) Ty) F) hS h1 h2
theorem VC.iJ {B:T→Option (T⊕R)} (l:List Nat) (pu:S→T) (va:S→Env→Env) [J9 l ρ ρ0] (s0:S) (ks:List Nat) (he:Go.S.iter B (pu s0)=some r)
    (round : ∀ s m y,B (pu s)=some y→Go.S.Step B m r y→VC P N c (Exit.then (Rnd B r m pu P N c (fun s=>va s ρ0) (fun _=>Mo.tt) M (fun _=>E)) Q) p (va s ρ0) (Mo.tt.and M) E) (hρ:ρ.keep ks=va s0 ρ0:=by exact rfl):VC P N c Q (.loop p) ρ M E :=
  VC.iter pu (fun s=>va s ρ0) (fun _=>Mo.tt) (fun _=>E) s0 ks he hρ (i:=⟨fun _ _=>trivial⟩) (l:=⟨fun _ h=>h⟩) round
theorem VC.iJm {B:T→Option (T⊕R)} (l:List Nat) (pu:S→T) (va:S→Env→Env) (Mx:S→Mo) [J9 l ρ ρ0] (s0:S) (ks:List Nat) (he:Go.S.iter B (pu s0)=some r) [i:dM M (Mx s0)]
    (round : ∀ s m y,B (pu s)=some y→Go.S.Step B m r y→VC P N c (Exit.then (Rnd B r m pu P N c (fun s=>va s ρ0) Mx M (fun _=>E)) Q) p (va s ρ0) ((Mx s).and M) E) (hρ:ρ.keep ks=va s0 ρ0:=by exact rfl):VC P N c Q (.loop p) ρ M E :=
  VC.iter pu (fun s=>va s ρ0) Mx (fun _=>E) s0 ks he hρ (l:=⟨fun _ h=>h⟩) round
theorem VC.iJb {B:T→Option (T⊕R)} (l:List Nat) (pu:S→T) (va:S→Env→Env) (Mx:S→Mo) (b:Nat) (cs':S→List Value) [J9 l ρ ρ0] [u:oS E b cs Ty F] (s0:S) (ks:List Nat) (he:Go.S.iter B (pu s0)=some r) [i:dM M (Mx s0)]
    (round : ∀ s m y,B (pu s)=some y→Go.S.Step B m r y→VC P N c (Exit.then (Rnd B r m pu P N c (fun s=>va s ρ0) Mx M (fun s=>Ow.star (bM b (cs' s) Ty) F)) Q) p (va s ρ0) ((Mx s).and M) (Ow.star (bM b (cs' s) Ty) F)) (hc:cs=cs' s0:=by exact rfl) (hρ:ρ.keep ks=va s0 ρ0:=by exact rfl):VC P N c Q (.loop p) ρ M E :=
  VC.iter pu (fun s=>va s ρ0) Mx (fun s=>Ow.star (bM b (cs' s) Ty) F) s0 ks he hρ (l:=⟨by subst hc; exact u.out⟩) round
end
end Go.V
end

section
namespace Go.V
open Go.RowKit
open Go.S (gd at_ lt jn up go Step wD)
def tD (ρ ρ':Env):Prop := ∀ t v,ρ'.get t=some v→ρ.get t=some v
theorem tD.n {ρ:Env}:tD ρ []:=fun _ _ h=>by cases h
theorem tD.c {ρ r:Env} {t:Nat} {v:Value} (h:ρ.get t=some v) (k:tD ρ r):tD ρ ((t,v)::r):=fun t' v' g=>by
  simp only [Env.get] at g
  cases hk:Nat.beq t t' with
  | true=>rw [hk] at g; cases g; have:=Nat.eq_of_beq_eq_true hk; subst this; exact h
  | false=>rw [hk] at g; exact k t' v' g
class EvC (ρ:Env) (x:Operand) (v:outParam Value):Prop where out:ρ.ev x=some v
instance {ρ:Env} {t:Nat} {v:Value} [h:HH ρ t v]:EvC ρ (.tmp t) v:=⟨h.out⟩
instance {ρ:Env} {v:Value}:EvC ρ (.const v) v:=⟨rfl⟩
def bl (n m:Nat):Array Bool:=((List.range n).map fun i=>m.testBit i).toArray
structure XI (P:Program) (N:Nat) (c:Cx) (ops:Array Oper) (ks:List Nat) (D:List (Nat×Value)) (ρ:Env) (M:Mo) (E:Ow):Prop where
  out:bR P N c ops D ρ M E
section
theorem aLF {P:Program} {N:Nat} {c:Cx} {ρ:Env} {M:Mo} {E:Ow} {v:Value} {od:Option Nat} {t ty e:TypeId} {x:Operand} {pos:String} {after:Array Edge} {gd:Option (Nat×Bool)} {α:Type} [bB α] {s:Sv α} {i j:Nat} {z:α} [h1:KV P t] (e1:ρ.ev x=some (ptr s.b (s.o+i*bB.sz α+j))) [hz:ElC s.l i z] [hs:KP E s e] (hv:(bB.enc z)[j]? = some v):Qt P N c ⟨od,.load t x,ty,pos,after,gd⟩ v ρ M E:=yQ h1.out e1 hz.out hv
variable {P:Program} {N:Nat} {c:Cx} {ops:Array Oper} {Q:Exit→Act→World→Prop} {ρ:Env} {M:Mo} {E:Ow} {v:Value} {od:Option Nat} {op:Op} {ty:TypeId} {pos:String} {after:Array Edge} {k:Nat} {ks:List Nat} {D D':List (Nat×Value)}
theorem Pz:XI P N c ops [] [] ρ M E:=⟨bR.nil⟩
theorem Pk (k:Nat) (n:XI P N c ops ks D ρ M E) (hk:ops[k]? = some ⟨od,op,ty,pos,after,none⟩:=by exact rfl) (h:Qt P N c ⟨od,op,ty,pos,after,none⟩ v ρ M E:=by first | exact fR rfl | exact uD rfl | exact gqF (by first | exact aFO rfl | exact aBp rfl) | exact gqL (by first | exact aFP rfl rfl | exact aFM rfl rfl | exact aA2 rfl rfl | exact aA3 rfl rfl | exact aA5 rfl rfl | exact aLF rfl rfl) | exact gqB (by first | exact qU rfl rfl | exact KE rfl rfl | exact wV rfl rfl | exact aBq rfl rfl | exact MH rfl rfl | exact X9 rfl rfl | exact UL rfl rfl | exact KF rfl rfl | exact UI rfl | exact UH rfl | exact lN rfl rfl (by assumption) | exact MI rfl rfl (by assumption) | exact aFR rfl rfl (by assumption)) | exact lX rfl | exact gqC (by first | exact aFQ rfl | exact UM rfl | exact aA6 rfl) | exact gqP (by first | exact H6 rfl rfl | exact DJ rfl rfl) | exact aA4 rfl | exact GU rfl | exact aA7 rfl | exact UK rfl):XI P N c ops (k::ks) ((k,v)::D) ρ M E:=⟨bR.cons hk h n.out⟩
theorem eL {r:List (Nat×Bool)} {R:List (Nat×Value)→Act→World→Prop} (hp:XI P N c ops ks D' ρ M E) (h:HA P N c ops R r D' ρ M E) (hD:gM ops k D=D':=by kernel_rfl):VL P N c ops (toR P N c ops fun a w=>(∀ p∈gM ops k D,YI P ops p a w)∧wpD P ops R r (gM ops k D) a w) [] ρ M E:=VL.back hD hp.out h
theorem zB {n:Nat} {listed:Array Bool} (listed':Array Bool) (hp:XI P N c ops ks D' ρ M E) (h:VG P N c ops Q n D' listed' ρ M E) (hD:gM ops k D=D':=by kernel_rfl) (hL:listed.setIfInBounds k true=listed':=by kernel_rfl):VL P N c ops (toR P N c ops fun a w=>(∀ p∈gM ops k D,YI P ops p a w)∧IG P ops Q n (gM ops k D) (listed.setIfInBounds k true) a w) [] ρ M E:=VL.ER hp.out hD hL h
end
class yH (P:Program) (T:TypeId) (cs:outParam (List Value)):Prop where out:((P.info? T).bind (·.zero)).map (·.cells)=some cs.toArray
section
variable {P:Program} {N:Nat} {c:Cx} {ops:Array Oper} {Q Q1:Exit→Act→World→Prop} {rest:List Oper} {ρ:Env} {M M0:Mo} {E F:Ow} {v u:Value} {d:Nat} {od:Option Nat} {t:Nat} {ty T e:TypeId} {cs:List Value} {pos:String} {after:Array Edge} {gd':Option (Nat×Bool)} {x y z:Operand} {q p:Code} {α:Type} [bB α] {Y R S S1:Type}
theorem dG [h:yH P T cs] (k : ∀ b:Nat,VL P N c ops Q rest ((d,ptr b 0)::ρ) M (Ow.star (bM b cs T) E)) (hd:d < N:=by decide):VL P N c ops Q (⟨some d,.alloc T,ty,pos,after,none⟩::rest) ρ M E:=VL.alloc h.out hd k
theorem kF [e:EvC ρ x v] [h:I1 v cs] (k : ∀ b:Nat,VL P N c ops Q rest ((d,ptr b 0)::ρ) M (Ow.star (bM b cs T) E)) (hd:d < N:=by decide):VL P N c ops Q (⟨some d,.box T x,ty,pos,after,none⟩::rest) ρ M E:=VL.box e.out h.out.1 hd k
section
variable {φ:S→Prop} {ρ':S→Env} {Mx:S→Mo} {E':S→Ow} {s:S}
theorem VL.mtA (hq : ∀ a w,Any φ P N c ρ' (fun s=>(Mx s).and M0) E' a w→Q .normal a w) (hφ:φ s) [i:dM M (Mx s)] [j:Ext M0 M] [l:fL E (E' s)] (e:tD ρ (ρ' s):=by repeat (first | exact tD.n | refine tD.c rfl ?_)):VL P N c ops Q [] ρ M E :=
  VL.nil fun a w g y=>hq a w ⟨s,hφ,g.sub e,y.mono (fun h m=>⟨i.out h m,j.out h m⟩) l.out⟩
theorem VD.mtA {D:List (Nat×Value)} (hq : ∀ a w,Any φ P N c ρ' (fun s=>(Mx s).and M0) E' a w→Q .normal a w) (hφ:φ s) [i:dM M (Mx s)] [j:Ext M0 M] [l:fL E (E' s)] (e:tD ρ (ρ' s):=by repeat (first | exact tD.n | refine tD.c rfl ?_)):VD P N c ops Q [] D ρ M E :=
  VD.nil fun a w g y=>hq a w ⟨s,hφ,g.sub e,y.mono (fun h m=>⟨i.out h m,j.out h m⟩) l.out⟩
theorem VC.P0 (hq : ∀ a w,Any φ P N c ρ' (fun s=>(Mx s).and M0) E' a w→Q .normal a w) (hφ:φ s) [i:dM M (Mx s)] [j:Ext M0 M] [l:fL E (E' s)] (e:tD ρ (ρ' s):=by repeat (first | exact tD.n | refine tD.c rfl ?_)):VC P N c Q .skip ρ M E :=
  VC.skip fun a w g y=>hq a w ⟨s,hφ,g.sub e,y.mono (fun h m=>⟨i.out h m,j.out h m⟩) l.out⟩
theorem VC.O9 {id:Nat} (hq : ∀ a w,Any φ P N c ρ' (fun s=>(Mx s).and M0) E' a w→Q (.exit id) a w) (hφ:φ s) [i:dM M (Mx s)] [j:Ext M0 M] [l:fL E (E' s)] (e:tD ρ (ρ' s):=by repeat (first | exact tD.n | refine tD.c rfl ?_)):VC P N c Q (.exit id) ρ M E :=
  VC.exit fun a w g y=>hq a w ⟨s,hφ,g.sub e,y.mono (fun h m=>⟨i.out h m,j.out h m⟩) l.out⟩
end
section
variable {B:Y→Option (Y⊕R)} {r:R} {m:Nat} {pu:S→Y} {ρ':S→Env} {Mx:S→Mo} {E':S→Ow} {s:S} {y:Y⊕R}
theorem VL.aAb (hq : ∀ a w,Rnd B r m pu P N c ρ' Mx M0 E' a w→Q .normal a w) (hS:go (pu s)=some y) (hK:Step B m r y) [i:dM M (Mx s)] [j:Ext M0 M] [l:fL E (E' s)] (e:tD ρ (ρ' s):=by repeat (first | exact tD.n | refine tD.c rfl ?_)):VL P N c ops Q [] ρ M E :=
  VL.nil fun a w g st=>hq a w ⟨s,m,go2 hS hK,Nat.lt_succ_self m,g.sub e,st.mono (fun h m=>⟨i.out h m,j.out h m⟩) l.out⟩
theorem VD.aAb {D:List (Nat×Value)} (hq : ∀ a w,Rnd B r m pu P N c ρ' Mx M0 E' a w→Q .normal a w) (hS:go (pu s)=some y) (hK:Step B m r y) [i:dM M (Mx s)] [j:Ext M0 M] [l:fL E (E' s)] (e:tD ρ (ρ' s):=by repeat (first | exact tD.n | refine tD.c rfl ?_)):VD P N c ops Q [] D ρ M E :=
  VD.nil fun a w g st=>hq a w ⟨s,m,go2 hS hK,Nat.lt_succ_self m,g.sub e,st.mono (fun h m=>⟨i.out h m,j.out h m⟩) l.out⟩
theorem VC.Q7 (hq : ∀ a w,Rnd B r m pu P N c ρ' Mx M0 E' a w→Q .normal a w) (hS:go (pu s)=some y) (hK:Step B m r y) [i:dM M (Mx s)] [j:Ext M0 M] [l:fL E (E' s)] (e:tD ρ (ρ' s):=by repeat (first | exact tD.n | refine tD.c rfl ?_)):VC P N c Q .skip ρ M E :=
  VC.skip fun a w g st=>hq a w ⟨s,m,go2 hS hK,Nat.lt_succ_self m,g.sub e,st.mono (fun h m=>⟨i.out h m,j.out h m⟩) l.out⟩
theorem VC.QT {id:Nat} (hq : ∀ a w,Rnd B r m pu P N c ρ' Mx M0 E' a w→Q (.exit id) a w) (hS:go (pu s)=some y) (hK:Step B m r y) [i:dM M (Mx s)] [j:Ext M0 M] [l:fL E (E' s)] (e:tD ρ (ρ' s):=by repeat (first | exact tD.n | refine tD.c rfl ?_)):VC P N c Q (.exit id) ρ M E :=
  VC.exit fun a w g st=>hq a w ⟨s,m,go2 hS hK,Nat.lt_succ_self m,g.sub e,st.mono (fun h m=>⟨i.out h m,j.out h m⟩) l.out⟩
end
section
variable {φ:Prop} [Decidable φ] {A B:Option R} {r:R} {b:Bool} {op:Op} {j:Nat} {w:Bool}
theorem ZsA (hS:(if φ then A else B)=some r) (h1:φ→A=some r→VL P N c ops Q (⟨od,op,ty,pos,after,some (j,w)⟩::rest) ((t,.bool true)::ρ) M E) (h2 : ¬ φ→B=some r→VL P N c ops Q (⟨od,op,ty,pos,after,some (j,w)⟩::rest) ((t,.bool false)::ρ) M E) (hj:(ops[j]?).bind (·.dst)=some t:=by exact rfl) (e:ρ.get t=some (.bool (decide φ)):=by exact rfl):VL P N c ops Q (⟨od,op,ty,pos,after,some (j,w)⟩::rest) ρ M E:=oT t hS h1 h2 e
theorem ZsN (hS:(if φ then A else B)=some r) (h1 : ¬ φ→B=some r→VL P N c ops Q (⟨od,op,ty,pos,after,some (j,w)⟩::rest) ((t,.bool true)::ρ) M E) (h2:φ→A=some r→VL P N c ops Q (⟨od,op,ty,pos,after,some (j,w)⟩::rest) ((t,.bool false)::ρ) M E) (hj:(ops[j]?).bind (·.dst)=some t:=by exact rfl) (e:ρ.get t=some (.bool (!decide φ)):=by exact rfl):VL P N c ops Q (⟨od,op,ty,pos,after,some (j,w)⟩::rest) ρ M E:=S5 t hS h1 h2 e
theorem ZsB (hS:(if b=true then A else B)=some r) (h1:b=true→A=some r→VL P N c ops Q (⟨od,op,ty,pos,after,some (j,w)⟩::rest) ((t,.bool true)::ρ) M E) (h2:b=false→B=some r→VL P N c ops Q (⟨od,op,ty,pos,after,some (j,w)⟩::rest) ((t,.bool false)::ρ) M E) (hj:(ops[j]?).bind (·.dst)=some t:=by exact rfl) (e:ρ.get t=some (.bool b):=by exact rfl):VL P N c ops Q (⟨od,op,ty,pos,after,some (j,w)⟩::rest) ρ M E:=B3 t hS h1 h2 e
end
end
class gS (P:Program) (f:FuncId) (args:List Value) {Y:Type} (A:Option Y) (M1:outParam Mo) (val:outParam (Y→Value)):Prop where out : ∀ {y},A=some y→Cp P f args M1 (val y)
class jG (P:Program) (f:FuncId) (args:List Value) {Y:Type} (A:Option Y) (M1:outParam Mo) {X:outParam Type} (val:outParam (X→Value)) (pl:outParam (X→Y)) (M2:outParam (X→Mo)):Prop where out : ∀ {y},A=some y→Ct P f args M1 Ow.emp val (fun x=>y=pl x) M2 (fun _=>Ow.emp)
class uL (P:Program) (f:FuncId) (args:List Value) {Y:Type} (A:Option Y) (M1:outParam Mo) (E1:outParam Ow) {X:outParam Type} (val:outParam (X→Value)) (pl:outParam (X→Y)) (M2:outParam (X→Mo)) (E2:outParam (X→Ow)):Prop where out : ∀ {y},A=some y→Ct P f args M1 E1 val (fun x=>y=pl x) M2 E2
section
variable {P:Program} {N:Nat} {c:Cx} {ops:Array Oper} {Q:Exit→Act→World→Prop} {rest:List Oper} {ρ:Env} {M M1:Mo} {E E1 F:Ow} {d f:Nat} {ty:TypeId} {pos:String} {after:Array Edge} {X Y R:Type} {A:Option Y} {K:Y→Option R} {r:R} {xs:List Operand} {ts:Array TypeId} {args:List Value} {fn:Func} {code:Code}
theorem gU {val:Y→Value} (hf:P.funcs[f]? = some fn) (hn:fn.ntmps=N) (h : ∀ r,A=some r → ∀ c,VC P N c (bodyPost P fn fun en w' => ∃ z,en = .returned z∧Post (X:=Unit) (fun _=>val r) (fun _=>True) (fun _=>Mo.tt) (fun _=>Ow.emp) c z w') code (Env.of 0 args) M1 Ow.emp) (hb:fn.body=some code:=by exact rfl) (hnm:(fn.name == "runtime.NumGoroutine")=false:=by kernel_rfl) (hl:args.length≤N:=by simp):gS P f args A M1 val:=⟨fun e=>Zo hf hn (h _ e) hb hnm hl⟩
theorem jO {val:X→Value} {pl:X→Y} {M2:X→Mo} (hf:P.funcs[f]? = some fn) (hn:fn.ntmps=N) (h : ∀ r,A=some r → ∀ c,VC P N c (bodyPost P fn fun en w' => ∃ z,en = .returned z∧Post val (fun x=>r=pl x) M2 (fun _=>Ow.emp) c z w') code (Env.of 0 args) M1 Ow.emp) (hb:fn.body=some code:=by exact rfl) (hnm:(fn.name == "runtime.NumGoroutine")=false:=by kernel_rfl) (hl:args.length≤N:=by simp):jG P f args A M1 val pl M2:=⟨fun e=>Zo hf hn (h _ e) hb hnm hl⟩
theorem uV {val:X→Value} {pl:X→Y} {M2:X→Mo} {E2:X→Ow} (hf:P.funcs[f]? = some fn) (hn:fn.ntmps=N) (h : ∀ r,A=some r → ∀ c,VC P N c (bodyPost P fn fun en w' => ∃ z,en = .returned z∧Post val (fun x=>r=pl x) M2 E2 c z w') code (Env.of 0 args) M1 E1) (hb:fn.body=some code:=by exact rfl) (hnm:(fn.name == "runtime.NumGoroutine")=false:=by kernel_rfl) (hl:args.length≤N:=by simp):uL P f args A M1 E1 val pl M2 E2:=⟨fun e=>Zo hf hn (h _ e) hb hnm hl⟩
theorem jU {val:Y→Value} (hS:A.bind K=some r) (ha:ρ.lH xs=some args) [h:gS P f args A M1 val] (k : ∀ y,K y=some r→VL P N c ops Q rest ((d,val y)::ρ) M E) [i:dM M M1] (hd:d < N:=by decide):VL P N c ops Q (⟨some d,.call { callee := .value (.func f),args:=xs.toArray,argTypes:=ts },ty,pos,after,none⟩::rest) ρ M E:=Zcq hS h.out k ha (hd:=hd)
theorem fN {val:X→Value} {pl:X→Y} {M2:X→Mo} (hS:A.bind K=some r) (ha:ρ.lH xs=some args) [h:jG P f args A M1 val pl M2] (k : ∀ x,K (pl x)=some r→VL P N c ops Q rest ((d,val x)::ρ) ((M2 x).and M) E) [i:dM M M1] (hd:d < N:=by decide):VL P N c ops Q (⟨some d,.call { callee := .value (.func f),args:=xs.toArray,argTypes:=ts },ty,pos,after,none⟩::rest) ρ M E:=HB hS h.out k ha (hd:=hd)
theorem fJ {val:X→Value} {pl:X→Y} {M2:X→Mo} {E2:X→Ow} (hS:A.bind K=some r) (ha:ρ.lH xs=some args) [h:uL P f args A M1 E1 val pl M2 E2] (k : ∀ x,K (pl x)=some r→VL P N c ops Q rest ((d,val x)::ρ) ((M2 x).and M) (Ow.star (E2 x) F)) [i:dM M M1] [j:Fo E E1 F] (hd:d < N:=by decide):VL P N c ops Q (⟨some d,.call { callee := .value (.func f),args:=xs.toArray,argTypes:=ts },ty,pos,after,none⟩::rest) ρ M E:=x6 hS h.out k ha (hd:=hd)
end
theorem noS {R:Type} {r:R} {a:Prop} (h:(none:Option R)=some r):a:=by cases h
theorem ZE {R:Type} {A:Option R} {r:R} {a:Prop} (hS:A=some r) (h:A=some r→a:=by
 intro hS
 repeat' (first | (refine gO ?_; first | refine Zm ?_ | refine Za ?_ | refine ZU ?_ | refine dG fun _ => ?_ | refine kF fun _ => ?_ | refine tE hS fun _ hS => ?_ | refine BY hS rfl fun _ _ hS => ?_ | (refine gCa ?_; first | refine jU hS rfl (fun _ hS => ?_) | refine fN hS rfl (fun _ hS => ?_) | refine fJ hS rfl (fun _ hS => ?_) | refine XJ hS fun _ hS => ?_) | replace hS:=lQ hS (by assumption) | obtain ⟨_,hS⟩:=Go.S.bX hS) | (refine gVC ?_; first | refine cI ?_ | refine Zq ?_ | refine Zr ?_ | refine Zb ?_ | refine Zk ?_ | refine Zx ?_ | refine Zc hS (fun _ hS => ?_) (fun _ hS => ?_) | refine iG hS (fun _ hS => ?_) (fun _ hS => ?_) | refine qD hS (fun _ hS => ?_) (fun _ hS => ?_) | (cases hS; first | exact Ze | exact VC.ret (Z1 _) | exact VC.ret (Z1 ⟨none,0,[]⟩) | exact VC.ret (Z1 .nil) | exact VC.ret (Z1 ()) | exact VC.ret (Z2 ()) | exact VC.ret (Z2 (_,_)) | exact VC.ret (Z2 (_,.nil)) | exact VC.ret (Z2 (⟨none,0,[]⟩,_)) | exact VC.ret (Z2 (⟨none,0,[]⟩,.nil)) | exact VC.ret (Z2 (_,_,_)) | exact VC.ret (Z4 () rfl) | exact VC.ret (Z4 _ rfl) | exact VC.ret (Z4 (_,_) rfl) | exact VC.ret (Z4 (_,.nil) rfl) | exact VC.ret (Z4 (_,Er.no _) rfl) | exact VC.ret (Z4 (⟨none,0,[]⟩,_) rfl) | exact VC.ret (Z4 (_,_,_) rfl) | exact VC.ret (Z4 (_,_,.nil) rfl) | exact VC.ret (Z4 (_,_,Er.no _) rfl)) | exact VC.O9 (fun _ _ h=>h) hS | exact VC.O9 (s:=()) (fun _ _ h=>h) hS | exact VC.P0 (fun _ _ h=>h) hS | exact VC.P0 (s:=()) (fun _ _ h=>h) hS | exact VC.QT (fun _ _ h=>h) hS (by assumption) | exact VC.Q7 (fun _ _ h=>h) hS (by assumption) | replace hS:=lQ hS (by assumption) | obtain ⟨_,hS⟩:=Go.S.bX hS | (dsimp only at hS; first | exact VC.O9 (s:=(_,_)) (fun _ _ h=>h) hS | exact VC.O9 (s:=(_,_,_)) (fun _ _ h=>h) hS | exact VC.O9 (s:=(_,_,_,_)) (fun _ _ h=>h) hS | exact VC.P0 (s:=(_,_)) (fun _ _ h=>h) hS | exact VC.P0 (s:=(_,_,_)) (fun _ _ h=>h) hS | exact VC.P0 (s:=(_,_,_,_)) (fun _ _ h=>h) hS | exact VC.QT (s:=(_,_)) (fun _ _ h=>h) hS (by assumption) | exact VC.QT (s:=(_,_,_)) (fun _ _ h=>h) hS (by assumption) | exact VC.QT (s:=(_,_,_,_)) (fun _ _ h=>h) hS (by assumption) | exact VC.Q7 (s:=(_,_)) (fun _ _ h=>h) hS (by assumption) | exact VC.Q7 (s:=(_,_,_)) (fun _ _ h=>h) hS (by assumption) | exact VC.Q7 (s:=(_,_,_,_)) (fun _ _ h=>h) hS (by assumption))) | (refine gN ?_; first | refine Zl ?_ | exact VL.mtA (fun _ _ h=>h) hS | exact VL.mtA (s:=()) (fun _ _ h=>h) hS | exact VL.aAb (fun _ _ h=>h) hS (by assumption) | replace hS:=lQ hS (by assumption) | obtain ⟨_,hS⟩:=Go.S.bX hS | (dsimp only at hS; first | exact VL.mtA (s:=(_,_)) (fun _ _ h=>h) hS | exact VL.mtA (s:=(_,_,_)) (fun _ _ h=>h) hS | exact VL.mtA (s:=(_,_,_,_)) (fun _ _ h=>h) hS | exact VL.aAb (s:=(_,_)) (fun _ _ h=>h) hS (by assumption) | exact VL.aAb (s:=(_,_,_)) (fun _ _ h=>h) hS (by assumption) | exact VL.aAb (s:=(_,_,_,_)) (fun _ _ h=>h) hS (by assumption))) | refine ZV rfl rfl ?_ | (refine gG ?_; first | refine Zn ?_ | refine Zg ?_ | refine ZH ?_ | refine VL.gu rfl rfl (by decide) ?_ | refine ZsA hS (fun _ hS => ?_) (fun _ hS => ?_) | refine ZsB hS (fun _ hS => ?_) (fun _ hS => ?_) | refine ZsN hS (fun _ hS => ?_) (fun _ hS => ?_) | refine aIz hS rfl fun _ _ hS => ?_ | replace hS:=lQ hS (by assumption) | obtain ⟨_,hS⟩:=Go.S.bX hS) | (refine gVD ?_; first | refine ZW ?_ | refine ZI ?_ | refine Zd ?_ | refine VD.gu rfl rfl rfl (by decide) ?_ | refine xE ?_ | refine aCk hS rfl fun _ _ hS => ?_ | refine aTJ hS rfl fun _ _ hS => ?_ | exact VD.mtA (fun _ _ h=>h) hS | exact VD.mtA (s:=()) (fun _ _ h=>h) hS | exact VD.aAb (fun _ _ h=>h) hS (by assumption) | replace hS:=lQ hS (by assumption) | obtain ⟨_,hS⟩:=Go.S.bX hS | (dsimp only at hS; first | exact VD.mtA (s:=(_,_)) (fun _ _ h=>h) hS | exact VD.mtA (s:=(_,_,_)) (fun _ _ h=>h) hS | exact VD.mtA (s:=(_,_,_,_)) (fun _ _ h=>h) hS | exact VD.aAb (s:=(_,_)) (fun _ _ h=>h) hS (by assumption) | exact VD.aAb (s:=(_,_,_)) (fun _ _ h=>h) hS (by assumption) | exact VD.aAb (s:=(_,_,_,_)) (fun _ _ h=>h) hS (by assumption))) | exact noS hS)):a:=h hS
end Go.V
end

section
set_option linter.unusedVariables false
namespace Go.V
open Go.RowKit Go.S
abbrev Ck:=iM
def N3 (op:Bool) (x:Ck):Ow:=match op with
  | true=>Ow.star (x.base.own 9) (Ow.star (x.ours.own 9) (Ow.star (x.cR.own 9) (x.out.own 9)))
  | false=>Ow.emp
instance (priority:=1950) (E:Ow) (x:Ck):fL E (N3 false x):=⟨fun _ _=>trivial⟩
instance (priority:=1950) (E:Ow) (x:Ck):Fo E (N3 false x) E:=⟨nC.none⟩
def MA (l:List Ck):Mo:=⟨fun h => ∀ x∈l,x.m.on h,fun k g x hx=>x.m.up k (g x hx)⟩
instance (M:Mo):dM M (MA []):=⟨fun _ _ z hz=>by cases hz⟩
def aMP:Ck:=⟨⟨none,0,[]⟩,⟨none,0,[]⟩,⟨none,0,[]⟩,false,⟨none,0,[]⟩⟩
structure Rel (s:Sh.DS) (o:Sv Ck) (fr:List Ck) (x:Ck):Prop where
  yes:s.op=true→o.l=fr++[x]
  no:s.op=false→fr=o.l∧x=aMP
  out:o.l.map iM.pl=s.out
theorem MA.snoc {M:Mo} {fr:List Ck} {x:Ck} (h : ∀ h,M.on h→(MA fr).on h) (hx : ∀ h,M.on h→x.m.on h) : ∀ h,M.on h→(MA (fr++[x])).on h:=fun hp m y hy=>by
  rcases List.mem_append.1 hy with q | q
  . exact h hp m y q
  . cases List.mem_singleton.1 q; exact hx hp m
theorem VC.aN8 {P:Program} {N:Nat} {c:Cx} {Q:Exit→Act→World→Prop} {ρ:Env} {M:Mo} {E F:Ow} {k:Code} {s:Sh.DS} {o:Sv Ck} {fr:List Ck} {x:Ck} (op:Bool) (hop:s.op=op) (hR:Rel s o fr x) [i:dM M (MA fr)] [j:Fo E (N3 op x) F] (g:VC P N c Q k ρ ((MA o.l).and M) F):VC P N c Q k ρ M E :=
  VC.freeze j.out (fun a b dd m hA=>by
    have hf:(MA fr).on (a.join b):=(MA fr).up (Hp.cU a b) (i.out a m)
    cases op with
    | false=>rw [← (hR.no hop).1]; exact hf
    | true =>
      rw [hR.yes hop]
      obtain ⟨x1,y1,d1,j1,h1,x2,y2,d2,j2,h2,x3,y3,d3,j3,h3,h4⟩:=hA
      subst j3; subst j2; subst j1
      have l3:=Hp.cU x3 y3
      have l3':=Hp.fS d3
      have l2:=Hp.cU x2 (x3.join y3)
      have l2':=Hp.fS d2
      have l1:=Hp.cU x1 (x2.join (x3.join y3))
      have l1':=Hp.fS d1
      have lb:=Hp.fS dd
      have ok : ∀ (q:Sv bI) (z:Hp),q.own 9 z→q.ok.on z:=fun q z hq=>Sv.aD0 hq fun _ _=>trivial
      intro z hz
      rcases List.mem_append.1 hz with hz | hz
      . exact hf z hz
      . cases List.mem_singleton.1 hz
        exact ⟨x.base.ok.up (l1.trans lb) (ok _ _ h1),x.ours.ok.up ((l2.trans l1').trans lb) (ok _ _ h2),x.cR.ok.up (((l3.trans l2').trans l1').trans lb) (ok _ _ h3),x.out.ok.up (((l3'.trans l2').trans l1').trans lb) (ok _ _ h4)⟩) g
theorem MA.set {hp:Hp} {l:List Ck} {i:Nat} {x:Ck} (h:(MA l).on hp) (hx:x.m.on hp):(MA (l.set i x)).on hp:=fun y hy=>by
  rcases List.mem_or_eq_of_mem_set hy with q | q
  . exact h y q
  . subst q; exact hx
theorem aKN {l:List Ck} {i:Nat} {x y:Ck} (h:l[i]? = some x) (e:y.pl=x.pl):(l.set i y).map iM.pl=l.map iM.pl:=by
 apply List.ext_getElem?
 intro j
 rw [List.getElem?_map,List.getElem?_map,List.getElem?_set]
 by_cases q:i=j
 ·
  subst q
  rw [if_pos rfl,if_pos (List.getElem?_eq_some_iff.1 h).1,h]
  simp [e]
 rw [if_neg q]
theorem aRK {α:Type} {l fr:List α} {x:α} (h:l=fr++[x]):l[((l.length:Int) - 1).toNat]? = some x:=by
 subst h; simp
theorem aRL {α:Type} {l fr:List α} {x:α} (h:l=fr++[x]):((l.length:Int) - 1).toNat=fr.length:=by
 subst h; simp
theorem VR {α:Type} {fr:List α} {x z:α}:(fr++[x]).set fr.length z=fr++[z]:=by simp
abbrev Zp (o:Sv Ck) (n:Nat):Value:=ptr o.b (o.o+(((o.l.length:Int) - 1).toNat)*bB.sz Ck+n)
abbrev kQ (o:Sv Ck) (a b c n:Nat) (v:Value) (r:List (Nat×Value)):List (Nat×Value):=(a,v)::(b,Zp o n)::(c,Zp o 0)::r
abbrev kD4 (o:Sv Ck) (x:Ck):List (Nat×Value):=[]
abbrev kD3 (o:Sv Ck) (x:Ck):=kQ o 28 27 26 4 x.out.val []
abbrev kD2 (o:Sv Ck) (x:Ck):=kQ o 28 27 26 4 x.out.val (kQ o 21 20 19 2 x.cR.val [])
abbrev kD1 (o:Sv Ck) (x:Ck):=kQ o 28 27 26 4 x.out.val (kQ o 21 20 19 2 x.cR.val (kQ o 14 13 12 1 x.ours.val []))
abbrev X3 (o:Sv Ck) (x:Ck):=kQ o 28 27 26 4 x.out.val (kQ o 21 20 19 2 x.cR.val (kQ o 14 13 12 1 x.ours.val (kQ o 7 6 5 0 x.base.val [])))
abbrev kA (o:Sv Ck) (b n:Nat) (v:Value) (e:Nat×Value) (r:Env):Env:=(b,Zp o 0)::(b+1,Zp o 0)::(b+2,Zp o n)::(b+3,v)::e::r
abbrev kB (p:Nat) (o:Sv Ck) (line:bI) (r:Env):Env:=(0,ptr p 0)::(2,str line)::(3,Zp o 0)::(43,Zp o 0)::(44,Zp o 0)::(45,Zp o 0)::(46,Zp o 0)::r
abbrev kE (p:Nat) (bv ov tv:Sv bI) (i j k:Int) (o:Sv Ck) (a b c d:Sv bI):Ow:=Ow.star (bM p [bv.val,ov.val,tv.val,i64 i,i64 j,i64 k,o.val,.bool true] 415) (Ow.star (o.own 407) (Ow.star (a.own 9) (Ow.star (b.own 9) (Ow.star (c.own 9) (Ow.star (d.own 9) Ow.emp)))))
theorem al1 {p:Nat→Prop} {a:Nat} (h:p a) : ∀ i∈[a],p i:=fun i hi=>by cases List.mem_singleton.1 hi; exact h
theorem al2 {p:Nat→Prop} {a b:Nat} (h:p a) (g:p b) : ∀ i∈[a,b],p i:=List.forall_mem_cons.2 ⟨h,al1 g⟩
theorem al3 {p:Nat→Prop} {a b c:Nat} (h:p a) (g:p b) (f:p c) : ∀ i∈[a,b,c],p i:=List.forall_mem_cons.2 ⟨h,al2 g f⟩
theorem al4 {p:Nat→Prop} {a b c d:Nat} (h:p a) (g:p b) (f:p c) (e:p d) : ∀ i∈[a,b,c,d],p i:=List.forall_mem_cons.2 ⟨h,al3 g f e⟩
section
variable {P:Program} {N:Nat} {c:Cx} {ops:Array Oper} {Q:Exit→Act→World→Prop} {ρ:Env} {M:Mo} {E F:Ow} {d n k:Nat} {ty t:TypeId} {pos:String} {after:Array Edge} {x y:Operand} {D:List (Nat×Value)} {D':Sv bI→List (Nat×Value)} {listed listed':Array Bool} {ρ':Sv bI→Env} {M':Sv bI→Mo} {E':Sv bI→Ow} {line:bI}
theorem aTZ {D1:List (Nat×Value)} {ρ1:Env} {M1:Mo} {E1:Ow} (hp:bR P N c ops D1 ρ M E) (hD:gM ops k D=D1) (hL:listed.setIfInBounds k true=listed') (hs:tD ρ ρ1) (hM : ∀ h,M.on h→M1.on h) (hE : ∀ e,E e→E1 e) (h:VG P N c ops Q n D1 listed' ρ1 M1 E1) :
 VL P N c ops (toR P N c ops fun a w=>(∀ p∈gM ops k D,YI P ops p a w)∧IG P ops Q n (gM ops k D) (listed.setIfInBounds k true) a w) [] ρ M E:=by
 subst hL; subst hD
 exact VL.nil fun a w x y=>⟨rfl,hp a w x y,h a w (x.sub hs) (y.mono hM hE) (hp a w x y)⟩
theorem kP {ks:List Nat} {D0:List (Nat×Value)} {v1 v2 v3:Value} {t1 s1 y1 y2 y3:TypeId} {i1:Nat} {x1 x2 x3:Operand} {p1 p2 p3:String} {f1 f2 f3:Array Edge} {o1 o2 o3:Option Nat} (a b e:Nat) (n:XI P N c ops ks D0 ρ M E) (h1:ops[a]? = some ⟨o1,.load t1 x1,y1,p1,f1,none⟩:=by exact rfl) (g1:Qt P N c ⟨o1,.load t1 x1,y1,p1,f1,none⟩ v1 ρ M E:=by exact aLF rfl rfl) (h2:ops[b]? = some ⟨o2,.fieldAddr s1 x2 i1,y2,p2,f2,none⟩:=by exact rfl) (g2:Qt P N c ⟨o2,.fieldAddr s1 x2 i1,y2,p2,f2,none⟩ v2 ρ M E:=by exact aBp rfl)
    (h3:ops[e]? = some ⟨o3,.nilCheck x3,y3,p3,f3,none⟩:=by exact rfl) (g3:Qt P N c ⟨o3,.nilCheck x3,y3,p3,f3,none⟩ v3 ρ M E:=by exact lX rfl):XI P N c ops (a::b::e::ks) ((a,v1)::(b,v2)::(e,v3)::D0) ρ M E:=⟨bR.cons h1 g1 (bR.cons h2 g2 (bR.cons h3 g3 n.out))⟩
theorem mR (hk:ops[k]? = some ⟨some d,.buildSlice t 1 #[(0,x)],ty,pos,after,none⟩) (h : ∀ s:Sv bI,s.l=[line]→VG P N c ops Q n (D' s) listed' (ρ' s) (M' s) (E' s)) (hp : ∀ s:Sv bI,bR P N c ops (D' s) ((d,s.val)::ρ) (s.ok.and M) E) [hu:KA P t (.slice 9)] [hz:JC P 9 (bB.sz bI)] (hx:ρ.ev x=some (str line):=by exact rfl) (hd:d < N:=by decide) (hD : ∀ s,gM ops k D=D' s:=by intro s; kernel_rfl) (hL:listed.setIfInBounds k true=listed':=by kernel_rfl)
    (hs : ∀ s:Sv bI,tD ((d,s.val)::ρ) (ρ' s):=by intro s; repeat (first | exact tD.n | refine tD.c rfl ?_)) [hM : ∀ s,dM (s.ok.and M) (M' s)] [hE : ∀ s,fL E (E' s)]:pX P N c ops Q n D listed ρ M E k :=
  pX.of hk (VL.lit (α:=bI) (xs:=[x]) (vs:=[str line]) [line] hu.out hz.out (by decide) rfl (by simp only [Env.lH,hx]) rfl rfl (by decide) (fun _ _ _ _=>trivial) hd (fun s h1=>aTZ (hp s) (hD s) hL (hs s) (hM s).out (hE s).out (h s h1)) (by decide))
theorem LY {a r:Sv bI} {bt:Nat} (hk:ops[k]? = some ⟨some d,.call { callee := .builtin .append,args := #[x,y],argTypes := #[t,t]},ty,pos,after,none⟩) (h : ∀ s:Sv bI,s.l=a.l++[line]→VG P N c ops Q n (D' s) listed' (ρ' s) (M' s) (E' s)) (hr:r.l=[line]) (hn:a.l.length≤1048576) (hp : ∀ s:Sv bI,bR P N c ops (D' s) ((d,s.val)::ρ) M (Ow.star (s.own 9) F)) [hu:KA P t (.slice 9)] [hi:LI P 9 (bB.sz bI) bt] (hx:ρ.lH [x,y]=some [a.val,r.val]:=by exact rfl) [hF:Fo E (a.own 9) F] [hm:dM M r.ok] (hb:bt≤32768:=by decide) (hd:d < N:=by decide) (hD : ∀ s,gM ops k D=D' s:=by intro s; kernel_rfl) (hL:listed.setIfInBounds k true=listed':=by kernel_rfl)
    (hs : ∀ s:Sv bI,tD ((d,s.val)::ρ) (ρ' s):=by intro s; repeat (first | exact tD.n | refine tD.c rfl ?_)) [hM : ∀ s,dM M (M' s)] [hE : ∀ s:Sv bI,fL (Ow.star (s.own 9) F) (E' s)]:pX P N c ops Q n D listed ρ M E k :=
  pX.of hk (VL.app (s:=a) (r:=r) (xs:=[x,y]) hu.out hi.out (by decide) hx hF.out (by rw [hr]; simp; omega) (by rw [hr]; exact Nat.le_trans (Nat.mul_le_mul (show a.l.length+1≤1048577 by omega) hb) (by decide)) hd (fun s h1=>aTZ (hp s) (hD s) hL (hs s) (hM s).out (hE s).out (h s (by rw [h1,hr]))))
end
structure Wr where
  s:Sh.DS
  o:Sv Ck
  fr:List Ck
  x:Ck
  h:Rel s o fr x
def wr0:Wr:=⟨⟨[],0,0,0,false⟩,⟨none,0,[]⟩,[],aMP,⟨(fun h=>by cases h),(fun _=>⟨rfl,rfl⟩),rfl⟩⟩
end Go.V
end

section
set_option linter.unusedVariables false
namespace Go.V
open Go.RowKit Go.S
@[reducible] def aI (x:aL):List Value:=[x.aU.val,x.aS.val,x.aZ.val,str x.aH,i64 x.aG,str x.aR,i64 x.aM,str x.aT,x.aN.val,x.aP.val,i64 x.aO,str x.aJ,str x.aD,i64 x.aE,x.aK.val,x.aQ.val,x.aW.val,x.aX.val,x.bF.val,x.aY.val,i64 x.time]
@[reducible] def pL (x:iY):List Value:=[x.work.val,x.index.val,x.refs.val,str x.cH,i64 x.cB,str x.fG,i64 x.eO,str x.fH,x.dJ.val,x.eB.val,i64 x.fD,str x.dW,str x.bV,i64 x.bW,x.dK.val,x.eD.val,x.gD.val]
@[reducible] def R6 (x:uC):List Value:=[str x.kind,i64 x.other,str x.text,x.HP.val,x.todo.val,i64 x.made,str x.branch,str x.cH,i64 x.cB,x.index.val,x.work.val]
instance (x:aC):B2 x [str x.path,i64 x.mode,str x.data]:=⟨rfl⟩
instance (x:dP):B2 x [str x.name,i64 x.cF]:=⟨rfl⟩
instance (x:IndexEntry):B2 x [str x.path,i64 x.fA,i64 x.mode,str x.data,i64 x.time,i64 x.size]:=⟨rfl⟩
instance (x:bN):B2 x [i64 x.base,x.index.val,x.work.val,str x.text]:=⟨rfl⟩
instance (x:iV):B2 x [str x.line,str x.path,str x.data,.bool x.gone]:=⟨rfl⟩
instance (x:bJ):B2 x [str x.verb,i64 x.cF,str x.text]:=⟨rfl⟩
instance (x:cD):B2 x [x.tree.val,x.parents.val,i64 x.time,str x.text]:=⟨rfl⟩
instance (x:aL):B2 x [x.aU.val,x.aS.val,x.aZ.val,str x.aH,i64 x.aG,str x.aR,i64 x.aM,str x.aT,x.aN.val,x.aP.val,i64 x.aO,str x.aJ,str x.aD,i64 x.aE,x.aK.val,x.aQ.val,x.aW.val,x.aX.val,x.bF.val,x.aY.val,i64 x.time]:=⟨rfl⟩
instance (x:dX):B2 x [x.eZ.val]:=⟨rfl⟩
instance (x:iY):B2 x [x.work.val,x.index.val,x.refs.val,str x.cH,i64 x.cB,str x.fG,i64 x.eO,str x.fH,x.dJ.val,x.eB.val,i64 x.fD,str x.dW,str x.bV,i64 x.bW,x.dK.val,x.eD.val,x.gD.val]:=⟨rfl⟩
instance (x:l5):B2 x [str x.branch,i64 x.cF]:=⟨rfl⟩
instance (x:uC):B2 x [str x.kind,i64 x.other,str x.text,x.HP.val,x.todo.val,i64 x.made,str x.branch,str x.cH,i64 x.cB,x.index.val,x.work.val]:=⟨rfl⟩
instance (x:bT):B2 x [x.b.val,i64 x.at_,x.err.val]:=⟨rfl⟩
instance (x:l8):B2 x [str x.verb,str x.name,i64 x.n,str x.text,.bool x.force,x.todo.val]:=⟨rfl⟩
instance (x:cQ):B2 x [x.files.val,x.entries.val,x.conflicts.val]:=⟨rfl⟩
instance (x:lB):B2 x [str x.bU,i64 x.cK,str x.bS,.bool x.is]:=⟨rfl⟩
instance (x:iM):B2 x [x.base.val,x.ours.val,x.cR.val,.bool x.pF,x.out.val]:=⟨rfl⟩
instance (x:r9):B2 x [x.a.val,x.b.val,x.n.val]:=⟨rfl⟩
instance (x:iL):B2 x [i64 x.op,str x.line]:=⟨rfl⟩
instance (x:gC):B2 x [i64 x.a,i64 x.b,i64 x.n]:=⟨rfl⟩
instance (x:D2):B2 x [str x.bU,i64 x.cK,str x.bS,.bool x.is]:=⟨rfl⟩
instance (x:oH):B2 x [x.back.val,x.kR.val]:=⟨rfl⟩
instance:PlC iM iM.pl:=⟨trivial⟩
instance:PlC bN bN.pl:=⟨trivial⟩
instance:PlC cD cD.pl:=⟨trivial⟩
end Go.V
namespace Go.Proofs.YtaohfeokfcdojaaGreatDoor
open Go.RowKit Go.V Go.S
instance:yH Tryz.prog 24 [.slice none 0 0]:=⟨by kernel_rfl⟩
instance:yH Tryz.prog 26 [str [],str [],i64 0,str [],.bool false,.slice none 0 0]:=⟨by kernel_rfl⟩
instance:yH Tryz.prog 33 [.slice none 0 0]:=⟨by kernel_rfl⟩
instance:yH Tryz.prog 34 [.slice none 0 0]:=⟨by kernel_rfl⟩
instance:yH Tryz.prog 37 [str [],i64 0]:=⟨by kernel_rfl⟩
instance:yH Tryz.prog 39 [str [],i64 0,str [],.slice none 0 0,.slice none 0 0,i64 0,str [],str [],i64 0,.slice none 0 0,.slice none 0 0]:=⟨by kernel_rfl⟩
instance:yH Tryz.prog 43 [.slice none 0 0,.slice none 0 0,.slice none 0 0,str [],i64 0,str [],i64 0,str [],.slice none 0 0,.slice none 0 0,i64 0,str [],str [],i64 0,.slice none 0 0,.slice none 0 0,.slice none 0 0]:=⟨by kernel_rfl⟩
instance:yH Tryz.prog 45 [.slice none 0 0]:=⟨by kernel_rfl⟩
instance:yH Tryz.prog 47 [.slice none 0 0,.slice none 0 0]:=⟨by kernel_rfl⟩
instance:yH Tryz.prog 49 [.slice none 0 0,.slice none 0 0,.slice none 0 0,str [],i64 0,str [],i64 0,str [],.slice none 0 0,.slice none 0 0,i64 0,str [],str [],i64 0,.slice none 0 0,.slice none 0 0,.slice none 0 0,.slice none 0 0,.slice none 0 0,.slice none 0 0,i64 0]:=⟨by kernel_rfl⟩
instance:yH Tryz.prog 59 [.slice none 0 0]:=⟨by kernel_rfl⟩
instance:yH Tryz.prog 61 [.slice none 0 0,.slice none 0 0,i64 0,str []]:=⟨by kernel_rfl⟩
instance:yH Tryz.prog 68 [i64 0]:=⟨by kernel_rfl⟩
instance:yH Tryz.prog 89 [str [],i64 0,str []]:=⟨by kernel_rfl⟩
instance:yH Tryz.prog 101 [str [],i64 0,str []]:=⟨by kernel_rfl⟩
instance:yH Tryz.prog 117 [.slice none 0 0]:=⟨by kernel_rfl⟩
instance:yH Tryz.prog 121 [str [],i64 0,i64 0,str [],i64 0,i64 0]:=⟨by kernel_rfl⟩
instance:yH Tryz.prog 128 [i64 0,.slice none 0 0,.slice none 0 0,str []]:=⟨by kernel_rfl⟩
instance:yH Tryz.prog 182 [str [],i64 0]:=⟨by kernel_rfl⟩
instance:yH Tryz.prog 232 [.slice none 0 0,.slice none 0 0,.slice none 0 0]:=⟨by kernel_rfl⟩
instance:yH Tryz.prog 307 [str [],i64 0,str [],.bool false]:=⟨by kernel_rfl⟩
instance:yH Tryz.prog 329 [.int .u8 0,.int .u8 0]:=⟨by kernel_rfl⟩
instance:yH Tryz.prog 378 [str [],i64 0,str [],.bool false]:=⟨by kernel_rfl⟩
instance:yH Tryz.prog 405 [.pointer none,.slice none 0 0]:=⟨by kernel_rfl⟩
instance:yH Tryz.prog 407 [.slice none 0 0,.slice none 0 0,.slice none 0 0,.bool false,.slice none 0 0]:=⟨by kernel_rfl⟩
instance:yH Tryz.prog 428 [i64 0,i64 0,i64 0]:=⟨by kernel_rfl⟩
instance:yH Tryz.prog 436 [i64 0,str []]:=⟨by kernel_rfl⟩
end Go.Proofs.YtaohfeokfcdojaaGreatDoor
end

section
namespace Go.Proofs
open Go.Shelf
def Tryz.aHq:Go.Shelf.Ren:=⟨fun | 264=>384 | n=>n,fun | 53=>262 | 46=>192 | n=>n,fun | n=>n⟩
theorem Tryz.aVb:Go.Proofs.Lays.n264 Tryz.prog Tryz.aHq:={
  mixed:=by kernel_rfl
  f264:=Tryz.func384.trans (congrArg some (by kernel_rfl))
  t46:=Tryz.underlying192
  a46:=Tryz.isAgg192
  z46:=Tryz.sizeOf192
  v46:=Tryz.zeroValue192
  t53:=Tryz.underlying262
  a53:=Tryz.isAgg262
  z53:=Tryz.sizeOf262
  v53:=Tryz.zeroValue262 }
open Go.RowKit Go.Lib in
theorem Tryz.bits_Mul64 (x y:Nat) (hx:x < 18446744073709551616) (hy:y < 18446744073709551616) (w:World) :
    Calls Tryz.prog 384 #[.int .u64 x,.int .u64 y] w fun e w'=>e = .returned (.tuple #[.int .u64 ((x*y / 18446744073709551616:Nat):Int),.int .u64 ((x*y % 18446744073709551616:Nat):Int)])∧w'=w:=Any.bits_Mul64 Tryz.aVb x y hx hy w
def Tryz.aHp:Go.Shelf.Ren:=⟨fun | 212=>375 | 263=>383 | 264=>384 | n=>n,fun | 46=>192 | 51=>264 | 146=>265 | 53=>262 | 148=>446 | n=>n,fun | n=>n⟩
theorem Tryz.aVa:Go.Proofs.Lays.n212 Tryz.prog Tryz.aHp:={
  mixed:=by kernel_rfl
  f212:=Tryz.func375.trans (congrArg some (by kernel_rfl))
  f263:=Tryz.func383.trans (congrArg some (by kernel_rfl))
  f264:=Tryz.func384.trans (congrArg some (by kernel_rfl))
  t46:=Tryz.underlying192
  a46:=Tryz.isAgg192
  z46:=Tryz.sizeOf192
  v46:=Tryz.zeroValue192
  t51:=Tryz.underlying264
  a51:=Tryz.isAgg264
  z51:=Tryz.sizeOf264
  v51:=Tryz.zeroValue264
  t53:=Tryz.underlying262
  a53:=Tryz.isAgg262
  z53:=Tryz.sizeOf262
  v53:=Tryz.zeroValue262
  t146:=Tryz.underlying265
  a146:=Tryz.isAgg265
  z146:=Tryz.sizeOf265
  v146:=Tryz.zeroValue265
  t148:=Tryz.underlying446
  a148:=Tryz.isAgg446
  z148:=Tryz.sizeOf446
  v148:=Tryz.zeroValue446 }
open Go.RowKit Go.Lib in
/-- math/bits.Mul: "Mul returns the full-width product of x and y": on a machine of 64 bits: Mul64's. (LAID: no walk: one application.) -/
theorem Tryz.bits_Mul (x y:Nat) (hx:x < 18446744073709551616) (hy:y < 18446744073709551616) (w:World) :
    Calls Tryz.prog 375 #[.int .u64 x,.int .u64 y] w fun e w'=>e = .returned (.tuple #[.int .u64 ((x*y / 18446744073709551616:Nat):Int),.int .u64 ((x*y % 18446744073709551616:Nat):Int)])∧w'=w:=Any.bits_Mul Tryz.aVa x y hx hy w
end Go.Proofs
end

section
set_option linter.unusedVariables false
namespace Go.Proofs.YtaohfeokfcdojaaGreatDoor
open Go.RowKit Go.V
open Go.S
theorem aSS {α:Type} {l l':List α} {v:α} {m:Int} (h0:0≤m) (h1:m≤l.length) (hm:l.take m.toNat=List.replicate m.toNat v) (hl:l'=l.take m.toNat++((l.drop 0).take (m.toNat - 0)).take ((l.drop m.toNat).take (l.length - m.toNat)).length++l.drop (m.toNat+min ((l.drop 0).take (m.toNat - 0)).length ((l.drop m.toNat).take (l.length - m.toNat)).length)) :
 l'.length=l.length∧l'.take (m+(min ((l.drop 0).take (m.toNat - 0)).length ((l.drop m.toNat).take (l.length - m.toNat)).length:Nat)).toNat=List.replicate (m+(min ((l.drop 0).take (m.toNat - 0)).length ((l.drop m.toNat).take (l.length - m.toNat)).length:Nat)).toNat v∧m+(min ((l.drop 0).take (m.toNat - 0)).length ((l.drop m.toNat).take (l.length - m.toNat)).length:Nat)≤l.length∧(0 < m→m < l.length→0 < min ((l.drop 0).take (m.toNat - 0)).length ((l.drop m.toNat).take (l.length - m.toNat)).length):=by
 have e1:((l.drop 0).take (m.toNat - 0)).length=m.toNat:=by simp; omega
 have e2:((l.drop m.toNat).take (l.length - m.toNat)).length=l.length - m.toNat:=by simp
 have e3:(l.drop 0).take (m.toNat - 0)=List.replicate m.toNat v:=by simpa using hm
 rw [e1,e2] at hl ⊢
 rw [e3,hm] at hl
 refine ⟨?_,?_,by omega,by omega⟩
 ·
  rw [hl]; simp; omega
 rw [show (m+((min m.toNat (l.length - m.toNat):Nat):Int)).toNat=m.toNat+min m.toNat (l.length - m.toNat) by omega,hl,List.take_append_of_le_length (by simp; omega),List.take_replicate,List.replicate_append_replicate,List.take_replicate]
 congr 1
 omega
theorem aSR {n v:Int} {r s t:List Int} (h0:0≤n) (hr:r=[v]) (hs:s=List.replicate n.toNat 0) (ht:t=s.take 0++r.take s.length++s.drop (0+min r.length s.length)) :
 0≤((min r.length s.length:Nat):Int)∧((min r.length s.length:Nat):Int)≤t.length∧t.length=n.toNat∧t.take ((min r.length s.length:Nat):Int).toNat=List.replicate ((min r.length s.length:Nat):Int).toNat v∧(((min r.length s.length:Nat):Int)=0→n=0):=by
 subst hr
 have hl:s.length=n.toNat:=by rw [hs]; simp
 cases hn:n.toNat with
 | zero =>
   rw [hn] at hl
   have:s=[]:=List.length_eq_zero_iff.1 hl
   subst this
   simp at ht
   subst ht
   simp
   omega
 | succ k =>
   rw [hn] at hl hs
   have e:min [v].length s.length=1:=by simp; omega
   rw [e] at *
   rw [hs] at ht
   subst ht
   simp
   omega
theorem aWr {m n v:Int} {s:List Int} (h1:m≤s.length) (h : ¬ m < s.length) (hl:s.length=n.toNat) (hm:s.take m.toNat=List.replicate m.toNat v):s=List.replicate n.toNat v:=by
 have e:m.toNat=s.length:=by omega
 rw [e,List.take_length] at hm
 rw [← hl]
 exact hm
theorem a0k:Tryz.prog.follows .mixedOrders=true:=by kernel_rfl
theorem mk3:((Tryz.prog.info? 3).map fun i=>(i.size,i.bytes,i.zero.map fun z=>z.cells.toList))=some (1,8,some [i64 0]):=by kernel_rfl
theorem sz3:(Tryz.prog.info? 3).map (·.size)=some 1:=by kernel_rfl
theorem aVj (x n:Int) (hx:x=1) (h0:0≤n) (h1:n≤1048576):Ct Tryz.prog 375 [.int .u64 x,.int .u64 n] Mo.tt Ow.emp (X:=Unit) (fun _ => .tuple #[.int .u64 0,.int .u64 n]) (fun _=>True) (fun _=>Mo.tt) (fun _=>Ow.emp) :=
  Ct.aHu (vU Tryz.func375 rfl (by kernel_rfl)) fun w h _ _=>by
  have:=Tryz.bits_Mul 1 n.toNat (by omega) (by omega) w
  subst hx
  have e1:((n.toNat:Nat):Int)=n:=by omega
  have e2:1*n.toNat / 18446744073709551616=0:=by omega
  have e3:1*n.toNat % 18446744073709551616=n.toNat:=by omega
  rw [e2,e3,e1] at this
  refine this.mono fun e w' ⟨h1,h2⟩=>⟨h1,h2▸Gr.refl w⟩
set_option maxRecDepth 100000 in
 theorem repeat_ct (r:Sv Int) (v n:Int) (hr:r.l=[v]) (h0:0≤n) (h1:n≤1048576) :
 Ct Tryz.prog 368 [r.val,i64 n] r.ok Ow.emp (X:=Sv Int) Sv.val (fun q=>q.l=List.replicate n.toNat v) (fun _=>Mo.tt) (fun q=>q.own 3):=by
 have hrl:(r.l.length:Int)=1:=by rw [hr]; rfl
 refine Ct.of Tryz.func368 rfl (by kernel_rfl) Tryz.ntmps368 (by simp) fun c => ?_
 refine VC.seq ?_
 refine VC.region ?_
 refine VL.q (uD rfl) (by decide) ?_
 refine VL.to (fun _ _ h=>h) ?_
 refine VC.seq ?_
 refine VC.seq ?_
 refine VC.region ?_
 refine VL.q (fR rfl) (by decide) ?_
 refine VL.q (qU rfl rfl) (by decide) ?_
 refine VL.to (fun _ _ h=>h) ?_
 refine VC.mY rfl (fun h10 => ?_) (fun h10 => ?_)
 ·
  exact absurd h10 (by omega)
 refine VC.aAf (fun _ _ h=>h) ?_
 refine VC.seq ?_
 refine VC.region ?_
 refine VL.q (fR rfl) (by decide) ?_
 refine VL.q (J0 (s:=r) Tryz.underlying59 rfl) (by decide) ?_
 refine VL.q (aD3 Tryz.underlying3 Tryz.underlying192 rfl (by rw [hrl]; rfl)) (by decide) ?_
 refine VL.q (fR rfl) (by decide) ?_
 refine VL.q (aD3 Tryz.underlying3 Tryz.underlying192 rfl (wrap_u64 (by omega) (by omega))) (by decide) ?_
 refine VL.q (eT (aVj (r.l.length:Int) n hrl h0 h1) rfl (fun _ _=>rfl)) (by decide) ?_
 refine VL.q (fR rfl) (by decide) ?_
 refine VL.q (HZ rfl rfl) (by decide) ?_
 refine VL.q (HZ rfl rfl) (by decide) ?_
 refine VL.q (uD rfl) (by decide) ?_
 refine VL.q (uD rfl) (by decide) ?_
 refine VL.to (fun _ _ h=>h) ?_
 refine VC.seq ?_
 refine VC.seq ?_
 refine VC.region ?_
 refine VL.q (fR rfl) (by decide) ?_
 refine VL.q (wV rfl rfl) (by decide) ?_
 refine VL.F4 22 rfl (congrArg Value.bool (decide_eq_false (by omega))) ?_
 refine VL.q (fR rfl) (by decide) ?_
 refine VL.gy rfl rfl (fR rfl) (by decide) ?_
 refine VL.gy rfl rfl (wV rfl rfl) (by decide) ?_
 refine VL.q (DJ rfl rfl) (by decide) ?_
 refine VL.to (fun _ _ h=>h) ?_
 refine VC.mY rfl (fun h26 => ?_) (fun h26 => ?_)
 ·
  exact absurd h26 (by omega)
 refine VC.aAf (fun _ _ h=>h) ?_
 refine VC.seq ?_
 refine VC.region ?_
 refine VL.q (fR rfl) (by decide) ?_
 refine VL.q (aD3 Tryz.underlying192 Tryz.underlying3 rfl (IntWalk.i64_in _ (by omega))) (by decide) ?_
 refine VL.make (α:=Int) (z:=0) Tryz.underlying59 mk3 (by decide) rfl rfl (by omega) (by omega) (by omega) (by omega) (by decide) (fun s30 hs30 => ?_)
 refine VL.q (uD rfl) (by decide) ?_
 refine VL.to (fun _ _ h=>h) ?_
 refine VC.seq ?_
 refine VC.region ?_
 refine VL.q (fR rfl) (by decide) ?_
 refine VL.q (fR rfl) (by decide) ?_
 refine VL.copy (s:=s30) (T:=3) (k:=0) (n:=s30.l.length) (sr:=r.l) rfl Tryz.underlying59 sz3 Fo.out rfl (by simp) (fun _ => .inr ⟨rfl,rfl⟩) (a0z rfl) (by decide) fun s33 hs33 hv33 ha33 hc33 => ?_
 rw [← hv33]
 refine VL.q (uD rfl) (by decide) ?_
 refine VL.to (fun _ _ h=>h) ?_
 refine VC.seq ?_
 refine VC.block ?_
 refine VC.a5i (S:=Int×Sv Int) (fun sg=>0≤sg.1∧sg.1≤sg.2.l.length∧sg.2.l.length=n.toNat∧sg.2.l.take sg.1.toNat=List.replicate sg.1.toNat v∧(sg.1=0→n=0)) (fun sg=>[(0,r.val),(1,i64 n),(4,.slice none 0 0),(5,.int .u64 (0:Int)),(6,.int .u64 n),(7,sg.2.val),(8,i64 sg.1),(7,sg.2.val)]) (fun sg=>Ow.star (Sv.own sg.2 3) (Ow.emp)) (fun sg=>(sg.2.l.length - sg.1).toNat) (((min r.l.length s30.l.length:Nat):Int),s33) [0,1,4,5,6,7,8,7] (by (try dsimp only); exact aSR h0 hr hs30 hs33) rfl (by (try dsimp only); exact fL.out) ?_
 rintro ⟨m,s⟩ hI
 show VC _ _ _ _ _ [(0,r.val),(1,i64 n),(4,.slice none 0 0),(5,.int .u64 (0:Int)),(6,.int .u64 n),(7,s.val),(8,i64 m),(7,s.val)] _ (Ow.star (Sv.own s 3) (Ow.emp))
 try dsimp only at hI
 obtain ⟨h0m,h1m,hsl,hm,hmz⟩:=hI
 refine VC.seq ?_
 refine VC.seq ?_
 refine VC.region ?_
 refine VL.q (fR rfl) (by decide) ?_
 refine VL.q (fR rfl) (by decide) ?_
 refine VL.q (J0 (s:=s) Tryz.underlying59 rfl) (by decide) ?_
 refine VL.q (qU rfl rfl) (by decide) ?_
 refine VL.to (fun _ _ h=>h) ?_
 refine VC.mY rfl (fun h37 => ?_) (fun h37 => ?_)
 ·
  refine VC.aAf (fun _ _ h=>h) ?_
  refine VC.block ?_
  refine VC.a4e s fun hlc hcm => ?_
  refine VC.draw [(0,true),(1,true),(2,true),(3,true),(4,true),(5,true),(6,true),(7,false),(8,true),(9,true)] a0k (by kernel_rfl) (by kernel_rfl) (by kernel_rfl) ?_
  refine VD.q rfl (fR rfl) (by decide) ?_
  refine VD.q rfl (fR rfl) (by decide) ?_
  refine VD.q rfl (fR rfl) (by decide) ?_
  refine VD.q rfl (KD (s:=s) m.toNat s.l.length s.c Tryz.underlying59 sz3 rfl rfl rfl rfl (by show m=_; omega) rfl rfl (fun h=>by cases h) (by omega) hlc (Nat.le_refl _) (Nat.le_refl _)) (by decide) ?_
  refine VD.q rfl (fR rfl) (by decide) ?_
  refine VD.q rfl (fR rfl) (by decide) ?_
  refine VD.q rfl (KD (s:=s) 0 m.toNat s.c Tryz.underlying59 sz3 rfl rfl rfl rfl rfl (by show m=_; omega) rfl (fun h=>by cases h) (by omega) (by omega) (Nat.le_refl _) (by omega)) (by decide) ?_
  refine VD.one rfl ?_
  refine VL.copy (s:=s) (T:=3) (k:=m.toNat) (n:=((s.l.drop m.toNat).take (s.l.length - m.toNat)).length) (sr:=(s.l.drop 0).take (m.toNat - 0)) rfl Tryz.underlying59 sz3 Fo.out rfl (by simp; omega) (fun hn => .inl (if_neg (by simp at hn; omega))) (aVr rfl (by omega)) (by decide) fun s' hs' hv' ha' hc' => ?_
  rw [← hv']
  refine VL.back (D':=[]) (by kernel_rfl) (bR.nil) ?_
  obtain ⟨r1,r2,r3,r4⟩:=aSS h0m h1m hm hs'
  refine VD.q rfl (lN rfl rfl ⟨by omega,by omega⟩) (by decide) ?_
  refine VD.q rfl (uD rfl) (by decide) ?_
  refine VD.anyI ((m+((min ((s.l.drop 0).take (m.toNat - 0)).length ((s.l.drop m.toNat).take (s.l.length - m.toNat)).length:Nat):Int)),s') [0,1,4,5,6,7,8,7] (fun _ _ h=>h) ?_ rfl (by (try dsimp only); exact fL.out)
  try dsimp only
  exact ⟨⟨by omega,by omega,by omega,r2,by omega⟩,by omega⟩
 refine VC.aJU (fun _ _ h=>h) ?_
 refine VC.seq ?_
 refine VC.region ?_
 refine VL.q (fR rfl) (by decide) ?_
 refine VL.q (uD rfl) (by decide) ?_
 refine VL.to (fun _ _ h=>h) ?_
 exact VC.ret (aME (.inr rfl) rfl rfl s rfl ((aWr h1m (by assumption) hsl hm)) KP.out)
theorem aLK (r:Sv Int) (n:Int) {q:List Int} (hS:Sh.A9 r.l n=some q):Ct Tryz.prog 368 [r.val,i64 n] r.ok Ow.emp (X:=Sv Int) (fun x=>x.val) (fun x=>q=x.l) (fun _=>Mo.tt) (fun x=>x.own 3):=by
 obtain ⟨⟨h1,h2,h3⟩,hq⟩:=bX hS
 exact (repeat_ct r (-1) n h1 h2 h3).weak (fun _ m=>m) (fun x e=>by rw [e]; exact (Option.some.inj hq).symm)
end Go.Proofs.YtaohfeokfcdojaaGreatDoor
end

section
set_option linter.unusedVariables false
namespace Go.Proofs.YtaohfeokfcdojaaGreatDoor
set_option maxHeartbeats 4000000
set_option maxRecDepth 100000
set_option synthInstance.maxSize 2000
set_option synthInstance.maxHeartbeats 1000000
open Go.RowKit Go.V
open Go.S
attribute [local irreducible] Go.V.Qt Go.V.VL Go.V.VC Go.V.HA Go.S.gd Go.S.at_ Go.S.lt Go.S.jn Go.S.go Go.S.up Go.S.iter Sh.mD Sh.cmp_isNaN_string Sh.eH Sh.fV Sh.gV Sh.nP Sh.jL Sh.eN Sh.o5 Sh.qL Sh.vW Sh.sD Sh.jP Sh.iN Sh.jR Sh.zI Sh.iH Sh.tI Sh.CH Sh.HV Sh.HW Sh.pH Sh.eU Sh.bO Sh.b5 Sh.fZ Sh.iU Sh.gY Sh.j4 Sh.FD Sh.mO Sh.pJ Sh.mT Sh.kY Sh.uH Sh.n4 Sh.mG Sh.wP Sh.sY Sh.strings_Index Sh.qY Sh.DL Sh.uI Sh.mV Sh.lF Sh.lI
instance:KA Tryz.prog 9 .string:=⟨Tryz.underlying9⟩
instance:KA Tryz.prog 24 (.slice 101):=⟨Tryz.underlying24⟩
instance:KA Tryz.prog 33 (.slice 89):=⟨Tryz.underlying33⟩
instance:KA Tryz.prog 34 (.slice 121):=⟨Tryz.underlying34⟩
instance:KA Tryz.prog 35 (.slice 182):=⟨Tryz.underlying35⟩
instance:KA Tryz.prog 45 (.slice 9):=⟨Tryz.underlying45⟩
instance:KA Tryz.prog 59 (.slice 3):=⟨Tryz.underlying59⟩
instance:KA Tryz.prog 109 (.slice 5):=⟨Tryz.underlying109⟩
instance:MkI Tryz.prog 68:=MkI.mk' Tryz.underlying68 (fun _ h=>by cases h)
instance:MkI Tryz.prog 78:=MkI.mk' Tryz.underlying78 (fun _ h=>by cases h)
instance:MkI Tryz.prog 201:=MkI.mk' Tryz.underlying201 (fun _ h=>by cases h)
theorem mixed:Tryz.prog.follows .mixedOrders=true:=by kernel_rfl
theorem aNu:(Tryz.prog.info? 405).map (·.size)=some 2:=by kernel_rfl
instance:yM Tryz.prog 405 2:=⟨aNu⟩
theorem a5W:((Tryz.prog.info? 5).map fun i=>(i.size,i.bytes,i.zero))=some (1,1,some (.int .u8 0)):=by kernel_rfl
theorem aQk:cC Tryz.prog 405 0 0:=bK (n:=0) (f:=⟨_,_,0,_,_,_,_⟩) Tryz.underlying405 rfl (by kernel_rfl)
instance:j7 Tryz.prog 405 0 0:=⟨aQk⟩
theorem aQl:cC Tryz.prog 405 1 1:=bK (n:=0) (f:=⟨_,_,1,_,_,_,_⟩) Tryz.underlying405 rfl (by kernel_rfl)
instance:j7 Tryz.prog 405 1 1:=⟨aQl⟩
theorem aUx:OneCell Tryz.prog 403:=kU Tryz.underlying403 rfl
instance:KV Tryz.prog 403:=⟨aUx⟩
theorem aJf:OneCell Tryz.prog 109:=kU Tryz.underlying109 rfl
instance:KV Tryz.prog 109:=⟨aJf⟩
theorem aZu:(Tryz.prog.info? 403).map (·.size)=some 1:=by kernel_rfl
instance:yM Tryz.prog 403 1:=⟨aZu⟩
theorem aZq:(Tryz.prog.info? 109).map (·.size)=some 1:=by kernel_rfl
instance:yM Tryz.prog 109 1:=⟨aZq⟩
theorem aUm:cC Tryz.prog 82 2 2:=bK (n:=0) (f:=⟨_,_,2,_,_,_,_⟩) Tryz.underlying82 rfl (by kernel_rfl)
instance:j7 Tryz.prog 82 2 2:=⟨aUm⟩
theorem aNs:OneCell Tryz.prog 28:=kU Tryz.underlying28 rfl
instance:KV Tryz.prog 28:=⟨aNs⟩
theorem qR:(Tryz.prog.info? 49).map (·.size)=some 21:=by kernel_rfl
instance:yM Tryz.prog 49 21:=⟨qR⟩
theorem qN:rO Tryz.prog 49 21:=nN Tryz.underlying49 rfl (by kernel_rfl)
instance:MZ Tryz.prog 49 21:=⟨qN⟩
theorem j9:(Tryz.prog.info? 89).map (·.size)=some 3:=by kernel_rfl
instance:yM Tryz.prog 89 3:=⟨j9⟩
theorem nU:cC Tryz.prog 49 0 0:=bK (n:=16) (f:=⟨_,_,0,_,_,_,_⟩) Tryz.underlying49 rfl (by kernel_rfl)
instance:j7 Tryz.prog 49 0 0:=⟨nU⟩
theorem aJ9:cC Tryz.prog 43 0 0:=bK (n:=0) (f:=⟨_,_,0,_,_,_,_⟩) Tryz.underlying43 rfl (by kernel_rfl)
instance:j7 Tryz.prog 43 0 0:=⟨aJ9⟩
theorem z8:OneCell Tryz.prog 33:=kU Tryz.underlying33 rfl
instance:KV Tryz.prog 33:=⟨z8⟩
theorem z7:rO Tryz.prog 89 3:=nN Tryz.underlying89 rfl (by kernel_rfl)
instance:MZ Tryz.prog 89 3:=⟨z7⟩
theorem aJc:cC Tryz.prog 89 0 0:=bK (n:=0) (f:=⟨_,_,0,_,_,_,_⟩) Tryz.underlying89 rfl (by kernel_rfl)
instance:j7 Tryz.prog 89 0 0:=⟨aJc⟩
theorem oV:OneCell Tryz.prog 9:=kU Tryz.underlying9 rfl
instance:KV Tryz.prog 9:=⟨oV⟩
theorem aNq:((Tryz.prog.info? 89).map fun i=>(i.size,i.zero.isSome))=some (3,true):=by kernel_rfl
instance:JC Tryz.prog 89 3:=⟨aNq⟩
theorem a4b:((Tryz.prog.info? 9).map fun i=>(i.size,i.bytes,i.zero.map fun z=>z.cells.toList))=some (1,16,some [str []]):=by kernel_rfl
theorem wU:(Tryz.prog.info? 9).map (·.size)=some 1:=by kernel_rfl
instance:yM Tryz.prog 9 1:=⟨wU⟩
theorem aVF:(Tryz.prog.info? 5).map (·.size)=some 1:=by kernel_rfl
instance:yM Tryz.prog 5 1:=⟨aVF⟩
theorem a54:OneCell Tryz.prog 5:=kU Tryz.underlying5 rfl
instance:KV Tryz.prog 5:=⟨a54⟩
theorem aUn:cC Tryz.prog 89 1 1:=bK (n:=0) (f:=⟨_,_,1,_,_,_,_⟩) Tryz.underlying89 rfl (by kernel_rfl)
instance:j7 Tryz.prog 89 1 1:=⟨aUn⟩
theorem v8:OneCell Tryz.prog 3:=kU Tryz.underlying3 rfl
instance:KV Tryz.prog 3:=⟨v8⟩
theorem Z0:cC Tryz.prog 89 2 2:=bK (n:=0) (f:=⟨_,_,2,_,_,_,_⟩) Tryz.underlying89 rfl (by kernel_rfl)
instance:j7 Tryz.prog 89 2 2:=⟨Z0⟩
theorem aZp:OneCell Tryz.prog 68:=kU Tryz.underlying68 rfl
instance:KV Tryz.prog 68:=⟨aZp⟩
theorem aZl:((Tryz.prog.info? 89).map (·.size)).isSome=true:=by kernel_rfl
theorem aH3:((Tryz.prog.info? 89).map fun i=>(i.size,i.bytes,(i.zero.map fun z=>z.cells.size)))=some (3,40,some 3):=by kernel_rfl
instance:LI Tryz.prog 89 3 40:=⟨aH3⟩
theorem aMK : ∀ w:World,(zeroValue 89).run Tryz.prog w = .ok (.agg #[str [],i64 0,str []]) w:=by intro w; kernel_rfl
theorem QV:rO Tryz.prog 43 17:=nN Tryz.underlying43 rfl (by kernel_rfl)
instance:MZ Tryz.prog 43 17:=⟨QV⟩
theorem aQZ:cC Tryz.prog 117 0 0:=bK (n:=0) (f:=⟨_,_,0,_,_,_,_⟩) Tryz.underlying117 rfl (by kernel_rfl)
instance:j7 Tryz.prog 117 0 0:=⟨aQZ⟩
theorem aUr:((Tryz.prog.info? 3).map fun i=>(i.size,i.zero.isSome))=some (1,true):=by kernel_rfl
instance:JC Tryz.prog 3 1:=⟨aUr⟩
theorem DP:(Tryz.prog.info? 3).map (·.size)=some 1:=by kernel_rfl
instance:yM Tryz.prog 3 1:=⟨DP⟩
theorem aQY:cC Tryz.prog 115 0 0:=bK (n:=0) (f:=⟨_,_,0,_,_,_,_⟩) Tryz.underlying115 rfl (by kernel_rfl)
instance:j7 Tryz.prog 115 0 0:=⟨aQY⟩
theorem a50:((Tryz.prog.info? 5).map fun i=>(i.size,i.zero.isSome))=some (1,true):=by kernel_rfl
instance:JC Tryz.prog 5 1:=⟨a50⟩
theorem a5U:((Tryz.prog.info? 5).map fun i=>(i.size,i.bytes,(i.zero.map fun z=>z.cells.size)))=some (1,1,some 1):=by kernel_rfl
instance:LI Tryz.prog 5 1 1:=⟨a5U⟩
theorem a52:((Tryz.prog.info? 9).map fun i=>(i.size,i.zero.isSome))=some (1,true):=by kernel_rfl
instance:JC Tryz.prog 9 1:=⟨a52⟩
theorem a5S:((Tryz.prog.info? 5).map fun i=>(i.size,i.bytes,i.zero))=some (1,1,some (.int .u8 0)):=by kernel_rfl
theorem ZT:cC Tryz.prog 43 1 1:=bK (n:=0) (f:=⟨_,_,1,_,_,_,_⟩) Tryz.underlying43 rfl (by kernel_rfl)
instance:j7 Tryz.prog 43 1 1:=⟨ZT⟩
theorem Z5:OneCell Tryz.prog 34:=kU Tryz.underlying34 rfl
instance:KV Tryz.prog 34:=⟨Z5⟩
theorem kS:(Tryz.prog.info? 121).map (·.size)=some 6:=by kernel_rfl
instance:yM Tryz.prog 121 6:=⟨kS⟩
theorem AU:rO Tryz.prog 121 6:=nN Tryz.underlying121 rfl (by kernel_rfl)
instance:MZ Tryz.prog 121 6:=⟨AU⟩
theorem aQ0:cC Tryz.prog 121 0 0:=bK (n:=0) (f:=⟨_,_,0,_,_,_,_⟩) Tryz.underlying121 rfl (by kernel_rfl)
instance:j7 Tryz.prog 121 0 0:=⟨aQ0⟩
theorem aQ1:cC Tryz.prog 121 1 1:=bK (n:=0) (f:=⟨_,_,1,_,_,_,_⟩) Tryz.underlying121 rfl (by kernel_rfl)
instance:j7 Tryz.prog 121 1 1:=⟨aQ1⟩
theorem aQ2:cC Tryz.prog 121 2 2:=bK (n:=0) (f:=⟨_,_,2,_,_,_,_⟩) Tryz.underlying121 rfl (by kernel_rfl)
instance:j7 Tryz.prog 121 2 2:=⟨aQ2⟩
theorem aQ3:cC Tryz.prog 121 3 3:=bK (n:=0) (f:=⟨_,_,3,_,_,_,_⟩) Tryz.underlying121 rfl (by kernel_rfl)
instance:j7 Tryz.prog 121 3 3:=⟨aQ3⟩
theorem aQ4:cC Tryz.prog 121 4 4:=bK (n:=0) (f:=⟨_,_,4,_,_,_,_⟩) Tryz.underlying121 rfl (by kernel_rfl)
instance:j7 Tryz.prog 121 4 4:=⟨aQ4⟩
theorem aQ5:cC Tryz.prog 121 5 5:=bK (n:=0) (f:=⟨_,_,5,_,_,_,_⟩) Tryz.underlying121 rfl (by kernel_rfl)
instance:j7 Tryz.prog 121 5 5:=⟨aQ5⟩
theorem aUd:cC Tryz.prog 43 2 2:=bK (n:=0) (f:=⟨_,_,2,_,_,_,_⟩) Tryz.underlying43 rfl (by kernel_rfl)
instance:j7 Tryz.prog 43 2 2:=⟨aUd⟩
theorem aZn:OneCell Tryz.prog 35:=kU Tryz.underlying35 rfl
instance:KV Tryz.prog 35:=⟨aZn⟩
theorem qQ:(Tryz.prog.info? 182).map (·.size)=some 2:=by kernel_rfl
instance:yM Tryz.prog 182 2:=⟨qQ⟩
theorem aUU:rO Tryz.prog 182 2:=nN Tryz.underlying182 rfl (by kernel_rfl)
instance:MZ Tryz.prog 182 2:=⟨aUU⟩
theorem aQ9:cC Tryz.prog 182 0 0:=bK (n:=0) (f:=⟨_,_,0,_,_,_,_⟩) Tryz.underlying182 rfl (by kernel_rfl)
instance:j7 Tryz.prog 182 0 0:=⟨aQ9⟩
theorem aQa:cC Tryz.prog 182 1 1:=bK (n:=0) (f:=⟨_,_,1,_,_,_,_⟩) Tryz.underlying182 rfl (by kernel_rfl)
instance:j7 Tryz.prog 182 1 1:=⟨aQa⟩
theorem aE5:cC Tryz.prog 43 3 3:=bK (n:=1) (f:=⟨_,_,3,_,_,_,_⟩) Tryz.underlying43 rfl (by kernel_rfl)
instance:j7 Tryz.prog 43 3 3:=⟨aE5⟩
theorem KY:rO Tryz.prog 37 2:=nN Tryz.underlying37 rfl (by kernel_rfl)
instance:MZ Tryz.prog 37 2:=⟨KY⟩
theorem aJ7:cC Tryz.prog 37 0 0:=bK (n:=0) (f:=⟨_,_,0,_,_,_,_⟩) Tryz.underlying37 rfl (by kernel_rfl)
instance:j7 Tryz.prog 37 0 0:=⟨aJ7⟩
theorem aU6:cC Tryz.prog 37 1 1:=bK (n:=0) (f:=⟨_,_,1,_,_,_,_⟩) Tryz.underlying37 rfl (by kernel_rfl)
instance:j7 Tryz.prog 37 1 1:=⟨aU6⟩
theorem AV:cC Tryz.prog 43 4 5:=bK (n:=10) (f:=⟨_,_,5,_,_,_,_⟩) Tryz.underlying43 rfl (by kernel_rfl)
instance:j7 Tryz.prog 43 4 5:=⟨AV⟩
theorem KZ:rO Tryz.prog 39 11:=nN Tryz.underlying39 rfl (by kernel_rfl)
instance:MZ Tryz.prog 39 11:=⟨KZ⟩
theorem ZR:cC Tryz.prog 39 0 0:=bK (n:=0) (f:=⟨_,_,0,_,_,_,_⟩) Tryz.underlying39 rfl (by kernel_rfl)
instance:j7 Tryz.prog 39 0 0:=⟨ZR⟩
theorem aU7:cC Tryz.prog 39 1 1:=bK (n:=0) (f:=⟨_,_,1,_,_,_,_⟩) Tryz.underlying39 rfl (by kernel_rfl)
instance:j7 Tryz.prog 39 1 1:=⟨aU7⟩
theorem aU8:cC Tryz.prog 39 2 2:=bK (n:=0) (f:=⟨_,_,2,_,_,_,_⟩) Tryz.underlying39 rfl (by kernel_rfl)
instance:j7 Tryz.prog 39 2 2:=⟨aU8⟩
theorem aU9:cC Tryz.prog 39 3 3:=bK (n:=0) (f:=⟨_,_,3,_,_,_,_⟩) Tryz.underlying39 rfl (by kernel_rfl)
instance:j7 Tryz.prog 39 3 3:=⟨aU9⟩
theorem aDN:OneCell Tryz.prog 24:=kU Tryz.underlying24 rfl
instance:KV Tryz.prog 24:=⟨aDN⟩
theorem NC:(Tryz.prog.info? 101).map (·.size)=some 3:=by kernel_rfl
instance:yM Tryz.prog 101 3:=⟨NC⟩
theorem TK:rO Tryz.prog 101 3:=nN Tryz.underlying101 rfl (by kernel_rfl)
instance:MZ Tryz.prog 101 3:=⟨TK⟩
theorem aQW:cC Tryz.prog 101 0 0:=bK (n:=0) (f:=⟨_,_,0,_,_,_,_⟩) Tryz.underlying101 rfl (by kernel_rfl)
instance:j7 Tryz.prog 101 0 0:=⟨aQW⟩
theorem BF:cC Tryz.prog 101 1 1:=bK (n:=0) (f:=⟨_,_,1,_,_,_,_⟩) Tryz.underlying101 rfl (by kernel_rfl)
instance:j7 Tryz.prog 101 1 1:=⟨BF⟩
theorem aQX:cC Tryz.prog 101 2 2:=bK (n:=0) (f:=⟨_,_,2,_,_,_,_⟩) Tryz.underlying101 rfl (by kernel_rfl)
instance:j7 Tryz.prog 101 2 2:=⟨aQX⟩
theorem TN:cC Tryz.prog 39 4 4:=bK (n:=0) (f:=⟨_,_,4,_,_,_,_⟩) Tryz.underlying39 rfl (by kernel_rfl)
instance:j7 Tryz.prog 39 4 4:=⟨TN⟩
theorem aUa:cC Tryz.prog 39 5 5:=bK (n:=0) (f:=⟨_,_,5,_,_,_,_⟩) Tryz.underlying39 rfl (by kernel_rfl)
instance:j7 Tryz.prog 39 5 5:=⟨aUa⟩
theorem aUb:cC Tryz.prog 39 6 6:=bK (n:=0) (f:=⟨_,_,6,_,_,_,_⟩) Tryz.underlying39 rfl (by kernel_rfl)
instance:j7 Tryz.prog 39 6 6:=⟨aUb⟩
theorem aE4:cC Tryz.prog 39 7 7:=bK (n:=1) (f:=⟨_,_,7,_,_,_,_⟩) Tryz.underlying39 rfl (by kernel_rfl)
instance:j7 Tryz.prog 39 7 7:=⟨aE4⟩
theorem aJ8:cC Tryz.prog 39 8 9:=bK (n:=0) (f:=⟨_,_,9,_,_,_,_⟩) Tryz.underlying39 rfl (by kernel_rfl)
instance:j7 Tryz.prog 39 8 9:=⟨aJ8⟩
theorem aUc:cC Tryz.prog 39 9 10:=bK (n:=0) (f:=⟨_,_,10,_,_,_,_⟩) Tryz.underlying39 rfl (by kernel_rfl)
instance:j7 Tryz.prog 39 9 10:=⟨aUc⟩
theorem aUe:cC Tryz.prog 43 5 16:=bK (n:=0) (f:=⟨_,_,16,_,_,_,_⟩) Tryz.underlying43 rfl (by kernel_rfl)
instance:j7 Tryz.prog 43 5 16:=⟨aUe⟩
theorem aZo:OneCell Tryz.prog 41:=kU Tryz.underlying41 rfl
instance:KV Tryz.prog 41:=⟨aZo⟩
theorem nQ:(Tryz.prog.info? 128).map (·.size)=some 4:=by kernel_rfl
instance:yM Tryz.prog 128 4:=⟨nQ⟩
theorem TL:rO Tryz.prog 128 4:=nN Tryz.underlying128 rfl (by kernel_rfl)
instance:MZ Tryz.prog 128 4:=⟨TL⟩
theorem aG5:cC Tryz.prog 128 0 0:=bK (n:=0) (f:=⟨_,_,0,_,_,_,_⟩) Tryz.underlying128 rfl (by kernel_rfl)
instance:j7 Tryz.prog 128 0 0:=⟨aG5⟩
theorem aQ6:cC Tryz.prog 128 1 1:=bK (n:=0) (f:=⟨_,_,1,_,_,_,_⟩) Tryz.underlying128 rfl (by kernel_rfl)
instance:j7 Tryz.prog 128 1 1:=⟨aQ6⟩
theorem aG6:cC Tryz.prog 128 2 2:=bK (n:=0) (f:=⟨_,_,2,_,_,_,_⟩) Tryz.underlying128 rfl (by kernel_rfl)
instance:j7 Tryz.prog 128 2 2:=⟨aG6⟩
theorem aQ7:cC Tryz.prog 128 3 3:=bK (n:=0) (f:=⟨_,_,3,_,_,_,_⟩) Tryz.underlying128 rfl (by kernel_rfl)
instance:j7 Tryz.prog 128 3 3:=⟨aQ7⟩
theorem ZY:cC Tryz.prog 49 1 17:=bK (n:=0) (f:=⟨_,_,17,_,_,_,_⟩) Tryz.underlying49 rfl (by kernel_rfl)
instance:j7 Tryz.prog 49 1 17:=⟨ZY⟩
theorem aDO:OneCell Tryz.prog 44:=kU Tryz.underlying44 rfl
instance:KV Tryz.prog 44:=⟨aDO⟩
theorem XX:(Tryz.prog.info? 61).map (·.size)=some 4:=by kernel_rfl
instance:yM Tryz.prog 61 4:=⟨XX⟩
theorem aDL:rO Tryz.prog 61 4:=nN Tryz.underlying61 rfl (by kernel_rfl)
instance:MZ Tryz.prog 61 4:=⟨aDL⟩
theorem JO:cC Tryz.prog 61 0 0:=bK (n:=0) (f:=⟨_,_,0,_,_,_,_⟩) Tryz.underlying61 rfl (by kernel_rfl)
instance:j7 Tryz.prog 61 0 0:=⟨JO⟩
theorem aUh:cC Tryz.prog 61 1 1:=bK (n:=0) (f:=⟨_,_,1,_,_,_,_⟩) Tryz.underlying61 rfl (by kernel_rfl)
instance:j7 Tryz.prog 61 1 1:=⟨aUh⟩
theorem VP:OneCell Tryz.prog 59:=kU Tryz.underlying59 rfl
instance:KV Tryz.prog 59:=⟨VP⟩
theorem aUi:cC Tryz.prog 61 2 2:=bK (n:=0) (f:=⟨_,_,2,_,_,_,_⟩) Tryz.underlying61 rfl (by kernel_rfl)
instance:j7 Tryz.prog 61 2 2:=⟨aUi⟩
theorem aUj:cC Tryz.prog 61 3 3:=bK (n:=0) (f:=⟨_,_,3,_,_,_,_⟩) Tryz.underlying61 rfl (by kernel_rfl)
instance:j7 Tryz.prog 61 3 3:=⟨aUj⟩
theorem TP:cC Tryz.prog 49 2 18:=bK (n:=1) (f:=⟨_,_,18,_,_,_,_⟩) Tryz.underlying49 rfl (by kernel_rfl)
instance:j7 Tryz.prog 49 2 18:=⟨TP⟩
theorem aUf:cC Tryz.prog 47 0 0:=bK (n:=0) (f:=⟨_,_,0,_,_,_,_⟩) Tryz.underlying47 rfl (by kernel_rfl)
instance:j7 Tryz.prog 47 0 0:=⟨aUf⟩
theorem qO:OneCell Tryz.prog 45:=kU Tryz.underlying45 rfl
instance:KV Tryz.prog 45:=⟨qO⟩
theorem aUg:cC Tryz.prog 47 1 1:=bK (n:=0) (f:=⟨_,_,1,_,_,_,_⟩) Tryz.underlying47 rfl (by kernel_rfl)
instance:j7 Tryz.prog 47 1 1:=⟨aUg⟩
theorem aE6:cC Tryz.prog 49 3 20:=bK (n:=0) (f:=⟨_,_,20,_,_,_,_⟩) Tryz.underlying49 rfl (by kernel_rfl)
instance:j7 Tryz.prog 49 3 20:=⟨aE6⟩
theorem a5Y:((Tryz.prog.info? 5).map (·.size)).isSome=true:=by kernel_rfl
theorem aE9:OneCell Tryz.prog 151:=kU Tryz.underlying151 rfl
instance:KV Tryz.prog 151:=⟨aE9⟩
theorem aQ8:cC Tryz.prog 155 0 0:=bK (n:=0) (f:=⟨_,_,0,_,_,_,_⟩) Tryz.underlying155 rfl (by kernel_rfl)
instance:j7 Tryz.prog 155 0 0:=⟨aQ8⟩
theorem aUv:OneCell Tryz.prog 152:=kU Tryz.underlying152 rfl
instance:KV Tryz.prog 152:=⟨aUv⟩
theorem aQd:cC Tryz.prog 205 2 2:=bK (n:=0) (f:=⟨_,_,2,_,_,_,_⟩) Tryz.underlying205 rfl (by kernel_rfl)
instance:j7 Tryz.prog 205 2 2:=⟨aQd⟩
theorem aQc:cC Tryz.prog 205 1 1:=bK (n:=0) (f:=⟨_,_,1,_,_,_,_⟩) Tryz.underlying205 rfl (by kernel_rfl)
instance:j7 Tryz.prog 205 1 1:=⟨aQc⟩
theorem aQb:cC Tryz.prog 205 0 0:=bK (n:=0) (f:=⟨_,_,0,_,_,_,_⟩) Tryz.underlying205 rfl (by kernel_rfl)
instance:j7 Tryz.prog 205 0 0:=⟨aQb⟩
theorem a56:(Tryz.prog.info? 28).map (·.size)=some 1:=by kernel_rfl
instance:yM Tryz.prog 28 1:=⟨a56⟩
theorem aG7:cC Tryz.prog 155 1 1:=bK (n:=0) (f:=⟨_,_,1,_,_,_,_⟩) Tryz.underlying155 rfl (by kernel_rfl)
instance:j7 Tryz.prog 155 1 1:=⟨aG7⟩
theorem KC:OneCell Tryz.prog 4:=kU Tryz.underlying4 rfl
instance:KV Tryz.prog 4:=⟨KC⟩
theorem HD:(Tryz.prog.info? 4).map (·.size)=some 1:=by kernel_rfl
instance:yM Tryz.prog 4 1:=⟨HD⟩
theorem aEa:(Tryz.prog.info? 33).map (·.size)=some 1:=by kernel_rfl
instance:yM Tryz.prog 33 1:=⟨aEa⟩
theorem aJd:((Tryz.prog.info? 121).map fun i=>(i.size,i.zero.isSome))=some (6,true):=by kernel_rfl
instance:JC Tryz.prog 121 6:=⟨aJd⟩
theorem aEV:((Tryz.prog.info? 121).map fun i=>(i.size,i.bytes,(i.zero.map fun z=>z.cells.size)))=some (6,64,some 6):=by kernel_rfl
instance:LI Tryz.prog 121 6 64:=⟨aEV⟩
theorem aVD:(Tryz.prog.info? 34).map (·.size)=some 1:=by kernel_rfl
instance:yM Tryz.prog 34 1:=⟨aVD⟩
theorem aH7:(Tryz.prog.info? 43).map (·.size)=some 17:=by kernel_rfl
instance:yM Tryz.prog 43 17:=⟨aH7⟩
theorem aJe:((Tryz.prog.info? 182).map fun i=>(i.size,i.zero.isSome))=some (2,true):=by kernel_rfl
instance:JC Tryz.prog 182 2:=⟨aJe⟩
theorem aEW:((Tryz.prog.info? 182).map fun i=>(i.size,i.bytes,(i.zero.map fun z=>z.cells.size)))=some (2,24,some 2):=by kernel_rfl
instance:LI Tryz.prog 182 2 24:=⟨aEW⟩
theorem a58:(Tryz.prog.info? 35).map (·.size)=some 1:=by kernel_rfl
instance:yM Tryz.prog 35 1:=⟨a58⟩
theorem aVE:(Tryz.prog.info? 37).map (·.size)=some 2:=by kernel_rfl
instance:yM Tryz.prog 37 2:=⟨aVE⟩
theorem aE7:((Tryz.prog.info? 101).map fun i=>(i.size,i.zero.isSome))=some (3,true):=by kernel_rfl
instance:JC Tryz.prog 101 3:=⟨aE7⟩
theorem aUZ:((Tryz.prog.info? 101).map fun i=>(i.size,i.bytes,(i.zero.map fun z=>z.cells.size)))=some (3,40,some 3):=by kernel_rfl
instance:LI Tryz.prog 101 3 40:=⟨aUZ⟩
theorem aH6:(Tryz.prog.info? 24).map (·.size)=some 1:=by kernel_rfl
instance:yM Tryz.prog 24 1:=⟨aH6⟩
theorem aEb:(Tryz.prog.info? 39).map (·.size)=some 11:=by kernel_rfl
instance:yM Tryz.prog 39 11:=⟨aEb⟩
theorem Z3:((Tryz.prog.info? 128).map fun i=>(i.size,i.zero.isSome))=some (4,true):=by kernel_rfl
instance:JC Tryz.prog 128 4:=⟨Z3⟩
theorem TM:((Tryz.prog.info? 128).map fun i=>(i.size,i.bytes,(i.zero.map fun z=>z.cells.size)))=some (4,72,some 4):=by kernel_rfl
instance:LI Tryz.prog 128 4 72:=⟨TM⟩
theorem a5a:(Tryz.prog.info? 41).map (·.size)=some 1:=by kernel_rfl
instance:yM Tryz.prog 41 1:=⟨a5a⟩
theorem a5T:((Tryz.prog.info? 3).map fun i=>(i.size,i.bytes,(i.zero.map fun z=>z.cells.size)))=some (1,8,some 1):=by kernel_rfl
instance:LI Tryz.prog 3 1 8:=⟨a5T⟩
theorem aEc:(Tryz.prog.info? 59).map (·.size)=some 1:=by kernel_rfl
instance:yM Tryz.prog 59 1:=⟨aEc⟩
theorem aDM:((Tryz.prog.info? 61).map fun i=>(i.size,i.zero.isSome))=some (4,true):=by kernel_rfl
instance:JC Tryz.prog 61 4:=⟨aDM⟩
theorem ZP:((Tryz.prog.info? 61).map fun i=>(i.size,i.bytes,(i.zero.map fun z=>z.cells.size)))=some (4,72,some 4):=by kernel_rfl
instance:LI Tryz.prog 61 4 72:=⟨ZP⟩
theorem aMI:(Tryz.prog.info? 44).map (·.size)=some 1:=by kernel_rfl
instance:yM Tryz.prog 44 1:=⟨aMI⟩
theorem a5V:((Tryz.prog.info? 9).map fun i=>(i.size,i.bytes,(i.zero.map fun z=>z.cells.size)))=some (1,16,some 1):=by kernel_rfl
instance:LI Tryz.prog 9 1 16:=⟨a5V⟩
theorem QW:(Tryz.prog.info? 45).map (·.size)=some 1:=by kernel_rfl
instance:yM Tryz.prog 45 1:=⟨QW⟩
theorem aB0:(Tryz.prog.info? 47).map (·.size)=some 2:=by kernel_rfl
instance:yM Tryz.prog 47 2:=⟨aB0⟩
theorem a55:(Tryz.prog.info? 26).map (·.size)=some 6:=by kernel_rfl
instance:yM Tryz.prog 26 6:=⟨a55⟩
theorem aU3:cC Tryz.prog 26 3 3:=bK (n:=0) (f:=⟨_,_,3,_,_,_,_⟩) Tryz.underlying26 rfl (by kernel_rfl)
instance:j7 Tryz.prog 26 3 3:=⟨aU3⟩
theorem aNn:rO Tryz.prog 26 6:=nN Tryz.underlying26 rfl (by kernel_rfl)
instance:MZ Tryz.prog 26 6:=⟨aNn⟩
theorem aU2:cC Tryz.prog 26 0 0:=bK (n:=0) (f:=⟨_,_,0,_,_,_,_⟩) Tryz.underlying26 rfl (by kernel_rfl)
instance:j7 Tryz.prog 26 0 0:=⟨aU2⟩
theorem aU4:cC Tryz.prog 26 4 4:=bK (n:=0) (f:=⟨_,_,4,_,_,_,_⟩) Tryz.underlying26 rfl (by kernel_rfl)
instance:j7 Tryz.prog 26 4 4:=⟨aU4⟩
theorem aE2:cC Tryz.prog 26 1 1:=bK (n:=0) (f:=⟨_,_,1,_,_,_,_⟩) Tryz.underlying26 rfl (by kernel_rfl)
instance:j7 Tryz.prog 26 1 1:=⟨aE2⟩
theorem aE3:cC Tryz.prog 26 2 2:=bK (n:=0) (f:=⟨_,_,2,_,_,_,_⟩) Tryz.underlying26 rfl (by kernel_rfl)
instance:j7 Tryz.prog 26 2 2:=⟨aE3⟩
theorem aU5:cC Tryz.prog 26 5 5:=bK (n:=0) (f:=⟨_,_,5,_,_,_,_⟩) Tryz.underlying26 rfl (by kernel_rfl)
instance:j7 Tryz.prog 26 5 5:=⟨aU5⟩
theorem aZm:((Tryz.prog.info? 68).map fun i=>(i.size,i.zero.isSome))=some (1,true):=by kernel_rfl
instance:JC Tryz.prog 68 1:=⟨aZm⟩
theorem a5b:(Tryz.prog.info? 68).map (·.size)=some 1:=by kernel_rfl
instance:yM Tryz.prog 68 1:=⟨a5b⟩
theorem VO:((Tryz.prog.info? 33).map fun i=>(i.size,i.zero.isSome))=some (1,true):=by kernel_rfl
instance:JC Tryz.prog 33 1:=⟨VO⟩
theorem aUp:((Tryz.prog.info? 121).map (·.size)).isSome=true:=by kernel_rfl
theorem aNv : ∀ w:World,(zeroValue 121).run Tryz.prog w = .ok (.agg #[str [],i64 0,i64 0,str [],i64 0,i64 0]) w:=by intro w; kernel_rfl
theorem aH5 : ∀ (x0:List UInt8) (x1:Int) (x2:List UInt8) (y0:List UInt8) (y1:Int) (y2:List UInt8) (w:World),(Op.equalIn 10000 89 (.agg #[str x0,i64 x1,str x2]) (.agg #[str y0,i64 y1,str y2])).run Tryz.prog w = .ok (decide (x0=y0∧x1=y1∧x2=y2)) w:=by
 intro x0 x1 x2 y0 y1 y2 w
 have hS:Tryz.prog.underlying 89=some (.struct (Tryz.prog.fieldsOf 89)):=by kernel_rfl
 rw [show (10000:Nat)=9999+1 from rfl,run_equalIn_agg w 9999 89 _ _ hS (by kernel_rfl)]
 simp only [Program.fieldsOf,Tryz.underlying89]
 go_simp
 by_cases h0:x0=y0 <;> by_cases h1:x1=y1 <;> by_cases h2:x2=y2 <;> simp [h0,h1,h2]
theorem aH4:Tryz.prog.eqGuardType Tryz.prog.depth 89=false:=by kernel_rfl
theorem a84 : ∀ w:World,(zeroValue 3).run Tryz.prog w = .ok (i64 0) w:=by intro w; kernel_rfl
theorem aZk:((Tryz.prog.info? 61).map (·.size)).isSome=true:=by kernel_rfl
theorem aUq:((Tryz.prog.info? 182).map (·.size)).isSome=true:=by kernel_rfl
theorem aZw : ∀ w:World,(zeroValue 182).run Tryz.prog w = .ok (.agg #[str [],i64 0]) w:=by intro w; kernel_rfl
theorem tG:(Tryz.prog.info? 232).map (·.size)=some 3:=by kernel_rfl
instance:yM Tryz.prog 232 3:=⟨tG⟩
theorem aZs:(Tryz.prog.info? 378).map (·.size)=some 4:=by kernel_rfl
instance:yM Tryz.prog 378 4:=⟨aZs⟩
theorem ZN:rO Tryz.prog 378 4:=nN Tryz.underlying378 rfl (by kernel_rfl)
instance:MZ Tryz.prog 378 4:=⟨ZN⟩
theorem aE1 : ∀ (x0:List UInt8) (x1:Int) (x2:List UInt8) (x3:Bool) (y0:List UInt8) (y1:Int) (y2:List UInt8) (y3:Bool) (w:World),(Op.equalIn 10000 378 (.agg #[str x0,i64 x1,str x2,.bool x3]) (.agg #[str y0,i64 y1,str y2,.bool y3])).run Tryz.prog w = .ok (decide (x0=y0∧x1=y1∧x2=y2∧x3=y3)) w:=by
 intro x0 x1 x2 x3 y0 y1 y2 y3 w
 have hS:Tryz.prog.underlying 378=some (.struct (Tryz.prog.fieldsOf 378)):=by kernel_rfl
 rw [show (10000:Nat)=9999+1 from rfl,run_equalIn_agg w 9999 378 _ _ hS (by kernel_rfl)]
 simp only [Program.fieldsOf,Tryz.underlying378]
 go_simp
 by_cases h0:x0=y0 <;> by_cases h1:x1=y1 <;> by_cases h2:x2=y2 <;> by_cases h3:x3=y3 <;> simp [h0,h1,h2,h3]
theorem aEZ:Tryz.prog.eqGuardType Tryz.prog.depth 378=false:=by kernel_rfl
theorem aBY:cC Tryz.prog 378 0 0:=bK (n:=2) (f:=⟨_,_,0,_,_,_,_⟩) Tryz.underlying378 rfl (by kernel_rfl)
instance:j7 Tryz.prog 378 0 0:=⟨aBY⟩
theorem aQj:cC Tryz.prog 378 1 3:=bK (n:=0) (f:=⟨_,_,3,_,_,_,_⟩) Tryz.underlying378 rfl (by kernel_rfl)
instance:j7 Tryz.prog 378 1 3:=⟨aQj⟩
theorem a81:((Tryz.prog.info? 3).map fun i=>(i.size,i.bytes,i.zero.map fun z=>z.cells.toList))=some (1,8,some [i64 0]):=by kernel_rfl
theorem aRB:cC Tryz.prog 450 2 2:=bK (n:=0) (f:=⟨_,_,2,_,_,_,_⟩) Tryz.underlying450 rfl (by kernel_rfl)
instance:j7 Tryz.prog 450 2 2:=⟨aRB⟩
theorem aRA:cC Tryz.prog 450 1 1:=bK (n:=0) (f:=⟨_,_,1,_,_,_,_⟩) Tryz.underlying450 rfl (by kernel_rfl)
instance:j7 Tryz.prog 450 1 1:=⟨aRA⟩
theorem aNt:(Tryz.prog.info? 436).map (·.size)=some 2:=by kernel_rfl
instance:yM Tryz.prog 436 2:=⟨aNt⟩
theorem aQz:cC Tryz.prog 450 0 0:=bK (n:=0) (f:=⟨_,_,0,_,_,_,_⟩) Tryz.underlying450 rfl (by kernel_rfl)
instance:j7 Tryz.prog 450 0 0:=⟨aQz⟩
theorem aUt:((Tryz.prog.info? 436).map fun i=>(i.size,i.zero.isSome))=some (2,true):=by kernel_rfl
instance:JC Tryz.prog 436 2:=⟨aUt⟩
theorem aU1:((Tryz.prog.info? 436).map fun i=>(i.size,i.bytes,(i.zero.map fun z=>z.cells.size)))=some (2,24,some 2):=by kernel_rfl
instance:LI Tryz.prog 436 2 24:=⟨aU1⟩
theorem aUY:rO Tryz.prog 436 2:=nN Tryz.underlying436 rfl (by kernel_rfl)
instance:MZ Tryz.prog 436 2:=⟨aUY⟩
theorem aQy:cC Tryz.prog 436 0 0:=bK (n:=0) (f:=⟨_,_,0,_,_,_,_⟩) Tryz.underlying436 rfl (by kernel_rfl)
instance:j7 Tryz.prog 436 0 0:=⟨aQy⟩
theorem aUs:((Tryz.prog.info? 428).map fun i=>(i.size,i.zero.isSome))=some (3,true):=by kernel_rfl
instance:JC Tryz.prog 428 3:=⟨aUs⟩
theorem aU0:((Tryz.prog.info? 428).map fun i=>(i.size,i.bytes,(i.zero.map fun z=>z.cells.size)))=some (3,24,some 3):=by kernel_rfl
instance:LI Tryz.prog 428 3 24:=⟨aU0⟩
theorem aDP:(Tryz.prog.info? 428).map (·.size)=some 3:=by kernel_rfl
instance:yM Tryz.prog 428 3:=⟨aDP⟩
theorem aQx:cC Tryz.prog 428 2 2:=bK (n:=0) (f:=⟨_,_,2,_,_,_,_⟩) Tryz.underlying428 rfl (by kernel_rfl)
instance:j7 Tryz.prog 428 2 2:=⟨aQx⟩
theorem aUX:rO Tryz.prog 428 3:=nN Tryz.underlying428 rfl (by kernel_rfl)
instance:MZ Tryz.prog 428 3:=⟨aUX⟩
theorem aQv:cC Tryz.prog 428 0 0:=bK (n:=0) (f:=⟨_,_,0,_,_,_,_⟩) Tryz.underlying428 rfl (by kernel_rfl)
instance:j7 Tryz.prog 428 0 0:=⟨aQv⟩
theorem aQw:cC Tryz.prog 428 1 1:=bK (n:=0) (f:=⟨_,_,1,_,_,_,_⟩) Tryz.underlying428 rfl (by kernel_rfl)
instance:j7 Tryz.prog 428 1 1:=⟨aQw⟩
theorem a5Z:((Tryz.prog.info? 9).map (·.size)).isSome=true:=by kernel_rfl
theorem Z6:(Tryz.prog.info? 407).map (·.size)=some 5:=by kernel_rfl
instance:yM Tryz.prog 407 5:=⟨Z6⟩
theorem PB:cC Tryz.prog 407 4 4:=bK (n:=0) (f:=⟨_,_,4,_,_,_,_⟩) Tryz.underlying407 rfl (by kernel_rfl)
instance:j7 Tryz.prog 407 4 4:=⟨PB⟩
theorem aJ6:rO Tryz.prog 407 5:=nN Tryz.underlying407 rfl (by kernel_rfl)
instance:MZ Tryz.prog 407 5:=⟨aJ6⟩
theorem aQm:cC Tryz.prog 407 3 3:=bK (n:=0) (f:=⟨_,_,3,_,_,_,_⟩) Tryz.underlying407 rfl (by kernel_rfl)
instance:j7 Tryz.prog 407 3 3:=⟨aQm⟩
theorem aBZ:cC Tryz.prog 407 1 1:=bK (n:=0) (f:=⟨_,_,1,_,_,_,_⟩) Tryz.underlying407 rfl (by kernel_rfl)
instance:j7 Tryz.prog 407 1 1:=⟨aBZ⟩
theorem VN:cC Tryz.prog 407 2 2:=bK (n:=0) (f:=⟨_,_,2,_,_,_,_⟩) Tryz.underlying407 rfl (by kernel_rfl)
instance:j7 Tryz.prog 407 2 2:=⟨VN⟩
theorem aQe:cC Tryz.prog 232 0 0:=bK (n:=0) (f:=⟨_,_,0,_,_,_,_⟩) Tryz.underlying232 rfl (by kernel_rfl)
instance:j7 Tryz.prog 232 0 0:=⟨aQe⟩
theorem aQg:cC Tryz.prog 232 2 2:=bK (n:=0) (f:=⟨_,_,2,_,_,_,_⟩) Tryz.underlying232 rfl (by kernel_rfl)
instance:j7 Tryz.prog 232 2 2:=⟨aQg⟩
theorem aQf:cC Tryz.prog 232 1 1:=bK (n:=0) (f:=⟨_,_,1,_,_,_,_⟩) Tryz.underlying232 rfl (by kernel_rfl)
instance:j7 Tryz.prog 232 1 1:=⟨aQf⟩
theorem aUV:rO Tryz.prog 232 3:=nN Tryz.underlying232 rfl (by kernel_rfl)
instance:MZ Tryz.prog 232 3:=⟨aUV⟩
theorem aZr:(Tryz.prog.info? 307).map (·.size)=some 4:=by kernel_rfl
instance:yM Tryz.prog 307 4:=⟨aZr⟩
theorem aUW:rO Tryz.prog 307 4:=nN Tryz.underlying307 rfl (by kernel_rfl)
instance:MZ Tryz.prog 307 4:=⟨aUW⟩
theorem aE0 : ∀ (x0:List UInt8) (x1:Int) (x2:List UInt8) (x3:Bool) (y0:List UInt8) (y1:Int) (y2:List UInt8) (y3:Bool) (w:World),(Op.equalIn 10000 307 (.agg #[str x0,i64 x1,str x2,.bool x3]) (.agg #[str y0,i64 y1,str y2,.bool y3])).run Tryz.prog w = .ok (decide (x0=y0∧x1=y1∧x2=y2∧x3=y3)) w:=by
 intro x0 x1 x2 x3 y0 y1 y2 y3 w
 have hS:Tryz.prog.underlying 307=some (.struct (Tryz.prog.fieldsOf 307)):=by kernel_rfl
 rw [show (10000:Nat)=9999+1 from rfl,run_equalIn_agg w 9999 307 _ _ hS (by kernel_rfl)]
 simp only [Program.fieldsOf,Tryz.underlying307]
 go_simp
 by_cases h0:x0=y0 <;> by_cases h1:x1=y1 <;> by_cases h2:x2=y2 <;> by_cases h3:x3=y3 <;> simp [h0,h1,h2,h3]
theorem aEY:Tryz.prog.eqGuardType Tryz.prog.depth 307=false:=by kernel_rfl
theorem aQi:cC Tryz.prog 307 1 3:=bK (n:=0) (f:=⟨_,_,3,_,_,_,_⟩) Tryz.underlying307 rfl (by kernel_rfl)
instance:j7 Tryz.prog 307 1 3:=⟨aQi⟩
theorem aQh:cC Tryz.prog 307 0 0:=bK (n:=2) (f:=⟨_,_,0,_,_,_,_⟩) Tryz.underlying307 rfl (by kernel_rfl)
instance:j7 Tryz.prog 307 0 0:=⟨aQh⟩
theorem VM:rO Tryz.prog 47 2:=nN Tryz.underlying47 rfl (by kernel_rfl)
instance:MZ Tryz.prog 47 2:=⟨VM⟩
theorem aZv : ∀ w:World,(zeroValue 128).run Tryz.prog w = .ok (.agg #[i64 0,.slice none 0 0,.slice none 0 0,str []]) w:=by intro w; kernel_rfl
theorem a5X:((Tryz.prog.info? 3).map (·.size)).isSome=true:=by kernel_rfl
theorem aNp:((Tryz.prog.info? 59).map fun i=>(i.size,i.zero.isSome))=some (1,true):=by kernel_rfl
instance:JC Tryz.prog 59 1:=⟨aNp⟩
theorem aNo:((Tryz.prog.info? 59).map fun i=>(i.size,i.bytes,(i.zero.map fun z=>z.cells.size)))=some (1,24,some 1):=by kernel_rfl
instance:LI Tryz.prog 59 1 24:=⟨aNo⟩
theorem a82:((Tryz.prog.info? 4).map fun i=>(i.size,i.bytes,i.zero.map fun z=>z.cells.toList))=some (1,1,some [.bool false]):=by kernel_rfl
theorem aUo:((Tryz.prog.info? 101).map (·.size)).isSome=true:=by kernel_rfl
theorem aMJ:(Tryz.prog.info? 73).map (·.size)=some 4:=by kernel_rfl
instance:yM Tryz.prog 73 4:=⟨aMJ⟩
theorem aJa:cC Tryz.prog 73 0 0:=bK (n:=0) (f:=⟨_,_,0,_,_,_,_⟩) Tryz.underlying73 rfl (by kernel_rfl)
instance:j7 Tryz.prog 73 0 0:=⟨aJa⟩
theorem aJb:cC Tryz.prog 73 1 1:=bK (n:=0) (f:=⟨_,_,1,_,_,_,_⟩) Tryz.underlying73 rfl (by kernel_rfl)
instance:j7 Tryz.prog 73 1 1:=⟨aJb⟩
theorem aUk:cC Tryz.prog 73 2 2:=bK (n:=0) (f:=⟨_,_,2,_,_,_,_⟩) Tryz.underlying73 rfl (by kernel_rfl)
instance:j7 Tryz.prog 73 2 2:=⟨aUk⟩
theorem aH2:rO Tryz.prog 73 4:=nN Tryz.underlying73 rfl (by kernel_rfl)
instance:MZ Tryz.prog 73 4:=⟨aH2⟩
theorem aUl:cC Tryz.prog 73 3 3:=bK (n:=0) (f:=⟨_,_,3,_,_,_,_⟩) Tryz.underlying73 rfl (by kernel_rfl)
instance:j7 Tryz.prog 73 3 3:=⟨aUl⟩
theorem aGE (b:Nat) (p u:Value) (hp:p = .pointer none∨p=ptr b 0) (hu:u.oneCell'=true):Ct Tryz.prog 364 [ptr b 0] Mo.tt (bM b [p,u] 405) (X:=Unit) (fun _ => .tuple #[]) (fun _=>True) (fun _=>Mo.tt) (fun _=>bM b [ptr b 0,u] 405):=by
 refine Zo Tryz.func364 Tryz.ntmps364 fun c => ?_
 rcases hp with rfl | rfl
 ·
  refine ZX ?_
  refine Zu (aOa Tryz.underlying403 rfl) ?_
  refine Zl ?_
  refine VC.DB rfl ?_
  refine Zr (ZX ?_)
  refine Zu (a6D (n:=1) Tryz.underlying403 Tryz.underlying269 aNu rfl (by simp)) ?_
  refine Zu (aLI Tryz.func370 rfl rfl (by kernel_rfl) (by kernel_rfl) rfl) ?_
  refine Zu (aWj (n:=2) (cs:=[.pointer none,u]) Tryz.underlying269 Tryz.underlying403 aNu rfl (by kernel_rfl)) ?_
  refine ZO ?_
  exact VL.nil (rL (.inl rfl) rfl () rfl trivial (fun _ _=>trivial) (by exact fL.out))
 refine ZX ?_
 refine Zu (aOa Tryz.underlying403 rfl) ?_
 refine Zl ?_
 refine VC.uW rfl ?_
 refine ZX ?_
 refine Zu (a6B Tryz.underlying403 aNu rfl rfl) ?_
 refine Zl ?_
 refine VC.uW rfl ?_
 exact VC.skip (rL (.inl rfl) rfl () rfl trivial (fun _ _=>trivial) (by exact fL.out))
theorem SM (b:Nat) (l s:bI) (hb:l.length+s.length≤4294967296):Ct Tryz.prog 354 [ptr b 0,str s] Mo.tt (Bd 405 5 b l) (X:=Unit) (fun _ => .tuple #[i64 s.length,.nilIface]) (fun _=>True) (fun _=>Mo.tt) (fun _=>Bd 405 5 b (l++s)):=by
 refine Ct.aVi (E1:=fun z => ∃ q:Value×Sv UInt8,((q.1 = .pointer none∨q.1=ptr b 0)∧q.2.l=l∧(q.2.c=0→q.2.a=none))∧Ow.star (bM b [q.1,q.2.val] 405) (q.2.own 5) z) (Ct.exE (vU Tryz.func354 rfl (by kernel_rfl)) ?_) (fun z ⟨p,q,h1,h2,h3,h4⟩=>⟨(p,q),⟨h1,h2,h3⟩,h4⟩)
 rintro ⟨p,q⟩ ⟨hp,hl,hc⟩
 dsimp only at hp hl hc ⊢
 refine Zo Tryz.func354 Tryz.ntmps354 fun c => ?_
 refine ZX ?_
 refine VL.nW (aGE b p q.val hp rfl) rfl (by decide) ?_
 rintro _ _
 refine ZX ?_
 refine VL.a4U (s:=q) (r:=s) Tryz.underlying109 Tryz.underlying9 a5W rfl Fo.out (by rw [hl]; exact hb) (by decide) fun q2 hq2 hc2 => ?_
 refine ZX ?_
 exact VC.ret (aUS (.inr rfl) rfl rfl rfl () rfl trivial (fun _ _=>trivial) (fun z hz=>Bd.mk (p:=ptr b 0) (s:=q2) (.inr rfl) (by rw [hq2,hl]) (hc2 hc) ((fL.out (E':=Ow.star (bM b [ptr b 0,q2.val] 405) (q2.own 5))) z hz)))
theorem aMg (b:Nat) (l:bI):Ct Tryz.prog 357 [ptr b 0] Mo.tt (Bd 405 5 b l) (X:=Unit) (fun _=>str l) (fun _=>True) (fun _=>Mo.tt) (fun _=>Ow.emp):=by
 refine Ct.aVi (E1:=fun z => ∃ q:Value×Sv UInt8,((q.1 = .pointer none∨q.1=ptr b 0)∧q.2.l=l∧(q.2.c=0→q.2.a=none))∧Ow.star (bM b [q.1,q.2.val] 405) (q.2.own 5) z) (Ct.exE (vU Tryz.func357 rfl (by kernel_rfl)) ?_) (fun z ⟨p,q,h1,h2,h3,h4⟩=>⟨(p,q),⟨h1,h2,h3⟩,h4⟩)
 rintro ⟨p,q⟩ ⟨hp,rfl,hc⟩
 dsimp only at hp hc ⊢
 refine Zo Tryz.func357 Tryz.ntmps357 fun c => ?_
 refine ZX ?_
 refine Zq ?_
 refine hU [(0,true),(1,true),(2,true),(3,true),(4,true),(5,true),(6,true),(7,true),(8,true),(9,true),(10,false),(11,true)] ?_
 refine ZX ?_
 refine Zw rfl (aWm (s:=q) rfl hc) ?_
 refine ZX ?_
 refine VD.one rfl ?_
 refine VL.aX4 (s:=q) (e:=5) rfl Fo.out (by decide) (fun w h z o l k m=>St.aX4 (e:=5) Tryz.underlying420 (by kernel_rfl) o l k m) ?_
 refine eY ?_
 refine ZX ?_
 exact Ze
theorem aLh (v:Value):Ct Tryz.prog 147 [.nilIface,v] Mo.tt Ow.emp (X:=Unit) (fun _ => .bool false) (fun _=>True) (fun _=>Mo.tt) (fun _=>Ow.emp):=by
 refine Zo Tryz.func147 Tryz.ntmps147 fun c => ?_
 refine ZX ?_
 refine Zq (ZX ?_)
 refine Zu (aLG Tryz.underlying28 rfl) ?_
 refine Zl ?_
 refine VC.DB rfl ?_
 refine ZX ?_
 exact Ze
open Go.Extern.Stop Go.Stop Go.Extern Go.RowKit in
section
end
namespace As
open Go.Extern Go.Extern.Stop
theorem aJI (t:Addr) (w:World):(ReflectliteValue.unpack (.iface 201 (.pointer (some t)))).run Tryz.prog w
    = .ok (.agg #[.pointer (some ⟨7,201,none⟩),.pointer (some ⟨w.heap.size,0,none⟩),.int .u64 150]) (w.alloc (.cells #[.pointer (some t)] 201)):=by kernel_rfl
theorem aTM (a:Addr) (w:World):(ReflectliteValue.methodAny (ReflectliteValue.valueError "reflectlite.Value.Type" 0) (fun t _ _ _=>ReflectliteType.toType t) #[.agg #[.pointer (some ⟨7,201,none⟩),.pointer (some a),.int .u64 150]]).run Tryz.prog w
    = .ok (.iface 333 (.agg #[.pointer (some ⟨7,201,none⟩)])) w:=by kernel_rfl
theorem aQM (h:Value) (w:World):(Go.method 577 333 (.agg #[h]) "Kind").run Tryz.prog w = .ok (402,h) w:=by kernel_rfl
theorem aQH (w:World):((ReflectliteType.abiMethod fun t=>(fun a:Nat=>Value.int IntKind.u8 (a:Int)) <$> Rtype.kind t) #[.pointer (some ⟨7,201,none⟩)]).run Tryz.prog w = .ok (.int .u8 22) w:=by kernel_rfl
theorem aQI (w:World):((ReflectliteType.abiMethod fun t=>(fun a:Nat=>Value.int IntKind.u8 (a:Int)) <$> Rtype.kind t) #[.pointer (some ⟨7,68,none⟩)]).run Tryz.prog w = .ok (.int .u8 2) w:=by kernel_rfl
theorem aNZ (z:Sem Value) (f:TypeId→Addr→Nat→Nat→Sem Value) (v:Value) :
    ReflectliteValue.method z f #[v]=(do match ← ReflectliteValue.parts v with | none=>z | some (t,a,fl)=>f t a fl (fl % 32)):=rfl
theorem aDu (a:Addr) (w:World):(ReflectliteValue.parts (.agg #[.pointer (some ⟨7,201,none⟩),.pointer (some a),.int .u64 150])).run Tryz.prog w = .ok (some (201,a,150)) w:=by kernel_rfl
theorem aQG (a p:Addr) (W:World) (ha:W.cell? a=some (.pointer (some p))) :
 (ReflectliteValue.method (ReflectliteValue.valueError "reflectlite.Value.IsNil" 0) ReflectliteValue.isNil #[.agg #[.pointer (some ⟨7,201,none⟩),.pointer (some a),.int .u64 150]]).run Tryz.prog W = .ok (.bool false) W:=by
 rw [aNZ]
 simp only [Sem.run_bind,aDu,Result.andThen]
 simp [ReflectliteValue.isNil,loadVar,isAgg,underlying,Tryz.underlying201,ha,Result.andThen]
theorem aQK (h:Value) (w:World):(Go.method 577 333 (.agg #[h]) "Elem").run Tryz.prog w = .ok (415,.agg #[h]) w:=by kernel_rfl
theorem aQL (h:Value) (w:World):(Go.method 577 333 (.agg #[h]) "Implements").run Tryz.prog w = .ok (416,.agg #[h]) w:=by kernel_rfl
theorem aQJ (h:Value) (w:World):(Go.method 577 333 (.agg #[h]) "AssignableTo").run Tryz.prog w = .ok (413,.agg #[h]) w:=by kernel_rfl
theorem aQE (w:World):(ReflectliteType.method ReflectliteType.elem #[.agg #[.pointer (some ⟨7,201,none⟩)]]).run Tryz.prog w = .ok (.iface 333 (.agg #[.pointer (some ⟨7,68,none⟩)])) w:=by kernel_rfl
theorem aQF (w:World):(ReflectliteType.relation "Implements" ReflectliteType.implements_ #[.agg #[.pointer (some ⟨7,68,none⟩)],.iface 333 (.agg #[.pointer (some ⟨7,28,none⟩)])]).run Tryz.prog w = .ok (.bool true) w:=by kernel_rfl
theorem aJG (v:Value) (w:World):(ReflectliteType.typeOf #[.iface 78 v]).run Tryz.prog w = .ok (.iface 333 (.agg #[.pointer (some ⟨7,78,none⟩)])) w:=by kernel_rfl
theorem aJH (v:Value) (w:World):(ReflectliteType.typeOf #[.iface 68 v]).run Tryz.prog w = .ok (.iface 333 (.agg #[.pointer (some ⟨7,68,none⟩)])) w:=by kernel_rfl
theorem aQC (w:World):(ReflectliteType.relation "AssignableTo" ReflectliteType.assignableTo #[.agg #[.pointer (some ⟨7,78,none⟩)],.iface 333 (.agg #[.pointer (some ⟨7,68,none⟩)])]).run Tryz.prog w = .ok (.bool false) w:=by kernel_rfl
theorem aQD (w:World):(ReflectliteType.relation "AssignableTo" ReflectliteType.assignableTo #[.agg #[.pointer (some ⟨7,68,none⟩)],.iface 333 (.agg #[.pointer (some ⟨7,68,none⟩)])]).run Tryz.prog w = .ok (.bool true) w:=by kernel_rfl
theorem aHF (n:Int) (w:World):(ReflectliteValue.unpack (.iface 68 (i64 n))).run Tryz.prog w
    = .ok (.agg #[.pointer (some ⟨7,68,none⟩),.pointer (some ⟨w.heap.size,0,none⟩),.int .u64 130]) (w.alloc (.cells #[i64 n] 68)):=by kernel_rfl
theorem aJE (w:World):(Rtype.elem? 201).run Tryz.prog w = .ok (some 68) w:=by kernel_rfl
theorem aYv (p:Addr) (w:World):(ReflectliteValue.mk 68 p ReflectliteValue.flagAddr).run Tryz.prog w = .ok (.agg #[.pointer (some ⟨7,68,none⟩),.pointer (some p),.int .u64 386]) w:=by kernel_rfl
theorem aLg (a p:Addr) (W:World) (ha:W.cell? a=some (.pointer (some p))) :
 (ReflectliteValue.method (ReflectliteValue.valueError "reflectlite.Value.Elem" 0) ReflectliteValue.elem #[.agg #[.pointer (some ⟨7,201,none⟩),.pointer (some a),.int .u64 150]]).run Tryz.prog W
 = .ok (.agg #[.pointer (some ⟨7,68,none⟩),.pointer (some p),.int .u64 386]) W:=by
 rw [aNZ]
 simp only [Sem.run_bind,aDu,Result.andThen]
 simp [ReflectliteValue.elem,loadVar,isAgg,underlying,Tryz.underlying201,ha,Result.andThen,aJE,aYv]
theorem aJF (a:Addr) (w:World):(ReflectliteValue.parts (.agg #[.pointer (some ⟨7,68,none⟩),.pointer (some a),.int .u64 386])).run Tryz.prog w = .ok (some (68,a,386)) w:=by kernel_rfl
theorem aLi (a:Addr) (w:World):(ReflectliteValue.parts (.agg #[.pointer (some ⟨7,68,none⟩),.pointer (some a),.int .u64 130])).run Tryz.prog w = .ok (some (68,a,130)) w:=by kernel_rfl
theorem aJD (w:World):(Rtype.directlyAssignable 68 68).run Tryz.prog w = .ok true w:=by kernel_rfl
theorem aYw (v x:Value):ReflectliteValue.set #[v,x]=(do
    let (some (dst,a,fl),some (src,b,_)):=(← ReflectliteValue.parts v,← ReflectliteValue.parts x)
      | unsupported (.noEntry "extern/(internal/reflectlite.Value).Set.zeroValue")
    if fl / ReflectliteValue.flagAddr % 2==0 then unsupported (.noEntry "extern/(internal/reflectlite.Value).Set.unaddressable")
    let val ← loadVar src b
    if ← Rtype.directlyAssignable dst src then storeVar dst a val
    else if ← Rtype.implements dst src then
      if (← Rtype.kind src)==20 then
        match val with
        | .nilIface=>unsupported (.noEntry "extern/reflectlite: a nil value of one interface type handed on as a value of another")
        | _=>storeVar dst a val
      else storeVar dst a (.iface src val)
    else panicString ("reflectlite.Set: value of type " ++ (← Rtype.spelt src) ++ " is not assignable to type " ++ (← Rtype.spelt dst))
    pure (.tuple #[])):=rfl
theorem aTL (ta b:Addr) (n:Int) (old:Value) (W:World) (hb:W.cell? b=some (i64 n)) (ht:W.cell? ta=some old) (hf:W.frozen? ta=false) :
 (ReflectliteValue.set #[.agg #[.pointer (some ⟨7,68,none⟩),.pointer (some ta),.int .u64 386],.agg #[.pointer (some ⟨7,68,none⟩),.pointer (some b),.int .u64 130]]).run Tryz.prog W
 = .ok (.tuple #[]) (W.setCell ta (i64 n)):=by
 rw [aYw]
 simp only [Sem.run_bind,aJF,aLi,Result.andThen]
 simp [ReflectliteValue.flagAddr,loadVar,isAgg,underlying,Tryz.underlying68,hb,Result.andThen,aJD,storeVar,Value.cells,storeCells,Addr.add]
 rw [run_store Tryz.prog W ta _ _ (by rfl)]
 simp [ht,hf]
theorem aYu (v:Value) (w:World):(Go.method 577 78 v "Unwrap").run Tryz.prog w = .ok (408,v) w:=by kernel_rfl
theorem aYt (b:Nat) (t:Addr) (n:Int) (old:Value) (w:World) (hc:w.cell? ⟨b,2,none⟩=some (.iface 68 (i64 n))) (hg:w.cell? ⟨1,0,none⟩=some (.iface 333 (.agg #[.pointer (some ⟨7,28,none⟩)]))) (ht0:w.cell? t=some old) (hf0:w.frozen? t=false) :
 Calls Tryz.prog 147 #[.iface 78 (.pointer (some ⟨b,0,none⟩)),.iface 201 (.pointer (some t))] w fun ev w'=>ev = .returned (.bool true)∧w'=(((((w.alloc (.cells #[.pointer (some t)] 201)).alloc (.cells #[.pointer (some ⟨7,201,none⟩),.pointer (some ⟨w.heap.size,0,none⟩),.int .u64 150] 272)).alloc (.cells #[.pointer (some ⟨7,201,none⟩),.pointer (some ⟨w.heap.size,0,none⟩),.int .u64 150] 272)).alloc (.cells #[i64 n] 68))).setCell t (i64 n):=by
 have h6 := @run_callFunc_extern Tryz.prog 222 _ (fun args=>ReflectliteValue.unpack (args.getD 0 (.tuple #[]))) Tryz.func222 (by kernel_rfl) (by kernel_rfl) (by kernel_rfl) (by kernel_rfl)
 have h7 := @run_callFunc_extern Tryz.prog 223 _ (ReflectliteValue.methodAny (ReflectliteValue.valueError "reflectlite.Value.Type" 0) (fun t _ _ _=>ReflectliteType.toType t)) Tryz.func223 (by kernel_rfl) (by kernel_rfl) (by kernel_rfl) (by kernel_rfl)
 have h8 := @run_callFunc_extern Tryz.prog 224 _ (ReflectliteValue.method (ReflectliteValue.valueError "reflectlite.Value.IsNil" 0) ReflectliteValue.isNil) Tryz.func224 (by kernel_rfl) (by kernel_rfl) (by kernel_rfl) (by kernel_rfl)
 have h27 := @run_callFunc_extern Tryz.prog 402 _ (ReflectliteType.abiMethod fun t=>do pure (.int .u8 (← Rtype.kind t))) Tryz.func402 (by kernel_rfl) (by kernel_rfl) (by kernel_rfl) (by kernel_rfl)
 have h37 := @run_callFunc_extern Tryz.prog 415 _ (ReflectliteType.method ReflectliteType.elem) Tryz.func415 (by kernel_rfl) (by kernel_rfl) (by kernel_rfl) (by kernel_rfl)
 have h38 := @run_callFunc_extern Tryz.prog 416 _ (ReflectliteType.relation "Implements" ReflectliteType.implements_) Tryz.func416 (by kernel_rfl) (by kernel_rfl) (by kernel_rfl) (by kernel_rfl)
 have h10 := @run_callFunc_extern Tryz.prog 282 _ ReflectliteType.typeOf Tryz.func282 (by kernel_rfl) (by kernel_rfl) (by kernel_rfl) (by kernel_rfl)
 have h35 := @run_callFunc_extern Tryz.prog 413 _ (ReflectliteType.relation "AssignableTo" ReflectliteType.assignableTo) Tryz.func413 (by kernel_rfl) (by kernel_rfl) (by kernel_rfl) (by kernel_rfl)
 have h11 := @run_callFunc_extern Tryz.prog 283 _ (ReflectliteValue.method (ReflectliteValue.valueError "reflectlite.Value.Elem" 0) ReflectliteValue.elem) Tryz.func283 (by kernel_rfl) (by kernel_rfl) (by kernel_rfl) (by kernel_rfl)
 have h12 := @run_callFunc_extern Tryz.prog 284 _ ReflectliteValue.set Tryz.func284 (by kernel_rfl) (by kernel_rfl) (by kernel_rfl) (by kernel_rfl)
 have tO:=aJH
 have tO1:=aJG
 have mA:=aQJ
 have a25:=aQD
 have a1:=aQC
 have v25:=aHF
 have f6:=aJI
 have f7:=aTM
 have mK:=aQM
 have mE:=aQK
 have mI:=aQL
 have k27:=aQH
 have k25:=aQI
 have e27:=aQE
 have i25:=aQF
 have x1:=fun v xT w=>run_typeAssert_lacksB (P:=Tryz.prog) (asserted:=338) (t:=78) (z := .nilIface) Tryz.underlying338 (by kernel_rfl) (by kernel_rfl) v xT w
 have x2:=fun v xT w=>run_typeAssert_hasB (P:=Tryz.prog) (asserted:=341) (t:=78) Tryz.underlying341 (by kernel_rfl) v xT w
 have n8:=aQG ⟨w.heap.size,0,none⟩ t ((w.alloc (.cells #[.pointer (some t)] 201)).alloc (.cells #[.pointer (some ⟨7,201,none⟩),.pointer (some ⟨w.heap.size,0,none⟩),.int .u64 150] 272)) (by simp)
 have hlt:1 < w.heap.size:=by
   rcases Nat.lt_or_ge 1 w.heap.size with h | h
   . exact h
   . simp [World.cell?,Array.getElem?_eq_none h] at hg
 have hg2:(((w.alloc (.cells #[.pointer (some t)] 201)).alloc (.cells #[.pointer (some ⟨7,201,none⟩),.pointer (some ⟨w.heap.size,0,none⟩),.int .u64 150] 272))).cell? ⟨1,0,none⟩=some (.iface 333 (.agg #[.pointer (some ⟨7,28,none⟩)])):=by
   rw [World.cell?_alloc_lt _ _ ⟨1,0,none⟩ (by first | (simp; done) | (simp; omega)),World.cell?_alloc_lt _ _ ⟨1,0,none⟩ hlt]; exact hg
 have htl:t.block < w.heap.size:=by
   rcases Nat.lt_or_ge t.block w.heap.size with h | h
   . exact h
   . simp [World.cell?,Array.getElem?_eq_none h] at ht0
 have el:=aLg ⟨w.heap.size,0,none⟩ t (((w.alloc (.cells #[.pointer (some t)] 201)).alloc (.cells #[.pointer (some ⟨7,201,none⟩),.pointer (some ⟨w.heap.size,0,none⟩),.int .u64 150] 272)).alloc (.cells #[.pointer (some ⟨7,201,none⟩),.pointer (some ⟨w.heap.size,0,none⟩),.int .u64 150] 272)) (by rw [World.cell?_alloc_lt _ _ ⟨w.heap.size,0,none⟩ (by simp; omega)]; simp)
 have st:=aTL t ⟨w.heap.size+1+1+1,0,none⟩ n old ((((w.alloc (.cells #[.pointer (some t)] 201)).alloc (.cells #[.pointer (some ⟨7,201,none⟩),.pointer (some ⟨w.heap.size,0,none⟩),.int .u64 150] 272)).alloc (.cells #[.pointer (some ⟨7,201,none⟩),.pointer (some ⟨w.heap.size,0,none⟩),.int .u64 150] 272)).alloc (.cells #[i64 n] 68))
   (by rw [World.cell?_alloc_at _ _ _ _ (by simp)]; rfl)
   (by rw [World.cell?_alloc_lt _ _ t (by simp; omega),World.cell?_alloc_lt _ _ t (by simp; omega),World.cell?_alloc_lt _ _ t (by simp; omega),World.cell?_alloc_lt _ _ t htl]; exact ht0)
   (by rw [World.frozen?_alloc_old _ _ t (by simp; omega),World.frozen?_alloc_old _ _ t (by simp; omega),World.frozen?_alloc_old _ _ t (by simp; omega),World.frozen?_alloc_old _ _ t (Nat.ne_of_lt htl)]; exact hf0)
 have mU:=aYu
 have hbl:b < w.heap.size:=by
   rcases Nat.lt_or_ge b w.heap.size with h | h
   . exact h
   . simp [World.cell?,Array.getElem?_eq_none h] at hc
 have hW:((((w.alloc (.cells #[.pointer (some t)] 201)).alloc (.cells #[.pointer (some ⟨7,201,none⟩),.pointer (some ⟨w.heap.size,0,none⟩),.int .u64 150] 272)).alloc (.cells #[.pointer (some ⟨7,201,none⟩),.pointer (some ⟨w.heap.size,0,none⟩),.int .u64 150] 272))).cell? ⟨b,2,none⟩=some (.iface 68 (i64 n)):=by
   rw [World.cell?_alloc_lt _ _ ⟨b,2,none⟩ (by simp; omega),World.cell?_alloc_lt _ _ ⟨b,2,none⟩ (by simp; omega),World.cell?_alloc_lt _ _ ⟨b,2,none⟩ hbl]; exact hc
 have hEn:=vU Tryz.func408 rfl (by kernel_rfl)
 go_enter Tryz.func147,Tryz.ntmps147
 go_wp2
 refine wp_loop_rounds 2 ?_
 rw [rounds_succ]
 go_wp2
 rw [rounds_succ]
 go_wp2
 go_ret
 exact ⟨rfl,rfl⟩
theorem a5B (b t:Nat) (p:bI) (a n:Int):Ct Tryz.prog 147 [.iface 78 (ptr b 0),.iface 201 (ptr t 0)] ((Cells b 0 [str p,i64 a,(Er.no n).val]).and (O1 1 #[.iface 333 (.agg #[.pointer (some ⟨7,28,none⟩)])])) (bM t [i64 0] 68) (X:=Unit) (fun _ => .bool true) (fun _=>True) (fun _=>Mo.tt) (fun _=>bM t [i64 n] 68) :=
  ⟨vU Tryz.func147 rfl (by kernel_rfl),fun w hp z m ee d l k=>by
    have hb:w.heap[t]? = some (.cells #[i64 0] 68 (0,0)):=k _ _ ee
    obtain ⟨mc,t1,f1,m1⟩:=m
    have hg:w.heap[1]? = some (.cells #[.iface 333 (.agg #[.pointer (some ⟨7,28,none⟩)])] t1 f1):=l _ _ m1
    have htl:=(Array.getElem?_eq_some_iff.1 hb).1
    have hc:w.cell? ⟨b,2,none⟩=some (.iface 68 (i64 n)):=tQ l (mc 2 _ rfl)
    refine (aYt b ⟨t,0,none⟩ n (i64 0) w hc (by simp [World.cell?,hg]) (by simp [World.cell?,hb]) (by simp [World.frozen?,hb])).mono fun en w' ⟨h1,h2⟩=>⟨_,h1,(),rfl,trivial,?_⟩
    have hgr:Gr w ((((w.alloc (.cells #[.pointer (some ⟨t,0,none⟩)] 201)).alloc (.cells #[.pointer (some ⟨7,201,none⟩),.pointer (some ⟨w.heap.size,0,none⟩),.int .u64 150] 272)).alloc (.cells #[.pointer (some ⟨7,201,none⟩),.pointer (some ⟨w.heap.size,0,none⟩),.int .u64 150] 272)).alloc (.cells #[i64 n] 68)):=(((Gr.alloc w _).trans (Gr.alloc _ _)).trans (Gr.alloc _ _)).trans (Gr.alloc _ _)
    exact St.a1s hb (show z t=_ from ee) d l hgr h2⟩
end As
instance aYg  :
 gS Tryz.prog 11 [] Sh.FD Mo.tt (fun r => .agg #[.slice none 0 0,.slice none 0 0,.slice none 0 0,str [109,97,105,110],i64 0,str [],i64 0,str [],.slice none 0 0,.slice none 0 0,i64 0,str [],str [],i64 0,.slice none 0 0,.slice none 0 0,.slice none 0 0,.slice none 0 0,.slice none 0 0,.slice none 0 0,i64 0]):=by
 refine gU Tryz.func11 Tryz.ntmps11 fun r hS c => ?_
 unfold Sh.FD at hS
 refine cI (dG fun bBV=>ZX ?_)
 refine Zu (cA (vs:=[(0,str [109,97,105,110])]) (cs := #[str [109,97,105,110],i64 0]) rfl (by kernel_rfl)) ?_
 refine Zu (cA (vs:=[(3,.agg #[str [109,97,105,110],i64 0])]) (cs := #[.slice none 0 0,.slice none 0 0,.slice none 0 0,str [109,97,105,110],i64 0,str [],i64 0,str [],.slice none 0 0,.slice none 0 0,i64 0,str [],str [],i64 0,.slice none 0 0,.slice none 0 0,.slice none 0 0]) rfl (by kernel_rfl)) ?_
 refine Zu (cA (vs:=[(0,.agg #[.slice none 0 0,.slice none 0 0,.slice none 0 0,str [109,97,105,110],i64 0,str [],i64 0,str [],.slice none 0 0,.slice none 0 0,i64 0,str [],str [],i64 0,.slice none 0 0,.slice none 0 0,.slice none 0 0])]) (cs := #[.slice none 0 0,.slice none 0 0,.slice none 0 0,str [109,97,105,110],i64 0,str [],i64 0,str [],.slice none 0 0,.slice none 0 0,i64 0,str [],str [],i64 0,.slice none 0 0,.slice none 0 0,.slice none 0 0,.slice none 0 0,.slice none 0 0,.slice none 0 0,i64 0]) rfl (by kernel_rfl)) ?_
 exact ZE hS
instance aJO (jE:bI) :
 gS Tryz.prog 278 [str jE] (Sh.cmp_isNaN_string jE) Mo.tt (fun r => .bool r):=by
 refine gU Tryz.func278 Tryz.ntmps278 fun r hS c => ?_
 unfold Sh.cmp_isNaN_string at hS
 exact ZE hS
instance aHP (jE:bI) (IX:bI) :
 gS Tryz.prog 212 [str jE,str IX] (Sh.mD jE IX) Mo.tt (fun r=>i64 r):=by
 refine gU Tryz.func212 Tryz.ntmps212 fun r hS c => ?_
 unfold Sh.mD at hS
 refine ZX ?_
 refine jU hS rfl fun EJ hS=>ZX ?_
 refine jU hS rfl fun jM hS=>ZX ?_
 refine Zq (ZX ?_)
 refine iG hS (fun _ hS=>ZE hS) fun h11 hS=>Zk ?_
 refine Zq (ZX ?_)
 refine VC.bD [0,1,13] ?_
 refine iG hS (fun _ hS=>ZE hS) fun h13 hS=>Zk ?_
 refine Zq (ZX ?_)
 refine Zu (a1S rfl rfl) ?_
 refine Zl ?_
 refine iG hS (fun _ hS=>ZE hS) fun h16 hS=>Zk ?_
 refine Zq (ZX ?_)
 refine Zu (a1R rfl rfl) ?_
 exact ZE hS
instance PG (cE:bI) (b_1:bI) :
 gS Tryz.prog 130 [str cE,str b_1] (Sh.tI cE b_1) Mo.tt (fun r=>i64 r):=by
 refine gU Tryz.func130 Tryz.ntmps130 fun r hS c => ?_
 unfold Sh.tI at hS
 exact ZE hS
instance JN (uP:aC) (p_1:bI) :
 gS Tryz.prog 129 [.agg #[str uP.path,i64 uP.mode,str uP.data],str p_1] (Sh.qL uP p_1) Mo.tt (fun r=>i64 r):=by
 refine gU Tryz.func129 Tryz.ntmps129 fun r hS c => ?_
 unfold Sh.qL at hS
 refine cI ?_
 exact kF fun iB=>ZE hS
instance J8 (jE:Sv aC) (s5:bI) :
 gS Tryz.prog 128 [jE.val,str s5,.func (.func 129) #[] #[]] (Sh.eU jE.l s5) jE.ok (fun r => .tuple #[i64 r.1,.bool r.2]):=by
 refine gU Tryz.func128 Tryz.ntmps128 fun r hS c => ?_
 unfold Sh.eU at hS
 refine ZX ?_
 refine Zq (Zb ?_)
 refine VC.iJ [0,1,2,8] (fun (sg:Int×Int)=>(sg.1,sg.2)) (fun sg ρ=>(9,i64 sg.1)::(10,i64 sg.2)::ρ) (0,(jE.l.length:Int)) [9,10,0,1,2,8] hS ?_
 rintro ⟨AW,CD⟩ m1 y1 hS hK1
 refine Zq (ZX ?_)
 refine Zc hS (fun h17 hS => ?_) (fun h17 hS => ?_)
 ·
  obtain ⟨b20,hS⟩:=bX hS
  refine Zk ?_
  refine Zb (ZX ?_)
  refine Zu (yW Tryz.underlying3 Tryz.underlying192 rfl) ?_
  refine Zu (aFS rfl rfl (by decide)) ?_
  refine Zu (yW Tryz.underlying192 Tryz.underlying3 rfl) (Za ?_)
  refine Zl ?_
  refine VC.bD [0,1,2,8,9,10,11] (ZX ?_)
  refine BY hS rfl fun YZ a07 hS=>ZX ?_
  obtain ⟨OS,aHZ,hS⟩:=dU hS
  refine Zu (MG ((JN YZ s5).out aHZ) rfl rfl (fun _ _=>rfl)) ?_
  exact ZE hS
 replace hS:=lQ hS hK1
 refine Zx ?_
 refine cI (Zm ?_)
 refine Zm (Zm (Zu (qU rfl rfl) (Zm ?_)))
 refine oT 39 hS (fun h39 hS => ?_) (fun h39 hS => ?_)
 ·
  refine ZX ?_
  refine aIz hS rfl fun Y0 a0a hS=>ZX ?_
  obtain ⟨aFo,aH0,hS⟩:=dU hS
  refine Zh (MG ((JN Y0 s5).out aH0) rfl rfl (fun _ _=>rfl)) ?_
  exact ZE hS
 exact ZE hS
instance aMC (dO:Sv aC) (p_1:bI) :
 gS Tryz.prog 63 [dO.val,str p_1] (Sh.o5 dO.l p_1) dO.ok (fun r => .tuple #[i64 r.1,.bool r.2]):=by
 refine gU Tryz.func63 Tryz.ntmps63 fun r hS c => ?_
 unfold Sh.o5 at hS
 exact ZE hS
instance aNm (dO:Sv aC) (p_1:bI) :
 gS Tryz.prog 30 [dO.val,str p_1] (Sh.eN dO.l p_1) dO.ok (fun r => .tuple #[.agg #[str r.1.path,i64 r.1.mode,str r.1.data],.bool r.2]):=by
 refine gU Tryz.func30 Tryz.ntmps30 fun r hS c => ?_
 unfold Sh.eN at hS
 refine cI (dG fun W4=>ZX ?_)
 refine jU hS rfl fun rS hS=>ZO ?_
 refine Zl ?_
 refine VC.bD [0,4,6,7] (Zq (ZX ?_))
 refine iG hS (fun h15 hS => ?_) (fun h15 hS => ?_)
 ·
  refine cI ?_
  refine Zu (cA (vs:=[]) (cs := #[str [],i64 0,str []]) rfl (by kernel_rfl)) ?_
  exact ZE hS
 exact ZE hS
instance YF (aA:bI) :
 gS Tryz.prog 215 [str aA] (Sh.lF aA) Mo.tt (fun r=>i64 r):=by
 refine gU Tryz.func215 Tryz.ntmps215 fun r hS c => ?_
 unfold Sh.lF at hS
 exact ZE hS
instance S2 (aA:bI) :
 gS Tryz.prog 217 [str aA] (Sh.lI aA) Mo.tt (fun r => .tuple #[.int .i32 r.1,i64 r.2]):=by
 refine gU Tryz.func217 Tryz.ntmps217 fun r hS c => ?_
 unfold Sh.lI at hS
 refine ZX ?_
 refine Zq (ZX ?_)
 refine Zc hS (fun _ hS=>ZE hS) fun h16 hS=>ZX ?_
 obtain ⟨a6y,a0t,a03,hS⟩:=gQ hS
 refine Zu (xM Tryz.underlying9 rfl rfl a0t a03) (Za ?_)
 exact ZE hS
instance XE (aA:bI) :
 gS Tryz.prog 139 [str aA] (Sh.mV aA) Mo.tt (fun r => .tuple #[.int .i32 r.1,i64 r.2]):=by
 refine gU Tryz.func139 Tryz.ntmps139 fun r hS c => ?_
 unfold Sh.mV at hS
 refine ZX ?_
 refine Zq ?_
 refine VC.cJ [0] (fun (aCA:Bool)=>aCA) (fun aCA ρ=>(10,.bool aCA)::ρ) hS ?_ ?_
 ·
  intro k2 hS
  refine Zr (Zm (Zu (KF rfl rfl) (Zm ?_)))
  refine S5 6 hS (fun h6 hS => ?_) (fun h6 hS => ?_)
  ·
   refine ZX ?_
   obtain ⟨aYU,a5r,a5e,hS⟩:=gQ hS
   refine Zh (xM Tryz.underlying9 rfl rfl a5r a5e) ?_
   refine ZX ?_
   refine VL.mt (decide ((aYU.toNat:Int) < 128)) [10,0] (fun _ _ h=>h) hS rfl
  exact ZE hS
 rintro aCA hS
 refine iG hS (fun h10 hS => ?_) (fun h10 hS => ?_)
 ·
  refine ZX ?_
  obtain ⟨aNB,a0q,a01,hS⟩:=gQ hS
  refine Zu (xM Tryz.underlying9 rfl rfl a0q a01) (Zu (aD3 Tryz.underlying5 Tryz.underlying21 rfl (a1y aNB)) ?_)
  exact ZE hS
 exact ZE hS
instance aLc (aA:bI) (n_1:Int) :
 uL Tryz.prog 136 [str aA,i64 n_1] (Sh.DL aA n_1) Mo.tt (Ow.emp) (X:=Sv bI) (fun x=>x.val) (fun x=>x.l) (fun x=>Mo.tt) (fun x=>Sv.own x 9):=by
 refine uV Tryz.func136 Tryz.ntmps136 fun r hS c => ?_
 unfold Sh.DL at hS
 refine ZX ?_
 refine jU hS rfl fun kI hS=>Za ?_
 refine Zl ?_
 refine VC.cJ [0] (fun (LZ:Int)=>LZ) (fun LZ ρ=>(1,i64 LZ)::ρ) hS ?_ ?_
 ·
  intro k3 hS
  exact VC.cJ [0,1,5] (fun (aF6:Bool)=>aF6) (fun aF6 ρ=>(18,.bool aF6)::ρ) hS (fun _ hS=>ZE hS) fun _ hS=>ZE hS
 rintro LZ hS
 obtain ⟨b21,hS⟩:=bX hS
 refine ZX ?_
 refine VL.make (α:=bI) (z:=[]) Tryz.underlying45 a4b (by decide) rfl rfl b21.1 (Int.le_refl _) (by omega) (by omega) (by decide) (fun a6P a0J => ?_)
 replace hS:=dR a0J hS
 refine ZX ?_
 refine Zq (ZX ?_)
 refine Zb ?_
 refine VC.iter (S:=bI×Sv bI×Int) (fun sg=>(sg.1,sg.2.1.l,sg.2.2)) (fun sg=>[(0,str sg.1),(1,i64 LZ),(6,sg.2.1.val),(7,i64 sg.2.2)]) (fun sg=>Mo.tt) (fun sg=>Ow.star (Sv.own sg.2.1 9) (Ow.emp)) (aA,a6P,0) [0,1,6,7] hS rfl ?_
 rintro ⟨aAd,WZ,aB2⟩ m1 y1 hS hK1
 obtain ⟨b24,hS⟩:=bX hS
 refine Zq (ZX ?_)
 refine Zc hS (fun h25 hS => ?_) (fun h25 hS => ?_)
 ·
  refine Zk ?_
  refine Zq (Zb (ZX ?_))
  refine jU hS rfl fun RY hS=>ZO ?_
  refine Zl ?_
  refine VC.bD [0,1,6,7,9] ?_
  obtain ⟨b37,hS⟩:=bX hS
  refine ZX ?_
  obtain ⟨K7,aTq,hS⟩:=p9 hS
  refine Zu (NU Tryz.underlying9 rfl rfl b37.1 b37.2 aTq) ?_
  obtain ⟨a4C,aKV,aJm,hS⟩:=gQ hS
  refine Zu (lC (s:=WZ) Tryz.underlying45 wU rfl rfl aKV (bQ aKV aJm)) ?_
  refine VL.nD (s:=WZ) (T:=9) (j:=0) (vc:=[str K7]) (K7:bI) (by decide) rfl rfl aJm rfl wU rfl rfl (Nat.le_of_ble_eq_true rfl) rfl (fun w14 hw14 haw14 hcw14 hvw14 hbw14 how14 => ?_)
  rw [← hvw14]
  replace hS:=dR hw14 hS
  obtain ⟨b41,hS⟩:=bX hS
  refine Zl ?_
  refine Zr (ZX ?_)
  obtain ⟨aD7,aTt,hS⟩:=p9 hS
  refine Zu (F0 Tryz.underlying9 rfl rfl b41.1 b41.2 aTt) (Za ?_)
  exact ZE hS
 replace hS:=lQ hS hK1
 refine Zx ?_
 refine Zq (ZX ?_)
 refine Zc hS (fun h43 hS => ?_) (fun h43 hS => ?_)
 ·
  obtain ⟨b46,hS⟩:=bX hS
  refine Zr (ZX ?_)
  obtain ⟨a4I,aK4,aJu,hS⟩:=gQ hS
  refine Zu (lC (s:=WZ) Tryz.underlying45 wU rfl rfl aK4 (bQ aK4 aJu)) ?_
  refine VL.nD (s:=WZ) (T:=9) (j:=0) (vc:=[str aAd]) (aAd:bI) (by decide) rfl rfl aJu rfl wU rfl rfl (Nat.le_of_ble_eq_true rfl) rfl (fun w18 hw18 haw18 hcw18 hvw18 hbw18 how18 => ?_)
  rw [← hvw18]
  replace hS:=dR hw18 hS
  exact ZE hS
 exact ZE hS
instance E6 (aA:bI) (cZ:Int) :
 gS Tryz.prog 132 [str aA,.int .u8 cZ] (Sh.jR aA cZ) Mo.tt (fun r=>i64 r):=by
 refine gU Tryz.func132 Tryz.ntmps132 fun r hS c => ?_
 unfold Sh.jR at hS
 refine ZX ?_
 refine Zu (aGn Tryz.func213 rfl rfl (by kernel_rfl) (by kernel_rfl) rfl (fun w=>a68 aA cZ w)) ?_
 exact ZE hS
instance aB4 (aA:bI) (kN:bI) :
 gS Tryz.prog 65 [str aA,str kN] (Sh.iN aA kN) Mo.tt (fun r=>i64 r):=by
 refine gU Tryz.func65 Tryz.ntmps65 fun r hS c => ?_
 unfold Sh.iN at hS
 refine ZX ?_
 refine Zq (Zb ?_)
 refine VC.cJ [0,1,5] (fun (aCE:Bool)=>aCE) (fun aCE ρ=>(16,.bool aCE)::ρ) hS (fun _ hS=>ZE hS) ?_
 rintro aCE hS
 refine iG hS (fun _ hS=>ZE hS) fun h16 hS=>ZX ?_
 refine Zc hS (fun h24 hS => ?_) (fun h24 hS => ?_)
 ·
  refine ZX ?_
  obtain ⟨aNL,a0y,a09,hS⟩:=gQ hS
  refine Zu (xM Tryz.underlying9 rfl rfl a0y a09) ?_
  exact Zcq hS (E6 aA (aNL.toNat:Int)).out fun OS hS=>ZE hS
 exact ZE hS
instance aOp (aA:bI) (kN:bI) :
 gS Tryz.prog 131 [str aA,str kN] (Sh.strings_Index aA kN) Mo.tt (fun r=>i64 r):=by
 refine gU Tryz.func131 Tryz.ntmps131 fun r hS c => ?_
 unfold Sh.strings_Index at hS
 exact ZE hS
instance aOo (aA:bI) (kN:bI) :
 gS Tryz.prog 137 [str aA,str kN] (Sh.wP aA kN) Mo.tt (fun r=>i64 r):=by
 refine gU Tryz.func137 Tryz.ntmps137 fun r hS c => ?_
 unfold Sh.wP at hS
 refine ZX ?_
 refine Zq (ZX ?_)
 refine Zc hS (fun _ hS=>ZE hS) fun h9 hS=>Zk ?_
 refine Zq (ZX ?_)
 refine Zc hS (fun h15 hS => ?_) (fun h15 hS => ?_)
 ·
  refine ZX ?_
  obtain ⟨IY,a0u,aOB,hS⟩:=gQ hS
  refine Zu (xM Tryz.underlying9 rfl rfl a0u aOB) ?_
  refine Zu (aGn Tryz.func216 rfl rfl (by kernel_rfl) (by kernel_rfl) rfl (fun w=>a1z aA (IY.toNat:Int) w)) ?_
  exact ZE hS
 refine ZX ?_
 refine Zb ?_
 refine VC.iJ [1] (fun (sg:bI×Int)=>(sg.1,sg.2)) (fun sg ρ=>(0,str sg.1)::(5,i64 sg.2)::ρ) (aA,0) [0,5,1] hS ?_
 rintro ⟨aOg,aOL⟩ m1 y1 hS hK1
 refine Zb (ZX ?_)
 refine jU hS rfl fun q9 hS=>ZX ?_
 refine Zq (ZX ?_)
 refine Zc hS (fun _ hS=>ZE hS) fun h24 hS => ?_
 obtain ⟨b27,hS⟩:=bX hS
 refine Zk ?_
 refine cI (ZO ?_)
 refine Zl ?_
 refine VC.bD [0,1,5,6] ?_
 obtain ⟨b32,hS⟩:=bX hS
 obtain ⟨b33,hS⟩:=bX hS
 refine Zr (ZX ?_)
 obtain ⟨aXt,aZc,hS⟩:=p9 hS
 refine Zu (F0 Tryz.underlying9 rfl rfl b33.1 b33.2 aZc) (Za ?_)
 exact ZE hS
instance aLT (aA:bI) (pZ:bI) (sepSave_2:Int) (n_3:Int) :
 jG Tryz.prog 66 [str aA,str pZ,i64 sepSave_2,i64 n_3] (Sh.uI aA pZ sepSave_2 n_3) Mo.tt (X:=Sv bI) (fun x=>x.val) (fun x=>x.l) (fun x=>x.ok):=by
 refine jO Tryz.func66 Tryz.ntmps66 fun r hS c => ?_
 unfold Sh.uI at hS
 refine ZX ?_
 refine Zq (ZX ?_)
 refine Zc hS (fun h13 hS => ?_) (fun h13 hS => ?_)
 ·
  refine ZX ?_
  cases hS
  exact VC.ret (Z1 ⟨none,0,[]⟩)
 refine Zk ?_
 refine Zq (ZX ?_)
 refine Zc hS (fun h15 hS => ?_) (fun h15 hS => ?_)
 ·
  refine ZX ?_
  refine fJ hS rfl fun aWP hS=>Za ?_
  refine Zl ?_
  refine VC.bD [8] ?_
  refine VC.shut aWP 9 (fun _ _ _ _=>trivial) ?_
  exact ZE hS
 refine Zk ?_
 refine VC.cJ [0,1,2] (fun (TX:Int)=>TX) (fun TX ρ=>(3,i64 TX)::ρ) hS (fun _ hS=>ZE hS) ?_
 rintro TX hS
 obtain ⟨b28,hS⟩:=bX hS
 refine ZX ?_
 refine Zu (aWl rfl) ?_
 obtain ⟨b31,hS⟩:=bX hS
 refine ZX ?_
 refine VL.make (α:=bI) (z:=[]) Tryz.underlying45 a4b (by decide) rfl rfl b31.1 (Int.le_refl _) (by omega) (by omega) (by decide) (fun a6S a0S => ?_)
 replace hS:=dR a0S hS
 refine Za ?_
 refine Zl ?_
 refine VC.bD [0,1,2,3,9] ?_
 obtain ⟨b33,hS⟩:=bX hS
 refine cI (ZO ?_)
 refine Zl ?_
 refine cI (Za ?_)
 refine Zl ?_
 refine VC.wT (S:=bI×Sv bI×Int) (fun sg=>(sg.1,sg.2.1.l,sg.2.2)) (fun sg=>[(0,str sg.1),(9,sg.2.1.val),(10,i64 sg.2.2)]) (fun sg=>Mo.tt) (fun sg=>Ow.star (Sv.own sg.2.1 9) (Ow.emp)) hS ?_ ?_
 ·
  intro k10 hS
  refine Zb ?_
  refine VC.iter (S:=bI×Sv bI×Int) (fun sg=>(sg.1,sg.2.1.l,sg.2.2)) (fun sg=>[(0,str sg.1),(1,str pZ),(2,i64 sepSave_2),(3,i64 ((min TX ((aA.length:Int)+1)) - 1)),(9,sg.2.1.val),(10,i64 sg.2.2)]) (fun sg=>Mo.tt) (fun sg=>Ow.star (Sv.own sg.2.1 9) (Ow.emp)) (aA,a6S,0) [0,1,2,3,9,10] hS rfl ?_
  rintro ⟨UO,XK,NF⟩ m1 y1 hS hK1
  refine Zq (ZX ?_)
  refine Zc hS (fun h36 hS => ?_) (fun h36 hS => ?_)
  ·
   refine Zk ?_
   refine Zb (ZX ?_)
   refine jU hS rfl fun JA hS=>ZX ?_
   refine Zq (ZX ?_)
   refine VC.bD [0,1,2,3,9,10,11,41] ?_
   refine Zc hS (fun _ hS=>ZE hS) fun h41 hS => ?_
   obtain ⟨b47,hS⟩:=bX hS
   obtain ⟨b48,hS⟩:=bX hS
   refine ZX ?_
   obtain ⟨aDb,aTy,hS⟩:=p9 hS
   refine Zu (NU Tryz.underlying9 rfl rfl b48.1 b48.2 aTy) ?_
   obtain ⟨a4J,aK8,aJx,hS⟩:=gQ hS
   refine Zu (lC (s:=XK) Tryz.underlying45 wU rfl rfl aK8 (bQ aK8 aJx)) ?_
   refine VL.nD (s:=XK) (T:=9) (j:=0) (vc:=[str aDb]) (aDb:bI) (by decide) rfl rfl aJx rfl wU rfl rfl (Nat.le_of_ble_eq_true rfl) rfl (fun w17 hw17 haw17 hcw17 hvw17 hbw17 how17 => ?_)
   rw [← hvw17]
   replace hS:=dR hw17 hS
   refine Zl ?_
   refine VC.bD [0,1,2,3,9,10,11] ?_
   obtain ⟨b54,hS⟩:=bX hS
   obtain ⟨b55,hS⟩:=bX hS
   refine ZX ?_
   obtain ⟨aDe,aUH,hS⟩:=p9 hS
   refine Zu (F0 Tryz.underlying9 rfl rfl b55.1 b55.2 aUH) (Za ?_)
   exact ZE hS
  exact ZE hS
 rintro ⟨aOh,aJA,XZ⟩ hS
 refine ZX ?_
 obtain ⟨a4M,aKa,aJy,hS⟩:=gQ hS
 refine Zu (lC (s:=aJA) Tryz.underlying45 wU rfl rfl aKa (bQ aKa aJy)) ?_
 refine VL.nD (s:=aJA) (T:=9) (j:=0) (vc:=[str aOh]) (aOh:bI) (by decide) rfl rfl aJy rfl wU rfl rfl (Nat.le_of_ble_eq_true rfl) rfl (fun w21 hw21 haw21 hcw21 hvw21 hbw21 how21 => ?_)
 rw [← hvw21]
 replace hS:=dR hw21 hS
 obtain ⟨b64,hS⟩:=bX hS
 refine ZX ?_
 refine VL.shut w21 9 (fun _ _ _ _=>trivial) ?_
 obtain ⟨b65,hS⟩:=bX hS
 refine VL.sto Tryz.underlying45 wU rfl rfl b65.1 (b65.2) (by decide) fun bA2 aVN => ?_
 replace hS:=dR aVN hS
 exact ZE hS
instance aOq (aA:bI) (pZ:bI) :
 jG Tryz.prog 36 [str aA,str pZ] (Sh.qY aA pZ) Mo.tt (X:=Sv bI) (fun x=>x.val) (fun x=>x.l) (fun x=>x.ok):=by
 refine jO Tryz.func36 Tryz.ntmps36 fun r hS c => ?_
 unfold Sh.qY at hS
 exact ZE hS
instance aGQ (cX:Int) :
 gS Tryz.prog 220 [.int .u8 cX] (Sh.HV cX) Mo.tt (fun r => .bool r):=by
 refine gU Tryz.func220 Tryz.ntmps220 fun r hS c => ?_
 unfold Sh.HV at hS
 refine cI (Za ?_)
 refine Zl ?_
 refine VC.cJ [0] (fun (_:Unit)=>()) (fun _ ρ=>ρ) hS ?_ ?_
 ·
  intro k1 hS
  refine ZX ?_
  refine Zb ?_
  exact VC.cJ [] (fun (_:Unit)=>()) (fun _ ρ=>ρ) hS (fun _ hS=>ZE hS) fun _ hS=>ZE hS
 rintro _ hS
 exact ZE hS
instance aY5 (aA:bI) :
 gS Tryz.prog 144 [str aA] (Sh.HW aA) Mo.tt (fun r => .bool r):=by
 refine gU Tryz.func144 Tryz.ntmps144 fun r hS c => ?_
 unfold Sh.HW at hS
 refine ZX ?_
 refine Zq ?_
 refine VC.cJ [0] (fun (aCC:Bool)=>aCC) (fun aCC ρ=>(14,.bool aCC)::ρ) hS (fun _ hS=>ZE hS) ?_
 rintro aCC hS
 refine iG hS (fun _ hS=>ZE hS) fun h14 hS => ?_
 obtain ⟨b16,hS⟩:=bX hS
 refine Zk ?_
 refine Zq (ZX ?_)
 refine VL.s2b Tryz.underlying9 Tryz.underlying109 Tryz.underlying5 rfl b16 (by decide) fun a6K a0E => ?_
 replace hS:=dR a0E hS
 refine ZX ?_
 refine Zb ?_
 refine VC.iJ [16,17] (fun (RM:Int)=>RM) (fun RM ρ=>(18,i64 RM)::ρ) 0 [18,16,17] hS ?_
 rintro RM m1 y1 hS hK1
 refine ZX ?_
 refine Zq (Zc hS (fun h19 hS => ?_) (fun h19 hS => ?_))
 ·
  refine Zk ?_
  refine Zq (Zb (cI (BY hS rfl fun aNI a9z hS=>ZX ?_)))
  exact Zcq hS (aGQ (aNI.toNat:Int)).out fun YP hS=>ZE hS
 exact ZE hS
instance aVs (BZ:bI) :
 gS Tryz.prog 78 [str BZ] (Sh.zI BZ) Mo.tt (fun r=>i64 r):=by
 refine gU Tryz.func78 Tryz.ntmps78 fun r hS c => ?_
 unfold Sh.zI at hS
 refine ZX ?_
 refine Zq (ZX ?_)
 refine Zc hS (fun _ hS=>ZE hS) fun h7 hS=>Zk ?_
 refine Zq (ZX ?_)
 refine fN hS rfl fun bAO hS=>ZX ?_
 refine Zb ?_
 refine VC.iJ [9,10] (fun (DW:Int)=>DW) (fun DW ρ=>(11,i64 DW)::ρ) 0 [11,9,10] hS ?_
 rintro DW m1 y1 hS hK1
 exact ZE hS
instance X1 (aA:bI) (vX:bI) :
 gS Tryz.prog 319 [str aA,str vX] (Sh.jP aA vX) Mo.tt (fun r => .bool r):=by
 refine gU Tryz.func319 Tryz.ntmps319 fun r hS c => ?_
 unfold Sh.jP at hS
 refine cI (Za ?_)
 refine Zl ?_
 refine cI (Zm ?_)
 refine Zu (xN Tryz.underlying9 rfl) (Zm (Zu (xN Tryz.underlying9 rfl) (Zu (MH rfl rfl) (Zm ?_))))
 refine oT 10 hS (fun h10 hS => ?_) (fun h10 hS => ?_)
 ·
  obtain ⟨b14,hS⟩:=bX hS
  refine ZX ?_
  obtain ⟨G4,aHU,hS⟩:=p9 hS
  refine Zh (NU Tryz.underlying9 rfl rfl b14.1 b14.2 aHU) ?_
  exact ZE hS
 exact ZE hS
instance SW (aA:bI) (vX:bI) :
 gS Tryz.prog 285 [str aA,str vX] (Sh.sY aA vX) Mo.tt (fun r => .bool r):=by
 refine gU Tryz.func285 Tryz.ntmps285 fun r hS c => ?_
 unfold Sh.sY at hS
 exact ZE hS
instance T4 (BZ:bI) (TE:bI) :
 gS Tryz.prog 228 [str BZ,str TE] (Sh.CH BZ TE) Mo.tt (fun r => .bool r):=by
 refine gU Tryz.func228 Tryz.ntmps228 fun r hS c => ?_
 unfold Sh.CH at hS
 refine ZX ?_
 refine Zq (ZX ?_)
 refine Zc hS (fun _ hS=>ZE hS) fun h6 hS => ?_
 obtain ⟨b13,hS⟩:=bX hS
 refine Zk ?_
 refine cI (Zm ?_)
 refine Zu (xN Tryz.underlying9 rfl) (Zm (Zu (xN Tryz.underlying9 rfl) (Zu (lN rfl rfl b13) (Zu (wV rfl rfl) (Zm ?_)))))
 refine oT 15 hS (fun h15 hS => ?_) (fun h15 hS => ?_)
 ·
  obtain ⟨b18,hS⟩:=bX hS
  refine ZX ?_
  obtain ⟨aFc,aZU,hS⟩:=p9 hS
  refine Zh (yP rfl rfl b18 aZU) ?_
  obtain ⟨aXm,aZZ,hS⟩:=dU hS
  refine Zh (eT ((SW BZ aFc).out aZZ) rfl (fun _ _=>rfl)) ?_
  exact ZE hS
 exact ZE hS
instance aEv (cE:bI) (b_1:bI) :
 gS Tryz.prog 150 [str cE,str b_1] (Sh.iH cE b_1) Mo.tt (fun r => .bool r):=by
 refine gU Tryz.func150 Tryz.ntmps150 fun r hS c => ?_
 unfold Sh.iH at hS
 refine cI (Za ?_)
 refine Zl ?_
 refine cI (Zm ?_)
 refine Zu (KF rfl rfl) (Zm ?_)
 refine S5 7 hS (fun h7 hS => ?_) (fun h7 hS => ?_)
 ·
  refine Zg ?_
  refine Zh (KF rfl rfl) ?_
  refine Zt ?_
  refine Zm ?_
  refine S5 11 hS (fun h11 hS => ?_) (fun h11 hS => ?_)
  ·
   refine ZX ?_
   obtain ⟨G4,aHU,hS⟩:=dU hS
   refine Zh (eT ((T4 cE b_1).out aHU) rfl (fun _ _=>rfl)) ?_
   refine Zg ?_
   refine B3 15 hS (fun _ hS=>ZE hS) fun h15 hS => ?_
   refine ZX ?_
   obtain ⟨aIM,aZV,hS⟩:=dU hS
   refine Zh (eT ((T4 b_1 cE).out aZV) rfl (fun _ _=>rfl)) ?_
   exact ZE hS
  exact ZE hS
 exact ZE hS
instance SP (qM:aC) (hO:Nat) (a_1:aC) :
 gS Tryz.prog 227 [.agg #[str qM.path,i64 qM.mode,str qM.data],ptr hO 0] (Sh.sD qM a_1) (Cells hO 0 [str a_1.path,i64 a_1.mode,str a_1.data]) (fun r => .bool r):=by
 refine gU Tryz.func227 Tryz.ntmps227 fun r hS c => ?_
 unfold Sh.sD at hS
 refine cI (kF fun iB=>ZX ?_)
 refine Zu (ED oV rfl rfl) ?_
 exact ZE hS
instance A8 (aA:Sv aC) (dQ:Nat) (dI:aC) :
 gS Tryz.prog 221 [aA.val,.func (.func 227) #[] #[ptr dQ 0]] (Sh.gY aA.l dI) (aA.ok.and (Cells dQ 0 [str dI.path,i64 dI.mode,str dI.data])) (fun r=>i64 r):=by
 refine gU Tryz.func221 Tryz.ntmps221 fun r hS c => ?_
 unfold Sh.gY at hS
 refine ZX ?_
 refine Zq (ZX ?_)
 refine Zb ?_
 refine VC.iJ [0,1,7] (fun (dD:Int)=>dD) (fun dD ρ=>(8,i64 dD)::ρ) 0 [8,0,1,7] hS ?_
 rintro dD m1 y1 hS hK1
 refine ZX ?_
 refine Zq (Zc hS (fun h9 hS => ?_) (fun h9 hS => ?_))
 ·
  refine Zk ?_
  refine Zq (Zb (ZX ?_))
  obtain ⟨eW,qS,oB,hS⟩:=gQ hS
  refine Zu (jY (s:=aA) Tryz.underlying33 j9 rfl rfl qS (bQ qS oB)) (Zu (sR  (s:=aA) z7 rfl rfl oB) ?_)
  obtain ⟨nJ,tF,hS⟩:=dU hS
  refine Zu (sQ (vs:=[.agg #[str eW.path,i64 eW.mode,str eW.data]]) (caps:=[ptr dQ 0]) ((SP eW dQ dI).out tF) rfl rfl (fun _ _=>rfl)) ?_
  exact ZE hS
 exact ZE hS
instance yY (aA:Sv aC) (dQ:Nat) (dI:aC) :
 gS Tryz.prog 226 [aA.val,.func (.func 227) #[] #[ptr dQ 0]] (Sh.fZ aA.l dI) (aA.ok.and (Cells dQ 0 [str dI.path,i64 dI.mode,str dI.data])) (fun r => .bool r):=by
 refine gU Tryz.func226 Tryz.ntmps226 fun r hS c => ?_
 unfold Sh.fZ at hS
 refine ZX ?_
 obtain ⟨kK,E4,hS⟩:=dU hS
 refine Zu (lW ((A8 aA dQ dI).out E4) rfl (fun _ _=>rfl)) ?_
 exact ZE hS
instance aL8 (dO:Sv aC) (i_1:Int) :
 gS Tryz.prog 148 [dO.val,i64 i_1] (Sh.vW dO.l i_1) dO.ok (fun r=>i64 r):=by
 refine gU Tryz.func148 Tryz.ntmps148 fun r hS c => ?_
 unfold Sh.vW at hS
 refine ZX ?_
 refine BY hS rfl fun aBM bAt hS=>ZX ?_
 refine dG fun a8H=>ZX ?_
 refine Zq (ZX ?_)
 refine jU hS rfl fun IP hS=>Za ?_
 refine Zl ?_
 refine VC.bD [0,1,5,6] (ZX ?_)
 refine qD hS (fun _ hS=>ZE hS) fun h15 hS=>Zk ?_
 refine Zq (Zb ?_)
 refine VC.cJ [0,1,5] (fun (s7:Bool)=>s7) (fun s7 ρ=>(17,.bool s7)::ρ) hS (fun _ hS=>ZE hS) ?_
 rintro s7 hS
 refine iG hS (fun _ hS=>ZE hS) fun h17 hS=>ZX ?_
 refine Zc hS (fun _ hS=>ZE hS) fun h26 hS => ?_
 refine VC.cJ [0,1,5] (fun (KK:Bool)=>KK) (fun KK ρ=>(31,.bool KK)::ρ) hS ?_ ?_
 ·
  intro k7 hS
  refine hU ((List.range 15).map fun k=>(k,true)) ?_
  refine ZX ?_
  refine VD.wO 34 rfl (fun h34 => ?_) (fun h34 => ?_)
  ·
   replace hS:=KR h34 hS
   obtain ⟨b37,hS⟩:=bX hS
   refine ZX ?_
   refine aTJ hS rfl fun aNR bAK hS => ?_
   refine ZX ?_
   obtain ⟨kZ,aZe,hS⟩:=dU hS
   refine Zi rfl (eT ((PG aNR.path aBM.path).out aZe) rfl (fun _ _=>rfl)) ?_
   exact ZE hS
  replace hS:=W7 h34 hS
  exact ZE hS
 rintro KK hS
 refine iG hS (fun _ hS=>ZE hS) fun h31 hS => ?_
 obtain ⟨b49,hS⟩:=bX hS
 refine ZX ?_
 refine VL.sto Tryz.underlying33 j9 rfl rfl b49.1 (b49.2) (by decide) fun a1g aVJ => ?_
 replace hS:=dR aVJ hS
 refine ZX ?_
 obtain ⟨aPR,aUC,hS⟩:=dU hS
 refine Zu (lW ((yY a1g a8H aBM).out aUC) rfl (fun _ _=>rfl)) ?_
 exact ZE hS
instance aL6 (dO:Sv aC) :
 jG Tryz.prog 84 [dO.val] (Sh.gV dO.l) dO.ok (X:=Er) (fun x=>x.val) (fun x=>x.pl) (fun x=>x.ok):=by
 refine jO Tryz.func84 Tryz.ntmps84 fun r hS c => ?_
 unfold Sh.gV at hS
 refine ZX ?_
 refine Zq (ZX ?_)
 refine Zc hS (fun h7 hS => ?_) (fun h7 hS => ?_)
 ·
  refine ZX ?_
  refine Zu (cA (vs:=[(0,str [102,105,108,101]),(1,i64 64),(2,(Er.no 4).val)]) (cs := #[str [102,105,108,101],i64 64,(Er.no 4).val]) rfl (by kernel_rfl)) ?_
  refine kF fun N5 => ?_
  refine VL.DV N5 ?_
  refine ZX ?_
  cases hS
  exact VC.ret (Z1 (Er.fault N5 [102,105,108,101] 64 (Er.no 4)))
 refine Zk ?_
 refine Zq (ZX ?_)
 refine Zb ?_
 refine VC.iJ [0,13] (fun (p8:Int)=>p8) (fun p8 ρ=>(14,i64 p8)::ρ) 0 [14,0,13] hS ?_
 rintro p8 m1 y1 hS hK1
 refine ZX ?_
 refine Zq (Zc hS (fun h15 hS => ?_) (fun h15 hS => ?_))
 ·
  refine Zk ?_
  refine Zq (Zb (ZX ?_))
  refine jU hS rfl fun IV hS=>ZX ?_
  refine qD hS (fun h21 hS => ?_) (fun h21 hS => ?_)
  ·
   refine ZX ?_
   refine Zu (cA (vs:=[(0,str [102,105,108,101]),(1,i64 p8),(2,(Er.no IV).val)]) (cs := #[str [102,105,108,101],i64 p8,(Er.no IV).val]) rfl (by kernel_rfl)) ?_
   refine kF fun aTS => ?_
   refine VL.DV aTS ?_
   refine ZX ?_
   replace hS:=lQ hS hK1
   cases hS
   exact VC.ret (Z1 (Er.fault aTS [102,105,108,101] p8 (Er.no IV)))
  exact ZE hS
 replace hS:=lQ hS hK1
 refine Zx ?_
 refine ZX ?_
 cases hS
 exact VC.ret (Z1 .nil)
instance aY9 (aBW:Er) :
 jG Tryz.prog 83 [aBW.val] (Sh.pH aBW.pl) (aBW.ok.and Gl) (X:=Er) (fun x=>x.val) (fun x=>x.pl) (fun x=>x.ok):=by
 refine jO Tryz.func83 Tryz.ntmps83 fun r hS c => ?_
 unfold Sh.pH at hS
 refine ZX ?_
 refine dG fun rX=>Zl ?_
 refine Zq (ZX ?_)
 rcases aBW with _ | _ | ⟨eb2,ep2,ea2,_ | en2 | _⟩
 ·
  try dsimp only at hS
  refine VL.jF (aLh _) rfl (by decide) ?_
  rintro _ _
  refine Zl ?_
  refine VC.uW rfl ?_
  refine ZX ?_
  cases hS
  exact VC.ret (Z1 (Er.nil))
 ·
  try dsimp only at hS
  exact ZE hS
 ·
  try dsimp only at hS
  exact ZE hS
 ·
  try dsimp only at hS
  refine VL.LK (Cells eb2 0 [str ep2,i64 ea2,(Er.no en2).val]) (fun _ m=>(dM.out (X:=(Er.fault eb2 ep2 ea2 (.no en2)).ok) _ m).1) ?_
  refine VL.nW (As.a5B eb2 rX ep2 ea2 en2) rfl (by decide) ?_
  rintro _ _
  refine Zl ?_
  refine VC.DB rfl ?_
  refine ZX ?_
  cases hS
  exact VC.ret (Z1 (Er.no en2))
 try dsimp only at hS
 exact ZE hS
instance V3 (aA:Sv aC) :
 uL Tryz.prog 62 [aA.val] (Sh.b5 aA.l) aA.ok (Ow.emp) (X:=Sv aC) (fun x=>x.val) (fun x=>x.l) (fun x=>Mo.tt) (fun x=>Sv.own x 89):=by
 refine uV Tryz.func62 Tryz.ntmps62 fun r hS c => ?_
 unfold Sh.b5 at hS
 refine ZX ?_
 refine Zq (ZX ?_)
 refine Zu (J1 (s:=aA) Tryz.underlying33 rfl) ?_
 refine Zl ?_
 refine VC.slnil (s:=aA) rfl (fun h4 => ?_) ?_
 ·
  have hS:(some [])=some r:=by
    simp [lt,gd,h4] at hS ⊢
    try exact hS
  refine cI (Za ?_)
  refine Zl ?_
  refine VC.lU (⟨none,0,[]⟩:Sv aC) 89 ⟨rfl,rfl⟩ ?_
  cases hS
  exact VC.ret (Z1 ⟨none,0,[]⟩)
 refine ZX ?_
 refine VL.aCq (α:=aC) Tryz.underlying33 aZl (by decide) (fun KT uY AA => ?_)
 refine VL.lU KT 89 ⟨AA,uY⟩ ?_
 replace hS:=dR uY hS
 exact ZE hS
instance HC (uP:aC) (hO:Nat) (a_1:bI) :
 gS Tryz.prog 149 [.agg #[str uP.path,i64 uP.mode,str uP.data],ptr hO 0] (Sh.jL uP a_1) (Cells hO 0 [str a_1]) (fun r => .bool r):=by
 refine gU Tryz.func149 Tryz.ntmps149 fun r hS c => ?_
 unfold Sh.jL at hS
 refine cI (kF fun iB=>ZX ?_)
 refine Zu (ED oV rfl rfl) ?_
 exact ZE hS
instance yZ (aA:Sv aC) (dQ:Nat) (dI:bI) :
 gS Tryz.prog 221 [aA.val,.func (.func 149) #[] #[ptr dQ 0]] (Sh.j4 aA.l dI) (aA.ok.and (Cells dQ 0 [str dI])) (fun r=>i64 r):=by
 refine gU Tryz.func221 Tryz.ntmps221 fun r hS c => ?_
 unfold Sh.j4 at hS
 refine ZX ?_
 refine Zq (ZX ?_)
 refine Zb ?_
 refine VC.iJ [0,1,7] (fun (dD:Int)=>dD) (fun dD ρ=>(8,i64 dD)::ρ) 0 [8,0,1,7] hS ?_
 rintro dD m1 y1 hS hK1
 refine ZX ?_
 refine Zq (Zc hS (fun h9 hS => ?_) (fun h9 hS => ?_))
 ·
  refine Zk ?_
  refine Zq (Zb (ZX ?_))
  obtain ⟨eW,qS,oB,hS⟩:=gQ hS
  refine Zu (jY (s:=aA) Tryz.underlying33 j9 rfl rfl qS (bQ qS oB)) (Zu (sR  (s:=aA) z7 rfl rfl oB) ?_)
  obtain ⟨nJ,tF,hS⟩:=dU hS
  refine Zu (sQ (vs:=[.agg #[str eW.path,i64 eW.mode,str eW.data]]) (caps:=[ptr dQ 0]) ((HC eW dQ dI).out tF) rfl rfl (fun _ _=>rfl)) ?_
  exact ZE hS
 exact ZE hS
instance Q9 (aA:Sv aC) (dH:Nat) (cY:bI) :
 uL Tryz.prog 145 [aA.val,.func (.func 149) #[] #[ptr dH 0]] (Sh.iU aA.l cY) Mo.tt (Ow.star (Sv.own aA 89) (bM dH [str cY] 9)) (X:=Sv aC) (fun x=>x.val) (fun x=>x.l) (fun x=>Mo.tt) (fun x=>Ow.star (Sv.own x 89) (bM dH [str cY] 9)):=by
 refine uV Tryz.func145 Tryz.ntmps145 fun r hS c => ?_
 unfold Sh.iU at hS
 refine ZX ?_
 obtain ⟨dB,GG,hS⟩:=dU hS
 refine Zu (lW ((yZ aA dH cY).out GG) rfl (fun _ _=>rfl)) ?_
 refine ZX ?_
 refine Zq (ZX ?_)
 refine Zc hS (fun _ hS=>ZE hS) fun h12 hS => ?_
 obtain ⟨b15,hS⟩:=bX hS
 refine Zk ?_
 refine Zq (ZX ?_)
 refine VC.bD [0,1,5,6] (Zb ?_)
 refine VC.iter (S:=Sv aC×Int×Int) (fun sg=>(sg.1.l,sg.2.1,sg.2.2)) (fun sg=>[(0,sg.1.val),(1,.func (.func 149) #[] #[ptr dH 0]),(5,i64 sg.2.1),(6,i64 sg.2.2)]) (fun sg=>Mo.tt) (fun sg=>Ow.star (bM dH [str cY] 9) (Ow.star (Sv.own sg.1 89) (Ow.emp))) (aA,dB,(dB+1)) [0,1,5,6] hS rfl ?_
 rintro ⟨fM,jW,pP⟩ m1 y1 hS hK1
 refine Zq (ZX ?_)
 refine Zc hS (fun h19 hS => ?_) (fun h19 hS => ?_)
 ·
  refine Zk ?_
  refine VC.wT (S:=Sv aC×Int) (fun sg=>(sg.1.l,sg.2)) (fun sg=>[(0,sg.1.val),(1,.func (.func 149) #[] #[ptr dH 0]),(5,i64 sg.2),(6,i64 pP)]) (fun sg=>Mo.tt) (fun sg=>Ow.star (bM dH [str cY] 9) (Ow.star (Sv.own sg.1 89) (Ow.emp))) hS ?_ ?_
  ·
   intro k7 hS
   refine Zb (ZX ?_)
   obtain ⟨cT,xI,wR,hS⟩:=gQ hS
   refine Zu (lC (s:=fM) Tryz.underlying33 j9 rfl rfl xI (bQ xI wR)) (Zu (V0 (s:=fM) z7 rfl rfl wR) ?_)
   refine dG fun R9=>ZO ?_
   refine Zl ?_
   refine VC.bD [0,1,5,6,7] (ZX ?_)
   obtain ⟨yR,GH,hS⟩:=dU hS
   refine Zu (sQ (vs:=[.agg #[str cT.path,i64 cT.mode,str cT.data]]) (caps:=[ptr dH 0]) ((HC cT dH cY).out GH) rfl rfl (fun _ _=>rfl)) ?_
   refine ZX ?_
   refine iG hS (fun h29 hS => ?_) (fun h29 hS => ?_)
   ·
    refine ZX ?_
    obtain ⟨LB,xJ,xH,hS⟩:=gQ hS
    refine Zu (lC (s:=fM) Tryz.underlying33 j9 rfl rfl xJ (bQ xJ xH)) ?_
    refine VL.nD (s:=fM) (T:=89) (j:=0) (vc:=[str cT.path,i64 cT.mode,str cT.data]) (⟨cT.path,cT.mode,cT.data⟩:aC) (by decide) rfl rfl xH rfl j9 rfl rfl (Nat.le_of_ble_eq_true rfl) rfl (fun w12 hw12 haw12 hcw12 hvw12 hbw12 how12 => ?_)
    rw [← hvw12]
    replace hS:=dR hw12 hS
    exact ZE hS
   exact ZE hS
  rintro ⟨J2,JQ⟩ hS
  exact ZE hS
 replace hS:=lQ hS hK1
 refine Zx ?_
 obtain ⟨b38,hS⟩:=bX hS
 refine ZX ?_
 refine VL.fits (s:=fM) (e:=89) Fo.out fun BT => ?_
 refine Zu (EM (s:=fM) Tryz.underlying33 j9 rfl rfl b38.1 b38.2 BT) ?_
 refine VL.aCm (s:=fM) (i:=jW.toNat) (.agg #[str [],i64 0,str []]) Tryz.underlying33 aMK rfl rfl rfl (by have:=b38; dsimp only at this ⊢; omega) Fo.out fun K4 GM G1 => ?_
 replace hS:=dR GM hS
 refine Zl ?_
 refine VC.bD [0,5] (ZX ?_)
 refine Zu (VZ (s:=fM) (q:=K4) Tryz.underlying33 j9 rfl rfl b38.1 b38.2 BT G1) ?_
 exact ZE hS
instance WT (aA:Sv aC) :
 jG Tryz.prog 60 [aA.val] (Sh.bO aA.l) aA.ok (X:=Sv aC) (fun x=>x.val) (fun x=>x.l) (fun x=>x.ok):=by
 refine jO Tryz.func60 Tryz.ntmps60 fun r hS c => ?_
 unfold Sh.bO at hS
 obtain ⟨b8,hS⟩:=bX hS
 refine ZX ?_
 refine VL.SH Tryz.underlying33 j9 rfl rfl rfl b8.1 (b8.2) (by decide) fun NW rP => ?_
 replace hS:=dR rP hS
 exact ZE hS
instance aL7 (dO:Sv aC) (p_1:bI) :
 jG Tryz.prog 85 [dO.val,str p_1] (Sh.nP dO.l p_1) dO.ok (X:=Sv aC) (fun x=>x.val) (fun x=>x.l) (fun x=>x.ok):=by
 refine jO Tryz.func85 Tryz.ntmps85 fun r hS c => ?_
 unfold Sh.nP at hS
 refine cI (kF fun rX=>ZX ?_)
 refine fJ hS rfl fun aO4 hS=>ZX ?_
 refine fJ hS rfl fun GR hS => ?_
 refine VL.shut GR 89 (fun _ _ _ _=>trivial) ?_
 exact ZE hS
instance M8 (BO:Nat) (yN:dX) (l_1:Sv Int) :
 uL Tryz.prog 122 [ptr BO 0,l_1.val] (Sh.eH yN.pl l_1.l) l_1.ok (Ow.star (Sv.own yN.eZ 5) (bM BO [yN.eZ.val] 117)) (X:=dX) (fun x => .tuple #[]) (fun x=>x.pl) (fun x=>Mo.tt) (fun x=>Ow.star (bM BO [x.eZ.val] 117) (Sv.own x.eZ 5)):=by
 refine uV Tryz.func122 Tryz.ntmps122 fun r hS c => ?_
 unfold Sh.eH at hS
 refine ZX ?_
 refine Zb ?_
 refine VC.iter (S:=Int×Sv UInt8) (fun sg=>(sg.1,sg.2.l)) (fun sg=>[(0,ptr BO 0),(7,l_1.val),(8,i64 (l_1.l.length:Int)),(9,i64 sg.1)]) (fun sg=>Mo.tt) (fun sg=>Ow.star (bM BO [sg.2.val] 117) (Ow.star (Sv.own sg.2 5) (Ow.emp))) (0,yN.eZ) [0,7,8,9] hS rfl ?_
 rintro ⟨P6,TD⟩ m1 y1 hS hK1
 refine ZX ?_
 refine Zq (Zc hS (fun h10 hS => ?_) (fun h10 hS => ?_))
 ·
  refine Zk ?_
  refine Zq (Zb (cI (BY hS rfl fun YX a9r hS=>ZX ?_)))
  refine Zu (yW Tryz.underlying3 Tryz.underlying262 rfl) ?_
  refine Zu (aWo rfl rfl (by decide)) ?_
  refine Zm ?_
  refine Zu (aFS rfl rfl (by decide)) ?_
  refine Zu (yW Tryz.underlying2 Tryz.underlying262 rfl) (Zu (aWp rfl rfl) (Za ?_))
  refine Zl ?_
  refine VC.bD [0,7,8,9,6] (Zq (Zb ?_))
  refine VC.iter (S:=Int×Sv UInt8) (fun sg=>(sg.1,sg.2.l)) (fun sg=>[(0,ptr BO 0),(6,.int .u64 sg.1),(7,l_1.val),(8,i64 (l_1.l.length:Int)),(9,i64 P6)]) (fun sg=>Mo.tt) (fun sg=>Ow.star (bM BO [sg.2.val] 117) (Ow.star (Sv.own sg.2 5) (Ow.emp))) ((M6 .u64 (sHl .u64 (IntKind.wrap .u64 YX) 1) (IntKind.wrap .u64 (J3 .i64 YX 63))),TD) [0,6,7,8,9] hS rfl ?_
  rintro ⟨aAj,B5⟩ m2 y2 hS hK2
  refine Zq (ZX ?_)
  refine Zc hS (fun h21 hS => ?_) (fun h21 hS => ?_)
  ·
   refine Zk ?_
   refine Zb (ZX ?_)
   refine Zu (aMW rfl rfl) (Zu (yW Tryz.underlying262 Tryz.underlying5 rfl) (Zu (a4k rfl rfl) ?_))
   obtain ⟨aYy,hS⟩:=bX hS
   obtain ⟨aX0,aZG,hS⟩:=p9 hS
   refine VL.F4 30 rfl (congrArg (Value.int .u8) (aX1 aYy aZG)) ?_
   refine tE hS fun bBR hS=>XJ hS fun bBS hS => ?_
   refine ZO ?_
   refine Zl ?_
   refine VC.bD [0,6,7,8,9] (Zr (Zm ?_))
   refine Zu (aFS rfl rfl (by decide)) ?_
   exact ZE hS
  replace hS:=lQ hS hK2
  refine Zx ?_
  refine Zr (ZX ?_)
  refine Zu (yW Tryz.underlying262 Tryz.underlying5 rfl) ?_
  obtain ⟨aYz,hS⟩:=bX hS
  obtain ⟨aOs,aTg,hS⟩:=p9 hS
  refine VL.F4 43 rfl (congrArg (Value.int .u8) (aX1 aYz aTg)) ?_
  exact ZE hS
 replace hS:=lQ hS hK1
 cases hS
 exact VC.exit (rL (.inl rfl) rfl ⟨TD⟩ rfl rfl (by (try dsimp only); exact dM.out) (by (try dsimp only); exact fL.out))
instance zY (BO:Nat) (yN:dX) (l_1:Sv bI) :
 uL Tryz.prog 123 [ptr BO 0,l_1.val] (Sh.fV yN.pl l_1.l) l_1.ok (Ow.star (Sv.own yN.eZ 5) (bM BO [yN.eZ.val] 117)) (X:=dX) (fun x => .tuple #[]) (fun x=>x.pl) (fun x=>Mo.tt) (fun x=>Ow.star (bM BO [x.eZ.val] 117) (Sv.own x.eZ 5)):=by
 refine uV Tryz.func123 Tryz.ntmps123 fun r hS c => ?_
 unfold Sh.fV at hS
 refine ZX ?_
 refine Zb ?_
 refine VC.iter (S:=Int×Sv UInt8) (fun sg=>(sg.1,sg.2.l)) (fun sg=>[(0,ptr BO 0),(6,l_1.val),(7,i64 (l_1.l.length:Int)),(8,i64 sg.1)]) (fun sg=>Mo.tt) (fun sg=>Ow.star (bM BO [sg.2.val] 117) (Ow.star (Sv.own sg.2 5) (Ow.emp))) (0,yN.eZ) [0,6,7,8] hS rfl ?_
 rintro ⟨dD,TD⟩ m1 y1 hS hK1
 refine ZX ?_
 refine Zq (Zc hS (fun h9 hS => ?_) (fun h9 hS => ?_))
 ·
  refine Zk ?_
  refine Zq (Zb (cI (BY hS rfl fun vI I3 hS=>ZX ?_)))
  refine tE hS fun a6H hS=>x6 hS (M8 BO (⟨TD⟩:dX) a6H).out fun aFA hS=>Zl ?_
  refine VC.bD [0,6,7,8,5] ?_
  obtain ⟨b23,hS⟩:=bX hS
  refine Zr (ZX ?_)
  refine VL.a4U (s:=aFA.eZ) (r:=vI) Tryz.underlying109 Tryz.underlying9 a5S rfl Fo.out b23 (by decide) fun bBK a0K _ => ?_
  replace hS:=dR a0K hS
  exact ZE hS
 replace hS:=lQ hS hK1
 cases hS
 exact VC.exit (rL (.inl rfl) rfl ⟨TD⟩ rfl rfl (by (try dsimp only); exact dM.out) (by (try dsimp only); exact fL.out))
instance UU (iX:Nat) (w_0:dX) (r_1:Sv aC) :
 uL Tryz.prog 120 [ptr iX 0,r_1.val] (Sh.kY w_0.pl r_1.l) r_1.ok (Ow.star (Sv.own w_0.eZ 5) (bM iX [w_0.eZ.val] 117)) (X:=dX) (fun x => .tuple #[]) (fun x=>x.pl) (fun x=>Mo.tt) (fun x=>Ow.star (bM iX [x.eZ.val] 117) (Sv.own x.eZ 5)):=by
 refine uV Tryz.func120 Tryz.ntmps120 fun r hS c => ?_
 unfold Sh.kY at hS
 refine ZX ?_
 refine tE hS fun aHx hS=>fJ hS rfl fun fX hS=>ZX ?_
 refine VC.bD [0,13,14,15] (Zb ?_)
 refine VC.iter (S:=Int×Sv UInt8) (fun sg=>(sg.1,sg.2.l)) (fun sg=>[(0,ptr iX 0),(13,r_1.val),(14,i64 (r_1.l.length:Int)),(15,i64 sg.1)]) (fun sg=>Mo.tt) (fun sg=>Ow.star (bM iX [sg.2.val] 117) (Ow.star (Sv.own sg.2 5) (Ow.emp))) (0,fX.eZ) [0,13,14,15] hS rfl ?_
 rintro ⟨C6,B5⟩ m1 y1 hS hK1
 refine ZX ?_
 refine Zq (Zc hS (fun h16 hS => ?_) (fun h16 hS => ?_))
 ·
  refine Zk ?_
  refine Zq (Zb (cI ?_))
  obtain ⟨C9,NM,ND,hS⟩:=gQ hS
  refine Zu (jY (s:=r_1) Tryz.underlying33 j9 rfl rfl NM (bQ NM ND)) (Zu (sR  (s:=r_1) z7 rfl rfl ND) ?_)
  refine dG fun O5=>ZX ?_
  refine Zq ?_
  refine hU [(0,true),(1,true),(2,true),(3,true),(4,true),(5,false),(6,false)] ?_
  refine ZX ?_
  refine VD.one rfl (tE hS fun aF1 hS=>eL (Pk 2 (Pk 1 Pz)) ?_)
  refine VD.one rfl (x6 hS (zY iX (⟨B5⟩:dX) aF1).out fun aGf hS=>eY ?_)
  refine xE ?_
  refine VC.bD [0,13,14,15,5] (Zq ?_)
  refine hU [(0,true),(1,true),(2,true),(3,true),(4,true),(5,false),(6,false)] ?_
  refine ZX ?_
  refine VD.one rfl (tE hS fun a1c hS=>eL (Pk 2 (Pk 1 Pz)) ?_)
  refine VD.one rfl (fJ hS rfl fun aR1 hS=>eY ?_)
  refine xE ?_
  refine VC.bD [0,13,14,15,5] ?_
  refine hU [(0,true),(1,true),(2,true),(3,true),(4,true),(5,false),(6,false)] ?_
  refine ZX ?_
  refine VD.one rfl (tE hS fun a1f hS=>eL (Pk 2 (Pk 1 Pz)) ?_)
  refine VD.one rfl (fJ hS rfl fun aR8 hS=>eY ?_)
  exact ZE hS
 replace hS:=lQ hS hK1
 cases hS
 exact VC.exit (rL (.inl rfl) rfl ⟨B5⟩ rfl rfl (by (try dsimp only); exact dM.out) (by (try dsimp only); exact fL.out))
instance aGV (iX:Nat) (w_0:dX) (l_1:Sv IndexEntry) :
 uL Tryz.prog 121 [ptr iX 0,l_1.val] (Sh.mO w_0.pl l_1.l) l_1.ok (Ow.star (Sv.own w_0.eZ 5) (bM iX [w_0.eZ.val] 117)) (X:=dX) (fun x => .tuple #[]) (fun x=>x.pl) (fun x=>Mo.tt) (fun x=>Ow.star (bM iX [x.eZ.val] 117) (Sv.own x.eZ 5)):=by
 refine uV Tryz.func121 Tryz.ntmps121 fun r hS c => ?_
 unfold Sh.mO at hS
 refine ZX ?_
 refine tE hS fun aHx hS=>fJ hS rfl fun fX hS=>ZX ?_
 refine VC.bD [0,13,14,15] (Zb ?_)
 refine VC.iter (S:=Int×Sv UInt8) (fun sg=>(sg.1,sg.2.l)) (fun sg=>[(0,ptr iX 0),(13,l_1.val),(14,i64 (l_1.l.length:Int)),(15,i64 sg.1)]) (fun sg=>Mo.tt) (fun sg=>Ow.star (bM iX [sg.2.val] 117) (Ow.star (Sv.own sg.2 5) (Ow.emp))) (0,fX.eZ) [0,13,14,15] hS rfl ?_
 rintro ⟨C6,B5⟩ m1 y1 hS hK1
 refine ZX ?_
 refine Zq (Zc hS (fun h16 hS => ?_) (fun h16 hS => ?_))
 ·
  refine Zk ?_
  refine Zq (Zb (cI ?_))
  obtain ⟨C9,NM,ND,hS⟩:=gQ hS
  refine Zu (jY (s:=l_1) Tryz.underlying34 kS rfl rfl NM (bQ NM ND)) (Zu (sR  (s:=l_1) AU rfl rfl ND) ?_)
  refine dG fun O5=>ZX ?_
  refine Zq ?_
  refine hU [(0,true),(1,true),(2,true),(3,true),(4,true),(5,false),(6,false)] ?_
  refine ZX ?_
  refine VD.one rfl (tE hS fun aF1 hS=>eL (Pk 2 (Pk 1 Pz)) ?_)
  refine VD.one rfl (x6 hS (zY iX (⟨B5⟩:dX) aF1).out fun aGf hS=>eY ?_)
  refine xE ?_
  refine VC.bD [0,13,14,15,5] (Zq ?_)
  refine hU [(0,true),(1,true),(2,true),(3,true),(4,true),(5,true),(6,true),(7,false),(8,false)] ?_
  refine ZX ?_
  refine VD.one rfl (tE hS fun bAR hS=>eL (Pk 2 (Pk 1 Pz)) ?_)
  refine VD.one rfl (fJ hS rfl fun a7N hS=>eY ?_)
  refine xE ?_
  refine VC.bD [0,13,14,15,5] (Zq ?_)
  refine hU [(0,true),(1,true),(2,true),(3,true),(4,true),(5,false),(6,false)] ?_
  refine ZX ?_
  refine VD.one rfl (tE hS fun bAU hS=>eL (Pk 2 (Pk 1 Pz)) ?_)
  refine VD.one rfl (fJ hS rfl fun a7R hS=>eY ?_)
  refine xE ?_
  refine VC.bD [0,13,14,15,5] ?_
  refine hU [(0,true),(1,true),(2,true),(3,true),(4,true),(5,true),(6,true),(7,false),(8,false)] ?_
  refine ZX ?_
  refine VD.one rfl (tE hS fun bAY hS=>eL (Pk 2 (Pk 1 Pz)) ?_)
  refine VD.one rfl (fJ hS rfl fun aRi hS=>eY ?_)
  exact ZE hS
 replace hS:=lQ hS hK1
 cases hS
 exact VC.exit (rL (.inl rfl) rfl ⟨B5⟩ rfl rfl (by (try dsimp only); exact dM.out) (by (try dsimp only); exact fL.out))
instance HG (iX:Nat) (w_0:dX) (h_1:l5) :
 uL Tryz.prog 124 [ptr iX 0,.agg #[str h_1.branch,i64 h_1.cF]] (Sh.pJ w_0.pl h_1) Mo.tt (Ow.star (Sv.own w_0.eZ 5) (bM iX [w_0.eZ.val] 117)) (X:=dX) (fun x => .tuple #[]) (fun x=>x.pl) (fun x=>Mo.tt) (fun x=>Ow.star (bM iX [x.eZ.val] 117) (Sv.own x.eZ 5)):=by
 refine uV Tryz.func124 Tryz.ntmps124 fun r hS c => ?_
 unfold Sh.pJ at hS
 refine cI (kF fun rX=>Zl ?_)
 refine Zq ?_
 refine hU [(0,true),(1,true),(2,true),(3,true),(4,true),(5,false),(6,false)] ?_
 refine ZX ?_
 refine VD.one rfl (tE hS fun a4p hS=>eL (Pk 2 (Pk 1 Pz)) ?_)
 refine VD.one rfl (fJ hS rfl fun aKk hS=>eY ?_)
 refine ZX ?_
 refine hU [(0,true),(1,true),(2,true),(3,true),(4,true),(5,false),(6,false)] ?_
 refine ZX ?_
 refine VD.one rfl (tE hS fun aM3 hS=>eL (Pk 2 (Pk 1 Pz)) ?_)
 refine VD.one rfl (fJ hS rfl fun PO hS=>eY ?_)
 cases hS
 exact VD.nil (rL (.inl rfl) rfl ⟨PO.eZ⟩ rfl rfl (by (try dsimp only); exact dM.out) (by (try dsimp only); exact fL.out))
instance aHz (iX:Nat) (w_0:dX) (l_1:Sv bJ) :
 uL Tryz.prog 211 [ptr iX 0,l_1.val] (Sh.n4 w_0.pl l_1.l) l_1.ok (Ow.star (Sv.own w_0.eZ 5) (bM iX [w_0.eZ.val] 117)) (X:=dX) (fun x => .tuple #[]) (fun x=>x.pl) (fun x=>Mo.tt) (fun x=>Ow.star (bM iX [x.eZ.val] 117) (Sv.own x.eZ 5)):=by
 refine uV Tryz.func211 Tryz.ntmps211 fun r hS c => ?_
 unfold Sh.n4 at hS
 refine ZX ?_
 refine tE hS fun aHx hS=>fJ hS rfl fun fX hS=>ZX ?_
 refine VC.bD [0,13,14,15] (Zb ?_)
 refine VC.iter (S:=Int×Sv UInt8) (fun sg=>(sg.1,sg.2.l)) (fun sg=>[(0,ptr iX 0),(13,l_1.val),(14,i64 (l_1.l.length:Int)),(15,i64 sg.1)]) (fun sg=>Mo.tt) (fun sg=>Ow.star (bM iX [sg.2.val] 117) (Ow.star (Sv.own sg.2 5) (Ow.emp))) (0,fX.eZ) [0,13,14,15] hS rfl ?_
 rintro ⟨C6,B5⟩ m1 y1 hS hK1
 refine ZX ?_
 refine Zq (Zc hS (fun h16 hS => ?_) (fun h16 hS => ?_))
 ·
  refine Zk ?_
  refine Zq (Zb (cI ?_))
  obtain ⟨C9,NM,ND,hS⟩:=gQ hS
  refine Zu (jY (s:=l_1) Tryz.underlying24 NC rfl rfl NM (bQ NM ND)) (Zu (sR  (s:=l_1) TK rfl rfl ND) ?_)
  refine dG fun O5=>ZX ?_
  refine Zq ?_
  refine hU [(0,true),(1,true),(2,true),(3,true),(4,true),(5,false),(6,false)] ?_
  refine ZX ?_
  refine VD.one rfl (tE hS fun aF1 hS=>eL (Pk 2 (Pk 1 Pz)) ?_)
  refine VD.one rfl (x6 hS (zY iX (⟨B5⟩:dX) aF1).out fun aGf hS=>eY ?_)
  refine xE ?_
  refine VC.bD [0,13,14,15,5] (Zq ?_)
  refine hU [(0,true),(1,true),(2,true),(3,true),(4,true),(5,false),(6,false)] ?_
  refine ZX ?_
  refine VD.one rfl (tE hS fun a1c hS=>eL (Pk 2 (Pk 1 Pz)) ?_)
  refine VD.one rfl (fJ hS rfl fun aR1 hS=>eY ?_)
  refine xE ?_
  refine VC.bD [0,13,14,15,5] ?_
  refine hU [(0,true),(1,true),(2,true),(3,true),(4,true),(5,false),(6,false)] ?_
  refine ZX ?_
  refine VD.one rfl (tE hS fun a1f hS=>eL (Pk 2 (Pk 1 Pz)) ?_)
  refine VD.one rfl (fJ hS rfl fun aR8 hS=>eY ?_)
  exact ZE hS
 replace hS:=lQ hS hK1
 cases hS
 exact VC.exit (rL (.inl rfl) rfl ⟨B5⟩ rfl rfl (by (try dsimp only); exact dM.out) (by (try dsimp only); exact fL.out))
instance UW (iX:Nat) (w_0:dX) (s_1:uC) :
 uL Tryz.prog 125 [ptr iX 0,.agg (R6 s_1).toArray] (Sh.uH w_0.pl s_1.pl) s_1.m (Ow.star (Sv.own w_0.eZ 5) (bM iX [w_0.eZ.val] 117)) (X:=dX) (fun x => .tuple #[]) (fun x=>x.pl) (fun x=>Mo.tt) (fun x=>Ow.star (bM iX [x.eZ.val] 117) (Sv.own x.eZ 5)):=by
 refine uV Tryz.func125 Tryz.ntmps125 fun r hS c => ?_
 unfold Sh.uH at hS
 refine cI ?_
 refine qC (R6 s_1) fun rX => ?_
 refine Zl ?_
 refine Zq ?_
 refine hU [(0,true),(1,true),(2,true),(3,true),(4,true),(5,false),(6,false)] ?_
 refine ZX ?_
 refine VD.one rfl (tE hS fun a4p hS=>eL (Pk 2 (Pk 1 Pz)) ?_)
 refine VD.one rfl (fJ hS rfl fun aKk hS=>eY ?_)
 refine ZX ?_
 refine Zq ?_
 refine hU [(0,true),(1,true),(2,true),(3,true),(4,true),(5,false),(6,false)] ?_
 refine ZX ?_
 refine VD.one rfl (tE hS fun aM3 hS=>eL (Pk 2 (Pk 1 Pz)) ?_)
 refine VD.one rfl (fJ hS rfl fun PO hS=>eY ?_)
 refine xE ?_
 refine VC.bD [0,3] (Zq ?_)
 refine hU [(0,true),(1,true),(2,true),(3,true),(4,true),(5,false),(6,false)] ?_
 refine ZX ?_
 refine VD.one rfl (tE hS fun bBL hS=>eL (Pk 2 (Pk 1 Pz)) ?_)
 refine VD.one rfl (fJ hS rfl fun a7E hS=>eY ?_)
 refine ZX ?_
 refine fJ hS rfl fun a7G hS=>Zl ?_
 refine VC.bD [0,3] (ZX ?_)
 refine fJ hS rfl fun a7M hS=>Zl ?_
 refine Zq ?_
 refine hU [(0,true),(1,true),(2,true),(3,true),(4,true),(5,false),(6,false)] ?_
 refine ZX ?_
 refine VD.one rfl (tE hS fun bAT hS=>eL (Pk 2 (Pk 1 Pz)) ?_)
 refine VD.one rfl (fJ hS rfl fun a7Q hS=>eY ?_)
 refine xE ?_
 refine VC.bD [0,3] (Zq ?_)
 refine hU [(0,true),(1,true),(2,true),(3,true),(4,true),(5,false),(6,false)] ?_
 refine ZX ?_
 refine VD.one rfl (tE hS fun bAW hS=>eL (Pk 2 (Pk 1 Pz)) ?_)
 refine VD.one rfl (fJ hS rfl fun aRd hS=>eY ?_)
 refine ZX ?_
 refine Zu (oY (j:=7) (n:=2) KY rfl rfl rfl) ?_
 refine x6 hS (HG iX aRd (⟨s_1.cH,s_1.cB⟩:l5)).out fun aRi hS=>Zl ?_
 refine VC.bD [0,3] (ZX ?_)
 refine fJ hS rfl fun a73 hS=>Zl ?_
 refine Zr (ZX ?_)
 refine fJ hS rfl fun aRn hS => ?_
 cases hS
 exact VL.nil (rL (.inl rfl) rfl ⟨aRn.eZ⟩ rfl rfl (by (try dsimp only); exact dM.out) (by (try dsimp only); exact fL.out))
instance J6 (iX:Nat) (w_0:dX) (n_1:iY) :
 uL Tryz.prog 58 [ptr iX 0,.agg (pL n_1).toArray] (Sh.mT w_0.pl n_1.pl) n_1.m (Ow.star (Sv.own w_0.eZ 5) (bM iX [w_0.eZ.val] 117)) (X:=dX) (fun x => .tuple #[]) (fun x=>x.pl) (fun x=>Mo.tt) (fun x=>Ow.star (bM iX [x.eZ.val] 117) (Sv.own x.eZ 5)):=by
 refine uV Tryz.func58 Tryz.ntmps58 fun r hS c => ?_
 unfold Sh.mT at hS
 refine cI ?_
 refine qC (pL n_1) fun rX => ?_
 refine ZX ?_
 refine fJ hS rfl fun aKm hS=>ZX ?_
 refine fJ hS rfl fun T8 hS=>Zl ?_
 refine VC.bD [0,3] (Zq ?_)
 refine hU [(0,true),(1,true),(2,true),(3,true),(4,true),(5,true),(6,false),(7,false)] ?_
 refine ZX ?_
 refine VD.one rfl (tE hS fun bBJ hS=>eL (Pk 2 (Pk 1 Pz)) ?_)
 refine VD.one rfl (fJ hS rfl fun UC hS=>eY ?_)
 refine ZX ?_
 refine Zq (ZX ?_)
 refine VC.bD [0,3,25,26,27] (Zb ?_)
 refine VC.iter (S:=Int×Sv UInt8) (fun sg=>(sg.1,sg.2.l)) (fun sg=>[(0,ptr iX 0),(3,ptr rX 0),(25,n_1.refs.val),(26,i64 (n_1.refs.l.length:Int)),(27,i64 sg.1)]) (fun sg=>Mo.tt) (fun sg=>Ow.star (bM iX [sg.2.val] 117) (Ow.star (bM rX (pL n_1) 43) (Ow.star (Sv.own sg.2 5) (Ow.emp)))) (0,UC.eZ) [0,3,25,26,27] hS rfl ?_
 rintro ⟨AO,aJL⟩ m1 y1 hS hK1
 refine ZX ?_
 refine Zq (Zc hS (fun h28 hS => ?_) (fun h28 hS => ?_))
 ·
  refine Zk ?_
  refine Zq (Zb (cI (BY hS rfl fun aNN bAF hS=>ZX ?_)))
  refine dG fun bAn=>ZX ?_
  refine Zq ?_
  refine hU [(0,true),(1,true),(2,true),(3,true),(4,true),(5,false),(6,false)] ?_
  refine ZX ?_
  refine VD.one rfl (tE hS fun a1e hS=>eL (Pk 2 (Pk 1 Pz)) ?_)
  refine VD.one rfl (x6 hS (zY iX (⟨aJL⟩:dX) a1e).out fun aGh hS=>eY ?_)
  refine xE ?_
  refine VC.bD [0,3,25,26,27,5] ?_
  refine hU [(0,true),(1,true),(2,true),(3,true),(4,true),(5,false),(6,false)] ?_
  refine ZX ?_
  refine VD.one rfl (tE hS fun bAV hS=>eL (Pk 2 (Pk 1 Pz)) ?_)
  refine VD.one rfl (fJ hS rfl fun a7T hS=>eY ?_)
  exact ZE hS
 replace hS:=lQ hS hK1
 refine Zx ?_
 refine ZX ?_
 refine Zu (oY (j:=3) (n:=2) KY rfl rfl rfl) ?_
 refine x6 hS (HG iX (⟨aJL⟩:dX) (⟨n_1.cH,n_1.cB⟩:l5)).out fun aGk hS=>ZX ?_
 refine Zu (oY (j:=5) (n:=11) KZ rfl rfl rfl) ?_
 refine x6 hS (UW iX aGk (⟨n_1.fG,n_1.eO,n_1.fH,n_1.dJ,n_1.eB,n_1.fD,n_1.dW,n_1.bV,n_1.bW,n_1.dK,n_1.eD⟩:uC)).out fun a71 hS=>Zl ?_
 refine VC.bD [0,3] (Zq ?_)
 refine hU [(0,true),(1,true),(2,true),(3,true),(4,true),(5,true),(6,false),(7,false)] ?_
 refine ZX ?_
 refine Zw rfl (wW bN.pl (s:=n_1.gD) Tryz.underlying41 rfl) ?_
 refine VD.one rfl (tE hS fun bA1 hS=>eL (Pk 2 (Pk 1 Pz)) ?_)
 refine VD.one rfl (fJ hS rfl fun aRq hS=>eY ?_)
 refine ZX ?_
 refine Zu (wW bN.pl (s:=n_1.gD) Tryz.underlying41 rfl) ?_
 refine ZX ?_
 refine VC.bD [0,63,64,65] (Zb ?_)
 refine VC.iter (S:=Int×Sv UInt8) (fun sg=>(sg.1,sg.2.l)) (fun sg=>[(0,ptr iX 0),(63,n_1.gD.val),(64,i64 ((n_1.gD.l.map bN.pl).length:Int)),(65,i64 sg.1)]) (fun sg=>Mo.tt) (fun sg=>Ow.star (bM iX [sg.2.val] 117) (Ow.star (bM rX (pL n_1) 43) (Ow.star (Sv.own sg.2 5) (Ow.emp)))) (0,aRq.eZ) [0,63,64,65] hS rfl ?_
 rintro ⟨aAr,aEB⟩ m1 y1 hS hK1
 refine ZX ?_
 refine Zq (Zc hS (fun h66 hS => ?_) (fun h66 hS => ?_))
 ·
  refine Zk ?_
  refine Zq (Zb (cI ?_))
  obtain ⟨WO,aKd,aEj,hS⟩:=DT hS
  refine VL.deep WO.m aEj (fun _ q=>q) ?_
  refine Zu (jY (s:=n_1.gD) Tryz.underlying41 nQ rfl rfl aKd (bQ aKd aEj)) (Zu (sR  (s:=n_1.gD) TL rfl rfl aEj) ?_)
  refine dG fun bAp=>ZX ?_
  refine Zq ?_
  refine hU [(0,true),(1,true),(2,true),(3,true),(4,true),(5,false),(6,false)] ?_
  refine ZX ?_
  refine VD.one rfl (tE hS fun a1j hS=>eL (Pk 2 (Pk 1 Pz)) ?_)
  refine VD.one rfl (x6 hS (M8 iX (⟨aEB⟩:dX) a1j).out fun a7m hS=>eY ?_)
  refine xE ?_
  refine VC.bD [0,63,64,65,7] (ZX ?_)
  refine fJ hS rfl fun a7r hS=>ZX ?_
  refine fJ hS rfl fun a7t hS=>Zl ?_
  refine VC.bD [0,63,64,65,7] ?_
  refine hU [(0,true),(1,true),(2,true),(3,true),(4,true),(5,false),(6,false)] ?_
  refine ZX ?_
  refine VD.one rfl (tE hS fun bA8 hS=>eL (Pk 2 (Pk 1 Pz)) ?_)
  refine VD.one rfl (fJ hS rfl fun a7y hS=>eY ?_)
  exact ZE hS
 replace hS:=lQ hS hK1
 cases hS
 exact VC.exit (rL (.inl rfl) rfl ⟨aEB⟩ rfl rfl (by (try dsimp only); exact dM.out) (by (try dsimp only); exact fL.out))
instance RF (iX:Nat) (w_0:dX) (l_1:Sv bI) :
 uL Tryz.prog 163 [ptr iX 0,l_1.val] (Sh.mG w_0.pl l_1.l) l_1.ok (Ow.star (Sv.own w_0.eZ 5) (bM iX [w_0.eZ.val] 117)) (X:=dX) (fun x => .tuple #[]) (fun x=>x.pl) (fun x=>Mo.tt) (fun x=>Ow.star (bM iX [x.eZ.val] 117) (Sv.own x.eZ 5)):=by
 refine uV Tryz.func163 Tryz.ntmps163 fun r hS c => ?_
 unfold Sh.mG at hS
 refine ZX ?_
 refine tE hS fun bB8 hS=>fJ hS rfl fun kJ hS=>Zl ?_
 refine Zr (ZX ?_)
 refine fJ hS rfl fun EC hS => ?_
 cases hS
 exact VL.nil (rL (.inl rfl) rfl ⟨EC.eZ⟩ rfl rfl (by (try dsimp only); exact dM.out) (by (try dsimp only); exact fL.out))
end Go.Proofs.YtaohfeokfcdojaaGreatDoor
end
