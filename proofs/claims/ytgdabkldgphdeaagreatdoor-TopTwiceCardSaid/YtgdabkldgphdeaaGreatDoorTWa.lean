/- Part of the proofs of: the law TopTwice: the same play leads to the same, each time (any acts) -/
import Derived.Shelf.Strings.OnBuilder
import Derived.Shelf.LaysM
import Derived.Shelf.Strconv.Itoa3
import Derived.Shelf.Sort.Plain
import Derived.Shelf.Slices.CompactS
import Derived.Shelf.Slices.In.SortNone
import Derived.Test.YtgdabkldgphdeaaGreatDoorProg
import Derived.Shelf.SlIter.Nil
import Derived.Shelf.SortM.Plain
import Derived.Shelf.SortM.SortNone
import Derived.Test.YtgdabkldgphdeaaGreatDoorRows
import Derived.Shelf.Bits.Mul64
import Derived.Test.YtgdabkldgphdeaaGreatDoorTAb
set_option linter.unusedVariables false
set_option linter.unusedSimpArgs false
set_option linter.unusedSectionVars false
section
namespace Go.Proofs
open Go.Shelf
def Tryz.aBQ:Go.Shelf.Ren:=⟨fun | 156=>22 | 165=>43 | 166=>21 | 169=>24 | 240=>42 | 241=>78 | 276=>77 | 277=>131 | n=>n,fun | 31=>39 | 9=>9 | 3=>3 | 4=>4 | 0=>0 | 20=>20 | 72=>69 | 76=>70 | 70=>66 | 37=>67 | 75=>46 | 127=>107 | 164=>150 | 5=>5 | 80=>51 | n=>n,fun | n=>n⟩
theorem Tryz.aLe:Go.Proofs.Lays.n156 Tryz.prog Tryz.aBQ:={
  mixed:=by kernel_rfl
  f156:=Tryz.func22.trans (congrArg some (by kernel_rfl))
  f165:=Tryz.func43.trans (congrArg some (by kernel_rfl))
  f166:=Tryz.func21.trans (congrArg some (by kernel_rfl))
  f169:=Tryz.func24.trans (congrArg some (by kernel_rfl))
  f240:=Tryz.func42.trans (congrArg some (by kernel_rfl))
  f241:=Tryz.func78.trans (congrArg some (by kernel_rfl))
  f276:=Tryz.func77.trans (congrArg some (by kernel_rfl))
  f277:=Tryz.func131.trans (congrArg some (by kernel_rfl))
  t0:=Tryz.underlying0
  a0:=Tryz.isAgg0
  z0:=Tryz.sizeOf0
  v0:=Tryz.zeroValue0
  t3:=Tryz.underlying3
  a3:=Tryz.isAgg3
  z3:=Tryz.sizeOf3
  v3:=Tryz.zeroValue3
  t4:=Tryz.underlying4
  a4:=Tryz.isAgg4
  z4:=Tryz.sizeOf4
  v4:=Tryz.zeroValue4
  t9:=Tryz.underlying9
  a9:=Tryz.isAgg9
  z9:=Tryz.sizeOf9
  v9:=Tryz.zeroValue9
  t20:=Tryz.underlying20
  a20:=Tryz.isAgg20
  z20:=Tryz.sizeOf20
  v20:=Tryz.zeroValue20
  t31:=Tryz.underlying39
  a31:=Tryz.isAgg39
  z31:=Tryz.sizeOf39
  v31:=Tryz.zeroValue39
  t37:=Tryz.underlying67
  a37:=Tryz.isAgg67
  z37:=Tryz.sizeOf67
  v37:=Tryz.zeroValue67
  t70:=Tryz.underlying66
  a70:=Tryz.isAgg66
  z70:=Tryz.sizeOf66
  v70:=Tryz.zeroValue66
  t72:=Tryz.underlying69
  a72:=Tryz.isAgg69
  z72:=Tryz.sizeOf69
  v72:=Tryz.zeroValue69
  t75:=Tryz.underlying46
  a75:=Tryz.isAgg46
  z75:=Tryz.sizeOf46
  v75:=Tryz.zeroValue46
  t76:=Tryz.underlying70
  a76:=Tryz.isAgg70
  z76:=Tryz.sizeOf70
  v76:=Tryz.zeroValue70
  t127:=Tryz.underlying107
  a127:=Tryz.isAgg107
  z127:=Tryz.sizeOf107
  v127:=Tryz.zeroValue107
  t164:=Tryz.underlying150
  a164:=Tryz.isAgg150
  z164:=Tryz.sizeOf150
  v164:=Tryz.zeroValue150 }
theorem Tryz.M7:Builder.Extra Tryz.prog Tryz.aBQ:={
  sizeBuilder:=by kernel_rfl
  liesBuilder:=by kernel_rfl
  t5:=Tryz.underlying5
  a5:=Tryz.isAgg5
  z5:=Tryz.sizeOf5
  v5:=Tryz.zeroValue5
  infoByte:=by kernel_rfl
  cellsByte:=by kernel_rfl
  sizeByte:=by kernel_rfl
  neB5:=by decide }
open Go.RowKit in
/-- No element: the empty string; the world is as it was. (Whatever the slice's address and capacity: a nil slice too.) (LAID: no walk: one application.) -/
theorem Tryz.strings_Join_none (a:Option Addr) (c:Nat) (sep:ByteArray) (w:World) :
    Calls Tryz.prog 22 #[.slice a 0 c,.string sep] w fun e w'=>e = .returned (.string ⟨#[]⟩)∧w'=w:=Any.strings_Join_none Tryz.aLe Tryz.M7 a c sep w
open Go.RowKit in
/-- strings.Join: "Join concatenates the elements of its first argument to create a single string. The separator string sep is placed between elements in the resulting string.": HOWEVER MANY ELEMENTS. Below the heap's end the world is as it was. (LAID: no walk: one application.) -/
theorem Tryz.strings_Join (bk o c:Nat) (xs:List ByteArray) (sep:ByteArray) (w:World) (hcells : ∀ (j:Nat) x,xs[j]? = some x→w.cell? ⟨bk,o+j,none⟩=some (.string x)) (hbk:bk < w.heap.size) (hN:xs.length≤140737488355328) (hcap:xs.length≤c) (hlen:(Lib.join (xs.map (·.data.toList)) sep.data.toList).length≤140737488355328) :
    Calls Tryz.prog 22 #[.slice (some ⟨bk,o,none⟩) xs.length c,.string sep] w fun e w'=>e = .returned (.string ⟨(Lib.join (xs.map (·.data.toList)) sep.data.toList).toArray⟩)∧Below w.heap.size w w':=Any.strings_Join Tryz.aLe Tryz.M7 bk o c xs sep w hcells hbk hN hcap hlen
def Tryz.aH4:Go.Shelf.Ren:=⟨fun | 171=>23 | 243=>44 | 246=>79 | 283=>132 | 284=>133 | 285=>134 | 286=>135 | 129=>206 | 317=>205 | 318=>207 | 319=>208 | 320=>209 | 337=>276 | 338=>277 | n=>n,fun | 3=>3 | 9=>9 | 2=>2 | 4=>4 | 171=>203 | 0=>0 | 53=>204 | 37=>67 | 5=>5 | 173=>207 | 212=>274 | 51=>275 | 20=>20 | 213=>276 | 46=>250 | 232=>368 | 233=>369 | n=>n,fun | 17=>2 | 18=>3 | 19=>4 | n=>n⟩
theorem Tryz.aSd:Go.Proofs.LaysM.n171 Tryz.prog Tryz.aH4:={
  mixed:=by kernel_rfl
  f129:=Tryz.func206.trans (congrArg some (by kernel_rfl))
  f171:=Tryz.func23.trans (congrArg some (by kernel_rfl))
  f243:=Tryz.func44.trans (congrArg some (by kernel_rfl))
  f246:=Tryz.func79.trans (congrArg some (by kernel_rfl))
  f283:=Tryz.func132.trans (congrArg some (by kernel_rfl))
  f284:=Tryz.func133.trans (congrArg some (by kernel_rfl))
  f285:=Tryz.func134.trans (congrArg some (by kernel_rfl))
  f286:=Tryz.func135.trans (congrArg some (by kernel_rfl))
  f317:=Tryz.func205.trans (congrArg some (by kernel_rfl))
  f318:=Tryz.func207.trans (congrArg some (by kernel_rfl))
  f319:=Tryz.func208.trans (congrArg some (by kernel_rfl))
  f320:=Tryz.func209.trans (congrArg some (by kernel_rfl))
  f337:=Tryz.func276.trans (congrArg some (by kernel_rfl))
  f338:=Tryz.func277.trans (congrArg some (by kernel_rfl))
  t0:=Tryz.underlying0
  a0:=Tryz.isAgg0
  z0:=Tryz.sizeOf0
  v0:=Tryz.zeroValue0
  t2:=Tryz.underlying2
  a2:=Tryz.isAgg2
  z2:=Tryz.sizeOf2
  v2:=Tryz.zeroValue2
  t3:=Tryz.underlying3
  a3:=Tryz.isAgg3
  z3:=Tryz.sizeOf3
  v3:=Tryz.zeroValue3
  t4:=Tryz.underlying4
  a4:=Tryz.isAgg4
  z4:=Tryz.sizeOf4
  v4:=Tryz.zeroValue4
  t5:=Tryz.underlying5
  a5:=Tryz.isAgg5
  z5:=Tryz.sizeOf5
  v5:=Tryz.zeroValue5
  t9:=Tryz.underlying9
  a9:=Tryz.isAgg9
  z9:=Tryz.sizeOf9
  v9:=Tryz.zeroValue9
  t20:=Tryz.underlying20
  a20:=Tryz.isAgg20
  z20:=Tryz.sizeOf20
  v20:=Tryz.zeroValue20
  t37:=Tryz.underlying67
  a37:=Tryz.isAgg67
  z37:=Tryz.sizeOf67
  v37:=Tryz.zeroValue67
  t46:=Tryz.underlying250
  a46:=Tryz.isAgg250
  z46:=Tryz.sizeOf250
  v46:=Tryz.zeroValue250
  t51:=Tryz.underlying275
  a51:=Tryz.isAgg275
  z51:=Tryz.sizeOf275
  v51:=Tryz.zeroValue275
  t53:=Tryz.underlying204
  a53:=Tryz.isAgg204
  z53:=Tryz.sizeOf204
  v53:=Tryz.zeroValue204
  t171:=Tryz.underlying203
  a171:=Tryz.isAgg203
  z171:=Tryz.sizeOf203
  v171:=Tryz.zeroValue203
  t173:=Tryz.underlying207
  a173:=Tryz.isAgg207
  z173:=Tryz.sizeOf207
  v173:=Tryz.zeroValue207
  t212:=Tryz.underlying274
  a212:=Tryz.isAgg274
  z212:=Tryz.sizeOf274
  v212:=Tryz.zeroValue274
  t213:=Tryz.underlying276
  a213:=Tryz.isAgg276
  z213:=Tryz.sizeOf276
  t232:=Tryz.underlying368
  a232:=Tryz.isAgg368
  z232:=Tryz.sizeOf368
  v232:=Tryz.zeroValue368
  t233:=Tryz.underlying369
  a233:=Tryz.isAgg369
  z233:=Tryz.sizeOf369
  v233:=Tryz.zeroValue369
  g17:=by kernel_rfl
  g18:=by kernel_rfl
  g19:=by kernel_rfl
  i0:=by kernel_rfl
  i2:=by kernel_rfl
  i3:=by kernel_rfl
  i4:=by kernel_rfl
  i5:=by kernel_rfl
  i9:=by kernel_rfl
  i20:=by kernel_rfl
  i37:=by kernel_rfl
  i46:=by kernel_rfl
  i51:=by kernel_rfl
  i53:=by kernel_rfl
  i171:=by kernel_rfl
  i173:=by kernel_rfl
  i212:=by kernel_rfl
  i232:=by kernel_rfl
  i233:=by kernel_rfl
  m17:=by kernel_rfl
  m18:=by kernel_rfl
  m19:=by kernel_rfl }
open Go.RowKit Go.Sort Go.Lib in
/-- strconv.Itoa: "Itoa is equivalent to FormatInt(int64(i), 10).": i's DECIMAL NUMERAL ('Lib.itoa': a '-' where i is negative, then the digits), FOR EVERY int. The world behind the call: the world before it, new blocks behind the heap (the library's 'var a [24]byte'), draws. (LAID: no walk: one application.) -/
theorem Tryz.strconv_Itoa (n:Int) (h0 : -9223372036854775808≤n) (h1:n≤9223372036854775807) (w:World) (htab:Lib.TabIs Tryz.prog w "internal/strconv.uint64pow10" .u64 Lib.pow10Tab) :
    Calls Tryz.prog 23 #[.int .i64 n] w fun e w'=>e = .returned (.string ⟨(Lib.itoa n).toArray⟩) ∧ ∃ k os,w'=grow (w.drewN k) os:=Any.strconv_Itoa Tryz.aSd n h0 h1 w htab
def Tryz.aJJ:Go.Shelf.Ren:=⟨fun | 190=>232 | 125=>294 | 258=>293 | 128=>337 | 129=>206 | 302=>328 | 303=>329 | 304=>330 | 305=>331 | 306=>332 | 307=>333 | 308=>334 | 309=>335 | 310=>336 | 333=>353 | 329=>354 | 330=>355 | 334=>356 | 335=>357 | 336=>268 | 344=>367 | n=>n,fun | 31=>39 | 9=>9 | 3=>3 | 46=>250 | 0=>0 | 51=>275 | 53=>204 | 4=>4 | 183=>379 | 182=>378 | 131=>123 | 5=>5 | 218=>396 | 222=>400 | 228=>409 | 229=>410 | n=>n,fun | n=>n⟩
theorem Tryz.aLf:Go.Proofs.Lays.n190 Tryz.prog Tryz.aJJ:={
  mixed:=by kernel_rfl
  f125:=Tryz.func294.trans (congrArg some (by kernel_rfl))
  f128:=Tryz.func337.trans (congrArg some (by kernel_rfl))
  f129:=Tryz.func206.trans (congrArg some (by kernel_rfl))
  f190:=Tryz.func232.trans (congrArg some (by kernel_rfl))
  f258:=Tryz.func293.trans (congrArg some (by kernel_rfl))
  f302:=Tryz.func328.trans (congrArg some (by kernel_rfl))
  f303:=Tryz.func329.trans (congrArg some (by kernel_rfl))
  f304:=Tryz.func330.trans (congrArg some (by kernel_rfl))
  f305:=Tryz.func331.trans (congrArg some (by kernel_rfl))
  f306:=Tryz.func332.trans (congrArg some (by kernel_rfl))
  f307:=Tryz.func333.trans (congrArg some (by kernel_rfl))
  f308:=Tryz.func334.trans (congrArg some (by kernel_rfl))
  f309:=Tryz.func335.trans (congrArg some (by kernel_rfl))
  f310:=Tryz.func336.trans (congrArg some (by kernel_rfl))
  f329:=Tryz.func354.trans (congrArg some (by kernel_rfl))
  f330:=Tryz.func355.trans (congrArg some (by kernel_rfl))
  f333:=Tryz.func353.trans (congrArg some (by kernel_rfl))
  f334:=Tryz.func356.trans (congrArg some (by kernel_rfl))
  f335:=Tryz.func357.trans (congrArg some (by kernel_rfl))
  f336:=Tryz.func268.trans (congrArg some (by kernel_rfl))
  f344:=Tryz.func367.trans (congrArg some (by kernel_rfl))
  t0:=Tryz.underlying0
  a0:=Tryz.isAgg0
  z0:=Tryz.sizeOf0
  v0:=Tryz.zeroValue0
  t3:=Tryz.underlying3
  a3:=Tryz.isAgg3
  z3:=Tryz.sizeOf3
  v3:=Tryz.zeroValue3
  t4:=Tryz.underlying4
  a4:=Tryz.isAgg4
  z4:=Tryz.sizeOf4
  v4:=Tryz.zeroValue4
  t5:=Tryz.underlying5
  a5:=Tryz.isAgg5
  z5:=Tryz.sizeOf5
  v5:=Tryz.zeroValue5
  t9:=Tryz.underlying9
  a9:=Tryz.isAgg9
  z9:=Tryz.sizeOf9
  v9:=Tryz.zeroValue9
  t31:=Tryz.underlying39
  a31:=Tryz.isAgg39
  z31:=Tryz.sizeOf39
  v31:=Tryz.zeroValue39
  t46:=Tryz.underlying250
  a46:=Tryz.isAgg250
  z46:=Tryz.sizeOf250
  v46:=Tryz.zeroValue250
  t51:=Tryz.underlying275
  a51:=Tryz.isAgg275
  z51:=Tryz.sizeOf275
  v51:=Tryz.zeroValue275
  t53:=Tryz.underlying204
  a53:=Tryz.isAgg204
  z53:=Tryz.sizeOf204
  v53:=Tryz.zeroValue204
  t131:=Tryz.underlying123
  a131:=Tryz.isAgg123
  z131:=Tryz.sizeOf123
  v131:=Tryz.zeroValue123
  t182:=Tryz.underlying378
  a182:=Tryz.isAgg378
  z182:=Tryz.sizeOf378
  v182:=Tryz.zeroValue378
  t183:=Tryz.underlying379
  a183:=Tryz.isAgg379
  z183:=Tryz.sizeOf379
  v183:=Tryz.zeroValue379
  t218:=Tryz.underlying396
  a218:=Tryz.isAgg396
  z218:=Tryz.sizeOf396
  v218:=Tryz.zeroValue396
  t222:=Tryz.underlying400
  a222:=Tryz.isAgg400
  z222:=Tryz.sizeOf400
  v222:=Tryz.zeroValue400
  t228:=Tryz.underlying409
  a228:=Tryz.isAgg409
  z228:=Tryz.sizeOf409
  v228:=Tryz.zeroValue409
  t229:=Tryz.underlying410
  a229:=Tryz.isAgg410
  z229:=Tryz.sizeOf410
  v229:=Tryz.zeroValue410 }
open Go.Sort Go.RowKit in
theorem Tryz.slices_Sort_string (blk off cap:Nat) (ss:List (List UInt8)) (w:World) (hH:Holds encStr w blk off ss.toArray) (hblk:blk < w.heap.size) (hsz:ss.length < 4611686018427387904) :
    Calls Tryz.prog 232 #[.slice (some ⟨blk,off,none⟩) ss.length cap] w fun e w' =>
      e = .returned (.tuple #[]) ∧ ∃ n os,w'=grow (putRow encStr (Sort.ahead w n) blk off (ss.mergeSort fun x y=>decide (x≤y)).toArray) os:=Any.slices_Sort_string Tryz.aLf blk off cap ss w hH hblk hsz
def Tryz.aJK:Go.Shelf.Ren:=⟨fun | 194=>233 | n=>n,fun | 31=>39 | 9=>9 | 3=>3 | 4=>4 | 0=>0 | n=>n,fun | n=>n⟩
theorem Tryz.aGB:Go.Proofs.Lays.n194 Tryz.prog Tryz.aJK:={
  mixed:=by kernel_rfl
  f194:=Tryz.func233.trans (congrArg some (by kernel_rfl))
  t0:=Tryz.underlying0
  a0:=Tryz.isAgg0
  z0:=Tryz.sizeOf0
  v0:=Tryz.zeroValue0
  t3:=Tryz.underlying3
  a3:=Tryz.isAgg3
  z3:=Tryz.sizeOf3
  v3:=Tryz.zeroValue3
  t4:=Tryz.underlying4
  a4:=Tryz.isAgg4
  z4:=Tryz.sizeOf4
  v4:=Tryz.zeroValue4
  t9:=Tryz.underlying9
  a9:=Tryz.isAgg9
  z9:=Tryz.sizeOf9
  v9:=Tryz.zeroValue9
  t31:=Tryz.underlying39
  a31:=Tryz.isAgg39
  z31:=Tryz.sizeOf39
  v31:=Tryz.zeroValue39 }
open Go.RowKit Go.Lib Go.Sort in
/-- slices.Compact at []string, over an array: the library's two loops are walked. (LAID: no walk: one application.) -/
theorem Tryz.slices_Compact_string_arr (blk off cap:Nat) (d:Array (List UInt8)) (w:World) (hH:Holds encStr w blk off d) (hsz:d.size≤9223372036854775807) (hcap:d.size≤cap) :
    Calls Tryz.prog 233 #[.slice (some ⟨blk,off,none⟩) d.size cap] w fun e w'=>e = .returned (.slice (some ⟨blk,off,none⟩) (compactUpTo d d.size).length cap) ∧ ∃ q,w'=putRow encStr (Sort.ahead w q) blk off (compactUpTo d d.size++List.replicate (d.size - (compactUpTo d d.size).length) []).toArray:=Any.slices_Compact_string_arr Tryz.aGB blk off cap d w hH hsz hcap
open Go.RowKit Go.Lib Go.Sort in
/-- slices.Compact at []string: "Compact replaces consecutive runs of equal elements with a single copy. This is like the uniq command found on Unix. Compact modifies the contents of the slice s and returns the modified slice, which may have a smaller length. Compact zeroes the elements between the new length and the original length. The result preserves the nilness of s.": IT RETURNS THE SLICE CUT TO 'Lib.compact zs'; ITS CELLS HOLD 'Lib.compact zs', THEN ZERO VALUES up to the old length; all else is as it was, but for the count of draws. IN THE WORDS OF slices.Sort's CONTRACT ('Holds', 'putRow'): so the everyday 'slices.Sort(xs); xs = slices.Compact(xs)' goes from the one contract to the other. It asks 'zs.length ≤ cap' (every slice's: the reslicing 's[:k]' looks at it). Length 0, nil: '.._empty'. (LAID: no walk: one application.) -/
theorem Tryz.slices_Compact_string (blk off cap:Nat) (zs:List (List UInt8)) (w:World) (hH:Holds encStr w blk off zs.toArray) (hsz:zs.length≤9223372036854775807) (hcap:zs.length≤cap) :
    Calls Tryz.prog 233 #[.slice (some ⟨blk,off,none⟩) zs.length cap] w fun e w'=>e = .returned (.slice (some ⟨blk,off,none⟩) (Lib.compact zs).length cap) ∧ ∃ q,w'=putRow encStr (Sort.ahead w q) blk off (Lib.compact zs++List.replicate (zs.length - (Lib.compact zs).length) []).toArray:=Any.slices_Compact_string Tryz.aGB blk off cap zs w hH hsz hcap
open Go.RowKit Go.Lib Go.Sort in
/-- The same at a slice of length 0, a nil one too: it comes back as it is. (LAID: no walk: one application.) -/
theorem Tryz.slices_Compact_string_empty (a:Option Addr) (cap:Nat) (w:World) :
    Calls Tryz.prog 233 #[.slice a 0 cap] w fun e w'=>e = .returned (.slice a 0 cap)∧w'=w:=Any.slices_Compact_string_empty Tryz.aGB a cap w
open Go.RowKit Go.Sort in
/-- .. and plain. (LAID: no walk: one application.) -/
theorem Tryz.slices_Sort_string_none (p:Option Addr) (cap:Nat) (w:World) :
    Calls Tryz.prog 232 #[.slice p 0 cap] w fun e w'=>e = .returned (.tuple #[])∧w'=w:=Any.slices_Sort_string_none Tryz.aLf p cap w
end Go.Proofs
end

section
namespace Go.Proofs
open Go.Shelf
def Tryz.aBP:Go.Shelf.Ren:=⟨fun | 7=>286 | 10=>323 | n=>n,fun | 23=>336 | 26=>9 | 3=>4 | 28=>339 | 0=>0 | 27=>338 | 33=>211 | 4=>4 | n=>n,fun | n=>n⟩
theorem Tryz.aLc:Go.Proofs.SlLaysZ.n7 Tryz.prog Tryz.aBP:={
  mixed:=by kernel_rfl
  f7:=⟨Tryz.f286.name,by decide,Tryz.func286.trans (congrArg some (by kernel_rfl))⟩
  f10:=⟨Tryz.f323.name,by decide,Tryz.func323.trans (congrArg some (by kernel_rfl))⟩
  t0:=Tryz.underlying0
  a0:=Tryz.isAgg0
  z0:=Tryz.sizeOf0
  v0:=Tryz.zeroValue0
  t4:=Tryz.underlying4
  a4:=Tryz.isAgg4
  z4:=Tryz.sizeOf4
  v4:=Tryz.zeroValue4
  t23:=Tryz.underlying336
  a23:=Tryz.isAgg336
  z23:=Tryz.sizeOf336
  v23:=Tryz.zeroValue336
  t26:=Tryz.underlying9
  a26:=Tryz.isAgg9
  z26:=Tryz.sizeOf9
  v26:=Tryz.zeroValue9
  t27:=Tryz.underlying338
  a27:=Tryz.isAgg338
  z27:=Tryz.sizeOf338
  v27:=Tryz.zeroValue338
  t28:=Tryz.underlying339
  a28:=Tryz.isAgg339
  z28:=Tryz.sizeOf339
  v28:=Tryz.zeroValue339
  t33:=Tryz.underlying211
  a33:=Tryz.isAgg211
  z33:=Tryz.sizeOf211
  v33:=Tryz.zeroValue211 }
def Tryz.WG:Go.Shelf.Ren:=⟨fun | 6=>285 | 8=>322 | 9=>232 | 11=>350 | 13=>294 | 12=>293 | 23=>337 | 24=>206 | 14=>328 | 15=>329 | 16=>330 | 17=>331 | 18=>332 | 19=>333 | 20=>334 | 21=>335 | 22=>336 | 25=>353 | 26=>354 | 27=>355 | 28=>356 | 29=>357 | 30=>268 | 31=>367 | n=>n,fun | 26=>9 | 28=>339 | 24=>39 | 0=>0 | 3=>3 | 37=>250 | 48=>275 | 50=>204 | 4=>4 | 40=>379 | 39=>378 | 45=>123 | 5=>5 | 9=>9 | 51=>396 | 55=>400 | 57=>409 | 58=>410 | 33=>211 | n=>n,fun | n=>n⟩
theorem Tryz.aON:Go.Proofs.SlLaysZ.n6 Tryz.prog Tryz.WG:={
  mixed:=by kernel_rfl
  f6:=⟨Tryz.f285.name,by decide,Tryz.func285.trans (congrArg some (by kernel_rfl))⟩
  f8:=⟨Tryz.f322.name,by decide,Tryz.func322.trans (congrArg some (by kernel_rfl))⟩
  f11:=⟨Tryz.f350.name,by decide,Tryz.func350.trans (congrArg some (by kernel_rfl))⟩
  t0:=Tryz.underlying0
  a0:=Tryz.isAgg0
  z0:=Tryz.sizeOf0
  v0:=Tryz.zeroValue0
  t24:=Tryz.underlying39
  a24:=Tryz.isAgg39
  z24:=Tryz.sizeOf39
  v24:=Tryz.zeroValue39
  t26:=Tryz.underlying9
  a26:=Tryz.isAgg9
  z26:=Tryz.sizeOf9
  v26:=Tryz.zeroValue9
  t28:=Tryz.underlying339
  a28:=Tryz.isAgg339
  z28:=Tryz.sizeOf339
  v28:=Tryz.zeroValue339
  i26:=by kernel_rfl }
def Tryz.aJV:Go.Shelf.Ren:=⟨fun | 6=>232 | 8=>294 | 9=>293 | 19=>337 | 20=>206 | 21=>328 | 22=>329 | 23=>330 | 24=>331 | 25=>332 | 26=>333 | 27=>334 | 28=>335 | 29=>336 | 36=>353 | 31=>354 | 32=>355 | 37=>356 | 38=>357 | 39=>268 | 41=>367 | n=>n,fun | 27=>39 | 29=>9 | 3=>3 | 32=>250 | 26=>39 | 0=>0 | 44=>275 | 46=>204 | 4=>4 | 36=>379 | 35=>378 | 41=>123 | 5=>5 | 9=>9 | 53=>396 | 57=>400 | 63=>409 | 64=>410 | n=>n,fun | n=>n⟩
theorem Tryz.aMo:Go.Proofs.SlLaysM.n6 Tryz.prog Tryz.aJV:={
  mixed:=by kernel_rfl
  f6:=⟨Tryz.f232.name,by decide,Tryz.func232.trans (congrArg some (by kernel_rfl))⟩
  f8:=Tryz.func294.trans (congrArg some (by kernel_rfl))
  f9:=⟨Tryz.f293.name,by decide,Tryz.func293.trans (congrArg some (by kernel_rfl))⟩
  f19:=Tryz.func337.trans (congrArg some (by kernel_rfl))
  f20:=Tryz.func206.trans (congrArg some (by kernel_rfl))
  f21:=⟨Tryz.f328.name,by decide,Tryz.func328.trans (congrArg some (by kernel_rfl))⟩
  f22:=⟨Tryz.f329.name,by decide,Tryz.func329.trans (congrArg some (by kernel_rfl))⟩
  f23:=⟨Tryz.f330.name,by decide,Tryz.func330.trans (congrArg some (by kernel_rfl))⟩
  f24:=⟨Tryz.f331.name,by decide,Tryz.func331.trans (congrArg some (by kernel_rfl))⟩
  f25:=⟨Tryz.f332.name,by decide,Tryz.func332.trans (congrArg some (by kernel_rfl))⟩
  f26:=⟨Tryz.f333.name,by decide,Tryz.func333.trans (congrArg some (by kernel_rfl))⟩
  f27:=⟨Tryz.f334.name,by decide,Tryz.func334.trans (congrArg some (by kernel_rfl))⟩
  f28:=⟨Tryz.f335.name,by decide,Tryz.func335.trans (congrArg some (by kernel_rfl))⟩
  f29:=⟨Tryz.f336.name,by decide,Tryz.func336.trans (congrArg some (by kernel_rfl))⟩
  f31:=Tryz.func354.trans (congrArg some (by kernel_rfl))
  f32:=Tryz.func355.trans (congrArg some (by kernel_rfl))
  f36:=⟨Tryz.f353.name,by decide,Tryz.func353.trans (congrArg some (by kernel_rfl))⟩
  f37:=⟨Tryz.f356.name,by decide,Tryz.func356.trans (congrArg some (by kernel_rfl))⟩
  f38:=⟨Tryz.f357.name,by decide,Tryz.func357.trans (congrArg some (by kernel_rfl))⟩
  f39:=⟨Tryz.f268.name,by decide,Tryz.func268.trans (congrArg some (by kernel_rfl))⟩
  f41:=⟨Tryz.f367.name,by decide,Tryz.func367.trans (congrArg some (by kernel_rfl))⟩
  t0:=Tryz.underlying0
  a0:=Tryz.isAgg0
  z0:=Tryz.sizeOf0
  v0:=Tryz.zeroValue0
  t3:=Tryz.underlying3
  a3:=Tryz.isAgg3
  z3:=Tryz.sizeOf3
  v3:=Tryz.zeroValue3
  t4:=Tryz.underlying4
  a4:=Tryz.isAgg4
  z4:=Tryz.sizeOf4
  v4:=Tryz.zeroValue4
  t5:=Tryz.underlying5
  a5:=Tryz.isAgg5
  z5:=Tryz.sizeOf5
  v5:=Tryz.zeroValue5
  t9:=Tryz.underlying9
  a9:=Tryz.isAgg9
  z9:=Tryz.sizeOf9
  v9:=Tryz.zeroValue9
  t26:=Tryz.underlying39
  a26:=Tryz.isAgg39
  z26:=Tryz.sizeOf39
  v26:=Tryz.zeroValue39
  t27:=Tryz.underlying39
  a27:=Tryz.isAgg39
  z27:=Tryz.sizeOf39
  v27:=Tryz.zeroValue39
  t29:=Tryz.underlying9
  a29:=Tryz.isAgg9
  z29:=Tryz.sizeOf9
  v29:=Tryz.zeroValue9
  t32:=Tryz.underlying250
  a32:=Tryz.isAgg250
  z32:=Tryz.sizeOf250
  v32:=Tryz.zeroValue250
  t35:=Tryz.underlying378
  a35:=Tryz.isAgg378
  z35:=Tryz.sizeOf378
  v35:=Tryz.zeroValue378
  t36:=Tryz.underlying379
  a36:=Tryz.isAgg379
  z36:=Tryz.sizeOf379
  v36:=Tryz.zeroValue379
  t41:=Tryz.underlying123
  a41:=Tryz.isAgg123
  z41:=Tryz.sizeOf123
  v41:=Tryz.zeroValue123
  t44:=Tryz.underlying275
  a44:=Tryz.isAgg275
  z44:=Tryz.sizeOf275
  v44:=Tryz.zeroValue275
  t46:=Tryz.underlying204
  a46:=Tryz.isAgg204
  z46:=Tryz.sizeOf204
  v46:=Tryz.zeroValue204
  t53:=Tryz.underlying396
  a53:=Tryz.isAgg396
  z53:=Tryz.sizeOf396
  v53:=Tryz.zeroValue396
  t57:=Tryz.underlying400
  a57:=Tryz.isAgg400
  z57:=Tryz.sizeOf400
  v57:=Tryz.zeroValue400
  t63:=Tryz.underlying409
  a63:=Tryz.isAgg409
  z63:=Tryz.sizeOf409
  v63:=Tryz.zeroValue409
  t64:=Tryz.underlying410
  a64:=Tryz.isAgg410
  z64:=Tryz.sizeOf410
  v64:=Tryz.zeroValue410 }
open Go.RowKit Go.Maps Go.Sort
theorem Tryz.aTv (m:Nat):AnyZ.SortsIn Tryz.prog Tryz.WG Fence.wide m :=
  ⟨fun blk off cap ss W hH hblk hsz=>callsIn_wide.2 (AnyM.slices_Sort_string Tryz.aMo blk off cap ss W hH hblk hsz),
   fun p cap W=>callsIn_wide.2 (AnyM.slices_Sort_string_none Tryz.aMo p cap W)⟩
theorem Tryz.aGD (mb:Option Nat) (W:World):CallsIn Fence.wide 5 Tryz.prog 286 #[.map mb] W fun e w'=>e = .returned (.func (.func 323) #[] #[.pointer (some ⟨W.heap.size,0,none⟩)])∧w'=W.alloc (.cells #[.map mb] 336) :=
  AnyZ.keys_in Tryz.aLc Fence.wide 5 trivial rfl mb W
set_option maxHeartbeats 1000000 in
 theorem Tryz.sortedKeys_285_286 {H:Type} (Bm b nn:Nat) (D0:DataW H) (R:Value→Option (DataW H×List MemPlace)) (w:World) (hBm:Bm < w.heap.size) (hm:w.cell? ⟨Bm,0,none⟩=some (.map (some b))) (hown:w.ownsMap Tryz.prog 9 R b nn D0) (hmax:Maps.size D0≤maxLen) (hbytes:Maps.size D0*16≤140737488355328) :
 Calls Tryz.prog 285 #[.func (.func 323) #[] #[.pointer (some ⟨Bm,0,none⟩)]] w fun e w' => ∃ (v:Value) (ss:List (List UInt8)),e = .returned v∧ss.Perm (strKeys D0) ∧
 w'.ownsRow w.heap.size 9 1 v ss.length ((ss.mergeSort (fun x y=>decide (x≤y))).map encStr)∧(v = .slice none 0 0↔ss=[])∧Below w.heap.size w w':=by
 have hseq:SeqGives Fence.wide 2 Tryz.prog 323 #[.pointer (some ⟨Bm,0,none⟩)] encStr (fun ss=>ss.Perm (strKeys D0)) (Maps.size D0) w :=
   AnyZ.keys_gives (ρ:=Tryz.aBP) { Tryz.aLc with } Fence.wide _ trivial rfl (by omega) Bm b nn D0 _ hBm hm hown
 exact (callsIn_wide (n:=5)).1 (AnyZ.sorted_in Tryz.aON Fence.wide 5 trivial trivial trivial trivial rfl (by omega) (Tryz.aTv _) (enters_of Tryz.func232 (by kernel_rfl) rfl) 323 #[.pointer (some ⟨Bm,0,none⟩)] trivial (enters_of Tryz.func323 (by kernel_rfl) rfl) _ _ hmax hbytes _ hseq)
theorem Tryz.aH5 (mb:Option Nat) (W:World):Calls Tryz.prog 286 #[.map mb] W fun e w'=>e = .returned (.func (.func 323) #[] #[.pointer (some ⟨W.heap.size,0,none⟩)])∧w'=W.alloc (.cells #[.map mb] 336) :=
  (callsIn_wide (n:=5)).1 (Tryz.aGD mb W)
end Go.Proofs
end

section
namespace Go.V
open Go.RowKit
open Go.S
instance:QO:=⟨91,90⟩
@[reducible] def Gl:Mo:=((QS 2 (Lib.pow10Tab.map fun z=>Value.int .u64 z).toArray).and (QS 0 #[.iface 255 (.agg #[.pointer (some ⟨7,46,none⟩)])]))
instance:bD aC:=⟨3,fun x=>[str x.path,i64 x.mode,str x.data],fun _=>rfl,fun _ u h=>by simp only [List.mem_cons,List.not_mem_nil,or_false] at h; rcases h with rfl | rfl | rfl <;> first | rfl | exact Er.one _,fun _=>Mo.tt⟩
instance:Flat aC:=⟨fun _=>rfl⟩
instance:bD cY:=⟨2,fun x=>[str x.name,i64 x.cC],fun _=>rfl,fun _ u h=>by simp only [List.mem_cons,List.not_mem_nil,or_false] at h; rcases h with rfl | rfl <;> first | rfl | exact Er.one _,fun _=>Mo.tt⟩
instance:Flat cY:=⟨fun _=>rfl⟩
instance:bD aH:=⟨6,fun x=>[str x.path,i64 x.iK,i64 x.mode,str x.data,i64 x.time,i64 x.size],fun _=>rfl,fun _ u h=>by simp only [List.mem_cons,List.not_mem_nil,or_false] at h; rcases h with rfl | rfl | rfl | rfl | rfl | rfl <;> first | rfl | exact Er.one _,fun _=>Mo.tt⟩
instance:Flat aH:=⟨fun _=>rfl⟩
structure bL where
  base:Int
  index:Sv aC
  work:Sv aC
  text:bH
@[reducible] def bL.m (x:bL):Mo:=(x.index.ok.and x.work.ok)
@[reducible] def bL.pl (x:bL):cM:=⟨x.base,x.index.l,x.work.l,x.text⟩
instance:bD bL:=⟨4,fun x=>[i64 x.base,x.index.val,x.work.val,str x.text],fun _=>rfl,fun _ u h=>by simp only [List.mem_cons,List.not_mem_nil,or_false] at h; rcases h with rfl | rfl | rfl | rfl <;> first | rfl | exact Er.one _,bL.m⟩
instance:bD kF:=⟨4,fun x=>[str x.line,str x.path,str x.data,.bool x.gone],fun _=>rfl,fun _ u h=>by simp only [List.mem_cons,List.not_mem_nil,or_false] at h; rcases h with rfl | rfl | rfl | rfl <;> first | rfl | exact Er.one _,fun _=>Mo.tt⟩
instance:Flat kF:=⟨fun _=>rfl⟩
instance:bD bK:=⟨3,fun x=>[str x.verb,i64 x.cC,str x.text],fun _=>rfl,fun _ u h=>by simp only [List.mem_cons,List.not_mem_nil,or_false] at h; rcases h with rfl | rfl | rfl <;> first | rfl | exact Er.one _,fun _=>Mo.tt⟩
instance:Flat bK:=⟨fun _=>rfl⟩
structure bY where
  tree:Sv aC
  parents:Sv Int
  time:Int
  text:bH
@[reducible] def bY.m (x:bY):Mo:=(x.tree.ok.and x.parents.ok)
@[reducible] def bY.pl (x:bY):fH:=⟨x.tree.l,x.parents.l,x.time,x.text⟩
instance:bD bY:=⟨4,fun x=>[x.tree.val,x.parents.val,i64 x.time,str x.text],fun _=>rfl,fun _ u h=>by simp only [List.mem_cons,List.not_mem_nil,or_false] at h; rcases h with rfl | rfl | rfl | rfl <;> first | rfl | exact Er.one _,bY.m⟩
structure aM where
  aY:Sv aC
  aU:Sv aH
  bA:Sv cY
  aI:bH
  aG:Int
  aS:bH
  aO:Int
  aT:bH
  aN:Sv bK
  aP:Sv bK
  aQ:Int
  aK:bH
  aD:bH
  aE:Int
  aL:Sv aH
  aR:Sv aC
  aX:Sv bL
  bC:Sv bY
  bE:Sv bH
  aZ:Sv bH
  time:Int
@[reducible] def aM.m (x:aM):Mo:=(x.aY.ok.and (x.aU.ok.and (x.bA.ok.and (x.aN.ok.and (x.aP.ok.and (x.aL.ok.and (x.aR.ok.and (x.aX.ok.and (x.bC.ok.and (x.bE.ok.and x.aZ.ok))))))))))
@[reducible] def aM.pl (x:aM):aF:=⟨x.aY.l,x.aU.l,x.bA.l,x.aI,x.aG,x.aS,x.aO,x.aT,x.aN.l,x.aP.l,x.aQ,x.aK,x.aD,x.aE,x.aL.l,x.aR.l,(x.aX.l.map bL.pl),(x.bC.l.map bY.pl),x.bE.l,x.aZ.l,x.time⟩
instance:bD aM:=⟨21,fun x=>[x.aY.val,x.aU.val,x.bA.val,str x.aI,i64 x.aG,str x.aS,i64 x.aO,str x.aT,x.aN.val,x.aP.val,i64 x.aQ,str x.aK,str x.aD,i64 x.aE,x.aL.val,x.aR.val,x.aX.val,x.bC.val,x.bE.val,x.aZ.val,i64 x.time],fun _=>rfl,fun _ u h=>by simp only [List.mem_cons,List.not_mem_nil,or_false] at h; rcases h with rfl | rfl | rfl | rfl | rfl | rfl | rfl | rfl | rfl | rfl | rfl | rfl | rfl | rfl | rfl | rfl | rfl | rfl | rfl | rfl | rfl <;> first | rfl | exact Er.one _,aM.m⟩
structure eF where
  eU:Sv UInt8
@[reducible] def eF.m (x:eF):Mo:=x.eU.ok
@[reducible] def eF.pl (x:eF):eB:=⟨x.eU.l⟩
instance:bD eF:=⟨1,fun x=>[x.eU.val],fun _=>rfl,fun _ u h=>by simp only [List.mem_cons,List.not_mem_nil,or_false] at h; rcases h with rfl <;> first | rfl | exact Er.one _,eF.m⟩
structure iY where
  work:Sv aC
  index:Sv aH
  refs:Sv cY
  cB:bH
  cA:Int
  fE:bH
  eM:Int
  fF:bH
  cZ:Sv bK
  eA:Sv bK
  eX:Int
  dM:bH
  bW:bH
  bX:Int
  dB:Sv aH
  eC:Sv aC
  gB:Sv bL
@[reducible] def iY.m (x:iY):Mo:=(x.work.ok.and (x.index.ok.and (x.refs.ok.and (x.cZ.ok.and (x.eA.ok.and (x.dB.ok.and (x.eC.ok.and x.gB.ok)))))))
@[reducible] def iY.pl (x:iY):eH:=⟨x.work.l,x.index.l,x.refs.l,x.cB,x.cA,x.fE,x.eM,x.fF,x.cZ.l,x.eA.l,x.eX,x.dM,x.bW,x.bX,x.dB.l,x.eC.l,(x.gB.l.map bL.pl)⟩
instance:bD iY:=⟨17,fun x=>[x.work.val,x.index.val,x.refs.val,str x.cB,i64 x.cA,str x.fE,i64 x.eM,str x.fF,x.cZ.val,x.eA.val,i64 x.eX,str x.dM,str x.bW,i64 x.bX,x.dB.val,x.eC.val,x.gB.val],fun _=>rfl,fun _ u h=>by simp only [List.mem_cons,List.not_mem_nil,or_false] at h; rcases h with rfl | rfl | rfl | rfl | rfl | rfl | rfl | rfl | rfl | rfl | rfl | rfl | rfl | rfl | rfl | rfl | rfl <;> first | rfl | exact Er.one _,iY.m⟩
instance:bD mM:=⟨2,fun x=>[str x.branch,i64 x.cC],fun _=>rfl,fun _ u h=>by simp only [List.mem_cons,List.not_mem_nil,or_false] at h; rcases h with rfl | rfl <;> first | rfl | exact Er.one _,fun _=>Mo.tt⟩
instance:Flat mM:=⟨fun _=>rfl⟩
structure pN where
  kind:bH
  other:Int
  text:bH
  C9:Sv bK
  todo:Sv bK
  made:Int
  branch:bH
  cB:bH
  cA:Int
  index:Sv aH
  work:Sv aC
@[reducible] def pN.m (x:pN):Mo:=(x.C9.ok.and (x.todo.ok.and (x.index.ok.and x.work.ok)))
@[reducible] def pN.pl (x:pN):mN:=⟨x.kind,x.other,x.text,x.C9.l,x.todo.l,x.made,x.branch,x.cB,x.cA,x.index.l,x.work.l⟩
instance:bD pN:=⟨11,fun x=>[str x.kind,i64 x.other,str x.text,x.C9.val,x.todo.val,i64 x.made,str x.branch,str x.cB,i64 x.cA,x.index.val,x.work.val],fun _=>rfl,fun _ u h=>by simp only [List.mem_cons,List.not_mem_nil,or_false] at h; rcases h with rfl | rfl | rfl | rfl | rfl | rfl | rfl | rfl | rfl | rfl | rfl <;> first | rfl | exact Er.one _,pN.m⟩
structure bV where
  b:Sv UInt8
  at_:Int
  err:Er
@[reducible] def bV.m (x:bV):Mo:=(x.b.ok.and x.err.ok)
@[reducible] def bV.pl (x:bV):bB:=⟨x.b.l,x.at_,x.err.pl⟩
instance:bD bV:=⟨3,fun x=>[x.b.val,i64 x.at_,x.err.val],fun _=>rfl,fun _ u h=>by simp only [List.mem_cons,List.not_mem_nil,or_false] at h; rcases h with rfl | rfl | rfl <;> first | rfl | exact Er.one _,bV.m⟩
structure n4 where
  verb:bH
  name:bH
  n:Int
  text:bH
  force:Bool
  todo:Sv bK
@[reducible] def n4.m (x:n4):Mo:=x.todo.ok
@[reducible] def n4.pl (x:n4):iM:=⟨x.verb,x.name,x.n,x.text,x.force,x.todo.l⟩
instance:bD n4:=⟨6,fun x=>[str x.verb,str x.name,i64 x.n,str x.text,.bool x.force,x.todo.val],fun _=>rfl,fun _ u h=>by simp only [List.mem_cons,List.not_mem_nil,or_false] at h; rcases h with rfl | rfl | rfl | rfl | rfl | rfl <;> first | rfl | exact Er.one _,n4.m⟩
structure cT where
  files:Sv aC
  entries:Sv aH
  conflicts:Sv bH
@[reducible] def cT.m (x:cT):Mo:=(x.files.ok.and (x.entries.ok.and x.conflicts.ok))
@[reducible] def cT.pl (x:cT):dG:=⟨x.files.l,x.entries.l,x.conflicts.l⟩
instance:bD cT:=⟨3,fun x=>[x.files.val,x.entries.val,x.conflicts.val],fun _=>rfl,fun _ u h=>by simp only [List.mem_cons,List.not_mem_nil,or_false] at h; rcases h with rfl | rfl | rfl <;> first | rfl | exact Er.one _,cT.m⟩
instance:bD lI:=⟨4,fun x=>[str x.cH,i64 x.cN,str x.bZ,.bool x.is],fun _=>rfl,fun _ u h=>by simp only [List.mem_cons,List.not_mem_nil,or_false] at h; rcases h with rfl | rfl | rfl | rfl <;> first | rfl | exact Er.one _,fun _=>Mo.tt⟩
instance:Flat lI:=⟨fun _=>rfl⟩
structure jF where
  base:Sv bH
  ours:Sv bH
  cU:Sv bH
  qI:Bool
  out:Sv bH
@[reducible] def jF.m (x:jF):Mo:=(x.base.ok.and (x.ours.ok.and (x.cU.ok.and x.out.ok)))
@[reducible] def jF.pl (x:jF):p9:=⟨x.base.l,x.ours.l,x.cU.l,x.qI,x.out.l⟩
instance:bD jF:=⟨5,fun x=>[x.base.val,x.ours.val,x.cU.val,.bool x.qI,x.out.val],fun _=>rfl,fun _ u h=>by simp only [List.mem_cons,List.not_mem_nil,or_false] at h; rcases h with rfl | rfl | rfl | rfl | rfl <;> first | rfl | exact Er.one _,jF.m⟩
structure tM where
  a:Sv bH
  b:Sv bH
  n:Sv Int
@[reducible] def tM.m (x:tM):Mo:=(x.a.ok.and (x.b.ok.and x.n.ok))
@[reducible] def tM.pl (x:tM):pE:=⟨x.a.l,x.b.l,x.n.l⟩
instance:bD tM:=⟨3,fun x=>[x.a.val,x.b.val,x.n.val],fun _=>rfl,fun _ u h=>by simp only [List.mem_cons,List.not_mem_nil,or_false] at h; rcases h with rfl | rfl | rfl <;> first | rfl | exact Er.one _,tM.m⟩
instance:bD jE:=⟨2,fun x=>[i64 x.op,str x.line],fun _=>rfl,fun _ u h=>by simp only [List.mem_cons,List.not_mem_nil,or_false] at h; rcases h with rfl | rfl <;> first | rfl | exact Er.one _,fun _=>Mo.tt⟩
instance:Flat jE:=⟨fun _=>rfl⟩
instance:bD gZ:=⟨3,fun x=>[i64 x.a,i64 x.b,i64 x.n],fun _=>rfl,fun _ u h=>by simp only [List.mem_cons,List.not_mem_nil,or_false] at h; rcases h with rfl | rfl | rfl <;> first | rfl | exact Er.one _,fun _=>Mo.tt⟩
instance:Flat gZ:=⟨fun _=>rfl⟩
instance:bD M8:=⟨4,fun x=>[str x.cH,i64 x.cN,str x.bZ,.bool x.is],fun _=>rfl,fun _ u h=>by simp only [List.mem_cons,List.not_mem_nil,or_false] at h; rcases h with rfl | rfl | rfl | rfl <;> first | rfl | exact Er.one _,fun _=>Mo.tt⟩
instance:Flat M8:=⟨fun _=>rfl⟩
structure pM where
  back:Sv bH
  kY:Sv bH
@[reducible] def pM.m (x:pM):Mo:=(x.back.ok.and x.kY.ok)
@[reducible] def pM.pl (x:pM):qF:=⟨x.back.l,x.kY.l⟩
instance:bD pM:=⟨2,fun x=>[x.back.val,x.kY.val],fun _=>rfl,fun _ u h=>by simp only [List.mem_cons,List.not_mem_nil,or_false] at h; rcases h with rfl | rfl <;> first | rfl | exact Er.one _,pM.m⟩
structure G1 where
  part:bH
  at_:Int
  err:Er
@[reducible] def G1.m (x:G1):Mo:=x.err.ok
@[reducible] def G1.pl (x:G1):RX:=⟨x.part,x.at_,x.err.pl⟩
instance:bD G1:=⟨3,fun x=>[str x.part,i64 x.at_,x.err.val],fun _=>rfl,fun _ u h=>by simp only [List.mem_cons,List.not_mem_nil,or_false] at h; rcases h with rfl | rfl | rfl <;> first | rfl | exact Er.one _,G1.m⟩
end Go.V
end

section
namespace Go.V
open Go.RowKit
variable {P:Program} {N:Nat} {c:Cx} {ops:Array Oper} {Q Q1:Exit→Act→World→Prop} {rest:List Oper} {ρ:Env} {M:Mo} {E:Ow} {v u:Value} {d:Nat} {ty:TypeId} {pos:String} {after:Array Edge} {x y z:Operand} {q p:Code}
theorem Zm (k:VL P N c ops Q rest ((d,v)::ρ) M E) (e:ρ.ev x=some v:=by exact rfl) (hd:d < N:=by decide):VL P N c ops Q (⟨some d,.move x,ty,pos,after,none⟩::rest) ρ M E:=VL.q (fQ e) hd k
theorem Za (k:VL P N c ops Q rest ((d,v)::ρ) M E) (e:ρ.ev x=some v:=by exact rfl) (hd:d < N:=by decide):VL P N c ops Q (⟨some d,.assign x,ty,pos,after,none⟩::rest) ρ M E:=VL.q (u7 e) hd k
theorem Zf (k:VL P N c ops Q rest ((d,u)::ρ) M E) (e:ρ.ev x=some (.bool false):=by exact rfl) (h1:ρ.ev z=some u:=by exact rfl) (hd:d < N:=by decide):VL P N c ops Q (⟨some d,.pick x y z,ty,pos,after,none⟩::rest) ρ M E:=VL.q (HD e h1) hd k
theorem Zt (k:VL P N c ops Q rest ((d,u)::ρ) M E) (e:ρ.ev x=some (.bool true):=by exact rfl) (h1:ρ.ev y=some u:=by exact rfl) (hd:d < N:=by decide):VL P N c ops Q (⟨some d,.pick x y z,ty,pos,after,none⟩::rest) ρ M E:=VL.q (JP e h1) hd k
theorem Zn {op:Op} {j t:Nat} {w b:Bool} (k:VL P N c ops Q rest ((d,undef)::ρ) M E) (hj:(ops[j]?).bind (·.dst)=some t:=by exact rfl) (hb:ρ.get t=some (.bool b):=by exact rfl) (hw:(b==w)=false:=by exact rfl) (hd:d < N:=by decide) :
    VL P N c ops Q (⟨some d,op,ty,pos,after,some (j,w)⟩::rest) ρ M E:=VL.gn hj hb hw hd k
theorem Zg {j t:Nat} {w:Bool} (k:VL P N c ops Q rest ((d,v)::ρ) M E) (hj:(ops[j]?).bind (·.dst)=some t:=by exact rfl) (hb:ρ.get t=some (.bool w):=by exact rfl) (e:ρ.ev x=some v:=by exact rfl) (hd:d < N:=by decide) :
    VL P N c ops Q (⟨some d,.move x,ty,pos,after,some (j,w)⟩::rest) ρ M E:=VL.gy hj hb (fQ e) hd k
theorem Zs {s s':List UInt8} {t t':TypeId} (k:VL P N c ops Q rest ((d,.bool (decide (s=s')))::ρ) M E) (e1:ρ.ev x=some (str s):=by exact rfl) (e2:ρ.ev y=some (str s'):=by exact rfl) (hd:d < N:=by decide):VL P N c ops Q (⟨some d,.binOp .eql t x y t',ty,pos,after,none⟩::rest) ρ M E:=VL.q (PW e1 e2) hd k
theorem Zl (h:VC P N c Q1 q ρ M E) (e : ∀ a w,q.wp P Q1 a w→Q .normal a w:=by exact fun _ _ h=>h):VL P N c ops Q [] ρ M E:=VL.to e h
theorem Zk (h:VC P N c Q1 q ρ M E) (e : ∀ a w,q.wp P Q1 a w→Q .normal a w:=by exact fun _ _ h=>h):VC P N c Q .skip ρ M E:=VC.aBs e h
theorem Zx {id:Nat} (h:VC P N c Q1 q ρ M E) (e : ∀ a w,q.wp P Q1 a w→Q (.exit id) a w:=by exact fun _ _ h=>h):VC P N c Q (.exit id) ρ M E:=VC.aKo e h
theorem Zq (h:VC P N c (Exit.then (q.wp P Q) Q) p ρ M E):VC P N c Q (.seq p q) ρ M E:=VC.seq h
theorem Zr {id:Nat} {l:List Oper} (h:VL P N c l.toArray Q l ρ M E):VC P N c Q (.region id l.toArray false) ρ M E:=VC.region h
theorem Zb {id:Nat} {b:Code} (h:VC P N c (Exit.inBlock id Q) b ρ M E):VC P N c Q (.block id b) ρ M E:=VC.block h
theorem Zd {op:Op} {k j t:Nat} {w b:Bool} {r:List (Nat×Bool)} {D:List (Nat×Value)} (n:VD P N c ops Q r (FK ops k undef D) ((d,undef)::ρ) M E) (hk:ops[k]? = some ⟨some d,op,ty,pos,after,some (j,w)⟩:=by exact rfl) (hj:(ops[j]?).bind (·.dst)=some t:=by exact rfl) (hb:ρ.get t=some (.bool b):=by exact rfl) (hw:(b==w)=false:=by exact rfl) (hd:d < N:=by decide) :
    VD P N c ops Q ((k,true)::r) D ρ M E:=VD.gn hk hj hb hw hd n
theorem Ze {t:Nat} {fn:Func} {val:Unit→Value} (e : ∀ a w,bodyPost P fn (fun en w' => ∃ r,en = .returned r∧Post val (fun _=>True) (fun _=>Mo.tt) (fun _=>Ow.emp) c r w') .ret a w→Q .ret a w:=by exact fun _ _ h=>h)
    (hres:fn.results = #[.tmp t]:=by exact rfl) (ht:ρ.get t=some v:=by exact rfl) (hv:v=val ():=by exact rfl):VC P N c Q .ret ρ M E :=
  VC.ret fun a w x y=>e a w (HV (.inr rfl) hres ht () hv trivial (fun _ _=>trivial) (fun _ _=>trivial) a w x y)
theorem Zu {op:Op} (h:Qt P N c ⟨some d,op,ty,pos,after,none⟩ v ρ M E) (k:VL P N c ops Q rest ((d,v)::ρ) M E) (hd:d < N:=by decide):VL P N c ops Q (⟨some d,op,ty,pos,after,none⟩::rest) ρ M E:=VL.q h hd k
theorem Zh {op:Op} {j t:Nat} {w:Bool} (h:Qt P N c ⟨some d,op,ty,pos,after,some (j,w)⟩ v ρ M E) (k:VL P N c ops Q rest ((d,v)::ρ) M E) (hj:(ops[j]?).bind (·.dst)=some t:=by exact rfl) (hb:ρ.get t=some (.bool w):=by exact rfl) (hd:d < N:=by decide):VL P N c ops Q (⟨some d,op,ty,pos,after,some (j,w)⟩::rest) ρ M E:=VL.gy hj hb h hd k
theorem Zw {k:Nat} {op:Op} {r:List (Nat×Bool)} {D:List (Nat×Value)} (hk:ops[k]? = some ⟨some d,op,ty,pos,after,none⟩) (h:Qt P N c ⟨some d,op,ty,pos,after,none⟩ v ρ M E) (n:VD P N c ops Q r (FK ops k v D) ((d,v)::ρ) M E) (hd:d < N:=by decide):VD P N c ops Q ((k,true)::r) D ρ M E:=VD.q hk h hd n
theorem Zi {op:Op} {k j t:Nat} {w:Bool} {r:List (Nat×Bool)} {D:List (Nat×Value)} (hk:ops[k]? = some ⟨some d,op,ty,pos,after,some (j,w)⟩) (h:Qt P N c ⟨some d,op,ty,pos,after,some (j,w)⟩ v ρ M E) (n:VD P N c ops Q r (FK ops k v D) ((d,v)::ρ) M E) (hj:(ops[j]?).bind (·.dst)=some t:=by exact rfl) (hb:ρ.get t=some (.bool w):=by exact rfl) (hd:d < N:=by decide):VD P N c ops Q ((k,true)::r) D ρ M E:=VD.gy hk hj hb h hd n
theorem aWt {R:Type} {b:Bool} {A B:Option R} {r:R} (hc:b=false) (h:(if b=true then A else B)=some r):B=some r:=by subst hc; exact h
section
variable {R:Type} {φ:Prop} [Decidable φ] {A B:Option R} {r:R} {b:Bool}
theorem Zc (hS:(if φ then A else B)=some r) (h1:φ→A=some r→VC P N c Q p ρ M E) (h2 : ¬ φ→B=some r→VC P N c Q q ρ M E) (e:ρ.ev x=some (.bool (decide φ)):=by exact rfl):VC P N c Q (.cond x p q) ρ M E:=VC.nV e (fun h=>h1 h (Go.S.IB h hS)) (fun h=>h2 h (Go.S.T6 h hS))
theorem oD (hS:(if φ then A else B)=some r) (h1 : ¬ φ→B=some r→VC P N c Q p ρ M E) (h2:φ→A=some r→VC P N c Q q ρ M E) (e:ρ.ev x=some (.bool (!decide φ)):=by exact rfl):VC P N c Q (.cond x p q) ρ M E:=VC.aNZ e (fun h=>h1 h (Go.S.T6 h hS)) (fun h=>h2 h (Go.S.IB h hS))
theorem iZ (hS:(if b=true then A else B)=some r) (h1:b=true→A=some r→VC P N c Q p ρ M E) (h2:b=false→B=some r→VC P N c Q q ρ M E) (e:ρ.ev x=some (.bool b):=by exact rfl):VC P N c Q (.cond x p q) ρ M E:=VC.cond e (fun h=>h1 h (Go.S.IB h hS)) (fun h=>h2 h (aWt h hS))
theorem nT (t:Nat) (hS:(if φ then A else B)=some r) (h1:φ→A=some r→VL P N c ops Q rest ((t,.bool true)::ρ) M E) (h2 : ¬ φ→B=some r→VL P N c ops Q rest ((t,.bool false)::ρ) M E) (e:ρ.get t=some (.bool (decide φ)):=by exact rfl):VL P N c ops Q rest ρ M E:=VL.xR t e (fun h=>h1 h (Go.S.IB h hS)) (fun h=>h2 h (Go.S.T6 h hS))
theorem UR (t:Nat) (hS:(if φ then A else B)=some r) (h1 : ¬ φ→B=some r→VL P N c ops Q rest ((t,.bool true)::ρ) M E) (h2:φ→A=some r→VL P N c ops Q rest ((t,.bool false)::ρ) M E) (e:ρ.get t=some (.bool (!decide φ)):=by exact rfl):VL P N c ops Q rest ρ M E:=VL.PD t e (fun h=>h1 h (Go.S.T6 h hS)) (fun h=>h2 h (Go.S.IB h hS))
theorem xZ (t:Nat) (hS:(if b=true then A else B)=some r) (h1:b=true→A=some r→VL P N c ops Q rest ((t,.bool true)::ρ) M E) (h2:b=false→B=some r→VL P N c ops Q rest ((t,.bool false)::ρ) M E) (e:ρ.get t=some (.bool b):=by exact rfl):VL P N c ops Q rest ρ M E:=VL.split t e (fun h=>h1 h (Go.S.IB h hS)) (fun h=>h2 h (aWt h hS))
end
theorem Zo {X:Type} {f:FuncId} {fn:Func} {code:Code} {args:List Value} {val:X→Value} {φ:X→Prop} {M':X→Mo} {E':X→Ow} (hf:P.funcs[f]? = some fn) (hn:fn.ntmps=N) (h : ∀ c,VC P N c (bodyPost P fn fun en w' => ∃ r,en = .returned r∧Post val φ M' E' c r w') code (Env.of 0 args) M E) (hb:fn.body=some code:=by exact rfl) (hnm:(fn.name == "runtime.NumGoroutine")=false:=by kernel_rfl) (hl:args.length≤N:=by simp):Ct P f args M E val φ M' E':=Ct.of hf hb hnm hn hl h
theorem Zv {F:Ow} {T:TypeId} {t:TypeId} {b j n:Nat} {cs vc cs':List Value} (e1:ρ.ev x=some (ptr b j)) (hs:(P.info? t).map (·.size)=some n) (k:VL P N c ops Q rest ρ M (Ow.star (bN b cs' T) F)) (e2:ρ.ev y=some v:=by exact rfl) [hE:pZ E b cs T F] (hv:v.cells=vc.toArray:=by exact rfl) (hn:vc.length=n:=by exact rfl) (h1:vc.all (·.oneCell')=true:=by exact rfl) (hl:j+vc.length≤cs.length:=by exact Nat.le_of_ble_eq_true rfl) (hc:cs.take j++vc++cs.drop (j+vc.length)=cs':=by exact rfl):VL P N c ops Q (⟨none,.store t x y,ty,pos,after,none⟩::rest) ρ M E:=VL.store e1 e2 hv hs hn h1 hl hc k
end Go.V
end

section
namespace Go.V
open Go.RowKit
section
variable {P:Program} {N:Nat} {c:Cx} {ops:Array Oper} {Q Q1:Exit→Act→World→Prop} {rest:List Oper} {ρ:Env} {M:Mo} {E:Ow} {v u w3:Value} {d:Nat} {ty T:TypeId} {pos:String} {after:Array Edge} {x y z:Operand} {q p:Code}
theorem qA (cs:List Value) (k : ∀ b:Nat,VL P N c ops Q rest ((d,ptr b 0)::ρ) M (Ow.star (bN b cs T) E)) (e:ρ.ev x=some v:=by exact rfl) (hc:v.cells=cs.toArray:=by exact rfl) (hd:d < N:=by decide):VL P N c ops Q (⟨some d,.box T x,ty,pos,after,none⟩::rest) ρ M E:=VL.box e hc hd k
theorem iB {id:Nat} (ord:List (Nat×Bool)) (h:VD P N c ops Q ord [] ρ M E) (hm:P.follows .mixedOrders=true:=by kernel_rfl) (hs:Region.noSelect ops=true:=by kernel_rfl) (hn:ord.length=ops.size:=by kernel_rfl) (hB:(okD ops ord [] (Array.replicate ops.size false)&&(Region.ready .any ops (marked ord (Array.replicate ops.size false))).isEmpty)=true:=by kernel_rfl):VC P N c Q (.region id ops true) ρ M E:=VC.draw ord hm hs hn hB h
theorem QT {k:Nat} {r:List (Nat×Bool)} {D:List (Nat×Value)} {R:List (Nat×Value)→Act→World→Prop} (D':List (Nat×Value)) (hp:bT P N c ops D' ρ M E) (h:I0 P N c ops R r D' ρ M E) (hD:iG ops k D=D':=by kernel_rfl):VL P N c ops (toR P N c ops fun a w=>(∀ p∈iG ops k D,YI P ops p a w)∧wpD P ops R r (iG ops k D) a w) [] ρ M E:=VL.back hD hp h
theorem eV {k:Nat} {r:List (Nat×Bool)} {D:List (Nat×Value)} {R:List (Nat×Value)→Act→World→Prop} (h:I0 P N c ops R r [] ρ M E) (hD:iG ops k D=[]:=by kernel_rfl):VL P N c ops (toR P N c ops fun a w=>(∀ p∈iG ops k D,YI P ops p a w)∧wpD P ops R r (iG ops k D) a w) [] ρ M E:=VL.back hD bT.nil h
abbrev Cp (P:Program) (f:FuncId) (args:List Value) (M:Mo) (v:Value):Prop:=Ct P f args M Ow.emp (X:=Unit) (fun _=>v) (fun _=>True) (fun _=>Mo.tt) (fun _=>Ow.emp)
end
section
variable {P:Program} {N:Nat} {c:Cx} {Q:Exit→Act→World→Prop} {ρ:Env} {M:Mo} {E:Ow} {v v' v'':Value} {fn:Func} {X:Type} {val:X→Value} {φ:X→Prop} {M2:X→Mo} {E2:X→Ow}
theorem Z1 (x:X) {t:Nat} (hres:fn.results = #[.tmp t]:=by exact rfl) (ht:ρ.get t=some v:=by exact rfl) (hv:v=val x:=by exact rfl) (hφ:φ x:=by first | exact rfl | exact trivial) (h1 : ∀ h,M.on h→(M2 x).on h:=by first | exact fun _ _=>trivial | ((try dsimp only); exact dV.out)) (h2 : ∀ e,E e→E2 x e:=by first | exact fun _ _=>trivial | ((try dsimp only); exact fK.out)) : ∀ a w,tI N ρ a→St c M E w→bodyPost P fn (fun en w' => ∃ r,en = .returned r∧Post val φ M2 E2 c r w') .ret a w:=HV (.inr rfl) hres ht x hv hφ h1 h2
theorem Z2 (x:X) {t u:Nat} (hres:fn.results = #[.tmp t,.tmp u]:=by exact rfl) (ht:ρ.get t=some v:=by exact rfl) (hu:ρ.get u=some v':=by exact rfl) (hv : .tuple #[v,v']=val x:=by exact rfl) (hφ:φ x:=by first | exact rfl | exact trivial) (h1 : ∀ h,M.on h→(M2 x).on h:=by first | exact fun _ _=>trivial | ((try dsimp only); exact dV.out)) (h2 : ∀ e,E e→E2 x e:=by first | exact fun _ _=>trivial | ((try dsimp only); exact fK.out)) : ∀ a w,tI N ρ a→St c M E w→bodyPost P fn (fun en w' => ∃ r,en = .returned r∧Post val φ M2 E2 c r w') .ret a w:=aVk (.inr rfl) hres ht hu x hv hφ h1 h2
end
end Go.V
end

section
namespace Go.V
open Go.RowKit
section
variable {P:Program} {N:Nat} {c:Cx} {ops:Array Oper} {Q:Exit→Act→World→Prop} {rest:List Oper} {ρ:Env} {M:Mo} {E:Ow} {v:Value} {d:Nat} {od:Option Nat} {t s t' ty:TypeId} {i:Nat} {pos:String} {after:Array Edge} {gd:Option (Nat×Bool)} {x y z:Operand} {op:Op} {b:BinOp} {cl:Call} {k:Code} {r:List (Nat×Bool)} {D:List (Nat×Value)} {j:Nat} {w:Bool} {o:Oper}
theorem gqF (h:Qt P N c ⟨od,.fieldAddr s x i,ty,pos,after,gd⟩ v ρ M E):Qt P N c ⟨od,.fieldAddr s x i,ty,pos,after,gd⟩ v ρ M E:=h
theorem gqL (h:Qt P N c ⟨od,.load t x,ty,pos,after,gd⟩ v ρ M E):Qt P N c ⟨od,.load t x,ty,pos,after,gd⟩ v ρ M E:=h
theorem gqB (h:Qt P N c ⟨od,.binOp b t x y t',ty,pos,after,gd⟩ v ρ M E):Qt P N c ⟨od,.binOp b t x y t',ty,pos,after,gd⟩ v ρ M E:=h
theorem gqC (h:Qt P N c ⟨od,.call cl,ty,pos,after,gd⟩ v ρ M E):Qt P N c ⟨od,.call cl,ty,pos,after,gd⟩ v ρ M E:=h
theorem gqP (h:Qt P N c ⟨od,.pick x y z,ty,pos,after,gd⟩ v ρ M E):Qt P N c ⟨od,.pick x y z,ty,pos,after,gd⟩ v ρ M E:=h
theorem gVC (h:VC P N c Q k ρ M E):VC P N c Q k ρ M E:=h
theorem gVD (h:VD P N c ops Q r D ρ M E):VD P N c ops Q r D ρ M E:=h
theorem gO (h:VL P N c ops Q (⟨some d,op,ty,pos,after,none⟩::rest) ρ M E):VL P N c ops Q (⟨some d,op,ty,pos,after,none⟩::rest) ρ M E:=h
theorem gG (h:VL P N c ops Q (⟨some d,op,ty,pos,after,some (j,w)⟩::rest) ρ M E):VL P N c ops Q (⟨some d,op,ty,pos,after,some (j,w)⟩::rest) ρ M E:=h
theorem gN (h:VL P N c ops Q [] ρ M E):VL P N c ops Q [] ρ M E:=h
theorem gCa (h:VL P N c ops Q (⟨some d,.call cl,ty,pos,after,none⟩::rest) ρ M E):VL P N c ops Q (⟨some d,.call cl,ty,pos,after,none⟩::rest) ρ M E:=h
end
class EqB (a b:Bool):Prop where out:a=b
instance EqB.i (a:Bool):EqB a a:=⟨rfl⟩
class I7 (ρ:Env) (t:Nat) (v:outParam Value):Prop where out:ρ.get t=some v
instance I7.there {ρ:Env} {t k:Nat} {u v:Value} [h:EqB (Nat.beq k t) false] [i:I7 ρ t v]:I7 ((k,u)::ρ) t v:=⟨by simp only [Env.get,h.out]; exact i.out⟩
instance I7.here {ρ:Env} {t:Nat} {v:Value}:I7 ((t,v)::ρ) t v:=⟨by simp [Env.get]⟩
instance I7.of {n t:Nat} {v w:Value} {vs:List Value} [i:I7 ((n,v)::Env.of (n+1) vs) t w]:I7 (Env.of n (v::vs)) t w:=⟨i.out⟩
class LP (l:List Nat) (ρ:Env) (ρ':outParam Env):Prop where out:ρ.keep l=ρ'
instance LP.n {ρ:Env}:LP [] ρ []:=⟨rfl⟩
instance LP.c {ρ ρ':Env} {t:Nat} {r:List Nat} {v:Value} [a:I7 ρ t v] [b:LP r ρ ρ']:LP (t::r) ρ ((t,v)::ρ'):=⟨by simp only [Env.keep,a.out,b.out]⟩
theorem VC.aV {P:Program} {N:Nat} {c:Cx} {Q:Exit→Act→World→Prop} {ρ ρ':Env} {M:Mo} {E:Ow} {k:Code} (l:List Nat) [h:LP l ρ ρ'] (n:VC P N c Q k ρ' M E):VC P N c Q k ρ M E:=VC.keep l h.out n
class kJ (P:Program) (s:TypeId) (i:Nat) (off:outParam Nat):Prop where out:cF P s i off
class MF (P:Program) (t:TypeId):Prop where out:OneCell P t
class OL (P:Program) (t:TypeId) (n:outParam Nat):Prop where out:s9 P t n
class LQ (P:Program) (t:TypeId) (d:outParam TypeDesc):Prop where out:P.underlying t=some d
class zO (P:Program) (t:TypeId) (n:outParam Nat):Prop where out:(P.info? t).map (·.size)=some n
class aC0 (l:List (Nat×Operand)) (k:Nat) (xs:outParam (List Operand)):Prop where out:l=(xs.zipIdx k).map fun x=>(x.2,x.1)
instance aC0.n {k:Nat}:aC0 [] k []:=⟨rfl⟩
instance aC0.c {k k':Nat} {x:Operand} {l:List (Nat×Operand)} {xs:List Operand} [e:EqB (Nat.beq k' k) true] [h:aC0 l (k+1) xs]:aC0 ((k',x)::l) k (x::xs):=⟨by rw [h.out,Nat.eq_of_beq_eq_true e.out]; rfl⟩
class KP (P:Program) (e:TypeId) (n:outParam Nat):Prop where out:((P.info? e).map fun i=>(i.size,i.zero.isSome))=some (n,true)
class M6 (P:Program) (e:TypeId) (n bt:outParam Nat):Prop where out:((P.info? e).map fun i=>(i.size,i.bytes,(i.zero.map fun z=>z.cells.size)))=some (n,bt,some n)
class ElC {α:Type} (l:List α) (i:Nat) (z:outParam α):Prop where out:l[i]? = some z
class IfC (P:Program) (t:TypeId):Prop where out : ∃ ms,P.underlying t=some (.interface ms)
class EqV (u v:Value):Prop where out:u=v
instance (priority:=2000) {u:Value}:EqV u u:=⟨rfl⟩
instance {α:Type}:EqV (.slice none 0 0) (Sv.val (⟨none,0,[]⟩:Sv α)):=⟨rfl⟩
instance [QO]:EqV .nilIface (Er.val .nil):=⟨rfl⟩
class EqT (a b:Nat):Prop where out:a=b
instance {a:Nat}:EqT a a:=⟨rfl⟩
instance [QO] {n:Int} {t:TypeId} [h:EqT t QO.no]:EqV (.iface t (.int .i64 n)) (Er.val (.no n)):=⟨by rw [h.out]; rfl⟩
instance [QO] {t:TypeId} {b:Nat} {p:List UInt8} {a:Int} {e:Er} [h:EqT t QO.pf]:EqV (.iface t (.pointer (some ⟨b,0,none⟩))) (Er.val (.fault b p a e)):=⟨by rw [h.out]; rfl⟩
class EqL (u v:List Value):Prop where out:u=v
instance:EqL [] []:=⟨rfl⟩
instance {u v:Value} {l m:List Value} [a:EqV u v] [b:EqL l m]:EqL (u::l) (v::m):=⟨by rw [a.out,b.out]⟩
instance (priority:=900) Fo.blk {E F:Ow} {b:Nat} {cs cs':List Value} {T:TypeId} [u:pZ E b cs T F] [q:EqL cs cs']:Fo E (bN b cs' T) F:=⟨by rw [← q.out]; exact u.out⟩
instance (priority:=700) fK.blkE {E:Ow} {b:Nat} {cs cs':List Value} {T:TypeId} [i:CV E b cs T] [q:EqL cs cs']:fK E (bN b cs' T):=⟨by rw [← q.out]; exact i.out⟩
class UnD (P:Program) (t:TypeId) (d:outParam TypeDesc):Prop where out:P.underlying t=some d
class PlC (α:Type) {β:outParam Type} (g:outParam (α→β)):Prop where out:True
class MkI (P:Program) (t:TypeId):Prop where out : ∃ D,P.underlying t=some D ∧ ∀ ms,D ≠ .interface ms
theorem MkI.mk' {P:Program} {t:TypeId} {D:TypeDesc} (h:P.underlying t=some D) (n : ∀ ms,D ≠ .interface ms):MkI P t:=⟨D,h,n⟩
class aAe (cs:List Value) (j:Nat) (vc:List Value) (cs':outParam (List Value)):Prop where
  out:cs.take j++vc++cs.drop (j+vc.length)=cs'∧j+vc.length≤cs.length
instance aAe.nil {cs:List Value} {j:Nat} [e:EqB (Nat.beq j 0) true]:aAe cs j [] cs:=⟨by have:=Nat.eq_of_beq_eq_true e.out; subst this; exact ⟨by simp,by simp⟩⟩
instance aAe.skip {c:Value} {cs vc cs':List Value} {j:Nat} [e:EqB (Nat.beq j 0) false] [i:aAe cs (Nat.sub j 1) vc cs']:aAe (c::cs) j vc (c::cs'):=⟨by
  have h0:=Nat.ne_of_beq_eq_false e.out
  obtain ⟨k,rfl⟩ : ∃ k,j=k+1:=⟨j - 1,by omega⟩
  have:=i.out
  rw [show Nat.sub (k+1) 1=k from rfl] at this
  rw [← this.1]
  exact ⟨by rw [Nat.add_right_comm]; rfl,by simp only [List.length_cons]; omega⟩⟩
instance aAe.put {c v:Value} {cs vc cs':List Value} {j:Nat} [e:EqB (Nat.beq j 0) true] [i:aAe cs 0 vc cs']:aAe (c::cs) j (v::vc) (v::cs'):=⟨by
  have:=Nat.eq_of_beq_eq_true e.out; subst this
  have:=i.out; simp only [List.take_zero,List.nil_append,Nat.zero_add,List.length_cons] at this ⊢; rw [← this.1]; exact ⟨by simp,by omega⟩⟩
class TY (v:Value):Prop where out:v.oneCell'=true∧v.cells = #[v]
instance {k:IntKind} {n:Int}:TY (.int k n):=⟨rfl,rfl⟩
instance {s:ByteArray}:TY (.string s):=⟨rfl,rfl⟩
instance {b:Bool}:TY (.bool b):=⟨rfl,rfl⟩
instance {a:Option Addr} {l c:Nat}:TY (.slice a l c):=⟨rfl,rfl⟩
instance {a:Option Addr}:TY (.pointer a):=⟨rfl,rfl⟩
instance {a:Option Nat}:TY (.map a):=⟨rfl,rfl⟩
instance:TY .nilIface:=⟨rfl,rfl⟩
instance {α:Type} {s:Sv α}:TY s.val:=⟨rfl,rfl⟩
instance {t:TypeId} {v:Value}:TY (.iface t v):=⟨rfl,rfl⟩
instance [QO] {z:Er}:TY z.val:=⟨by cases z <;> rfl,by cases z <;> rfl⟩
class aKY (l:List Value):Prop where out:l.all (·.oneCell')=true
instance:aKY []:=⟨rfl⟩
instance {v:Value} {l:List Value} [h:TY v] [k:aKY l]:aKY (v::l):=⟨by rw [List.all_cons,h.out.1,k.out]; rfl⟩
class KC (v:Value) (vc:outParam (List Value)):Prop where out:v.cells=vc.toArray∧vc.all (·.oneCell')=true
instance KC.one {v:Value} [h:TY v]:KC v [v]:=⟨h.out.2,by simp [h.out.1]⟩
instance KC.agg {l:List Value} [h:aKY l]:KC (.agg l.toArray) l:=⟨rfl,h.out⟩
class CU {α:Type} [bD α] (z:α) (cs:outParam (List Value)):Prop where out:bD.enc z=cs
instance KC.enc {α:Type} [bD α] {z:α} {cs:List Value} [h:CU z cs] [k:aKY cs]:KC (.agg (bD.enc z).toArray) cs:=⟨by rw [h.out]; rfl,k.out⟩
class aHe (vs:Array Value) (i:Nat) (v:outParam Value):Prop where out:vs[i]? = some v
instance aHe.next {u v:Value} {l:List Value} {i:Nat} [e:EqB (Nat.beq i 0) false] [h:aHe l.toArray (Nat.sub i 1) v]:aHe (u::l).toArray i v:=⟨by
  have h0:=Nat.ne_of_beq_eq_false e.out
  obtain ⟨k,rfl⟩ : ∃ k,i=k+1:=⟨i - 1,by omega⟩
  have:=h.out
  rw [show Nat.sub (k+1) 1=k from rfl] at this
  simpa using this⟩
instance aHe.here {v:Value} {l:List Value} {i:Nat} [e:EqB (Nat.beq i 0) true]:aHe (v::l).toArray i v:=⟨by have:=Nat.eq_of_beq_eq_true e.out; subst this; simp⟩
instance KC.tv {b:Bool}:KC (aAU (some b)) [.bool b]:=⟨rfl,rfl⟩
class aKZ (l:List Value) (n:outParam Nat):Prop where out:l.length=n
instance:aKZ [] 0:=⟨rfl⟩
instance {v:Value} {l:List Value} {n:Nat} [h:aKZ l n]:aKZ (v::l) (n+1):=⟨by rw [List.length_cons,h.out]⟩
class TZ (P:Program) (ρ:Env) (M:Mo) (E:Ow) (rs:List ResultVar) (vs:outParam (List Value)):Prop where out:UQ P ρ M E rs vs
section
variable {P:Program} {ρ:Env} {M:Mo} {E:Ow} {rs:List ResultVar} {vs:List Value}
instance TZ.n:TZ P ρ M E [] []:=⟨UQ.nil⟩
instance TZ.t {t:Nat} {v:Value} [a:I7 ρ t v] [b:TZ P ρ M E rs vs]:TZ P ρ M E (.tmp t::rs) (v::vs):=⟨UQ.tmp a.out b.out⟩
instance TZ.c {t b n:Nat} {T T':TypeId} {cs:List Value} [h:OL P T n] [a:I7 ρ t (ptr b 0)] [e:CV E b cs T'] [l:aKZ cs n] [k:TZ P ρ M E rs vs]:TZ P ρ M E (.cell t T::rs) (.agg cs.toArray::vs):=⟨UQ.cell h.out a.out l.out Rd.blk k.out⟩
instance TZ.o {t b:Nat} {T T':TypeId} {v:Value} [h:MF P T] [a:I7 ρ t (ptr b 0)] [e:CV E b [v] T'] [k:TZ P ρ M E rs vs]:TZ P ρ M E (.cell t T::rs) (v::vs):=⟨UQ.cell1 h.out a.out Rd.blk k.out⟩
variable {N:Nat} {c:Cx} {v v':Value} {fn:Func} {X:Type} {val:X→Value} {φ:X→Prop} {M2:X→Mo} {E2:X→Ow}
theorem Z4 (x:X) (hres:fn.results=rs.toArray) [hr:TZ P ρ M E rs vs] (hv:aQE vs=val x:=by exact rfl) (hφ:φ x:=by first | exact rfl | exact trivial) (h1 : ∀ h,M.on h→(M2 x).on h:=by first | exact fun _ _=>trivial | ((try dsimp only); exact dV.out)) (h2 : ∀ e,E e→E2 x e:=by first | exact fun _ _=>trivial | ((try dsimp only); exact fK.out)) : ∀ a w,tI N ρ a→St c M E w→bodyPost P fn (fun en w' => ∃ r,en = .returned r∧Post val φ M2 E2 c r w') .ret a w:=bAT (.inr rfl) hres hr.out x hv hφ h1 h2
end
section
variable {P:Program} {N:Nat} {c:Cx} {ops:Array Oper} {Q Q1:Exit→Act→World→Prop} {rest:List Oper} {ρ:Env} {M:Mo} {E:Ow} {v u:Value} {d:Nat} {od:Option Nat} {t t' ty T e:TypeId} {pos:String} {after:Array Edge} {gd:Option (Nat×Bool)} {x y z:Operand} {q p:Code} {α:Type} [bD α] {Y R:Type}
theorem aDC {s:TypeId} {i off b o:Nat} [hf:kJ P s i off] (h:ρ.ev x=some (ptr b o)):Qt P N c ⟨od,.fieldAddr s x i,ty,pos,after,gd⟩ (ptr b (o+off)) ρ M E:=bU hf.out h
theorem aG1 {s:TypeId} {i off b:Nat} [hf:kJ P s i off] (h:ρ.ev x=some (ptr b 0)):Qt P N c ⟨od,.fieldAddr s x i,ty,pos,after,gd⟩ (ptr b off) ρ M E:=by rw [← Nat.zero_add off]; exact bU hf.out h
theorem aG2 {b j:Nat} {cs:List Value} [h1:MF P t] (e1:ρ.ev x=some (ptr b j)) [i:CV E b cs T] (hj:cs[j]? = some v):Qt P N c ⟨od,.load t x,ty,pos,after,gd⟩ v ρ M E:=lB h1.out e1 hj
theorem aBh {b n:Nat} {cs:List Value} [h1:OL P t n] (e1:ρ.ev x=some (ptr b 0)) [i:CV E b cs T] (hn:cs.length=n):Qt P N c ⟨od,.load t x,ty,pos,after,gd⟩ (.agg cs.toArray) ρ M E:=rA h1.out e1 hn
theorem aG3 {s:Sv α} {xs:List Operand} [ht:LQ P t (.slice e)] (h:ρ.lU xs=some [s.val]):Qt P N c ⟨od,.call { callee := .builtin .len,args:=xs.toArray,argTypes := #[t]},ty,pos,after,gd⟩ (i64 s.l.length) ρ M E:=LF ht.out h
theorem V9 {s:List UInt8} {xs:List Operand} [ht:LQ P t .string] (h:ρ.lU xs=some [str s]):Qt P N c ⟨od,.call { callee := .builtin .len,args:=xs.toArray,argTypes := #[t]},ty,pos,after,gd⟩ (i64 s.length) ρ M E:=zS ht.out h
theorem aBi {β:Type} {g:α→β} {s:Sv α} {xs:List Operand} [ht:UnD P t (.slice e)] [hg:PlC α g] (h:ρ.lU xs=some [s.val]):Qt P N c ⟨od,.call { callee := .builtin .len,args:=xs.toArray,argTypes := #[t]},ty,pos,after,gd⟩ (i64 (s.l.map g).length) ρ M E:=vV g ht.out h
theorem V6 [QO] [ht:IfC P t] {z:Er} (h:ρ.ev x=some z.val):Qt P N c ⟨od,.binOp .neq t x (.const .nilIface) t',ty,pos,after,gd⟩ (.bool (!decide (z.pl.isNil=true))) ρ M E:=by
 obtain ⟨ms,h2⟩:=ht.out
 exact aJT h2 h
theorem V5 [QO] [ht:IfC P t] {z:Er} (h:ρ.ev x=some z.val):Qt P N c ⟨od,.binOp .eql t x (.const .nilIface) t',ty,pos,after,gd⟩ (.bool (decide (z.pl.isNil=true))) ρ M E:=by
 obtain ⟨ms,h2⟩:=ht.out
 exact aEe h2 h
theorem V8 [h:MkI P t] (e:ρ.ev x=some v):Qt P N c ⟨od,.makeInterface t x,ty,pos,after,gd⟩ (.iface t v) ρ M E:=by
 obtain ⟨D,h1,h2⟩:=h.out
 exact a3M h1 h2 e
theorem ZV {b j n:Nat} {cs vc cs':List Value} {F:Ow} (e1:ρ.ev x=some (ptr b j)) (e2:ρ.ev y=some v) (k:VL P N c ops Q rest ρ M (Ow.star (bN b cs' T) F)) [hE:pZ E b cs T F] [hv:KC v vc] [hp:aAe cs j vc cs'] [hs:zO P t n] [hn:aKZ vc n]:VL P N c ops Q (⟨none,.store t x y,ty,pos,after,none⟩::rest) ρ M E:=VL.store e1 e2 hv.out.1 hs.out hn.out hv.out.2 hp.out.2 hp.out.1 k
theorem Zcq {A:Option Y} {K:Y→Option R} {r:R} {f:FuncId} {xs:List Operand} {ts:Array TypeId} {args:List Value} {M1:Mo} {val:Y→Value} (hS:A.bind K=some r) (h : ∀ {y},A=some y→Cp P f args M1 (val y)) (k : ∀ y,K y=some r→VL P N c ops Q rest ((d,val y)::ρ) M E) (ha:ρ.lU xs=some args:=by exact rfl) [i:dV M M1] (hd:d < N:=by decide):VL P N c ops Q (⟨some d,.call { callee := .value (.func f),args:=xs.toArray,argTypes:=ts },ty,pos,after,none⟩::rest) ρ M E:=by
 obtain ⟨y,e,hK⟩:=Go.S.cS hS
 exact VL.q (dU (h e) ha (fun _ _=>rfl)) hd (k y hK)
theorem I1 {A:Option Y} {K:Y→Option R} {r:R} {f:FuncId} {xs:List Operand} {ts:Array TypeId} {args:List Value} {M1:Mo} {X:Type} {val:X→Value} {pl:X→Y} {M2:X→Mo} (hS:A.bind K=some r) (h : ∀ {y},A=some y→Ct P f args M1 Ow.emp val (fun x=>y=pl x) M2 (fun _=>Ow.emp)) (k : ∀ x,K (pl x)=some r→VL P N c ops Q rest ((d,val x)::ρ) ((M2 x).and M) E) (ha:ρ.lU xs=some args:=by exact rfl) [i:dV M M1] (hd:d < N:=by decide):VL P N c ops Q (⟨some d,.call { callee := .value (.func f),args:=xs.toArray,argTypes:=ts },ty,pos,after,none⟩::rest) ρ M E:=by
 obtain ⟨y,e,hK⟩:=Go.S.cS hS
 exact VL.jN (h e) ha hd fun x hx=>k x (by subst hx; exact hK)
theorem y7 {A:Option Y} {K:Y→Option R} {r:R} {f:FuncId} {xs:List Operand} {ts:Array TypeId} {args:List Value} {M1:Mo} {E1 F:Ow} {X:Type} {val:X→Value} {pl:X→Y} {M2:X→Mo} {E2:X→Ow} (hS:A.bind K=some r) (h : ∀ {y},A=some y→Ct P f args M1 E1 val (fun x=>y=pl x) M2 E2) (k : ∀ x,K (pl x)=some r→VL P N c ops Q rest ((d,val x)::ρ) ((M2 x).and M) (Ow.star (E2 x) F)) (ha:ρ.lU xs=some args:=by exact rfl) [i:dV M M1] [j:Fo E E1 F] (hd:d < N:=by decide):VL P N c ops Q (⟨some d,.call { callee := .value (.func f),args:=xs.toArray,argTypes:=ts },ty,pos,after,none⟩::rest) ρ M E:=by
 obtain ⟨y,e,hK⟩:=Go.S.cS hS
 exact VL.oE (h e) ha hd fun x hx=>k x (by subst hx; exact hK)
theorem mS {zs:List α} {K:List α→Option R} {r:R} {n:Nat} {parts:List (Nat×Operand)} {xs:List Operand} {vs:List Value} (hS:Go.S.lt zs K=some r) (k : ∀ s:Sv α,K s.l=some r→VL P N c ops Q rest ((d,s.val)::ρ) (s.ok.and M) E) [hu:LQ P t (.slice e)] [hz:KP P e (bD.sz α)] [hp:aC0 parts 0 xs] (hpos:0 < bD.sz α:=by decide)
    (hv:ρ.lU xs=some vs:=by exact rfl) (hc:vs.map (fun v=>v.cells.toList)=zs.map bD.enc:=by exact rfl) (hn:zs.length=n:=by exact rfl) (hs:n*bD.sz α≤16777216:=by decide) (hdeep : ∀ h,M.on h → ∀ z∈zs,(bD.deep z).on h:=by exact fun _ _ _ _=>trivial) (hd:d < N:=by decide) (h0:0 < n:=by decide):VL P N c ops Q (⟨some d,.buildSlice t n parts.toArray,ty,pos,after,none⟩::rest) ρ M E :=
  VL.lit zs hu.out hz.out hpos (congrArg List.toArray hp.out) hv hc hn hs hdeep hd (fun s h=>k s (Go.S.dZ h hS)) h0
theorem HM {s q:Sv α} {K:List α→Option R} {r:R} {xs:List Operand} {bt:Nat} {F:Ow} (hS:Go.S.gd (s.l.length+q.l.length≤4294967296) (Go.S.lt (s.l++q.l) K)=some r) (k : ∀ s':Sv α,K s'.l=some r→VL P N c ops Q rest ((d,s'.val)::ρ) M (Ow.star (s'.own e) F)) [hu:LQ P t (.slice e)] [hi:M6 P e (bD.sz α) bt] (ha:ρ.lU xs=some [s.val,q.val]:=by exact rfl) [hE:Fo E (s.own e) F] [hr:dV M q.ok] (hpos:0 < bD.sz α:=by decide) (hb:bt≤32768:=by decide) (hd:d < N:=by decide) :
 VL P N c ops Q (⟨some d,.call { callee := .builtin .append,args:=xs.toArray,argTypes := #[t,t]},ty,pos,after,none⟩::rest) ρ M E:=by
 obtain ⟨b,h⟩:=Go.S.bM hS
 exact VL.app hu.out hi.out hpos ha hE.out (ap1 b) (ap2 b hb) hd (fun s' h'=>k s' (Go.S.dZ h' h))
theorem aBg {vs:Array Value} {i:Nat} (e:ρ.ev x=some (.tuple vs)) [h:aHe vs i v]:Qt P N c ⟨od,.extract x i,ty,pos,after,gd⟩ v ρ M E:=JO e h.out
theorem aGZ {s:Sv α} {i:Nat} {z:α} [h1:MF P t] (e1:ρ.ev x=some (ptr s.b (s.o+i*bD.sz α))) [hz:ElC s.l i z] (hv:bD.enc z=[v]) [hs:dV M s.ok]:Qt P N c ⟨od,.load t x,ty,pos,after,gd⟩ v ρ M E:=I4 h1.out e1 hz.out hv
theorem aBf {s:Sv α} {i n:Nat} {z:α} [h1:OL P t n] (e1:ρ.ev x=some (ptr s.b (s.o+i*bD.sz α))) [hz:ElC s.l i z] (hn:bD.sz α=n) [hs:dV M s.ok]:Qt P N c ⟨od,.load t x,ty,pos,after,gd⟩ (.agg (bD.enc z).toArray) ρ M E:=nF h1.out hn e1 hz.out
theorem aBe {s:Sv α} {i j:Nat} {z:α} [h1:MF P t] (e1:ρ.ev x=some (ptr s.b (s.o+i*bD.sz α+j))) [hz:ElC s.l i z] (hv:(bD.enc z)[j]? = some v) [hs:dV M s.ok]:Qt P N c ⟨od,.load t x,ty,pos,after,gd⟩ v ρ M E:=aG0 h1.out e1 hz.out hv
theorem yH {s:Sv α} {k1:IntKind} {i:Int} {K:α→Option R} {r:R} (hS:(Go.S.at_ s.l i).bind K=some r) (e1:ρ.ev x=some s.val) (k : ∀ z,ElC s.l i.toNat z→K z=some r→VL P N c ops Q rest ((d,ptr s.b (s.o+i.toNat*bD.sz α))::ρ) M E) [ht:LQ P t (.slice e)] [hi:zO P e (bD.sz α)] [hs:dV M s.ok] (e2:ρ.ev y=some (.int k1 i):=by exact rfl) (hd:d < N:=by decide):VL P N c ops Q (⟨some d,.indexAddr t x y,ty,pos,after,none⟩::rest) ρ M E:=by
 obtain ⟨z,h0,h1,h2⟩:=Go.S.gP hS
 exact VL.q (jA ht.out hi.out e1 e2 h0 (Go.S.bR h0 h1)) hd (k z ⟨h1⟩ h2)
theorem aK1 {j u:Nat} {w:Bool} {s:Sv α} {k1:IntKind} {i:Int} {K:α→Option R} {r:R} (hS:(Go.S.at_ s.l i).bind K=some r) (e1:ρ.ev x=some s.val) (k : ∀ z,ElC s.l i.toNat z→K z=some r→VL P N c ops Q rest ((d,ptr s.b (s.o+i.toNat*bD.sz α))::ρ) M E) [ht:LQ P t (.slice e)] [hi:zO P e (bD.sz α)] [hs:dV M s.ok] (e2:ρ.ev y=some (.int k1 i):=by exact rfl) (hj:(ops[j]?).bind (·.dst)=some u:=by exact rfl) (hb:ρ.get u=some (.bool w):=by exact rfl) (hd:d < N:=by decide):VL P N c ops Q (⟨some d,.indexAddr t x y,ty,pos,after,some (j,w)⟩::rest) ρ M E:=by
 obtain ⟨z,h0,h1,h2⟩:=Go.S.gP hS
 exact VL.gy hj hb (jA ht.out hi.out e1 e2 h0 (Go.S.bR h0 h1)) hd (k z ⟨h1⟩ h2)
theorem aDt {j:Nat} {l:List (Nat×Bool)} {D:List (Nat×Value)} {s:Sv α} {k1:IntKind} {i:Int} {K:α→Option R} {r:R} (hS:(Go.S.at_ s.l i).bind K=some r) (e1:ρ.ev x=some s.val) (k : ∀ z,ElC s.l i.toNat z→K z=some r→VD P N c ops Q l (FK ops j (ptr s.b (s.o+i.toNat*bD.sz α)) D) ((d,ptr s.b (s.o+i.toNat*bD.sz α))::ρ) M E) [ht:LQ P t (.slice e)] [hi:zO P e (bD.sz α)] [hs:dV M s.ok] (hk:ops[j]? = some ⟨some d,.indexAddr t x y,ty,pos,after,none⟩:=by exact rfl) (e2:ρ.ev y=some (.int k1 i):=by exact rfl) (hd:d < N:=by decide):VD P N c ops Q ((j,true)::l) D ρ M E:=by
 obtain ⟨z,h0,h1,h2⟩:=Go.S.gP hS
 exact VD.q hk (jA ht.out hi.out e1 e2 h0 (Go.S.bR h0 h1)) hd (k z ⟨h1⟩ h2)
theorem aU5 {j i' u:Nat} {w:Bool} {l:List (Nat×Bool)} {D:List (Nat×Value)} {s:Sv α} {k1:IntKind} {i:Int} {K:α→Option R} {r:R} (hS:(Go.S.at_ s.l i).bind K=some r) (e1:ρ.ev x=some s.val) (k : ∀ z,ElC s.l i.toNat z→K z=some r→VD P N c ops Q l (FK ops j (ptr s.b (s.o+i.toNat*bD.sz α)) D) ((d,ptr s.b (s.o+i.toNat*bD.sz α))::ρ) M E) [ht:LQ P t (.slice e)] [hi:zO P e (bD.sz α)] [hs:dV M s.ok] (hk:ops[j]? = some ⟨some d,.indexAddr t x y,ty,pos,after,some (i',w)⟩:=by exact rfl) (hj:(ops[i']?).bind (·.dst)=some u:=by exact rfl) (hb:ρ.get u=some (.bool w):=by exact rfl) (e2:ρ.ev y=some (.int k1 i):=by exact rfl) (hd:d < N:=by decide):VD P N c ops Q ((j,true)::l) D ρ M E:=by
 obtain ⟨z,h0,h1,h2⟩:=Go.S.gP hS
 exact VD.gy hk hj hb (jA ht.out hi.out e1 e2 h0 (Go.S.bR h0 h1)) hd (k z ⟨h1⟩ h2)
theorem cI {id:Nat} {l:List Oper} (h:VL P N c l.toArray (Exit.then (q.wp P Q) Q) l ρ M E):VC P N c Q (.seq (.region id l.toArray false) q) ρ M E:=Zq (Zr h)
theorem ZU {op:Op} (k:VL P N c ops Q rest ((d,v)::ρ) M E) (h:Qt P N c ⟨some d,op,ty,pos,after,none⟩ v ρ M E:=by first | exact fQ rfl | exact u7 rfl | exact gqF (by first | exact aG1 rfl | exact aDC rfl) | exact gqL (by first | exact aG2 rfl rfl | exact aGZ rfl rfl | exact aBe rfl rfl | exact aBf rfl rfl | exact aBh rfl rfl) | exact gqB (by first | exact rW rfl rfl | exact FA rfl rfl | exact zC rfl rfl | exact aDD rfl rfl | exact N1 rfl rfl | exact aAN rfl rfl | exact PW rfl rfl | exact N3 rfl rfl | exact V6 rfl | exact V5 rfl | exact l5 rfl rfl (by assumption) | exact N4 rfl rfl (by assumption) | exact aG4 rfl rfl (by assumption)) | exact mH rfl | exact gqC (by first | exact aG3 rfl | exact V9 rfl | exact aBi rfl) | exact gqP (by first | exact JP rfl rfl | exact HD rfl rfl) | exact aBg rfl | exact N2 rfl | exact aBj rfl | exact V8 rfl) (hd:d < N:=by decide):VL P N c ops Q (⟨some d,op,ty,pos,after,none⟩::rest) ρ M E:=VL.q h hd k
theorem ZH {op:Op} {j t:Nat} {w:Bool} (k:VL P N c ops Q rest ((d,v)::ρ) M E) (hj:(ops[j]?).bind (·.dst)=some t:=by exact rfl) (hb:ρ.get t=some (.bool w):=by exact rfl) (h:Qt P N c ⟨some d,op,ty,pos,after,some (j,w)⟩ v ρ M E:=by first | exact fQ rfl | exact u7 rfl | exact gqF (by first | exact aG1 rfl | exact aDC rfl) | exact gqL (by first | exact aG2 rfl rfl | exact aGZ rfl rfl | exact aBe rfl rfl | exact aBf rfl rfl | exact aBh rfl rfl) | exact gqB (by first | exact rW rfl rfl | exact FA rfl rfl | exact zC rfl rfl | exact aDD rfl rfl | exact N1 rfl rfl | exact aAN rfl rfl | exact PW rfl rfl | exact N3 rfl rfl | exact V6 rfl | exact V5 rfl | exact l5 rfl rfl (by assumption) | exact N4 rfl rfl (by assumption) | exact aG4 rfl rfl (by assumption)) | exact mH rfl | exact gqC (by first | exact aG3 rfl | exact V9 rfl | exact aBi rfl) | exact gqP (by first | exact JP rfl rfl | exact HD rfl rfl) | exact aBg rfl | exact N2 rfl | exact aBj rfl | exact V8 rfl) (hd:d < N:=by decide):VL P N c ops Q (⟨some d,op,ty,pos,after,some (j,w)⟩::rest) ρ M E:=VL.gy hj hb h hd k
theorem ZW {k:Nat} {op:Op} {r:List (Nat×Bool)} {D:List (Nat×Value)} (n:VD P N c ops Q r (FK ops k v D) ((d,v)::ρ) M E) (hk:ops[k]? = some ⟨some d,op,ty,pos,after,none⟩:=by exact rfl) (h:Qt P N c ⟨some d,op,ty,pos,after,none⟩ v ρ M E:=by first | exact fQ rfl | exact u7 rfl | exact gqF (by first | exact aG1 rfl | exact aDC rfl) | exact gqL (by first | exact aG2 rfl rfl | exact aGZ rfl rfl | exact aBe rfl rfl | exact aBf rfl rfl | exact aBh rfl rfl) | exact gqB (by first | exact rW rfl rfl | exact FA rfl rfl | exact zC rfl rfl | exact aDD rfl rfl | exact N1 rfl rfl | exact aAN rfl rfl | exact PW rfl rfl | exact N3 rfl rfl | exact V6 rfl | exact V5 rfl | exact l5 rfl rfl (by assumption) | exact N4 rfl rfl (by assumption) | exact aG4 rfl rfl (by assumption)) | exact mH rfl | exact gqC (by first | exact aG3 rfl | exact V9 rfl | exact aBi rfl) | exact gqP (by first | exact JP rfl rfl | exact HD rfl rfl) | exact aBg rfl | exact N2 rfl | exact aBj rfl | exact V8 rfl) (hd:d < N:=by decide):VD P N c ops Q ((k,true)::r) D ρ M E:=VD.q hk h hd n
theorem ZI {op:Op} {k j t:Nat} {w:Bool} {r:List (Nat×Bool)} {D:List (Nat×Value)} (n:VD P N c ops Q r (FK ops k v D) ((d,v)::ρ) M E) (hk:ops[k]? = some ⟨some d,op,ty,pos,after,some (j,w)⟩:=by exact rfl) (hj:(ops[j]?).bind (·.dst)=some t:=by exact rfl) (hb:ρ.get t=some (.bool w):=by exact rfl) (h:Qt P N c ⟨some d,op,ty,pos,after,some (j,w)⟩ v ρ M E:=by first | exact fQ rfl | exact u7 rfl | exact gqF (by first | exact aG1 rfl | exact aDC rfl) | exact gqL (by first | exact aG2 rfl rfl | exact aGZ rfl rfl | exact aBe rfl rfl | exact aBf rfl rfl | exact aBh rfl rfl) | exact gqB (by first | exact rW rfl rfl | exact FA rfl rfl | exact zC rfl rfl | exact aDD rfl rfl | exact N1 rfl rfl | exact aAN rfl rfl | exact PW rfl rfl | exact N3 rfl rfl | exact V6 rfl | exact V5 rfl | exact l5 rfl rfl (by assumption) | exact N4 rfl rfl (by assumption) | exact aG4 rfl rfl (by assumption)) | exact mH rfl | exact gqC (by first | exact aG3 rfl | exact V9 rfl | exact aBi rfl) | exact gqP (by first | exact JP rfl rfl | exact HD rfl rfl) | exact aBg rfl | exact N2 rfl | exact aBj rfl | exact V8 rfl) (hd:d < N:=by decide):VD P N c ops Q ((k,true)::r) D ρ M E:=VD.gy hk hj hb h hd n
theorem uD {D:List (Nat×Value)} (h:VC P N c Q1 q ρ M E) (e : ∀ a w,q.wp P Q1 a w→Q .normal a w:=by exact fun _ _ h=>h):VD P N c ops Q [] D ρ M E:=VD.to e h
end
structure Hd (b:Prop):Prop where
  out:b
theorem ZX {a b:Prop} (k:b) (h:Hd b→a:=by
 intro k
 repeat (first | (refine gO ?_; first | refine Zm ?_ | refine Za ?_ | refine ZU ?_) | (refine gVC ?_; first | refine cI ?_ | refine Zk ?_) | refine Zl ?_ | (refine gG ?_; first | refine Zn ?_ | refine Zg ?_ | refine ZH ?_) | (refine gVD ?_; first | refine ZW ?_ | refine ZI ?_ | refine Zd ?_ | refine uD ?_) | refine ZV rfl rfl ?_)
 exact k.out):a:=h ⟨k⟩
theorem ZO {a b:Prop} (k:b) (h:Hd b→a:=by
 intro k
 repeat (first | (refine gO ?_; first | refine Zm ?_ | refine Za ?_ | refine ZU ?_) | (refine gG ?_; first | refine Zn ?_ | refine Zg ?_ | refine ZH ?_) | refine ZV rfl rfl ?_)
 exact k.out):a:=h ⟨k⟩
theorem ZD {a b:Prop} (k:b) (h:Hd b→a:=by
 intro k
 repeat (first | refine ZW ?_ | refine ZI ?_ | refine Zd ?_)
 exact k.out):a:=h ⟨k⟩
section
variable {P:Program} {N:Nat} {c:Cx} {Q:Exit→Act→World→Prop} {p q:Code} {ρ ρ0:Env} {M:Mo} {E F:Ow} {S T R:Type} {r:R} {b:Nat} {cs:List Value} {Ty:TypeId}
open Go.S (jn)
theorem VC.cJ {K:T→Option R} {G:(T→Option R)→Option R} (l:List Nat) (pu:S→T) (va:S→Env→Env) [LP l ρ ρ0] (hS:jn K G=some r)
    (h1 : ∀ k:T→Option R,G k=some r→VC P N c (Exit.then (Any (fun s=>k (pu s)=some r) P N c (fun s=>va s ρ0) (fun _=>Mo.tt.and M) (fun _=>E)) Q) p ρ M E) (h2 : ∀ s,K (pu s)=some r→VC P N c Q q (va s ρ0) (Mo.tt.and M) E):VC P N c Q (.seq p q) ρ M E:=VC.u5 pu (fun s=>va s ρ0) (fun _=>Mo.tt) (fun _=>E) hS h1 h2
theorem VC.cJm {K:T→Option R} {G:(T→Option R)→Option R} (l:List Nat) (pu:S→T) (va:S→Env→Env) (Mx:S→Mo) [LP l ρ ρ0] (hS:jn K G=some r)
    (h1 : ∀ k:T→Option R,G k=some r→VC P N c (Exit.then (Any (fun s=>k (pu s)=some r) P N c (fun s=>va s ρ0) (fun s=>(Mx s).and M) (fun _=>E)) Q) p ρ M E) (h2 : ∀ s,K (pu s)=some r→VC P N c Q q (va s ρ0) ((Mx s).and M) E):VC P N c Q (.seq p q) ρ M E:=VC.u5 pu (fun s=>va s ρ0) Mx (fun _=>E) hS h1 h2
theorem VC.OM {K:T→Option R} {G:(T→Option R)→Option R} (l:List Nat) (pu:S→T) (va:S→Env→Env) (Mx:S→Mo) (b:Nat) (cs':S→List Value) [LP l ρ ρ0] [pZ E b cs Ty F] (hS:jn K G=some r)
    (h1 : ∀ k:T→Option R,G k=some r→VC P N c (Exit.then (Any (fun s=>k (pu s)=some r) P N c (fun s=>va s ρ0) (fun s=>(Mx s).and M) (fun s=>Ow.star (bN b (cs' s) Ty) F)) Q) p ρ M E) (h2 : ∀ s,K (pu s)=some r→VC P N c Q q (va s ρ0) ((Mx s).and M) (Ow.star (bN b (cs' s) Ty) F)):VC P N c Q (.seq p q) ρ M E:=VC.u5 pu (fun s=>va s ρ0) Mx (fun s=>Ow.star (bN b (cs' s) Ty) F) hS h1 h2
theorem VC.iJ {B:T→Option (T⊕R)} (l:List Nat) (pu:S→T) (va:S→Env→Env) [LP l ρ ρ0] (s0:S) (ks:List Nat) (he:Go.S.iter B (pu s0)=some r)
    (round : ∀ s m y,B (pu s)=some y→Go.S.Step B m r y→VC P N c (Exit.then (Rnd B r m pu P N c (fun s=>va s ρ0) (fun _=>Mo.tt) M (fun _=>E)) Q) p (va s ρ0) (Mo.tt.and M) E) (hρ:ρ.keep ks=va s0 ρ0:=by exact rfl):VC P N c Q (.loop p) ρ M E :=
  VC.iter pu (fun s=>va s ρ0) (fun _=>Mo.tt) (fun _=>E) s0 ks he hρ (i:=⟨fun _ _=>trivial⟩) (l:=⟨fun _ h=>h⟩) round
theorem VC.iJm {B:T→Option (T⊕R)} (l:List Nat) (pu:S→T) (va:S→Env→Env) (Mx:S→Mo) [LP l ρ ρ0] (s0:S) (ks:List Nat) (he:Go.S.iter B (pu s0)=some r) [i:dV M (Mx s0)]
    (round : ∀ s m y,B (pu s)=some y→Go.S.Step B m r y→VC P N c (Exit.then (Rnd B r m pu P N c (fun s=>va s ρ0) Mx M (fun _=>E)) Q) p (va s ρ0) ((Mx s).and M) E) (hρ:ρ.keep ks=va s0 ρ0:=by exact rfl):VC P N c Q (.loop p) ρ M E :=
  VC.iter pu (fun s=>va s ρ0) Mx (fun _=>E) s0 ks he hρ (l:=⟨fun _ h=>h⟩) round
theorem VC.iJb {B:T→Option (T⊕R)} (l:List Nat) (pu:S→T) (va:S→Env→Env) (Mx:S→Mo) (b:Nat) (cs':S→List Value) [LP l ρ ρ0] [u:pZ E b cs Ty F] (s0:S) (ks:List Nat) (he:Go.S.iter B (pu s0)=some r) [i:dV M (Mx s0)]
    (round : ∀ s m y,B (pu s)=some y→Go.S.Step B m r y→VC P N c (Exit.then (Rnd B r m pu P N c (fun s=>va s ρ0) Mx M (fun s=>Ow.star (bN b (cs' s) Ty) F)) Q) p (va s ρ0) ((Mx s).and M) (Ow.star (bN b (cs' s) Ty) F)) (hc:cs=cs' s0:=by exact rfl) (hρ:ρ.keep ks=va s0 ρ0:=by exact rfl):VC P N c Q (.loop p) ρ M E :=
  VC.iter pu (fun s=>va s ρ0) Mx (fun s=>Ow.star (bN b (cs' s) Ty) F) s0 ks he hρ (l:=⟨by subst hc; exact u.out⟩) round
end
end Go.V
end

section
namespace Go.V
open Go.RowKit
open Go.S (gd at_ lt jn up go Step xH)
def uC (ρ ρ':Env):Prop := ∀ t v,ρ'.get t=some v→ρ.get t=some v
theorem uC.n {ρ:Env}:uC ρ []:=fun _ _ h=>by cases h
theorem uC.c {ρ r:Env} {t:Nat} {v:Value} (h:ρ.get t=some v) (k:uC ρ r):uC ρ ((t,v)::r):=fun t' v' g=>by
  simp only [Env.get] at g
  cases hk:Nat.beq t t' with
  | true=>rw [hk] at g; cases g; have:=Nat.eq_of_beq_eq_true hk; subst this; exact h
  | false=>rw [hk] at g; exact k t' v' g
class EvC (ρ:Env) (x:Operand) (v:outParam Value):Prop where out:ρ.ev x=some v
instance {ρ:Env} {t:Nat} {v:Value} [h:I7 ρ t v]:EvC ρ (.tmp t) v:=⟨h.out⟩
instance {ρ:Env} {v:Value}:EvC ρ (.const v) v:=⟨rfl⟩
def bl (n m:Nat):Array Bool:=((List.range n).map fun i=>m.testBit i).toArray
structure ZP (P:Program) (N:Nat) (c:Cx) (ops:Array Oper) (ks:List Nat) (D:List (Nat×Value)) (ρ:Env) (M:Mo) (E:Ow):Prop where
  out:bT P N c ops D ρ M E
section
theorem aM8 {P:Program} {N:Nat} {c:Cx} {ρ:Env} {M:Mo} {E:Ow} {v:Value} {od:Option Nat} {t ty e:TypeId} {x:Operand} {pos:String} {after:Array Edge} {gd:Option (Nat×Bool)} {α:Type} [bD α] {s:Sv α} {i j:Nat} {z:α} [h1:MF P t] (e1:ρ.ev x=some (ptr s.b (s.o+i*bD.sz α+j))) [hz:ElC s.l i z] [hs:MB E s e] (hv:(bD.enc z)[j]? = some v):Qt P N c ⟨od,.load t x,ty,pos,after,gd⟩ v ρ M E:=zR h1.out e1 hz.out hv
variable {P:Program} {N:Nat} {c:Cx} {ops:Array Oper} {Q:Exit→Act→World→Prop} {ρ:Env} {M:Mo} {E:Ow} {v:Value} {od:Option Nat} {op:Op} {ty:TypeId} {pos:String} {after:Array Edge} {k:Nat} {ks:List Nat} {D D':List (Nat×Value)}
theorem Pz:ZP P N c ops [] [] ρ M E:=⟨bT.nil⟩
theorem Pk (k:Nat) (n:ZP P N c ops ks D ρ M E) (hk:ops[k]? = some ⟨od,op,ty,pos,after,none⟩:=by exact rfl) (h:Qt P N c ⟨od,op,ty,pos,after,none⟩ v ρ M E:=by first | exact fQ rfl | exact u7 rfl | exact gqF (by first | exact aG1 rfl | exact aDC rfl) | exact gqL (by first | exact aG2 rfl rfl | exact aGZ rfl rfl | exact aBe rfl rfl | exact aBf rfl rfl | exact aBh rfl rfl | exact aM8 rfl rfl) | exact gqB (by first | exact rW rfl rfl | exact FA rfl rfl | exact zC rfl rfl | exact aDD rfl rfl | exact N1 rfl rfl | exact aAN rfl rfl | exact PW rfl rfl | exact N3 rfl rfl | exact V6 rfl | exact V5 rfl | exact l5 rfl rfl (by assumption) | exact N4 rfl rfl (by assumption) | exact aG4 rfl rfl (by assumption)) | exact mH rfl | exact gqC (by first | exact aG3 rfl | exact V9 rfl | exact aBi rfl) | exact gqP (by first | exact JP rfl rfl | exact HD rfl rfl) | exact aBg rfl | exact N2 rfl | exact aBj rfl | exact V8 rfl):ZP P N c ops (k::ks) ((k,v)::D) ρ M E:=⟨bT.cons hk h n.out⟩
theorem eO {r:List (Nat×Bool)} {R:List (Nat×Value)→Act→World→Prop} (hp:ZP P N c ops ks D' ρ M E) (h:I0 P N c ops R r D' ρ M E) (hD:iG ops k D=D':=by kernel_rfl):VL P N c ops (toR P N c ops fun a w=>(∀ p∈iG ops k D,YI P ops p a w)∧wpD P ops R r (iG ops k D) a w) [] ρ M E:=VL.back hD hp.out h
theorem zU {n:Nat} {listed:Array Bool} (listed':Array Bool) (hp:ZP P N c ops ks D' ρ M E) (h:VG P N c ops Q n D' listed' ρ M E) (hD:iG ops k D=D':=by kernel_rfl) (hL:listed.setIfInBounds k true=listed':=by kernel_rfl):VL P N c ops (toR P N c ops fun a w=>(∀ p∈iG ops k D,YI P ops p a w)∧JZ P ops Q n (iG ops k D) (listed.setIfInBounds k true) a w) [] ρ M E:=VL.E8 hp.out hD hL h
end
class zK (P:Program) (T:TypeId) (cs:outParam (List Value)):Prop where out:((P.info? T).bind (·.zero)).map (·.cells)=some cs.toArray
section
variable {P:Program} {N:Nat} {c:Cx} {ops:Array Oper} {Q Q1:Exit→Act→World→Prop} {rest:List Oper} {ρ:Env} {M M0:Mo} {E F:Ow} {v u:Value} {d:Nat} {od:Option Nat} {t:Nat} {ty T e:TypeId} {cs:List Value} {pos:String} {after:Array Edge} {gd':Option (Nat×Bool)} {x y z:Operand} {q p:Code} {α:Type} [bD α] {Y R S S1:Type}
theorem dJ [h:zK P T cs] (k : ∀ b:Nat,VL P N c ops Q rest ((d,ptr b 0)::ρ) M (Ow.star (bN b cs T) E)) (hd:d < N:=by decide):VL P N c ops Q (⟨some d,.alloc T,ty,pos,after,none⟩::rest) ρ M E:=VL.alloc h.out hd k
theorem kU [e:EvC ρ x v] [h:KC v cs] (k : ∀ b:Nat,VL P N c ops Q rest ((d,ptr b 0)::ρ) M (Ow.star (bN b cs T) E)) (hd:d < N:=by decide):VL P N c ops Q (⟨some d,.box T x,ty,pos,after,none⟩::rest) ρ M E:=VL.box e.out h.out.1 hd k
section
variable {φ:S→Prop} {ρ':S→Env} {Mx:S→Mo} {E':S→Ow} {s:S}
theorem VL.mtA (hq : ∀ a w,Any φ P N c ρ' (fun s=>(Mx s).and M0) E' a w→Q .normal a w) (hφ:φ s) [i:dV M (Mx s)] [j:Ext M0 M] [l:fK E (E' s)] (e:uC ρ (ρ' s):=by repeat (first | exact uC.n | refine uC.c rfl ?_)):VL P N c ops Q [] ρ M E :=
  VL.nil fun a w g y=>hq a w ⟨s,hφ,g.sub e,y.mono (fun h m=>⟨i.out h m,j.out h m⟩) l.out⟩
theorem VD.mtA {D:List (Nat×Value)} (hq : ∀ a w,Any φ P N c ρ' (fun s=>(Mx s).and M0) E' a w→Q .normal a w) (hφ:φ s) [i:dV M (Mx s)] [j:Ext M0 M] [l:fK E (E' s)] (e:uC ρ (ρ' s):=by repeat (first | exact uC.n | refine uC.c rfl ?_)):VD P N c ops Q [] D ρ M E :=
  VD.nil fun a w g y=>hq a w ⟨s,hφ,g.sub e,y.mono (fun h m=>⟨i.out h m,j.out h m⟩) l.out⟩
theorem VC.RR (hq : ∀ a w,Any φ P N c ρ' (fun s=>(Mx s).and M0) E' a w→Q .normal a w) (hφ:φ s) [i:dV M (Mx s)] [j:Ext M0 M] [l:fK E (E' s)] (e:uC ρ (ρ' s):=by repeat (first | exact uC.n | refine uC.c rfl ?_)):VC P N c Q .skip ρ M E :=
  VC.skip fun a w g y=>hq a w ⟨s,hφ,g.sub e,y.mono (fun h m=>⟨i.out h m,j.out h m⟩) l.out⟩
theorem VC.Q2 {id:Nat} (hq : ∀ a w,Any φ P N c ρ' (fun s=>(Mx s).and M0) E' a w→Q (.exit id) a w) (hφ:φ s) [i:dV M (Mx s)] [j:Ext M0 M] [l:fK E (E' s)] (e:uC ρ (ρ' s):=by repeat (first | exact uC.n | refine uC.c rfl ?_)):VC P N c Q (.exit id) ρ M E :=
  VC.exit fun a w g y=>hq a w ⟨s,hφ,g.sub e,y.mono (fun h m=>⟨i.out h m,j.out h m⟩) l.out⟩
end
section
variable {B:Y→Option (Y⊕R)} {r:R} {m:Nat} {pu:S→Y} {ρ':S→Env} {Mx:S→Mo} {E':S→Ow} {s:S} {y:Y⊕R}
theorem VL.aBo (hq : ∀ a w,Rnd B r m pu P N c ρ' Mx M0 E' a w→Q .normal a w) (hS:go (pu s)=some y) (hK:Step B m r y) [i:dV M (Mx s)] [j:Ext M0 M] [l:fK E (E' s)] (e:uC ρ (ρ' s):=by repeat (first | exact uC.n | refine uC.c rfl ?_)):VL P N c ops Q [] ρ M E :=
  VL.nil fun a w g st=>hq a w ⟨s,m,go2 hS hK,Nat.lt_succ_self m,g.sub e,st.mono (fun h m=>⟨i.out h m,j.out h m⟩) l.out⟩
theorem VD.aBo {D:List (Nat×Value)} (hq : ∀ a w,Rnd B r m pu P N c ρ' Mx M0 E' a w→Q .normal a w) (hS:go (pu s)=some y) (hK:Step B m r y) [i:dV M (Mx s)] [j:Ext M0 M] [l:fK E (E' s)] (e:uC ρ (ρ' s):=by repeat (first | exact uC.n | refine uC.c rfl ?_)):VD P N c ops Q [] D ρ M E :=
  VD.nil fun a w g st=>hq a w ⟨s,m,go2 hS hK,Nat.lt_succ_self m,g.sub e,st.mono (fun h m=>⟨i.out h m,j.out h m⟩) l.out⟩
theorem VC.SX (hq : ∀ a w,Rnd B r m pu P N c ρ' Mx M0 E' a w→Q .normal a w) (hS:go (pu s)=some y) (hK:Step B m r y) [i:dV M (Mx s)] [j:Ext M0 M] [l:fK E (E' s)] (e:uC ρ (ρ' s):=by repeat (first | exact uC.n | refine uC.c rfl ?_)):VC P N c Q .skip ρ M E :=
  VC.skip fun a w g st=>hq a w ⟨s,m,go2 hS hK,Nat.lt_succ_self m,g.sub e,st.mono (fun h m=>⟨i.out h m,j.out h m⟩) l.out⟩
theorem VC.SG {id:Nat} (hq : ∀ a w,Rnd B r m pu P N c ρ' Mx M0 E' a w→Q (.exit id) a w) (hS:go (pu s)=some y) (hK:Step B m r y) [i:dV M (Mx s)] [j:Ext M0 M] [l:fK E (E' s)] (e:uC ρ (ρ' s):=by repeat (first | exact uC.n | refine uC.c rfl ?_)):VC P N c Q (.exit id) ρ M E :=
  VC.exit fun a w g st=>hq a w ⟨s,m,go2 hS hK,Nat.lt_succ_self m,g.sub e,st.mono (fun h m=>⟨i.out h m,j.out h m⟩) l.out⟩
end
section
variable {φ:Prop} [Decidable φ] {A B:Option R} {r:R} {b:Bool} {op:Op} {j:Nat} {w:Bool}
theorem ZsA (hS:(if φ then A else B)=some r) (h1:φ→A=some r→VL P N c ops Q (⟨od,op,ty,pos,after,some (j,w)⟩::rest) ((t,.bool true)::ρ) M E) (h2 : ¬ φ→B=some r→VL P N c ops Q (⟨od,op,ty,pos,after,some (j,w)⟩::rest) ((t,.bool false)::ρ) M E) (hj:(ops[j]?).bind (·.dst)=some t:=by exact rfl) (e:ρ.get t=some (.bool (decide φ)):=by exact rfl):VL P N c ops Q (⟨od,op,ty,pos,after,some (j,w)⟩::rest) ρ M E:=nT t hS h1 h2 e
theorem ZsN (hS:(if φ then A else B)=some r) (h1 : ¬ φ→B=some r→VL P N c ops Q (⟨od,op,ty,pos,after,some (j,w)⟩::rest) ((t,.bool true)::ρ) M E) (h2:φ→A=some r→VL P N c ops Q (⟨od,op,ty,pos,after,some (j,w)⟩::rest) ((t,.bool false)::ρ) M E) (hj:(ops[j]?).bind (·.dst)=some t:=by exact rfl) (e:ρ.get t=some (.bool (!decide φ)):=by exact rfl):VL P N c ops Q (⟨od,op,ty,pos,after,some (j,w)⟩::rest) ρ M E:=UR t hS h1 h2 e
theorem ZsB (hS:(if b=true then A else B)=some r) (h1:b=true→A=some r→VL P N c ops Q (⟨od,op,ty,pos,after,some (j,w)⟩::rest) ((t,.bool true)::ρ) M E) (h2:b=false→B=some r→VL P N c ops Q (⟨od,op,ty,pos,after,some (j,w)⟩::rest) ((t,.bool false)::ρ) M E) (hj:(ops[j]?).bind (·.dst)=some t:=by exact rfl) (e:ρ.get t=some (.bool b):=by exact rfl):VL P N c ops Q (⟨od,op,ty,pos,after,some (j,w)⟩::rest) ρ M E:=xZ t hS h1 h2 e
end
end
class gF (P:Program) (f:FuncId) (args:List Value) {Y:Type} (A:Option Y) (M1:outParam Mo) (val:outParam (Y→Value)):Prop where out : ∀ {y},A=some y→Cp P f args M1 (val y)
class jZ (P:Program) (f:FuncId) (args:List Value) {Y:Type} (A:Option Y) (M1:outParam Mo) {X:outParam Type} (val:outParam (X→Value)) (pl:outParam (X→Y)) (M2:outParam (X→Mo)):Prop where out : ∀ {y},A=some y→Ct P f args M1 Ow.emp val (fun x=>y=pl x) M2 (fun _=>Ow.emp)
class vL (P:Program) (f:FuncId) (args:List Value) {Y:Type} (A:Option Y) (M1:outParam Mo) (E1:outParam Ow) {X:outParam Type} (val:outParam (X→Value)) (pl:outParam (X→Y)) (M2:outParam (X→Mo)) (E2:outParam (X→Ow)):Prop where out : ∀ {y},A=some y→Ct P f args M1 E1 val (fun x=>y=pl x) M2 E2
section
variable {P:Program} {N:Nat} {c:Cx} {ops:Array Oper} {Q:Exit→Act→World→Prop} {rest:List Oper} {ρ:Env} {M M1:Mo} {E E1 F:Ow} {d f:Nat} {ty:TypeId} {pos:String} {after:Array Edge} {X Y R:Type} {A:Option Y} {K:Y→Option R} {r:R} {xs:List Operand} {ts:Array TypeId} {args:List Value} {fn:Func} {code:Code}
theorem gM {val:Y→Value} (hf:P.funcs[f]? = some fn) (hn:fn.ntmps=N) (h : ∀ r,A=some r → ∀ c,VC P N c (bodyPost P fn fun en w' => ∃ z,en = .returned z∧Post (X:=Unit) (fun _=>val r) (fun _=>True) (fun _=>Mo.tt) (fun _=>Ow.emp) c z w') code (Env.of 0 args) M1 Ow.emp) (hb:fn.body=some code:=by exact rfl) (hnm:(fn.name == "runtime.NumGoroutine")=false:=by kernel_rfl) (hl:args.length≤N:=by simp):gF P f args A M1 val:=⟨fun e=>Zo hf hn (h _ e) hb hnm hl⟩
theorem j6 {val:X→Value} {pl:X→Y} {M2:X→Mo} (hf:P.funcs[f]? = some fn) (hn:fn.ntmps=N) (h : ∀ r,A=some r → ∀ c,VC P N c (bodyPost P fn fun en w' => ∃ z,en = .returned z∧Post val (fun x=>r=pl x) M2 (fun _=>Ow.emp) c z w') code (Env.of 0 args) M1 Ow.emp) (hb:fn.body=some code:=by exact rfl) (hnm:(fn.name == "runtime.NumGoroutine")=false:=by kernel_rfl) (hl:args.length≤N:=by simp):jZ P f args A M1 val pl M2:=⟨fun e=>Zo hf hn (h _ e) hb hnm hl⟩
theorem v8 {val:X→Value} {pl:X→Y} {M2:X→Mo} {E2:X→Ow} (hf:P.funcs[f]? = some fn) (hn:fn.ntmps=N) (h : ∀ r,A=some r → ∀ c,VC P N c (bodyPost P fn fun en w' => ∃ z,en = .returned z∧Post val (fun x=>r=pl x) M2 E2 c z w') code (Env.of 0 args) M1 E1) (hb:fn.body=some code:=by exact rfl) (hnm:(fn.name == "runtime.NumGoroutine")=false:=by kernel_rfl) (hl:args.length≤N:=by simp):vL P f args A M1 E1 val pl M2 E2:=⟨fun e=>Zo hf hn (h _ e) hb hnm hl⟩
theorem jK {val:Y→Value} (hS:A.bind K=some r) (ha:ρ.lU xs=some args) [h:gF P f args A M1 val] (k : ∀ y,K y=some r→VL P N c ops Q rest ((d,val y)::ρ) M E) [i:dV M M1] (hd:d < N:=by decide):VL P N c ops Q (⟨some d,.call { callee := .value (.func f),args:=xs.toArray,argTypes:=ts },ty,pos,after,none⟩::rest) ρ M E:=Zcq hS h.out k ha (hd:=hd)
theorem fR {val:X→Value} {pl:X→Y} {M2:X→Mo} (hS:A.bind K=some r) (ha:ρ.lU xs=some args) [h:jZ P f args A M1 val pl M2] (k : ∀ x,K (pl x)=some r→VL P N c ops Q rest ((d,val x)::ρ) ((M2 x).and M) E) [i:dV M M1] (hd:d < N:=by decide):VL P N c ops Q (⟨some d,.call { callee := .value (.func f),args:=xs.toArray,argTypes:=ts },ty,pos,after,none⟩::rest) ρ M E:=I1 hS h.out k ha (hd:=hd)
theorem fM {val:X→Value} {pl:X→Y} {M2:X→Mo} {E2:X→Ow} (hS:A.bind K=some r) (ha:ρ.lU xs=some args) [h:vL P f args A M1 E1 val pl M2 E2] (k : ∀ x,K (pl x)=some r→VL P N c ops Q rest ((d,val x)::ρ) ((M2 x).and M) (Ow.star (E2 x) F)) [i:dV M M1] [j:Fo E E1 F] (hd:d < N:=by decide):VL P N c ops Q (⟨some d,.call { callee := .value (.func f),args:=xs.toArray,argTypes:=ts },ty,pos,after,none⟩::rest) ρ M E:=y7 hS h.out k ha (hd:=hd)
end
theorem noS {R:Type} {r:R} {a:Prop} (h:(none:Option R)=some r):a:=by cases h
theorem ZE {R:Type} {A:Option R} {r:R} {a:Prop} (hS:A=some r) (h:A=some r→a:=by
 intro hS
 repeat' (first | (refine gO ?_; first | refine Zm ?_ | refine Za ?_ | refine ZU ?_ | refine dJ fun _ => ?_ | refine kU fun _ => ?_ | refine mS hS fun _ hS => ?_ | refine yH hS rfl fun _ _ hS => ?_ | (refine gCa ?_; first | refine jK hS rfl (fun _ hS => ?_) | refine fR hS rfl (fun _ hS => ?_) | refine fM hS rfl (fun _ hS => ?_) | refine HM hS fun _ hS => ?_) | replace hS:=kS hS (by assumption) | obtain ⟨_,hS⟩:=Go.S.bM hS) | (refine gVC ?_; first | refine cI ?_ | refine Zq ?_ | refine Zr ?_ | refine Zb ?_ | refine Zk ?_ | refine Zx ?_ | refine Zc hS (fun _ hS => ?_) (fun _ hS => ?_) | refine iZ hS (fun _ hS => ?_) (fun _ hS => ?_) | refine oD hS (fun _ hS => ?_) (fun _ hS => ?_) | (cases hS; first | exact Ze | exact VC.ret (Z1 _) | exact VC.ret (Z1 ⟨none,0,[]⟩) | exact VC.ret (Z1 .nil) | exact VC.ret (Z1 ()) | exact VC.ret (Z2 ()) | exact VC.ret (Z2 (_,_)) | exact VC.ret (Z2 (_,.nil)) | exact VC.ret (Z2 (⟨none,0,[]⟩,_)) | exact VC.ret (Z2 (⟨none,0,[]⟩,.nil)) | exact VC.ret (Z2 (_,_,_)) | exact VC.ret (Z4 () rfl) | exact VC.ret (Z4 _ rfl) | exact VC.ret (Z4 (_,_) rfl) | exact VC.ret (Z4 (_,.nil) rfl) | exact VC.ret (Z4 (_,Er.no _) rfl) | exact VC.ret (Z4 (⟨none,0,[]⟩,_) rfl) | exact VC.ret (Z4 (_,_,_) rfl) | exact VC.ret (Z4 (_,_,.nil) rfl) | exact VC.ret (Z4 (_,_,Er.no _) rfl)) | exact VC.Q2 (fun _ _ h=>h) hS | exact VC.Q2 (s:=()) (fun _ _ h=>h) hS | exact VC.Q2 (s:=(_,_)) (fun _ _ h=>h) hS | exact VC.Q2 (s:=(_,_,_)) (fun _ _ h=>h) hS | exact VC.Q2 (s:=(_,_,_,_)) (fun _ _ h=>h) hS | exact VC.RR (fun _ _ h=>h) hS | exact VC.RR (s:=()) (fun _ _ h=>h) hS | exact VC.RR (s:=(_,_)) (fun _ _ h=>h) hS | exact VC.RR (s:=(_,_,_)) (fun _ _ h=>h) hS | exact VC.RR (s:=(_,_,_,_)) (fun _ _ h=>h) hS | exact VC.SG (fun _ _ h=>h) hS (by assumption) | exact VC.SG (s:=(_,_)) (fun _ _ h=>h) hS (by assumption) | exact VC.SG (s:=(_,_,_)) (fun _ _ h=>h) hS (by assumption) | exact VC.SG (s:=(_,_,_,_)) (fun _ _ h=>h) hS (by assumption) | exact VC.SX (fun _ _ h=>h) hS (by assumption) | exact VC.SX (s:=(_,_)) (fun _ _ h=>h) hS (by assumption) | exact VC.SX (s:=(_,_,_)) (fun _ _ h=>h) hS (by assumption) | exact VC.SX (s:=(_,_,_,_)) (fun _ _ h=>h) hS (by assumption) | replace hS:=kS hS (by assumption) | obtain ⟨_,hS⟩:=Go.S.bM hS) | (refine gN ?_; first | refine Zl ?_ | exact VL.mtA (fun _ _ h=>h) hS | exact VL.mtA (s:=()) (fun _ _ h=>h) hS | exact VL.mtA (s:=(_,_)) (fun _ _ h=>h) hS | exact VL.mtA (s:=(_,_,_)) (fun _ _ h=>h) hS | exact VL.mtA (s:=(_,_,_,_)) (fun _ _ h=>h) hS | exact VL.aBo (fun _ _ h=>h) hS (by assumption) | exact VL.aBo (s:=(_,_)) (fun _ _ h=>h) hS (by assumption) | exact VL.aBo (s:=(_,_,_)) (fun _ _ h=>h) hS (by assumption) | exact VL.aBo (s:=(_,_,_,_)) (fun _ _ h=>h) hS (by assumption) | replace hS:=kS hS (by assumption) | obtain ⟨_,hS⟩:=Go.S.bM hS) | refine ZV rfl rfl ?_ | (refine gG ?_; first | refine Zn ?_ | refine Zg ?_ | refine ZH ?_ | refine VL.gu rfl rfl (by decide) ?_ | refine ZsA hS (fun _ hS => ?_) (fun _ hS => ?_) | refine ZsB hS (fun _ hS => ?_) (fun _ hS => ?_) | refine ZsN hS (fun _ hS => ?_) (fun _ hS => ?_) | refine aK1 hS rfl fun _ _ hS => ?_ | replace hS:=kS hS (by assumption) | obtain ⟨_,hS⟩:=Go.S.bM hS) | (refine gVD ?_; first | refine ZW ?_ | refine ZI ?_ | refine Zd ?_ | refine VD.gu rfl rfl rfl (by decide) ?_ | refine uD ?_ | refine aDt hS rfl fun _ _ hS => ?_ | refine aU5 hS rfl fun _ _ hS => ?_ | exact VD.mtA (fun _ _ h=>h) hS | exact VD.mtA (s:=()) (fun _ _ h=>h) hS | exact VD.mtA (s:=(_,_)) (fun _ _ h=>h) hS | exact VD.mtA (s:=(_,_,_)) (fun _ _ h=>h) hS | exact VD.mtA (s:=(_,_,_,_)) (fun _ _ h=>h) hS | exact VD.aBo (fun _ _ h=>h) hS (by assumption) | exact VD.aBo (s:=(_,_)) (fun _ _ h=>h) hS (by assumption) | exact VD.aBo (s:=(_,_,_)) (fun _ _ h=>h) hS (by assumption) | exact VD.aBo (s:=(_,_,_,_)) (fun _ _ h=>h) hS (by assumption) | replace hS:=kS hS (by assumption) | obtain ⟨_,hS⟩:=Go.S.bM hS) | exact noS hS)):a:=h hS
end Go.V
end

section
set_option linter.unusedVariables false
namespace Go.V
open Go.RowKit Go.S
abbrev Ck:=jF
def PN (op:Bool) (x:Ck):Ow:=match op with
  | true=>Ow.star (x.base.own 9) (Ow.star (x.ours.own 9) (Ow.star (x.cU.own 9) (x.out.own 9)))
  | false=>Ow.emp
instance (priority:=1950) (E:Ow) (x:Ck):fK E (PN false x):=⟨fun _ _=>trivial⟩
instance (priority:=1950) (E:Ow) (x:Ck):Fo E (PN false x) E:=⟨nZ.none⟩
def MA (l:List Ck):Mo:=⟨fun h => ∀ x∈l,x.m.on h,fun k g x hx=>x.m.up k (g x hx)⟩
instance (M:Mo):dV M (MA []):=⟨fun _ _ z hz=>by cases hz⟩
def aNn:Ck:=⟨⟨none,0,[]⟩,⟨none,0,[]⟩,⟨none,0,[]⟩,false,⟨none,0,[]⟩⟩
structure Rel (s:Sh.E6) (o:Sv Ck) (fr:List Ck) (x:Ck):Prop where
  yes:s.op=true→o.l=fr++[x]
  no:s.op=false→fr=o.l∧x=aNn
  out:o.l.map jF.pl=s.out
theorem MA.snoc {M:Mo} {fr:List Ck} {x:Ck} (h : ∀ h,M.on h→(MA fr).on h) (hx : ∀ h,M.on h→x.m.on h) : ∀ h,M.on h→(MA (fr++[x])).on h:=fun hp m y hy=>by
  rcases List.mem_append.1 hy with q | q
  . exact h hp m y q
  . cases List.mem_singleton.1 q; exact hx hp m
theorem VC.aPC {P:Program} {N:Nat} {c:Cx} {Q:Exit→Act→World→Prop} {ρ:Env} {M:Mo} {E F:Ow} {k:Code} {s:Sh.E6} {o:Sv Ck} {fr:List Ck} {x:Ck} (op:Bool) (hop:s.op=op) (hR:Rel s o fr x) [i:dV M (MA fr)] [j:Fo E (PN op x) F] (g:VC P N c Q k ρ ((MA o.l).and M) F):VC P N c Q k ρ M E :=
  VC.freeze j.out (fun a b dd m hA=>by
    have hf:(MA fr).on (a.join b):=(MA fr).up (Hp.cV a b) (i.out a m)
    cases op with
    | false=>rw [← (hR.no hop).1]; exact hf
    | true =>
      rw [hR.yes hop]
      obtain ⟨x1,y1,d1,j1,h1,x2,y2,d2,j2,h2,x3,y3,d3,j3,h3,h4⟩:=hA
      subst j3; subst j2; subst j1
      have l3:=Hp.cV x3 y3
      have l3':=Hp.fY d3
      have l2:=Hp.cV x2 (x3.join y3)
      have l2':=Hp.fY d2
      have l1:=Hp.cV x1 (x2.join (x3.join y3))
      have l1':=Hp.fY d1
      have lb:=Hp.fY dd
      have ok : ∀ (q:Sv bH) (z:Hp),q.own 9 z→q.ok.on z:=fun q z hq=>Sv.aE9 hq fun _ _=>trivial
      intro z hz
      rcases List.mem_append.1 hz with hz | hz
      . exact hf z hz
      . cases List.mem_singleton.1 hz
        exact ⟨x.base.ok.up (l1.trans lb) (ok _ _ h1),x.ours.ok.up ((l2.trans l1').trans lb) (ok _ _ h2),x.cU.ok.up (((l3.trans l2').trans l1').trans lb) (ok _ _ h3),x.out.ok.up (((l3'.trans l2').trans l1').trans lb) (ok _ _ h4)⟩) g
theorem MA.set {hp:Hp} {l:List Ck} {i:Nat} {x:Ck} (h:(MA l).on hp) (hx:x.m.on hp):(MA (l.set i x)).on hp:=fun y hy=>by
  rcases List.mem_or_eq_of_mem_set hy with q | q
  . exact h y q
  . subst q; exact hx
theorem aLi {l:List Ck} {i:Nat} {x y:Ck} (h:l[i]? = some x) (e:y.pl=x.pl):(l.set i y).map jF.pl=l.map jF.pl:=by
 apply List.ext_getElem?
 intro j
 rw [List.getElem?_map,List.getElem?_map,List.getElem?_set]
 by_cases q:i=j
 ·
  subst q
  rw [if_pos rfl,if_pos (List.getElem?_eq_some_iff.1 h).1,h]
  simp [e]
 rw [if_neg q]
theorem aSa {α:Type} {l fr:List α} {x:α} (h:l=fr++[x]):l[((l.length:Int) - 1).toNat]? = some x:=by
 subst h; simp
theorem aSb {α:Type} {l fr:List α} {x:α} (h:l=fr++[x]):((l.length:Int) - 1).toNat=fr.length:=by
 subst h; simp
theorem XN {α:Type} {fr:List α} {x z:α}:(fr++[x]).set fr.length z=fr++[z]:=by simp
abbrev Zp (o:Sv Ck) (n:Nat):Value:=ptr o.b (o.o+(((o.l.length:Int) - 1).toNat)*bD.sz Ck+n)
abbrev kQ (o:Sv Ck) (a b c n:Nat) (v:Value) (r:List (Nat×Value)):List (Nat×Value):=(a,v)::(b,Zp o n)::(c,Zp o 0)::r
abbrev kD4 (o:Sv Ck) (x:Ck):List (Nat×Value):=[]
abbrev kD3 (o:Sv Ck) (x:Ck):=kQ o 28 27 26 4 x.out.val []
abbrev kD2 (o:Sv Ck) (x:Ck):=kQ o 28 27 26 4 x.out.val (kQ o 21 20 19 2 x.cU.val [])
abbrev kD1 (o:Sv Ck) (x:Ck):=kQ o 28 27 26 4 x.out.val (kQ o 21 20 19 2 x.cU.val (kQ o 14 13 12 1 x.ours.val []))
abbrev kD0 (o:Sv Ck) (x:Ck):=kQ o 28 27 26 4 x.out.val (kQ o 21 20 19 2 x.cU.val (kQ o 14 13 12 1 x.ours.val (kQ o 7 6 5 0 x.base.val [])))
abbrev kA (o:Sv Ck) (b n:Nat) (v:Value) (e:Nat×Value) (r:Env):Env:=(b,Zp o 0)::(b+1,Zp o 0)::(b+2,Zp o n)::(b+3,v)::e::r
abbrev kB (p:Nat) (o:Sv Ck) (line:bH) (r:Env):Env:=(0,ptr p 0)::(2,str line)::(3,Zp o 0)::(43,Zp o 0)::(44,Zp o 0)::(45,Zp o 0)::(46,Zp o 0)::r
abbrev kE (p:Nat) (bv ov tv:Sv bH) (i j k:Int) (o:Sv Ck) (a b c d:Sv bH):Ow:=Ow.star (bN p [bv.val,ov.val,tv.val,i64 i,i64 j,i64 k,o.val,.bool true] 428) (Ow.star (o.own 422) (Ow.star (a.own 9) (Ow.star (b.own 9) (Ow.star (c.own 9) (Ow.star (d.own 9) Ow.emp)))))
theorem al1 {p:Nat→Prop} {a:Nat} (h:p a) : ∀ i∈[a],p i:=fun i hi=>by cases List.mem_singleton.1 hi; exact h
theorem al2 {p:Nat→Prop} {a b:Nat} (h:p a) (g:p b) : ∀ i∈[a,b],p i:=List.forall_mem_cons.2 ⟨h,al1 g⟩
theorem al3 {p:Nat→Prop} {a b c:Nat} (h:p a) (g:p b) (f:p c) : ∀ i∈[a,b,c],p i:=List.forall_mem_cons.2 ⟨h,al2 g f⟩
theorem al4 {p:Nat→Prop} {a b c d:Nat} (h:p a) (g:p b) (f:p c) (e:p d) : ∀ i∈[a,b,c,d],p i:=List.forall_mem_cons.2 ⟨h,al3 g f e⟩
section
variable {P:Program} {N:Nat} {c:Cx} {ops:Array Oper} {Q:Exit→Act→World→Prop} {ρ:Env} {M:Mo} {E F:Ow} {d n k:Nat} {ty t:TypeId} {pos:String} {after:Array Edge} {x y:Operand} {D:List (Nat×Value)} {D':Sv bH→List (Nat×Value)} {listed listed':Array Bool} {ρ':Sv bH→Env} {M':Sv bH→Mo} {E':Sv bH→Ow} {line:bH}
theorem aUj {D1:List (Nat×Value)} {ρ1:Env} {M1:Mo} {E1:Ow} (hp:bT P N c ops D1 ρ M E) (hD:iG ops k D=D1) (hL:listed.setIfInBounds k true=listed') (hs:uC ρ ρ1) (hM : ∀ h,M.on h→M1.on h) (hE : ∀ e,E e→E1 e) (h:VG P N c ops Q n D1 listed' ρ1 M1 E1) :
 VL P N c ops (toR P N c ops fun a w=>(∀ p∈iG ops k D,YI P ops p a w)∧JZ P ops Q n (iG ops k D) (listed.setIfInBounds k true) a w) [] ρ M E:=by
 subst hL; subst hD
 exact VL.nil fun a w x y=>⟨rfl,hp a w x y,h a w (x.sub hs) (y.mono hM hE) (hp a w x y)⟩
theorem kP {ks:List Nat} {D0:List (Nat×Value)} {v1 v2 v3:Value} {t1 s1 y1 y2 y3:TypeId} {i1:Nat} {x1 x2 x3:Operand} {p1 p2 p3:String} {f1 f2 f3:Array Edge} {o1 o2 o3:Option Nat} (a b e:Nat) (n:ZP P N c ops ks D0 ρ M E) (h1:ops[a]? = some ⟨o1,.load t1 x1,y1,p1,f1,none⟩:=by exact rfl) (g1:Qt P N c ⟨o1,.load t1 x1,y1,p1,f1,none⟩ v1 ρ M E:=by exact aM8 rfl rfl) (h2:ops[b]? = some ⟨o2,.fieldAddr s1 x2 i1,y2,p2,f2,none⟩:=by exact rfl) (g2:Qt P N c ⟨o2,.fieldAddr s1 x2 i1,y2,p2,f2,none⟩ v2 ρ M E:=by exact aDC rfl)
    (h3:ops[e]? = some ⟨o3,.nilCheck x3,y3,p3,f3,none⟩:=by exact rfl) (g3:Qt P N c ⟨o3,.nilCheck x3,y3,p3,f3,none⟩ v3 ρ M E:=by exact mH rfl):ZP P N c ops (a::b::e::ks) ((a,v1)::(b,v2)::(e,v3)::D0) ρ M E:=⟨bT.cons h1 g1 (bT.cons h2 g2 (bT.cons h3 g3 n.out))⟩
theorem nN (hk:ops[k]? = some ⟨some d,.buildSlice t 1 #[(0,x)],ty,pos,after,none⟩) (h : ∀ s:Sv bH,s.l=[line]→VG P N c ops Q n (D' s) listed' (ρ' s) (M' s) (E' s)) (hp : ∀ s:Sv bH,bT P N c ops (D' s) ((d,s.val)::ρ) (s.ok.and M) E) [hu:LQ P t (.slice 9)] [hz:KP P 9 (bD.sz bH)] (hx:ρ.ev x=some (str line):=by exact rfl) (hd:d < N:=by decide) (hD : ∀ s,iG ops k D=D' s:=by intro s; kernel_rfl) (hL:listed.setIfInBounds k true=listed':=by kernel_rfl)
    (hs : ∀ s:Sv bH,uC ((d,s.val)::ρ) (ρ' s):=by intro s; repeat (first | exact uC.n | refine uC.c rfl ?_)) [hM : ∀ s,dV (s.ok.and M) (M' s)] [hE : ∀ s,fK E (E' s)]:qG P N c ops Q n D listed ρ M E k :=
  qG.of hk (VL.lit (α:=bH) (xs:=[x]) (vs:=[str line]) [line] hu.out hz.out (by decide) rfl (by simp only [Env.lU,hx]) rfl rfl (by decide) (fun _ _ _ _=>trivial) hd (fun s h1=>aUj (hp s) (hD s) hL (hs s) (hM s).out (hE s).out (h s h1)) (by decide))
theorem NO {a r:Sv bH} {bt:Nat} (hk:ops[k]? = some ⟨some d,.call { callee := .builtin .append,args := #[x,y],argTypes := #[t,t]},ty,pos,after,none⟩) (h : ∀ s:Sv bH,s.l=a.l++[line]→VG P N c ops Q n (D' s) listed' (ρ' s) (M' s) (E' s)) (hr:r.l=[line]) (hn:a.l.length≤1048576) (hp : ∀ s:Sv bH,bT P N c ops (D' s) ((d,s.val)::ρ) M (Ow.star (s.own 9) F)) [hu:LQ P t (.slice 9)] [hi:M6 P 9 (bD.sz bH) bt] (hx:ρ.lU [x,y]=some [a.val,r.val]:=by exact rfl) [hF:Fo E (a.own 9) F] [hm:dV M r.ok] (hb:bt≤32768:=by decide) (hd:d < N:=by decide) (hD : ∀ s,iG ops k D=D' s:=by intro s; kernel_rfl) (hL:listed.setIfInBounds k true=listed':=by kernel_rfl)
    (hs : ∀ s:Sv bH,uC ((d,s.val)::ρ) (ρ' s):=by intro s; repeat (first | exact uC.n | refine uC.c rfl ?_)) [hM : ∀ s,dV M (M' s)] [hE : ∀ s:Sv bH,fK (Ow.star (s.own 9) F) (E' s)]:qG P N c ops Q n D listed ρ M E k :=
  qG.of hk (VL.app (s:=a) (r:=r) (xs:=[x,y]) hu.out hi.out (by decide) hx hF.out (by rw [hr]; simp; omega) (by rw [hr]; exact Nat.le_trans (Nat.mul_le_mul (show a.l.length+1≤1048577 by omega) hb) (by decide)) hd (fun s h1=>aUj (hp s) (hD s) hL (hs s) (hM s).out (hE s).out (h s (by rw [h1,hr]))))
end
structure Wr where
  s:Sh.E6
  o:Sv Ck
  fr:List Ck
  x:Ck
  h:Rel s o fr x
def wr0:Wr:=⟨⟨[],0,0,0,false⟩,⟨none,0,[]⟩,[],aNn,⟨(fun h=>by cases h),(fun _=>⟨rfl,rfl⟩),rfl⟩⟩
end Go.V
end

section
set_option linter.unusedVariables false
namespace Go.V
open Go.RowKit Go.S
@[reducible] def aJ (x:aM):List Value:=[x.aY.val,x.aU.val,x.bA.val,str x.aI,i64 x.aG,str x.aS,i64 x.aO,str x.aT,x.aN.val,x.aP.val,i64 x.aQ,str x.aK,str x.aD,i64 x.aE,x.aL.val,x.aR.val,x.aX.val,x.bC.val,x.bE.val,x.aZ.val,i64 x.time]
@[reducible] def mQ (x:iY):List Value:=[x.work.val,x.index.val,x.refs.val,str x.cB,i64 x.cA,str x.fE,i64 x.eM,str x.fF,x.cZ.val,x.eA.val,i64 x.eX,str x.dM,str x.bW,i64 x.bX,x.dB.val,x.eC.val,x.gB.val]
@[reducible] def EG (x:pN):List Value:=[str x.kind,i64 x.other,str x.text,x.C9.val,x.todo.val,i64 x.made,str x.branch,str x.cB,i64 x.cA,x.index.val,x.work.val]
instance (x:aC):CU x [str x.path,i64 x.mode,str x.data]:=⟨rfl⟩
instance (x:cY):CU x [str x.name,i64 x.cC]:=⟨rfl⟩
instance (x:aH):CU x [str x.path,i64 x.iK,i64 x.mode,str x.data,i64 x.time,i64 x.size]:=⟨rfl⟩
instance (x:bL):CU x [i64 x.base,x.index.val,x.work.val,str x.text]:=⟨rfl⟩
instance (x:kF):CU x [str x.line,str x.path,str x.data,.bool x.gone]:=⟨rfl⟩
instance (x:bK):CU x [str x.verb,i64 x.cC,str x.text]:=⟨rfl⟩
instance (x:bY):CU x [x.tree.val,x.parents.val,i64 x.time,str x.text]:=⟨rfl⟩
instance (x:aM):CU x [x.aY.val,x.aU.val,x.bA.val,str x.aI,i64 x.aG,str x.aS,i64 x.aO,str x.aT,x.aN.val,x.aP.val,i64 x.aQ,str x.aK,str x.aD,i64 x.aE,x.aL.val,x.aR.val,x.aX.val,x.bC.val,x.bE.val,x.aZ.val,i64 x.time]:=⟨rfl⟩
instance (x:eF):CU x [x.eU.val]:=⟨rfl⟩
instance (x:iY):CU x [x.work.val,x.index.val,x.refs.val,str x.cB,i64 x.cA,str x.fE,i64 x.eM,str x.fF,x.cZ.val,x.eA.val,i64 x.eX,str x.dM,str x.bW,i64 x.bX,x.dB.val,x.eC.val,x.gB.val]:=⟨rfl⟩
instance (x:mM):CU x [str x.branch,i64 x.cC]:=⟨rfl⟩
instance (x:pN):CU x [str x.kind,i64 x.other,str x.text,x.C9.val,x.todo.val,i64 x.made,str x.branch,str x.cB,i64 x.cA,x.index.val,x.work.val]:=⟨rfl⟩
instance (x:bV):CU x [x.b.val,i64 x.at_,x.err.val]:=⟨rfl⟩
instance (x:n4):CU x [str x.verb,str x.name,i64 x.n,str x.text,.bool x.force,x.todo.val]:=⟨rfl⟩
instance (x:cT):CU x [x.files.val,x.entries.val,x.conflicts.val]:=⟨rfl⟩
instance (x:lI):CU x [str x.cH,i64 x.cN,str x.bZ,.bool x.is]:=⟨rfl⟩
instance (x:jF):CU x [x.base.val,x.ours.val,x.cU.val,.bool x.qI,x.out.val]:=⟨rfl⟩
instance (x:tM):CU x [x.a.val,x.b.val,x.n.val]:=⟨rfl⟩
instance (x:jE):CU x [i64 x.op,str x.line]:=⟨rfl⟩
instance (x:gZ):CU x [i64 x.a,i64 x.b,i64 x.n]:=⟨rfl⟩
instance (x:M8):CU x [str x.cH,i64 x.cN,str x.bZ,.bool x.is]:=⟨rfl⟩
instance (x:pM):CU x [x.back.val,x.kY.val]:=⟨rfl⟩
instance (x:G1):CU x [str x.part,i64 x.at_,x.err.val]:=⟨rfl⟩
instance:PlC jF jF.pl:=⟨trivial⟩
instance:PlC bL bL.pl:=⟨trivial⟩
instance:PlC bY bY.pl:=⟨trivial⟩
end Go.V
namespace Go.Proofs.YtgdabkldgphdeaaGreatDoor
open Go.RowKit Go.V Go.S
instance:zK Tryz.prog 26 [.slice none 0 0]:=⟨by kernel_rfl⟩
instance:zK Tryz.prog 27 [.slice none 0 0]:=⟨by kernel_rfl⟩
instance:zK Tryz.prog 30 [str [],i64 0]:=⟨by kernel_rfl⟩
instance:zK Tryz.prog 31 [.slice none 0 0]:=⟨by kernel_rfl⟩
instance:zK Tryz.prog 33 [str [],i64 0,str [],.slice none 0 0,.slice none 0 0,i64 0,str [],str [],i64 0,.slice none 0 0,.slice none 0 0]:=⟨by kernel_rfl⟩
instance:zK Tryz.prog 37 [.slice none 0 0,.slice none 0 0,.slice none 0 0,str [],i64 0,str [],i64 0,str [],.slice none 0 0,.slice none 0 0,i64 0,str [],str [],i64 0,.slice none 0 0,.slice none 0 0,.slice none 0 0]:=⟨by kernel_rfl⟩
instance:zK Tryz.prog 39 [.slice none 0 0]:=⟨by kernel_rfl⟩
instance:zK Tryz.prog 41 [.slice none 0 0,.slice none 0 0]:=⟨by kernel_rfl⟩
instance:zK Tryz.prog 43 [.slice none 0 0,.slice none 0 0,.slice none 0 0,str [],i64 0,str [],i64 0,str [],.slice none 0 0,.slice none 0 0,i64 0,str [],str [],i64 0,.slice none 0 0,.slice none 0 0,.slice none 0 0,.slice none 0 0,.slice none 0 0,.slice none 0 0,i64 0]:=⟨by kernel_rfl⟩
instance:zK Tryz.prog 57 [.slice none 0 0]:=⟨by kernel_rfl⟩
instance:zK Tryz.prog 59 [.slice none 0 0,.slice none 0 0,i64 0,str []]:=⟨by kernel_rfl⟩
instance:zK Tryz.prog 69 [.pointer none,.slice none 0 0]:=⟨by kernel_rfl⟩
instance:zK Tryz.prog 76 [str [],i64 0]:=⟨by kernel_rfl⟩
instance:zK Tryz.prog 78 [str [],i64 0,str []]:=⟨by kernel_rfl⟩
instance:zK Tryz.prog 80 [str [],i64 0,i64 0,str [],i64 0,i64 0]:=⟨by kernel_rfl⟩
instance:zK Tryz.prog 83 [str [],str [],i64 0,str [],.bool false,.slice none 0 0]:=⟨by kernel_rfl⟩
instance:zK Tryz.prog 91 [i64 0]:=⟨by kernel_rfl⟩
instance:zK Tryz.prog 139 [str [],i64 0,str []]:=⟨by kernel_rfl⟩
instance:zK Tryz.prog 142 [i64 0,.slice none 0 0,.slice none 0 0,str []]:=⟨by kernel_rfl⟩
instance:zK Tryz.prog 168 [.slice none 0 0]:=⟨by kernel_rfl⟩
instance:zK Tryz.prog 300 [.slice none 0 0,.slice none 0 0,.slice none 0 0]:=⟨by kernel_rfl⟩
instance:zK Tryz.prog 349 [str [],i64 0,str [],.bool false]:=⟨by kernel_rfl⟩
instance:zK Tryz.prog 372 [.int .u8 0,.int .u8 0]:=⟨by kernel_rfl⟩
instance:zK Tryz.prog 403 [str [],i64 0,str [],.bool false]:=⟨by kernel_rfl⟩
instance:zK Tryz.prog 422 [.slice none 0 0,.slice none 0 0,.slice none 0 0,.bool false,.slice none 0 0]:=⟨by kernel_rfl⟩
instance:zK Tryz.prog 437 [i64 0,i64 0,i64 0]:=⟨by kernel_rfl⟩
instance:zK Tryz.prog 443 [i64 0,str []]:=⟨by kernel_rfl⟩
end Go.Proofs.YtgdabkldgphdeaaGreatDoor
end

section
namespace Go.Proofs
open Go.Shelf
def Tryz.aJM:Go.Shelf.Ren:=⟨fun | 264=>395 | n=>n,fun | 53=>204 | 46=>250 | n=>n,fun | n=>n⟩
theorem Tryz.aXC:Go.Proofs.Lays.n264 Tryz.prog Tryz.aJM:={
  mixed:=by kernel_rfl
  f264:=Tryz.func395.trans (congrArg some (by kernel_rfl))
  t46:=Tryz.underlying250
  a46:=Tryz.isAgg250
  z46:=Tryz.sizeOf250
  v46:=Tryz.zeroValue250
  t53:=Tryz.underlying204
  a53:=Tryz.isAgg204
  z53:=Tryz.sizeOf204
  v53:=Tryz.zeroValue204 }
open Go.RowKit Go.Lib in
theorem Tryz.bits_Mul64 (x y:Nat) (hx:x < 18446744073709551616) (hy:y < 18446744073709551616) (w:World) :
    Calls Tryz.prog 395 #[.int .u64 x,.int .u64 y] w fun e w'=>e = .returned (.tuple #[.int .u64 ((x*y / 18446744073709551616:Nat):Int),.int .u64 ((x*y % 18446744073709551616:Nat):Int)])∧w'=w:=Any.bits_Mul64 Tryz.aXC x y hx hy w
def Tryz.aJL:Go.Shelf.Ren:=⟨fun | 212=>387 | 263=>394 | 264=>395 | n=>n,fun | 46=>250 | 51=>275 | 146=>332 | 53=>204 | 148=>453 | n=>n,fun | n=>n⟩
theorem Tryz.aXB:Go.Proofs.Lays.n212 Tryz.prog Tryz.aJL:={
  mixed:=by kernel_rfl
  f212:=Tryz.func387.trans (congrArg some (by kernel_rfl))
  f263:=Tryz.func394.trans (congrArg some (by kernel_rfl))
  f264:=Tryz.func395.trans (congrArg some (by kernel_rfl))
  t46:=Tryz.underlying250
  a46:=Tryz.isAgg250
  z46:=Tryz.sizeOf250
  v46:=Tryz.zeroValue250
  t51:=Tryz.underlying275
  a51:=Tryz.isAgg275
  z51:=Tryz.sizeOf275
  v51:=Tryz.zeroValue275
  t53:=Tryz.underlying204
  a53:=Tryz.isAgg204
  z53:=Tryz.sizeOf204
  v53:=Tryz.zeroValue204
  t146:=Tryz.underlying332
  a146:=Tryz.isAgg332
  z146:=Tryz.sizeOf332
  v146:=Tryz.zeroValue332
  t148:=Tryz.underlying453
  a148:=Tryz.isAgg453
  z148:=Tryz.sizeOf453
  v148:=Tryz.zeroValue453 }
open Go.RowKit Go.Lib in
/-- math/bits.Mul: "Mul returns the full-width product of x and y": on a machine of 64 bits: Mul64's. (LAID: no walk: one application.) -/
theorem Tryz.bits_Mul (x y:Nat) (hx:x < 18446744073709551616) (hy:y < 18446744073709551616) (w:World) :
    Calls Tryz.prog 387 #[.int .u64 x,.int .u64 y] w fun e w'=>e = .returned (.tuple #[.int .u64 ((x*y / 18446744073709551616:Nat):Int),.int .u64 ((x*y % 18446744073709551616:Nat):Int)])∧w'=w:=Any.bits_Mul Tryz.aXB x y hx hy w
end Go.Proofs
end

section
set_option linter.unusedVariables false
namespace Go.Proofs.YtgdabkldgphdeaaGreatDoor
open Go.RowKit Go.V
open Go.S
theorem aTp {α:Type} {l l':List α} {v:α} {m:Int} (h0:0≤m) (h1:m≤l.length) (hm:l.take m.toNat=List.replicate m.toNat v) (hl:l'=l.take m.toNat++((l.drop 0).take (m.toNat - 0)).take ((l.drop m.toNat).take (l.length - m.toNat)).length++l.drop (m.toNat+min ((l.drop 0).take (m.toNat - 0)).length ((l.drop m.toNat).take (l.length - m.toNat)).length)) :
 l'.length=l.length∧l'.take (m+(min ((l.drop 0).take (m.toNat - 0)).length ((l.drop m.toNat).take (l.length - m.toNat)).length:Nat)).toNat=List.replicate (m+(min ((l.drop 0).take (m.toNat - 0)).length ((l.drop m.toNat).take (l.length - m.toNat)).length:Nat)).toNat v∧m+(min ((l.drop 0).take (m.toNat - 0)).length ((l.drop m.toNat).take (l.length - m.toNat)).length:Nat)≤l.length∧(0 < m→m < l.length→0 < min ((l.drop 0).take (m.toNat - 0)).length ((l.drop m.toNat).take (l.length - m.toNat)).length):=by
 have e1:((l.drop 0).take (m.toNat - 0)).length=m.toNat:=by simp; omega
 have e2:((l.drop m.toNat).take (l.length - m.toNat)).length=l.length - m.toNat:=by simp
 have e3:(l.drop 0).take (m.toNat - 0)=List.replicate m.toNat v:=by simpa using hm
 rw [e1,e2] at hl ⊢
 rw [e3,hm] at hl
 refine ⟨?_,?_,by omega,by omega⟩
 ·
  rw [hl]; simp; omega
 rw [show (m+((min m.toNat (l.length - m.toNat):Nat):Int)).toNat=m.toNat+min m.toNat (l.length - m.toNat) by omega,hl,List.take_append_of_le_length (by simp; omega),List.take_replicate,List.replicate_append_replicate,List.take_replicate]
 congr 1
 omega
theorem aTo {n v:Int} {r s t:List Int} (h0:0≤n) (hr:r=[v]) (hs:s=List.replicate n.toNat 0) (ht:t=s.take 0++r.take s.length++s.drop (0+min r.length s.length)) :
 0≤((min r.length s.length:Nat):Int)∧((min r.length s.length:Nat):Int)≤t.length∧t.length=n.toNat∧t.take ((min r.length s.length:Nat):Int).toNat=List.replicate ((min r.length s.length:Nat):Int).toNat v∧(((min r.length s.length:Nat):Int)=0→n=0):=by
 subst hr
 have hl:s.length=n.toNat:=by rw [hs]; simp
 cases hn:n.toNat with
 | zero =>
   rw [hn] at hl
   have:s=[]:=List.length_eq_zero_iff.1 hl
   subst this
   simp at ht
   subst ht
   simp
   omega
 | succ k =>
   rw [hn] at hl hs
   have e:min [v].length s.length=1:=by simp; omega
   rw [e] at *
   rw [hs] at ht
   subst ht
   simp
   omega
theorem aYP {m n v:Int} {s:List Int} (h1:m≤s.length) (h : ¬ m < s.length) (hl:s.length=n.toNat) (hm:s.take m.toNat=List.replicate m.toNat v):s=List.replicate n.toNat v:=by
 have e:m.toNat=s.length:=by omega
 rw [e,List.take_length] at hm
 rw [← hl]
 exact hm
theorem a2i:Tryz.prog.follows .mixedOrders=true:=by kernel_rfl
theorem mk3:((Tryz.prog.info? 3).map fun i=>(i.size,i.bytes,i.zero.map fun z=>z.cells.toList))=some (1,8,some [i64 0]):=by kernel_rfl
theorem sz3:(Tryz.prog.info? 3).map (·.size)=some 1:=by kernel_rfl
theorem aXI (x n:Int) (hx:x=1) (h0:0≤n) (h1:n≤1048576):Ct Tryz.prog 387 [.int .u64 x,.int .u64 n] Mo.tt Ow.emp (X:=Unit) (fun _ => .tuple #[.int .u64 0,.int .u64 n]) (fun _=>True) (fun _=>Mo.tt) (fun _=>Ow.emp) :=
  Ct.aNo (x9 Tryz.func387 rfl (by kernel_rfl)) fun w h _ _=>by
  have:=Tryz.bits_Mul 1 n.toNat (by omega) (by omega) w
  subst hx
  have e1:((n.toNat:Nat):Int)=n:=by omega
  have e2:1*n.toNat / 18446744073709551616=0:=by omega
  have e3:1*n.toNat % 18446744073709551616=n.toNat:=by omega
  rw [e2,e3,e1] at this
  refine this.mono fun e w' ⟨h1,h2⟩=>⟨h1,h2▸Gr.refl w⟩
set_option maxRecDepth 100000 in
 theorem repeat_ct (r:Sv Int) (v n:Int) (hr:r.l=[v]) (h0:0≤n) (h1:n≤1048576) :
 Ct Tryz.prog 382 [r.val,i64 n] r.ok Ow.emp (X:=Sv Int) Sv.val (fun q=>q.l=List.replicate n.toNat v) (fun _=>Mo.tt) (fun q=>q.own 3):=by
 have hrl:(r.l.length:Int)=1:=by rw [hr]; rfl
 refine Ct.of Tryz.func382 rfl (by kernel_rfl) Tryz.ntmps382 (by simp) fun c => ?_
 refine VC.seq ?_
 refine VC.region ?_
 refine VL.q (u7 rfl) (by decide) ?_
 refine VL.to (fun _ _ h=>h) ?_
 refine VC.seq ?_
 refine VC.seq ?_
 refine VC.region ?_
 refine VL.q (fQ rfl) (by decide) ?_
 refine VL.q (rW rfl rfl) (by decide) ?_
 refine VL.to (fun _ _ h=>h) ?_
 refine VC.nV rfl (fun h10 => ?_) (fun h10 => ?_)
 ·
  exact absurd h10 (by omega)
 refine VC.aBs (fun _ _ h=>h) ?_
 refine VC.seq ?_
 refine VC.region ?_
 refine VL.q (fQ rfl) (by decide) ?_
 refine VL.q (LF (s:=r) Tryz.underlying57 rfl) (by decide) ?_
 refine VL.q (aEc Tryz.underlying3 Tryz.underlying250 rfl (by rw [hrl]; rfl)) (by decide) ?_
 refine VL.q (fQ rfl) (by decide) ?_
 refine VL.q (aEc Tryz.underlying3 Tryz.underlying250 rfl (wrap_u64 (by omega) (by omega))) (by decide) ?_
 refine VL.q (dU (aXI (r.l.length:Int) n hrl h0 h1) rfl (fun _ _=>rfl)) (by decide) ?_
 refine VL.q (fQ rfl) (by decide) ?_
 refine VL.q (JO rfl rfl) (by decide) ?_
 refine VL.q (JO rfl rfl) (by decide) ?_
 refine VL.q (u7 rfl) (by decide) ?_
 refine VL.q (u7 rfl) (by decide) ?_
 refine VL.to (fun _ _ h=>h) ?_
 refine VC.seq ?_
 refine VC.seq ?_
 refine VC.region ?_
 refine VL.q (fQ rfl) (by decide) ?_
 refine VL.q (zC rfl rfl) (by decide) ?_
 refine VL.HH 22 rfl (congrArg Value.bool (decide_eq_false (by omega))) ?_
 refine VL.q (fQ rfl) (by decide) ?_
 refine VL.gy rfl rfl (fQ rfl) (by decide) ?_
 refine VL.gy rfl rfl (zC rfl rfl) (by decide) ?_
 refine VL.q (HD rfl rfl) (by decide) ?_
 refine VL.to (fun _ _ h=>h) ?_
 refine VC.nV rfl (fun h26 => ?_) (fun h26 => ?_)
 ·
  exact absurd h26 (by omega)
 refine VC.aBs (fun _ _ h=>h) ?_
 refine VC.seq ?_
 refine VC.region ?_
 refine VL.q (fQ rfl) (by decide) ?_
 refine VL.q (aEc Tryz.underlying250 Tryz.underlying3 rfl (IntWalk.i64_in _ (by omega))) (by decide) ?_
 refine VL.make (α:=Int) (z:=0) Tryz.underlying57 mk3 (by decide) rfl rfl (by omega) (by omega) (by omega) (by omega) (by decide) (fun s30 hs30 => ?_)
 refine VL.q (u7 rfl) (by decide) ?_
 refine VL.to (fun _ _ h=>h) ?_
 refine VC.seq ?_
 refine VC.region ?_
 refine VL.q (fQ rfl) (by decide) ?_
 refine VL.q (fQ rfl) (by decide) ?_
 refine VL.copy (s:=s30) (T:=3) (k:=0) (n:=s30.l.length) (sr:=r.l) rfl Tryz.underlying57 sz3 Fo.out rfl (by simp) (fun _ => .inr ⟨rfl,rfl⟩) (a2v rfl) (by decide) fun s33 hs33 hv33 ha33 hc33 => ?_
 rw [← hv33]
 refine VL.q (u7 rfl) (by decide) ?_
 refine VL.to (fun _ _ h=>h) ?_
 refine VC.seq ?_
 refine VC.block ?_
 refine VC.a7d (S:=Int×Sv Int) (fun sg=>0≤sg.1∧sg.1≤sg.2.l.length∧sg.2.l.length=n.toNat∧sg.2.l.take sg.1.toNat=List.replicate sg.1.toNat v∧(sg.1=0→n=0)) (fun sg=>[(0,r.val),(1,i64 n),(4,.slice none 0 0),(5,.int .u64 (0:Int)),(6,.int .u64 n),(7,sg.2.val),(8,i64 sg.1),(7,sg.2.val)]) (fun sg=>Ow.star (Sv.own sg.2 3) (Ow.emp)) (fun sg=>(sg.2.l.length - sg.1).toNat) (((min r.l.length s30.l.length:Nat):Int),s33) [0,1,4,5,6,7,8,7] (by (try dsimp only); exact aTo h0 hr hs30 hs33) rfl (by (try dsimp only); exact fK.out) ?_
 rintro ⟨m,s⟩ hI
 show VC _ _ _ _ _ [(0,r.val),(1,i64 n),(4,.slice none 0 0),(5,.int .u64 (0:Int)),(6,.int .u64 n),(7,s.val),(8,i64 m),(7,s.val)] _ (Ow.star (Sv.own s 3) (Ow.emp))
 try dsimp only at hI
 obtain ⟨h0m,h1m,hsl,hm,hmz⟩:=hI
 refine VC.seq ?_
 refine VC.seq ?_
 refine VC.region ?_
 refine VL.q (fQ rfl) (by decide) ?_
 refine VL.q (fQ rfl) (by decide) ?_
 refine VL.q (LF (s:=s) Tryz.underlying57 rfl) (by decide) ?_
 refine VL.q (rW rfl rfl) (by decide) ?_
 refine VL.to (fun _ _ h=>h) ?_
 refine VC.nV rfl (fun h37 => ?_) (fun h37 => ?_)
 ·
  refine VC.aBs (fun _ _ h=>h) ?_
  refine VC.block ?_
  refine VC.a66 s fun hlc hcm => ?_
  refine VC.draw [(0,true),(1,true),(2,true),(3,true),(4,true),(5,true),(6,true),(7,false),(8,true),(9,true)] a2i (by kernel_rfl) (by kernel_rfl) (by kernel_rfl) ?_
  refine VD.q rfl (fQ rfl) (by decide) ?_
  refine VD.q rfl (fQ rfl) (by decide) ?_
  refine VD.q rfl (fQ rfl) (by decide) ?_
  refine VD.q rfl (LV (s:=s) m.toNat s.l.length s.c Tryz.underlying57 sz3 rfl rfl rfl rfl (by show m=_; omega) rfl rfl (fun h=>by cases h) (by omega) hlc (Nat.le_refl _) (Nat.le_refl _)) (by decide) ?_
  refine VD.q rfl (fQ rfl) (by decide) ?_
  refine VD.q rfl (fQ rfl) (by decide) ?_
  refine VD.q rfl (LV (s:=s) 0 m.toNat s.c Tryz.underlying57 sz3 rfl rfl rfl rfl rfl (by show m=_; omega) rfl (fun h=>by cases h) (by omega) (by omega) (Nat.le_refl _) (by omega)) (by decide) ?_
  refine VD.one rfl ?_
  refine VL.copy (s:=s) (T:=3) (k:=m.toNat) (n:=((s.l.drop m.toNat).take (s.l.length - m.toNat)).length) (sr:=(s.l.drop 0).take (m.toNat - 0)) rfl Tryz.underlying57 sz3 Fo.out rfl (by simp; omega) (fun hn => .inl (if_neg (by simp at hn; omega))) (aXP rfl (by omega)) (by decide) fun s' hs' hv' ha' hc' => ?_
  rw [← hv']
  refine VL.back (D':=[]) (by kernel_rfl) (bT.nil) ?_
  obtain ⟨r1,r2,r3,r4⟩:=aTp h0m h1m hm hs'
  refine VD.q rfl (l5 rfl rfl ⟨by omega,by omega⟩) (by decide) ?_
  refine VD.q rfl (u7 rfl) (by decide) ?_
  refine VD.anyI ((m+((min ((s.l.drop 0).take (m.toNat - 0)).length ((s.l.drop m.toNat).take (s.l.length - m.toNat)).length:Nat):Int)),s') [0,1,4,5,6,7,8,7] (fun _ _ h=>h) ?_ rfl (by (try dsimp only); exact fK.out)
  try dsimp only
  exact ⟨⟨by omega,by omega,by omega,r2,by omega⟩,by omega⟩
 refine VC.aKo (fun _ _ h=>h) ?_
 refine VC.seq ?_
 refine VC.region ?_
 refine VL.q (fQ rfl) (by decide) ?_
 refine VL.q (u7 rfl) (by decide) ?_
 refine VL.to (fun _ _ h=>h) ?_
 exact VC.ret (aNe (.inr rfl) rfl rfl s rfl ((aYP h1m (by assumption) hsl hm)) MB.out)
theorem aMd (r:Sv Int) (n:Int) {q:List Int} (hS:Sh.CA r.l n=some q):Ct Tryz.prog 382 [r.val,i64 n] r.ok Ow.emp (X:=Sv Int) (fun x=>x.val) (fun x=>q=x.l) (fun _=>Mo.tt) (fun x=>x.own 3):=by
 obtain ⟨⟨h1,h2,h3⟩,hq⟩:=bM hS
 exact (repeat_ct r (-1) n h1 h2 h3).weak (fun _ m=>m) (fun x e=>by rw [e]; exact (Option.some.inj hq).symm)
end Go.Proofs.YtgdabkldgphdeaaGreatDoor
end

section
set_option linter.unusedVariables false
namespace Go.Proofs.YtgdabkldgphdeaaGreatDoor
set_option maxHeartbeats 4000000
set_option maxRecDepth 100000
set_option synthInstance.maxSize 2000
set_option synthInstance.maxHeartbeats 1000000
open Go.RowKit Go.V
open Go.S
attribute [local irreducible] Go.V.Qt Go.V.VL Go.V.VC Go.V.I0 Go.S.gd Go.S.at_ Go.S.lt Go.S.jn Go.S.go Go.S.up Go.S.iter Sh.nA Sh.cmp_isNaN_string Sh.eT Sh.gD Sh.iN Sh.oS Sh.qJ Sh.fP Sh.qB Sh.rO Sh.w8 Sh.tQ Sh.j7 Sh.jG Sh.j9 Sh.AQ Sh.pH Sh.uG Sh.DI Sh.JK Sh.JL Sh.qO Sh.fA Sh.bQ Sh.cE Sh.gT Sh.iI Sh.iR Sh.gU Sh.BQ Sh.nK Sh.qQ Sh.nQ Sh.lG Sh.vG Sh.o9 Sh.nD Sh.xV Sh.tY Sh.l8 Sh.r8 Sh.EU Sh.vI Sh.nR Sh.lR Sh.lW
instance:LQ Tryz.prog 9 .string:=⟨Tryz.underlying9⟩
instance:LQ Tryz.prog 26 (.slice 78):=⟨Tryz.underlying26⟩
instance:LQ Tryz.prog 27 (.slice 80):=⟨Tryz.underlying27⟩
instance:LQ Tryz.prog 28 (.slice 76):=⟨Tryz.underlying28⟩
instance:LQ Tryz.prog 31 (.slice 139):=⟨Tryz.underlying31⟩
instance:LQ Tryz.prog 39 (.slice 9):=⟨Tryz.underlying39⟩
instance:LQ Tryz.prog 57 (.slice 3):=⟨Tryz.underlying57⟩
instance:LQ Tryz.prog 67 (.slice 5):=⟨Tryz.underlying67⟩
instance:MkI Tryz.prog 90:=MkI.mk' Tryz.underlying90 (fun _ h=>by cases h)
instance:MkI Tryz.prog 91:=MkI.mk' Tryz.underlying91 (fun _ h=>by cases h)
instance:MkI Tryz.prog 131:=MkI.mk' Tryz.underlying131 (fun _ h=>by cases h)
theorem mixed:Tryz.prog.follows .mixedOrders=true:=by kernel_rfl
theorem aP2:(Tryz.prog.info? 69).map (·.size)=some 2:=by kernel_rfl
instance:zO Tryz.prog 69 2:=⟨aP2⟩
theorem a7N:((Tryz.prog.info? 5).map fun i=>(i.size,i.bytes,i.zero))=some (1,1,some (.int .u8 0)):=by kernel_rfl
theorem aWF:cF Tryz.prog 69 0 0:=bO (n:=0) (f:=⟨_,_,0,_,_,_,_⟩) Tryz.underlying69 rfl (by kernel_rfl)
instance:kJ Tryz.prog 69 0 0:=⟨aWF⟩
theorem aWG:cF Tryz.prog 69 1 1:=bO (n:=0) (f:=⟨_,_,1,_,_,_,_⟩) Tryz.underlying69 rfl (by kernel_rfl)
instance:kJ Tryz.prog 69 1 1:=⟨aWG⟩
theorem a1f:OneCell Tryz.prog 66:=lD Tryz.underlying66 rfl
instance:MF Tryz.prog 66:=⟨a1f⟩
theorem aP0:OneCell Tryz.prog 67:=lD Tryz.underlying67 rfl
instance:MF Tryz.prog 67:=⟨aP0⟩
theorem a7X:(Tryz.prog.info? 66).map (·.size)=some 1:=by kernel_rfl
instance:zO Tryz.prog 66 1:=⟨a7X⟩
theorem a7Y:(Tryz.prog.info? 67).map (·.size)=some 1:=by kernel_rfl
instance:zO Tryz.prog 67 1:=⟨a7Y⟩
theorem aWW:cF Tryz.prog 93 2 2:=bO (n:=0) (f:=⟨_,_,2,_,_,_,_⟩) Tryz.underlying93 rfl (by kernel_rfl)
instance:kJ Tryz.prog 93 2 2:=⟨aWW⟩
theorem aEZ:OneCell Tryz.prog 46:=lD Tryz.underlying46 rfl
instance:MF Tryz.prog 46:=⟨aEZ⟩
theorem qL:(Tryz.prog.info? 43).map (·.size)=some 21:=by kernel_rfl
instance:zO Tryz.prog 43 21:=⟨qL⟩
theorem qC:s9 Tryz.prog 43 21:=oQ Tryz.underlying43 rfl (by kernel_rfl)
instance:OL Tryz.prog 43 21:=⟨qC⟩
theorem kN:(Tryz.prog.info? 78).map (·.size)=some 3:=by kernel_rfl
instance:zO Tryz.prog 78 3:=⟨kN⟩
theorem oY:cF Tryz.prog 43 0 0:=bO (n:=16) (f:=⟨_,_,0,_,_,_,_⟩) Tryz.underlying43 rfl (by kernel_rfl)
instance:kJ Tryz.prog 43 0 0:=⟨oY⟩
theorem aLG:cF Tryz.prog 37 0 0:=bO (n:=0) (f:=⟨_,_,0,_,_,_,_⟩) Tryz.underlying37 rfl (by kernel_rfl)
instance:kJ Tryz.prog 37 0 0:=⟨aLG⟩
theorem BE:OneCell Tryz.prog 26:=lD Tryz.underlying26 rfl
instance:MF Tryz.prog 26:=⟨BE⟩
theorem BD:s9 Tryz.prog 78 3:=oQ Tryz.underlying78 rfl (by kernel_rfl)
instance:OL Tryz.prog 78 3:=⟨BD⟩
theorem aLK:cF Tryz.prog 78 0 0:=bO (n:=0) (f:=⟨_,_,0,_,_,_,_⟩) Tryz.underlying78 rfl (by kernel_rfl)
instance:kJ Tryz.prog 78 0 0:=⟨aLK⟩
theorem mF:OneCell Tryz.prog 9:=lD Tryz.underlying9 rfl
instance:MF Tryz.prog 9:=⟨mF⟩
theorem aPX:((Tryz.prog.info? 78).map fun i=>(i.size,i.zero.isSome))=some (3,true):=by kernel_rfl
instance:KP Tryz.prog 78 3:=⟨aPX⟩
theorem a61:((Tryz.prog.info? 9).map fun i=>(i.size,i.bytes,i.zero.map fun z=>z.cells.toList))=some (1,16,some [str []]):=by kernel_rfl
theorem xE:(Tryz.prog.info? 9).map (·.size)=some 1:=by kernel_rfl
instance:zO Tryz.prog 9 1:=⟨xE⟩
theorem aWa:(Tryz.prog.info? 5).map (·.size)=some 1:=by kernel_rfl
instance:zO Tryz.prog 5 1:=⟨aWa⟩
theorem a7T:OneCell Tryz.prog 5:=lD Tryz.underlying5 rfl
instance:MF Tryz.prog 5:=⟨a7T⟩
theorem aWJ:cF Tryz.prog 78 1 1:=bO (n:=0) (f:=⟨_,_,1,_,_,_,_⟩) Tryz.underlying78 rfl (by kernel_rfl)
instance:kJ Tryz.prog 78 1 1:=⟨aWJ⟩
theorem o5:OneCell Tryz.prog 3:=lD Tryz.underlying3 rfl
instance:MF Tryz.prog 3:=⟨o5⟩
theorem aLL:cF Tryz.prog 78 2 2:=bO (n:=0) (f:=⟨_,_,2,_,_,_,_⟩) Tryz.underlying78 rfl (by kernel_rfl)
instance:kJ Tryz.prog 78 2 2:=⟨aLL⟩
theorem a1g:OneCell Tryz.prog 91:=lD Tryz.underlying91 rfl
instance:MF Tryz.prog 91:=⟨a1g⟩
theorem a1a:((Tryz.prog.info? 78).map (·.size)).isSome=true:=by kernel_rfl
theorem aIp:((Tryz.prog.info? 78).map fun i=>(i.size,i.bytes,(i.zero.map fun z=>z.cells.size)))=some (3,40,some 3):=by kernel_rfl
instance:M6 Tryz.prog 78 3 40:=⟨aIp⟩
theorem aNi : ∀ w:World,(zeroValue 78).run Tryz.prog w = .ok (.agg #[str [],i64 0,str []]) w:=by intro w; kernel_rfl
theorem MJ:s9 Tryz.prog 37 17:=oQ Tryz.underlying37 rfl (by kernel_rfl)
instance:OL Tryz.prog 37 17:=⟨MJ⟩
theorem aSD:cF Tryz.prog 168 0 0:=bO (n:=0) (f:=⟨_,_,0,_,_,_,_⟩) Tryz.underlying168 rfl (by kernel_rfl)
instance:kJ Tryz.prog 168 0 0:=⟨aSD⟩
theorem aWY:((Tryz.prog.info? 3).map fun i=>(i.size,i.zero.isSome))=some (1,true):=by kernel_rfl
instance:KP Tryz.prog 3 1:=⟨aWY⟩
theorem E3:(Tryz.prog.info? 3).map (·.size)=some 1:=by kernel_rfl
instance:zO Tryz.prog 3 1:=⟨E3⟩
theorem aSC:cF Tryz.prog 166 0 0:=bO (n:=0) (f:=⟨_,_,0,_,_,_,_⟩) Tryz.underlying166 rfl (by kernel_rfl)
instance:kJ Tryz.prog 166 0 0:=⟨aSC⟩
theorem a7R:((Tryz.prog.info? 5).map fun i=>(i.size,i.zero.isSome))=some (1,true):=by kernel_rfl
instance:KP Tryz.prog 5 1:=⟨a7R⟩
theorem a7L:((Tryz.prog.info? 5).map fun i=>(i.size,i.bytes,(i.zero.map fun z=>z.cells.size)))=some (1,1,some 1):=by kernel_rfl
instance:M6 Tryz.prog 5 1 1:=⟨a7L⟩
theorem a7S:((Tryz.prog.info? 9).map fun i=>(i.size,i.zero.isSome))=some (1,true):=by kernel_rfl
instance:KP Tryz.prog 9 1:=⟨a7S⟩
theorem a7J:((Tryz.prog.info? 5).map fun i=>(i.size,i.bytes,i.zero))=some (1,1,some (.int .u8 0)):=by kernel_rfl
theorem aBB:cF Tryz.prog 37 1 1:=bO (n:=0) (f:=⟨_,_,1,_,_,_,_⟩) Tryz.underlying37 rfl (by kernel_rfl)
instance:kJ Tryz.prog 37 1 1:=⟨aBB⟩
theorem aBE:OneCell Tryz.prog 27:=lD Tryz.underlying27 rfl
instance:MF Tryz.prog 27:=⟨aBE⟩
theorem oH:(Tryz.prog.info? 80).map (·.size)=some 6:=by kernel_rfl
instance:zO Tryz.prog 80 6:=⟨oH⟩
theorem F1:s9 Tryz.prog 80 6:=oQ Tryz.underlying80 rfl (by kernel_rfl)
instance:OL Tryz.prog 80 6:=⟨F1⟩
theorem aWK:cF Tryz.prog 80 0 0:=bO (n:=0) (f:=⟨_,_,0,_,_,_,_⟩) Tryz.underlying80 rfl (by kernel_rfl)
instance:kJ Tryz.prog 80 0 0:=⟨aWK⟩
theorem aWL:cF Tryz.prog 80 1 1:=bO (n:=0) (f:=⟨_,_,1,_,_,_,_⟩) Tryz.underlying80 rfl (by kernel_rfl)
instance:kJ Tryz.prog 80 1 1:=⟨aWL⟩
theorem aWM:cF Tryz.prog 80 2 2:=bO (n:=0) (f:=⟨_,_,2,_,_,_,_⟩) Tryz.underlying80 rfl (by kernel_rfl)
instance:kJ Tryz.prog 80 2 2:=⟨aWM⟩
theorem aWN:cF Tryz.prog 80 3 3:=bO (n:=0) (f:=⟨_,_,3,_,_,_,_⟩) Tryz.underlying80 rfl (by kernel_rfl)
instance:kJ Tryz.prog 80 3 3:=⟨aWN⟩
theorem aWO:cF Tryz.prog 80 4 4:=bO (n:=0) (f:=⟨_,_,4,_,_,_,_⟩) Tryz.underlying80 rfl (by kernel_rfl)
instance:kJ Tryz.prog 80 4 4:=⟨aWO⟩
theorem aWP:cF Tryz.prog 80 5 5:=bO (n:=0) (f:=⟨_,_,5,_,_,_,_⟩) Tryz.underlying80 rfl (by kernel_rfl)
instance:kJ Tryz.prog 80 5 5:=⟨aWP⟩
theorem aVx:cF Tryz.prog 37 2 2:=bO (n:=0) (f:=⟨_,_,2,_,_,_,_⟩) Tryz.underlying37 rfl (by kernel_rfl)
instance:kJ Tryz.prog 37 2 2:=⟨aVx⟩
theorem a1d:OneCell Tryz.prog 28:=lD Tryz.underlying28 rfl
instance:MF Tryz.prog 28:=⟨a1d⟩
theorem vT:(Tryz.prog.info? 76).map (·.size)=some 2:=by kernel_rfl
instance:zO Tryz.prog 76 2:=⟨vT⟩
theorem aIn:s9 Tryz.prog 76 2:=oQ Tryz.underlying76 rfl (by kernel_rfl)
instance:OL Tryz.prog 76 2:=⟨aIn⟩
theorem aWH:cF Tryz.prog 76 0 0:=bO (n:=0) (f:=⟨_,_,0,_,_,_,_⟩) Tryz.underlying76 rfl (by kernel_rfl)
instance:kJ Tryz.prog 76 0 0:=⟨aWH⟩
theorem aWI:cF Tryz.prog 76 1 1:=bO (n:=0) (f:=⟨_,_,1,_,_,_,_⟩) Tryz.underlying76 rfl (by kernel_rfl)
instance:kJ Tryz.prog 76 1 1:=⟨aWI⟩
theorem aFe:cF Tryz.prog 37 3 3:=bO (n:=1) (f:=⟨_,_,3,_,_,_,_⟩) Tryz.underlying37 rfl (by kernel_rfl)
instance:kJ Tryz.prog 37 3 3:=⟨aFe⟩
theorem EK:s9 Tryz.prog 30 2:=oQ Tryz.underlying30 rfl (by kernel_rfl)
instance:OL Tryz.prog 30 2:=⟨EK⟩
theorem aLE:cF Tryz.prog 30 0 0:=bO (n:=0) (f:=⟨_,_,0,_,_,_,_⟩) Tryz.underlying30 rfl (by kernel_rfl)
instance:kJ Tryz.prog 30 0 0:=⟨aLE⟩
theorem aVu:cF Tryz.prog 30 1 1:=bO (n:=0) (f:=⟨_,_,1,_,_,_,_⟩) Tryz.underlying30 rfl (by kernel_rfl)
instance:kJ Tryz.prog 30 1 1:=⟨aVu⟩
theorem B4:cF Tryz.prog 37 4 5:=bO (n:=10) (f:=⟨_,_,5,_,_,_,_⟩) Tryz.underlying37 rfl (by kernel_rfl)
instance:kJ Tryz.prog 37 4 5:=⟨B4⟩
theorem HZ:s9 Tryz.prog 33 11:=oQ Tryz.underlying33 rfl (by kernel_rfl)
instance:OL Tryz.prog 33 11:=⟨HZ⟩
theorem Q5:cF Tryz.prog 33 0 0:=bO (n:=0) (f:=⟨_,_,0,_,_,_,_⟩) Tryz.underlying33 rfl (by kernel_rfl)
instance:kJ Tryz.prog 33 0 0:=⟨Q5⟩
theorem aF9:cF Tryz.prog 33 1 1:=bO (n:=0) (f:=⟨_,_,1,_,_,_,_⟩) Tryz.underlying33 rfl (by kernel_rfl)
instance:kJ Tryz.prog 33 1 1:=⟨aF9⟩
theorem aFa:cF Tryz.prog 33 2 2:=bO (n:=0) (f:=⟨_,_,2,_,_,_,_⟩) Tryz.underlying33 rfl (by kernel_rfl)
instance:kJ Tryz.prog 33 2 2:=⟨aFa⟩
theorem aVv:cF Tryz.prog 33 3 3:=bO (n:=0) (f:=⟨_,_,3,_,_,_,_⟩) Tryz.underlying33 rfl (by kernel_rfl)
instance:kJ Tryz.prog 33 3 3:=⟨aVv⟩
theorem aEX:OneCell Tryz.prog 31:=lD Tryz.underlying31 rfl
instance:MF Tryz.prog 31:=⟨aEX⟩
theorem KE:(Tryz.prog.info? 139).map (·.size)=some 3:=by kernel_rfl
instance:zO Tryz.prog 139 3:=⟨KE⟩
theorem NK:s9 Tryz.prog 139 3:=oQ Tryz.underlying139 rfl (by kernel_rfl)
instance:OL Tryz.prog 139 3:=⟨NK⟩
theorem aRx:cF Tryz.prog 139 0 0:=bO (n:=0) (f:=⟨_,_,0,_,_,_,_⟩) Tryz.underlying139 rfl (by kernel_rfl)
instance:kJ Tryz.prog 139 0 0:=⟨aRx⟩
theorem CG:cF Tryz.prog 139 1 1:=bO (n:=0) (f:=⟨_,_,1,_,_,_,_⟩) Tryz.underlying139 rfl (by kernel_rfl)
instance:kJ Tryz.prog 139 1 1:=⟨CG⟩
theorem aRy:cF Tryz.prog 139 2 2:=bO (n:=0) (f:=⟨_,_,2,_,_,_,_⟩) Tryz.underlying139 rfl (by kernel_rfl)
instance:kJ Tryz.prog 139 2 2:=⟨aRy⟩
theorem U8:cF Tryz.prog 33 4 4:=bO (n:=0) (f:=⟨_,_,4,_,_,_,_⟩) Tryz.underlying33 rfl (by kernel_rfl)
instance:kJ Tryz.prog 33 4 4:=⟨U8⟩
theorem aFb:cF Tryz.prog 33 5 5:=bO (n:=0) (f:=⟨_,_,5,_,_,_,_⟩) Tryz.underlying33 rfl (by kernel_rfl)
instance:kJ Tryz.prog 33 5 5:=⟨aFb⟩
theorem aFc:cF Tryz.prog 33 6 6:=bO (n:=0) (f:=⟨_,_,6,_,_,_,_⟩) Tryz.underlying33 rfl (by kernel_rfl)
instance:kJ Tryz.prog 33 6 6:=⟨aFc⟩
theorem aFd:cF Tryz.prog 33 7 7:=bO (n:=1) (f:=⟨_,_,7,_,_,_,_⟩) Tryz.underlying33 rfl (by kernel_rfl)
instance:kJ Tryz.prog 33 7 7:=⟨aFd⟩
theorem aLF:cF Tryz.prog 33 8 9:=bO (n:=0) (f:=⟨_,_,9,_,_,_,_⟩) Tryz.underlying33 rfl (by kernel_rfl)
instance:kJ Tryz.prog 33 8 9:=⟨aLF⟩
theorem aVw:cF Tryz.prog 33 9 10:=bO (n:=0) (f:=⟨_,_,10,_,_,_,_⟩) Tryz.underlying33 rfl (by kernel_rfl)
instance:kJ Tryz.prog 33 9 10:=⟨aVw⟩
theorem aVy:cF Tryz.prog 37 5 16:=bO (n:=0) (f:=⟨_,_,16,_,_,_,_⟩) Tryz.underlying37 rfl (by kernel_rfl)
instance:kJ Tryz.prog 37 5 16:=⟨aVy⟩
theorem a1e:OneCell Tryz.prog 35:=lD Tryz.underlying35 rfl
instance:MF Tryz.prog 35:=⟨a1e⟩
theorem oA:(Tryz.prog.info? 142).map (·.size)=some 4:=by kernel_rfl
instance:zO Tryz.prog 142 4:=⟨oA⟩
theorem Q4:s9 Tryz.prog 142 4:=oQ Tryz.underlying142 rfl (by kernel_rfl)
instance:OL Tryz.prog 142 4:=⟨Q4⟩
theorem XG:cF Tryz.prog 142 0 0:=bO (n:=0) (f:=⟨_,_,0,_,_,_,_⟩) Tryz.underlying142 rfl (by kernel_rfl)
instance:kJ Tryz.prog 142 0 0:=⟨XG⟩
theorem aRz:cF Tryz.prog 142 1 1:=bO (n:=0) (f:=⟨_,_,1,_,_,_,_⟩) Tryz.underlying142 rfl (by kernel_rfl)
instance:kJ Tryz.prog 142 1 1:=⟨aRz⟩
theorem aHl:cF Tryz.prog 142 2 2:=bO (n:=0) (f:=⟨_,_,2,_,_,_,_⟩) Tryz.underlying142 rfl (by kernel_rfl)
instance:kJ Tryz.prog 142 2 2:=⟨aHl⟩
theorem aSA:cF Tryz.prog 142 3 3:=bO (n:=0) (f:=⟨_,_,3,_,_,_,_⟩) Tryz.underlying142 rfl (by kernel_rfl)
instance:kJ Tryz.prog 142 3 3:=⟨aSA⟩
theorem aBC:cF Tryz.prog 43 1 17:=bO (n:=0) (f:=⟨_,_,17,_,_,_,_⟩) Tryz.underlying43 rfl (by kernel_rfl)
instance:kJ Tryz.prog 43 1 17:=⟨aBC⟩
theorem aEY:OneCell Tryz.prog 38:=lD Tryz.underlying38 rfl
instance:MF Tryz.prog 38:=⟨aEY⟩
theorem PU:(Tryz.prog.info? 59).map (·.size)=some 4:=by kernel_rfl
instance:zO Tryz.prog 59 4:=⟨PU⟩
theorem SI:s9 Tryz.prog 59 4:=oQ Tryz.underlying59 rfl (by kernel_rfl)
instance:OL Tryz.prog 59 4:=⟨SI⟩
theorem K2:cF Tryz.prog 59 0 0:=bO (n:=0) (f:=⟨_,_,0,_,_,_,_⟩) Tryz.underlying59 rfl (by kernel_rfl)
instance:kJ Tryz.prog 59 0 0:=⟨K2⟩
theorem aWD:cF Tryz.prog 59 1 1:=bO (n:=0) (f:=⟨_,_,1,_,_,_,_⟩) Tryz.underlying59 rfl (by kernel_rfl)
instance:kJ Tryz.prog 59 1 1:=⟨aWD⟩
theorem XJ:OneCell Tryz.prog 57:=lD Tryz.underlying57 rfl
instance:MF Tryz.prog 57:=⟨XJ⟩
theorem aWE:cF Tryz.prog 59 2 2:=bO (n:=0) (f:=⟨_,_,2,_,_,_,_⟩) Tryz.underlying59 rfl (by kernel_rfl)
instance:kJ Tryz.prog 59 2 2:=⟨aWE⟩
theorem aLJ:cF Tryz.prog 59 3 3:=bO (n:=0) (f:=⟨_,_,3,_,_,_,_⟩) Tryz.underlying59 rfl (by kernel_rfl)
instance:kJ Tryz.prog 59 3 3:=⟨aLJ⟩
theorem U9:cF Tryz.prog 43 2 18:=bO (n:=1) (f:=⟨_,_,18,_,_,_,_⟩) Tryz.underlying43 rfl (by kernel_rfl)
instance:kJ Tryz.prog 43 2 18:=⟨U9⟩
theorem aVz:cF Tryz.prog 41 0 0:=bO (n:=0) (f:=⟨_,_,0,_,_,_,_⟩) Tryz.underlying41 rfl (by kernel_rfl)
instance:kJ Tryz.prog 41 0 0:=⟨aVz⟩
theorem rR:OneCell Tryz.prog 39:=lD Tryz.underlying39 rfl
instance:MF Tryz.prog 39:=⟨rR⟩
theorem aWA:cF Tryz.prog 41 1 1:=bO (n:=0) (f:=⟨_,_,1,_,_,_,_⟩) Tryz.underlying41 rfl (by kernel_rfl)
instance:kJ Tryz.prog 41 1 1:=⟨aWA⟩
theorem VA:cF Tryz.prog 43 3 20:=bO (n:=0) (f:=⟨_,_,20,_,_,_,_⟩) Tryz.underlying43 rfl (by kernel_rfl)
instance:kJ Tryz.prog 43 3 20:=⟨VA⟩
theorem a7P:((Tryz.prog.info? 5).map (·.size)).isSome=true:=by kernel_rfl
theorem aFj:OneCell Tryz.prog 144:=lD Tryz.underlying144 rfl
instance:MF Tryz.prog 144:=⟨aFj⟩
theorem aSB:cF Tryz.prog 148 0 0:=bO (n:=0) (f:=⟨_,_,0,_,_,_,_⟩) Tryz.underlying148 rfl (by kernel_rfl)
instance:kJ Tryz.prog 148 0 0:=⟨aSB⟩
theorem aW1:OneCell Tryz.prog 145:=lD Tryz.underlying145 rfl
instance:MF Tryz.prog 145:=⟨aW1⟩
theorem aSG:cF Tryz.prog 193 2 2:=bO (n:=0) (f:=⟨_,_,2,_,_,_,_⟩) Tryz.underlying193 rfl (by kernel_rfl)
instance:kJ Tryz.prog 193 2 2:=⟨aSG⟩
theorem aSF:cF Tryz.prog 193 1 1:=bO (n:=0) (f:=⟨_,_,1,_,_,_,_⟩) Tryz.underlying193 rfl (by kernel_rfl)
instance:kJ Tryz.prog 193 1 1:=⟨aSF⟩
theorem aSE:cF Tryz.prog 193 0 0:=bO (n:=0) (f:=⟨_,_,0,_,_,_,_⟩) Tryz.underlying193 rfl (by kernel_rfl)
instance:kJ Tryz.prog 193 0 0:=⟨aSE⟩
theorem a7W:(Tryz.prog.info? 46).map (·.size)=some 1:=by kernel_rfl
instance:zO Tryz.prog 46 1:=⟨a7W⟩
theorem aHm:cF Tryz.prog 148 1 1:=bO (n:=0) (f:=⟨_,_,1,_,_,_,_⟩) Tryz.underlying148 rfl (by kernel_rfl)
instance:kJ Tryz.prog 148 1 1:=⟨aHm⟩
theorem LU:OneCell Tryz.prog 4:=lD Tryz.underlying4 rfl
instance:MF Tryz.prog 4:=⟨LU⟩
theorem I3:(Tryz.prog.info? 4).map (·.size)=some 1:=by kernel_rfl
instance:zO Tryz.prog 4 1:=⟨I3⟩
theorem aFk:(Tryz.prog.info? 26).map (·.size)=some 1:=by kernel_rfl
instance:zO Tryz.prog 26 1:=⟨aFk⟩
theorem aPY:((Tryz.prog.info? 80).map fun i=>(i.size,i.zero.isSome))=some (6,true):=by kernel_rfl
instance:KP Tryz.prog 80 6:=⟨aPY⟩
theorem aIq:((Tryz.prog.info? 80).map fun i=>(i.size,i.bytes,(i.zero.map fun z=>z.cells.size)))=some (6,64,some 6):=by kernel_rfl
instance:M6 Tryz.prog 80 6 64:=⟨aIq⟩
theorem aW8:(Tryz.prog.info? 27).map (·.size)=some 1:=by kernel_rfl
instance:zO Tryz.prog 27 1:=⟨aW8⟩
theorem aIs:(Tryz.prog.info? 37).map (·.size)=some 17:=by kernel_rfl
instance:zO Tryz.prog 37 17:=⟨aIs⟩
theorem aPW:((Tryz.prog.info? 76).map fun i=>(i.size,i.zero.isSome))=some (2,true):=by kernel_rfl
instance:KP Tryz.prog 76 2:=⟨aPW⟩
theorem aIo:((Tryz.prog.info? 76).map fun i=>(i.size,i.bytes,(i.zero.map fun z=>z.cells.size)))=some (2,24,some 2):=by kernel_rfl
instance:M6 Tryz.prog 76 2 24:=⟨aIo⟩
theorem a7U:(Tryz.prog.info? 28).map (·.size)=some 1:=by kernel_rfl
instance:zO Tryz.prog 28 1:=⟨a7U⟩
theorem aW9:(Tryz.prog.info? 30).map (·.size)=some 2:=by kernel_rfl
instance:zO Tryz.prog 30 2:=⟨aW9⟩
theorem aFh:((Tryz.prog.info? 139).map fun i=>(i.size,i.zero.isSome))=some (3,true):=by kernel_rfl
instance:KP Tryz.prog 139 3:=⟨aFh⟩
theorem aVp:((Tryz.prog.info? 139).map fun i=>(i.size,i.bytes,(i.zero.map fun z=>z.cells.size)))=some (3,40,some 3):=by kernel_rfl
instance:M6 Tryz.prog 139 3 40:=⟨aVp⟩
theorem aIr:(Tryz.prog.info? 31).map (·.size)=some 1:=by kernel_rfl
instance:zO Tryz.prog 31 1:=⟨aIr⟩
theorem aFl:(Tryz.prog.info? 33).map (·.size)=some 11:=by kernel_rfl
instance:zO Tryz.prog 33 11:=⟨aFl⟩
theorem aBD:((Tryz.prog.info? 142).map fun i=>(i.size,i.zero.isSome))=some (4,true):=by kernel_rfl
instance:KP Tryz.prog 142 4:=⟨aBD⟩
theorem U7:((Tryz.prog.info? 142).map fun i=>(i.size,i.bytes,(i.zero.map fun z=>z.cells.size)))=some (4,72,some 4):=by kernel_rfl
instance:M6 Tryz.prog 142 4 72:=⟨U7⟩
theorem a7V:(Tryz.prog.info? 35).map (·.size)=some 1:=by kernel_rfl
instance:zO Tryz.prog 35 1:=⟨a7V⟩
theorem a7K:((Tryz.prog.info? 3).map fun i=>(i.size,i.bytes,(i.zero.map fun z=>z.cells.size)))=some (1,8,some 1):=by kernel_rfl
instance:M6 Tryz.prog 3 1 8:=⟨a7K⟩
theorem aFn:(Tryz.prog.info? 57).map (·.size)=some 1:=by kernel_rfl
instance:zO Tryz.prog 57 1:=⟨aFn⟩
theorem aEW:((Tryz.prog.info? 59).map fun i=>(i.size,i.zero.isSome))=some (4,true):=by kernel_rfl
instance:KP Tryz.prog 59 4:=⟨aEW⟩
theorem aBA:((Tryz.prog.info? 59).map fun i=>(i.size,i.bytes,(i.zero.map fun z=>z.cells.size)))=some (4,72,some 4):=by kernel_rfl
instance:M6 Tryz.prog 59 4 72:=⟨aBA⟩
theorem aNh:(Tryz.prog.info? 38).map (·.size)=some 1:=by kernel_rfl
instance:zO Tryz.prog 38 1:=⟨aNh⟩
theorem a7M:((Tryz.prog.info? 9).map fun i=>(i.size,i.bytes,(i.zero.map fun z=>z.cells.size)))=some (1,16,some 1):=by kernel_rfl
instance:M6 Tryz.prog 9 1 16:=⟨a7M⟩
theorem SJ:(Tryz.prog.info? 39).map (·.size)=some 1:=by kernel_rfl
instance:zO Tryz.prog 39 1:=⟨SJ⟩
theorem aCe:(Tryz.prog.info? 41).map (·.size)=some 2:=by kernel_rfl
instance:zO Tryz.prog 41 2:=⟨aCe⟩
theorem a7Z:(Tryz.prog.info? 83).map (·.size)=some 6:=by kernel_rfl
instance:zO Tryz.prog 83 6:=⟨a7Z⟩
theorem aWR:cF Tryz.prog 83 3 3:=bO (n:=0) (f:=⟨_,_,3,_,_,_,_⟩) Tryz.underlying83 rfl (by kernel_rfl)
instance:kJ Tryz.prog 83 3 3:=⟨aWR⟩
theorem aPP:s9 Tryz.prog 83 6:=oQ Tryz.underlying83 rfl (by kernel_rfl)
instance:OL Tryz.prog 83 6:=⟨aPP⟩
theorem aWQ:cF Tryz.prog 83 0 0:=bO (n:=0) (f:=⟨_,_,0,_,_,_,_⟩) Tryz.underlying83 rfl (by kernel_rfl)
instance:kJ Tryz.prog 83 0 0:=⟨aWQ⟩
theorem aWS:cF Tryz.prog 83 4 4:=bO (n:=0) (f:=⟨_,_,4,_,_,_,_⟩) Tryz.underlying83 rfl (by kernel_rfl)
instance:kJ Tryz.prog 83 4 4:=⟨aWS⟩
theorem aFf:cF Tryz.prog 83 1 1:=bO (n:=0) (f:=⟨_,_,1,_,_,_,_⟩) Tryz.underlying83 rfl (by kernel_rfl)
instance:kJ Tryz.prog 83 1 1:=⟨aFf⟩
theorem aFg:cF Tryz.prog 83 2 2:=bO (n:=0) (f:=⟨_,_,2,_,_,_,_⟩) Tryz.underlying83 rfl (by kernel_rfl)
instance:kJ Tryz.prog 83 2 2:=⟨aFg⟩
theorem aWT:cF Tryz.prog 83 5 5:=bO (n:=0) (f:=⟨_,_,5,_,_,_,_⟩) Tryz.underlying83 rfl (by kernel_rfl)
instance:kJ Tryz.prog 83 5 5:=⟨aWT⟩
theorem a1c:((Tryz.prog.info? 91).map fun i=>(i.size,i.zero.isSome))=some (1,true):=by kernel_rfl
instance:KP Tryz.prog 91 1:=⟨a1c⟩
theorem a71:(Tryz.prog.info? 91).map (·.size)=some 1:=by kernel_rfl
instance:zO Tryz.prog 91 1:=⟨a71⟩
theorem XI:((Tryz.prog.info? 26).map fun i=>(i.size,i.zero.isSome))=some (1,true):=by kernel_rfl
instance:KP Tryz.prog 26 1:=⟨XI⟩
theorem a1b:((Tryz.prog.info? 80).map (·.size)).isSome=true:=by kernel_rfl
theorem aWb : ∀ w:World,(zeroValue 80).run Tryz.prog w = .ok (.agg #[str [],i64 0,i64 0,str [],i64 0,i64 0]) w:=by intro w; kernel_rfl
theorem aPU : ∀ (x0:List UInt8) (x1:Int) (x2:List UInt8) (y0:List UInt8) (y1:Int) (y2:List UInt8) (w:World),(Op.equalIn 10000 78 (.agg #[str x0,i64 x1,str x2]) (.agg #[str y0,i64 y1,str y2])).run Tryz.prog w = .ok (decide (x0=y0∧x1=y1∧x2=y2)) w:=by
 intro x0 x1 x2 y0 y1 y2 w
 have hS:Tryz.prog.underlying 78=some (.struct (Tryz.prog.fieldsOf 78)):=by kernel_rfl
 rw [show (10000:Nat)=9999+1 from rfl,run_equalIn_agg w 9999 78 _ _ hS (by kernel_rfl)]
 simp only [Program.fieldsOf,Tryz.underlying78]
 go_simp
 by_cases h0:x0=y0 <;> by_cases h1:x1=y1 <;> by_cases h2:x2=y2 <;> simp [h0,h1,h2]
theorem aPS:Tryz.prog.eqGuardType Tryz.prog.depth 78=false:=by kernel_rfl
theorem bAZ : ∀ w:World,(zeroValue 3).run Tryz.prog w = .ok (i64 0) w:=by intro w; kernel_rfl
theorem a18:((Tryz.prog.info? 59).map (·.size)).isSome=true:=by kernel_rfl
theorem a19:((Tryz.prog.info? 76).map (·.size)).isSome=true:=by kernel_rfl
theorem a73 : ∀ w:World,(zeroValue 76).run Tryz.prog w = .ok (.agg #[str [],i64 0]) w:=by intro w; kernel_rfl
theorem uF:(Tryz.prog.info? 300).map (·.size)=some 3:=by kernel_rfl
instance:zO Tryz.prog 300 3:=⟨uF⟩
theorem a1i:(Tryz.prog.info? 403).map (·.size)=some 4:=by kernel_rfl
instance:zO Tryz.prog 403 4:=⟨a1i⟩
theorem aAy:s9 Tryz.prog 403 4:=oQ Tryz.underlying403 rfl (by kernel_rfl)
instance:OL Tryz.prog 403 4:=⟨aAy⟩
theorem aF8 : ∀ (x0:List UInt8) (x1:Int) (x2:List UInt8) (x3:Bool) (y0:List UInt8) (y1:Int) (y2:List UInt8) (y3:Bool) (w:World),(Op.equalIn 10000 403 (.agg #[str x0,i64 x1,str x2,.bool x3]) (.agg #[str y0,i64 y1,str y2,.bool y3])).run Tryz.prog w = .ok (decide (x0=y0∧x1=y1∧x2=y2∧x3=y3)) w:=by
 intro x0 x1 x2 x3 y0 y1 y2 y3 w
 have hS:Tryz.prog.underlying 403=some (.struct (Tryz.prog.fieldsOf 403)):=by kernel_rfl
 rw [show (10000:Nat)=9999+1 from rfl,run_equalIn_agg w 9999 403 _ _ hS (by kernel_rfl)]
 simp only [Program.fieldsOf,Tryz.underlying403]
 go_simp
 by_cases h0:x0=y0 <;> by_cases h1:x1=y1 <;> by_cases h2:x2=y2 <;> by_cases h3:x3=y3 <;> simp [h0,h1,h2,h3]
theorem aF6:Tryz.prog.eqGuardType Tryz.prog.depth 403=false:=by kernel_rfl
theorem aCc:cF Tryz.prog 403 0 0:=bO (n:=2) (f:=⟨_,_,0,_,_,_,_⟩) Tryz.underlying403 rfl (by kernel_rfl)
instance:kJ Tryz.prog 403 0 0:=⟨aCc⟩
theorem aSM:cF Tryz.prog 403 1 3:=bO (n:=0) (f:=⟨_,_,3,_,_,_,_⟩) Tryz.underlying403 rfl (by kernel_rfl)
instance:kJ Tryz.prog 403 1 3:=⟨aSM⟩
theorem bAW:((Tryz.prog.info? 3).map fun i=>(i.size,i.bytes,i.zero.map fun z=>z.cells.toList))=some (1,8,some [i64 0]):=by kernel_rfl
theorem aS2:cF Tryz.prog 456 2 2:=bO (n:=0) (f:=⟨_,_,2,_,_,_,_⟩) Tryz.underlying456 rfl (by kernel_rfl)
instance:kJ Tryz.prog 456 2 2:=⟨aS2⟩
theorem aS1:cF Tryz.prog 456 1 1:=bO (n:=0) (f:=⟨_,_,1,_,_,_,_⟩) Tryz.underlying456 rfl (by kernel_rfl)
instance:kJ Tryz.prog 456 1 1:=⟨aS1⟩
theorem aP1:(Tryz.prog.info? 443).map (·.size)=some 2:=by kernel_rfl
instance:zO Tryz.prog 443 2:=⟨aP1⟩
theorem aS0:cF Tryz.prog 456 0 0:=bO (n:=0) (f:=⟨_,_,0,_,_,_,_⟩) Tryz.underlying456 rfl (by kernel_rfl)
instance:kJ Tryz.prog 456 0 0:=⟨aS0⟩
theorem aW0:((Tryz.prog.info? 443).map fun i=>(i.size,i.zero.isSome))=some (2,true):=by kernel_rfl
instance:KP Tryz.prog 443 2:=⟨aW0⟩
theorem aVr:((Tryz.prog.info? 443).map fun i=>(i.size,i.bytes,(i.zero.map fun z=>z.cells.size)))=some (2,24,some 2):=by kernel_rfl
instance:M6 Tryz.prog 443 2 24:=⟨aVr⟩
theorem aVo:s9 Tryz.prog 443 2:=oQ Tryz.underlying443 rfl (by kernel_rfl)
instance:OL Tryz.prog 443 2:=⟨aVo⟩
theorem aSZ:cF Tryz.prog 443 0 0:=bO (n:=0) (f:=⟨_,_,0,_,_,_,_⟩) Tryz.underlying443 rfl (by kernel_rfl)
instance:kJ Tryz.prog 443 0 0:=⟨aSZ⟩
theorem aWZ:((Tryz.prog.info? 437).map fun i=>(i.size,i.zero.isSome))=some (3,true):=by kernel_rfl
instance:KP Tryz.prog 437 3:=⟨aWZ⟩
theorem aVq:((Tryz.prog.info? 437).map fun i=>(i.size,i.bytes,(i.zero.map fun z=>z.cells.size)))=some (3,24,some 3):=by kernel_rfl
instance:M6 Tryz.prog 437 3 24:=⟨aVq⟩
theorem aE0:(Tryz.prog.info? 437).map (·.size)=some 3:=by kernel_rfl
instance:zO Tryz.prog 437 3:=⟨aE0⟩
theorem aSY:cF Tryz.prog 437 2 2:=bO (n:=0) (f:=⟨_,_,2,_,_,_,_⟩) Tryz.underlying437 rfl (by kernel_rfl)
instance:kJ Tryz.prog 437 2 2:=⟨aSY⟩
theorem aVn:s9 Tryz.prog 437 3:=oQ Tryz.underlying437 rfl (by kernel_rfl)
instance:OL Tryz.prog 437 3:=⟨aVn⟩
theorem aSW:cF Tryz.prog 437 0 0:=bO (n:=0) (f:=⟨_,_,0,_,_,_,_⟩) Tryz.underlying437 rfl (by kernel_rfl)
instance:kJ Tryz.prog 437 0 0:=⟨aSW⟩
theorem aSX:cF Tryz.prog 437 1 1:=bO (n:=0) (f:=⟨_,_,1,_,_,_,_⟩) Tryz.underlying437 rfl (by kernel_rfl)
instance:kJ Tryz.prog 437 1 1:=⟨aSX⟩
theorem a7Q:((Tryz.prog.info? 9).map (·.size)).isSome=true:=by kernel_rfl
theorem aBF:(Tryz.prog.info? 422).map (·.size)=some 5:=by kernel_rfl
instance:zO Tryz.prog 422 5:=⟨aBF⟩
theorem Q6:cF Tryz.prog 422 4 4:=bO (n:=0) (f:=⟨_,_,4,_,_,_,_⟩) Tryz.underlying422 rfl (by kernel_rfl)
instance:kJ Tryz.prog 422 4 4:=⟨Q6⟩
theorem aLD:s9 Tryz.prog 422 5:=oQ Tryz.underlying422 rfl (by kernel_rfl)
instance:OL Tryz.prog 422 5:=⟨aLD⟩
theorem aSN:cF Tryz.prog 422 3 3:=bO (n:=0) (f:=⟨_,_,3,_,_,_,_⟩) Tryz.underlying422 rfl (by kernel_rfl)
instance:kJ Tryz.prog 422 3 3:=⟨aSN⟩
theorem aCd:cF Tryz.prog 422 1 1:=bO (n:=0) (f:=⟨_,_,1,_,_,_,_⟩) Tryz.underlying422 rfl (by kernel_rfl)
instance:kJ Tryz.prog 422 1 1:=⟨aCd⟩
theorem XH:cF Tryz.prog 422 2 2:=bO (n:=0) (f:=⟨_,_,2,_,_,_,_⟩) Tryz.underlying422 rfl (by kernel_rfl)
instance:kJ Tryz.prog 422 2 2:=⟨XH⟩
theorem aSH:cF Tryz.prog 300 0 0:=bO (n:=0) (f:=⟨_,_,0,_,_,_,_⟩) Tryz.underlying300 rfl (by kernel_rfl)
instance:kJ Tryz.prog 300 0 0:=⟨aSH⟩
theorem aSJ:cF Tryz.prog 300 2 2:=bO (n:=0) (f:=⟨_,_,2,_,_,_,_⟩) Tryz.underlying300 rfl (by kernel_rfl)
instance:kJ Tryz.prog 300 2 2:=⟨aSJ⟩
theorem aSI:cF Tryz.prog 300 1 1:=bO (n:=0) (f:=⟨_,_,1,_,_,_,_⟩) Tryz.underlying300 rfl (by kernel_rfl)
instance:kJ Tryz.prog 300 1 1:=⟨aSI⟩
theorem aVl:s9 Tryz.prog 300 3:=oQ Tryz.underlying300 rfl (by kernel_rfl)
instance:OL Tryz.prog 300 3:=⟨aVl⟩
theorem a1h:(Tryz.prog.info? 349).map (·.size)=some 4:=by kernel_rfl
instance:zO Tryz.prog 349 4:=⟨a1h⟩
theorem aVm:s9 Tryz.prog 349 4:=oQ Tryz.underlying349 rfl (by kernel_rfl)
instance:OL Tryz.prog 349 4:=⟨aVm⟩
theorem aF7 : ∀ (x0:List UInt8) (x1:Int) (x2:List UInt8) (x3:Bool) (y0:List UInt8) (y1:Int) (y2:List UInt8) (y3:Bool) (w:World),(Op.equalIn 10000 349 (.agg #[str x0,i64 x1,str x2,.bool x3]) (.agg #[str y0,i64 y1,str y2,.bool y3])).run Tryz.prog w = .ok (decide (x0=y0∧x1=y1∧x2=y2∧x3=y3)) w:=by
 intro x0 x1 x2 x3 y0 y1 y2 y3 w
 have hS:Tryz.prog.underlying 349=some (.struct (Tryz.prog.fieldsOf 349)):=by kernel_rfl
 rw [show (10000:Nat)=9999+1 from rfl,run_equalIn_agg w 9999 349 _ _ hS (by kernel_rfl)]
 simp only [Program.fieldsOf,Tryz.underlying349]
 go_simp
 by_cases h0:x0=y0 <;> by_cases h1:x1=y1 <;> by_cases h2:x2=y2 <;> by_cases h3:x3=y3 <;> simp [h0,h1,h2,h3]
theorem aF5:Tryz.prog.eqGuardType Tryz.prog.depth 349=false:=by kernel_rfl
theorem aSL:cF Tryz.prog 349 1 3:=bO (n:=0) (f:=⟨_,_,3,_,_,_,_⟩) Tryz.underlying349 rfl (by kernel_rfl)
instance:kJ Tryz.prog 349 1 3:=⟨aSL⟩
theorem aSK:cF Tryz.prog 349 0 0:=bO (n:=2) (f:=⟨_,_,0,_,_,_,_⟩) Tryz.underlying349 rfl (by kernel_rfl)
instance:kJ Tryz.prog 349 0 0:=⟨aSK⟩
theorem XF:s9 Tryz.prog 41 2:=oQ Tryz.underlying41 rfl (by kernel_rfl)
instance:OL Tryz.prog 41 2:=⟨XF⟩
theorem a1k : ∀ w:World,(zeroValue 142).run Tryz.prog w = .ok (.agg #[i64 0,.slice none 0 0,.slice none 0 0,str []]) w:=by intro w; kernel_rfl
theorem a7O:((Tryz.prog.info? 3).map (·.size)).isSome=true:=by kernel_rfl
theorem aPV:((Tryz.prog.info? 57).map fun i=>(i.size,i.zero.isSome))=some (1,true):=by kernel_rfl
instance:KP Tryz.prog 57 1:=⟨aPV⟩
theorem aPQ:((Tryz.prog.info? 57).map fun i=>(i.size,i.bytes,(i.zero.map fun z=>z.cells.size)))=some (1,24,some 1):=by kernel_rfl
instance:M6 Tryz.prog 57 1 24:=⟨aPQ⟩
theorem bAX:((Tryz.prog.info? 4).map fun i=>(i.size,i.bytes,i.zero.map fun z=>z.cells.toList))=some (1,1,some [.bool false]):=by kernel_rfl
theorem aWX:((Tryz.prog.info? 139).map (·.size)).isSome=true:=by kernel_rfl
theorem aFm:(Tryz.prog.info? 50).map (·.size)=some 4:=by kernel_rfl
instance:zO Tryz.prog 50 4:=⟨aFm⟩
theorem aLH:cF Tryz.prog 50 0 0:=bO (n:=0) (f:=⟨_,_,0,_,_,_,_⟩) Tryz.underlying50 rfl (by kernel_rfl)
instance:kJ Tryz.prog 50 0 0:=⟨aLH⟩
theorem aLI:cF Tryz.prog 50 1 1:=bO (n:=0) (f:=⟨_,_,1,_,_,_,_⟩) Tryz.underlying50 rfl (by kernel_rfl)
instance:kJ Tryz.prog 50 1 1:=⟨aLI⟩
theorem aWB:cF Tryz.prog 50 2 2:=bO (n:=0) (f:=⟨_,_,2,_,_,_,_⟩) Tryz.underlying50 rfl (by kernel_rfl)
instance:kJ Tryz.prog 50 2 2:=⟨aWB⟩
theorem aAz:s9 Tryz.prog 50 4:=oQ Tryz.underlying50 rfl (by kernel_rfl)
instance:OL Tryz.prog 50 4:=⟨aAz⟩
theorem aWC:cF Tryz.prog 50 3 3:=bO (n:=0) (f:=⟨_,_,3,_,_,_,_⟩) Tryz.underlying50 rfl (by kernel_rfl)
instance:kJ Tryz.prog 50 3 3:=⟨aWC⟩
theorem aWU:cF Tryz.prog 93 0 0:=bO (n:=0) (f:=⟨_,_,0,_,_,_,_⟩) Tryz.underlying93 rfl (by kernel_rfl)
instance:kJ Tryz.prog 93 0 0:=⟨aWU⟩
theorem aWV:cF Tryz.prog 93 1 1:=bO (n:=0) (f:=⟨_,_,1,_,_,_,_⟩) Tryz.underlying93 rfl (by kernel_rfl)
instance:kJ Tryz.prog 93 1 1:=⟨aWV⟩
theorem a1Z : ∀ (x0:List UInt8) (x1:Int) (y0:List UInt8) (y1:Int) (w:World),(Op.equalIn 10000 76 (.agg #[str x0,i64 x1]) (.agg #[str y0,i64 y1])).run Tryz.prog w = .ok (decide (x0=y0∧x1=y1)) w:=by
 intro x0 x1 y0 y1 w
 have hS:Tryz.prog.underlying 76=some (.struct (Tryz.prog.fieldsOf 76)):=by kernel_rfl
 rw [show (10000:Nat)=9999+1 from rfl,run_equalIn_agg w 9999 76 _ _ hS (by kernel_rfl)]
 simp only [Program.fieldsOf,Tryz.underlying76]
 go_simp
 by_cases h0:x0=y0 <;> by_cases h1:x1=y1 <;> simp [h0,h1]
theorem a1Y:Tryz.prog.eqGuardType Tryz.prog.depth 76=false:=by kernel_rfl
theorem aPT : ∀ (x0:List UInt8) (x1:Int) (y0:List UInt8) (y1:Int) (w:World),(Op.equalIn 10000 30 (.agg #[str x0,i64 x1]) (.agg #[str y0,i64 y1])).run Tryz.prog w = .ok (decide (x0=y0∧x1=y1)) w:=by
 intro x0 x1 y0 y1 w
 have hS:Tryz.prog.underlying 30=some (.struct (Tryz.prog.fieldsOf 30)):=by kernel_rfl
 rw [show (10000:Nat)=9999+1 from rfl,run_equalIn_agg w 9999 30 _ _ hS (by kernel_rfl)]
 simp only [Program.fieldsOf,Tryz.underlying30]
 go_simp
 by_cases h0:x0=y0 <;> by_cases h1:x1=y1 <;> simp [h0,h1]
theorem aPR:Tryz.prog.eqGuardType Tryz.prog.depth 30=false:=by kernel_rfl
theorem aVt : ∀ (x0:List UInt8) (x1:Int) (x2:List UInt8) (y0:List UInt8) (y1:Int) (y2:List UInt8) (w:World),(Op.equalIn 10000 139 (.agg #[str x0,i64 x1,str x2]) (.agg #[str y0,i64 y1,str y2])).run Tryz.prog w = .ok (decide (x0=y0∧x1=y1∧x2=y2)) w:=by
 intro x0 x1 x2 y0 y1 y2 w
 have hS:Tryz.prog.underlying 139=some (.struct (Tryz.prog.fieldsOf 139)):=by kernel_rfl
 rw [show (10000:Nat)=9999+1 from rfl,run_equalIn_agg w 9999 139 _ _ hS (by kernel_rfl)]
 simp only [Program.fieldsOf,Tryz.underlying139]
 go_simp
 by_cases h0:x0=y0 <;> by_cases h1:x1=y1 <;> by_cases h2:x2=y2 <;> simp [h0,h1,h2]
theorem aVs:Tryz.prog.eqGuardType Tryz.prog.depth 139=false:=by kernel_rfl
theorem aHZ (b:Nat) (p u:Value) (hp:p = .pointer none∨p=ptr b 0) (hu:u.oneCell'=true):Ct Tryz.prog 42 [ptr b 0] Mo.tt (bN b [p,u] 69) (X:=Unit) (fun _ => .tuple #[]) (fun _=>True) (fun _=>Mo.tt) (fun _=>bN b [ptr b 0,u] 69):=by
 refine Zo Tryz.func42 Tryz.ntmps42 fun c => ?_
 rcases hp with rfl | rfl
 ·
  refine ZX ?_
  refine Zu (aQA Tryz.underlying66 rfl) ?_
  refine Zl ?_
  refine VC.EI rfl ?_
  refine Zr (ZX ?_)
  refine Zu (a7y (n:=1) Tryz.underlying66 Tryz.underlying150 aP2 rfl (by simp)) ?_
  refine Zu (aMb Tryz.func77 rfl rfl (by kernel_rfl) (by kernel_rfl) rfl) ?_
  refine Zu (aYH (n:=2) (cs:=[.pointer none,u]) Tryz.underlying150 Tryz.underlying66 aP2 rfl (by kernel_rfl)) ?_
  refine ZO ?_
  exact VL.nil (rP (.inl rfl) rfl () rfl trivial (fun _ _=>trivial) (by exact fK.out))
 refine ZX ?_
 refine Zu (aQA Tryz.underlying66 rfl) ?_
 refine Zl ?_
 refine VC.wA rfl ?_
 refine ZX ?_
 refine Zu (a7w Tryz.underlying66 aP2 rfl rfl) ?_
 refine Zl ?_
 refine VC.wA rfl ?_
 exact VC.skip (rP (.inl rfl) rfl () rfl trivial (fun _ _=>trivial) (by exact fK.out))
theorem L6 (b:Nat) (l s:bH) (hb:l.length+s.length≤4294967296):Ct Tryz.prog 21 [ptr b 0,str s] Mo.tt (Bd 69 5 b l) (X:=Unit) (fun _ => .tuple #[i64 s.length,.nilIface]) (fun _=>True) (fun _=>Mo.tt) (fun _=>Bd 69 5 b (l++s)):=by
 refine Ct.aXH (E1:=fun z => ∃ q:Value×Sv UInt8,((q.1 = .pointer none∨q.1=ptr b 0)∧q.2.l=l∧(q.2.c=0→q.2.a=none))∧Ow.star (bN b [q.1,q.2.val] 69) (q.2.own 5) z) (Ct.exE (x9 Tryz.func21 rfl (by kernel_rfl)) ?_) (fun z ⟨p,q,h1,h2,h3,h4⟩=>⟨(p,q),⟨h1,h2,h3⟩,h4⟩)
 rintro ⟨p,q⟩ ⟨hp,hl,hc⟩
 dsimp only at hp hl hc ⊢
 refine Zo Tryz.func21 Tryz.ntmps21 fun c => ?_
 refine ZX ?_
 refine VL.oE (aHZ b p q.val hp rfl) rfl (by decide) ?_
 rintro _ _
 refine ZX ?_
 refine VL.a6O (s:=q) (r:=s) Tryz.underlying67 Tryz.underlying9 a7N rfl Fo.out (by rw [hl]; exact hb) (by decide) fun q2 hq2 hc2 => ?_
 refine ZX ?_
 exact VC.ret (aVk (.inr rfl) rfl rfl rfl () rfl trivial (fun _ _=>trivial) (fun z hz=>Bd.mk (p:=ptr b 0) (s:=q2) (.inr rfl) (by rw [hq2,hl]) (hc2 hc) ((fK.out (E':=Ow.star (bN b [ptr b 0,q2.val] 69) (q2.own 5))) z hz)))
theorem aGg (b:Nat) (l:bH):Ct Tryz.prog 24 [ptr b 0] Mo.tt (Bd 69 5 b l) (X:=Unit) (fun _=>str l) (fun _=>True) (fun _=>Mo.tt) (fun _=>Ow.emp):=by
 refine Ct.aXH (E1:=fun z => ∃ q:Value×Sv UInt8,((q.1 = .pointer none∨q.1=ptr b 0)∧q.2.l=l∧(q.2.c=0→q.2.a=none))∧Ow.star (bN b [q.1,q.2.val] 69) (q.2.own 5) z) (Ct.exE (x9 Tryz.func24 rfl (by kernel_rfl)) ?_) (fun z ⟨p,q,h1,h2,h3,h4⟩=>⟨(p,q),⟨h1,h2,h3⟩,h4⟩)
 rintro ⟨p,q⟩ ⟨hp,rfl,hc⟩
 dsimp only at hp hc ⊢
 refine Zo Tryz.func24 Tryz.ntmps24 fun c => ?_
 refine ZX ?_
 refine Zq ?_
 refine iB [(0,true),(1,true),(2,true),(3,true),(4,true),(5,true),(6,true),(7,true),(8,true),(9,true),(10,false),(11,true)] ?_
 refine ZX ?_
 refine Zw rfl (aYK (s:=q) rfl hc) ?_
 refine ZX ?_
 refine VD.one rfl ?_
 refine VL.aYt (s:=q) (e:=5) rfl Fo.out (by decide) (fun w h z o l k m=>St.aYt (e:=5) Tryz.underlying107 (by kernel_rfl) o l k m) ?_
 refine eV ?_
 refine ZX ?_
 exact Ze
theorem aNQ (v:Value):Ct Tryz.prog 63 [.nilIface,v] Mo.tt Ow.emp (X:=Unit) (fun _ => .bool false) (fun _=>True) (fun _=>Mo.tt) (fun _=>Ow.emp):=by
 refine Zo Tryz.func63 Tryz.ntmps63 fun c => ?_
 refine ZX ?_
 refine Zq (ZX ?_)
 refine Zu (aM9 Tryz.underlying46 rfl) ?_
 refine Zl ?_
 refine VC.EI rfl ?_
 refine ZX ?_
 exact Ze
open Go.Extern.Stop Go.Stop Go.Extern Go.RowKit in
section
end
namespace As
open Go.Extern Go.Extern.Stop
theorem aK9 (t:Addr) (w:World):(ReflectliteValue.unpack (.iface 131 (.pointer (some t)))).run Tryz.prog w
    = .ok (.agg #[.pointer (some ⟨7,131,none⟩),.pointer (some ⟨w.heap.size,0,none⟩),.int .u64 150]) (w.alloc (.cells #[.pointer (some t)] 131)):=by kernel_rfl
theorem aU8 (a:Addr) (w:World):(ReflectliteValue.methodAny (ReflectliteValue.valueError "reflectlite.Value.Type" 0) (fun t _ _ _=>ReflectliteType.toType t) #[.agg #[.pointer (some ⟨7,131,none⟩),.pointer (some a),.int .u64 150]]).run Tryz.prog w
    = .ok (.iface 255 (.agg #[.pointer (some ⟨7,131,none⟩)])) w:=by kernel_rfl
theorem aRh (h:Value) (w:World):(Go.method 583 255 (.agg #[h]) "Kind").run Tryz.prog w = .ok (412,h) w:=by kernel_rfl
theorem aRc (w:World):((ReflectliteType.abiMethod fun t=>(fun a:Nat=>Value.int IntKind.u8 (a:Int)) <$> Rtype.kind t) #[.pointer (some ⟨7,131,none⟩)]).run Tryz.prog w = .ok (.int .u8 22) w:=by kernel_rfl
theorem aRd (w:World):((ReflectliteType.abiMethod fun t=>(fun a:Nat=>Value.int IntKind.u8 (a:Int)) <$> Rtype.kind t) #[.pointer (some ⟨7,91,none⟩)]).run Tryz.prog w = .ok (.int .u8 2) w:=by kernel_rfl
theorem aOu (z:Sem Value) (f:TypeId→Addr→Nat→Nat→Sem Value) (v:Value) :
    ReflectliteValue.method z f #[v]=(do match ← ReflectliteValue.parts v with | none=>z | some (t,a,fl)=>f t a fl (fl % 32)):=rfl
theorem aFB (a:Addr) (w:World):(ReflectliteValue.parts (.agg #[.pointer (some ⟨7,131,none⟩),.pointer (some a),.int .u64 150])).run Tryz.prog w = .ok (some (131,a,150)) w:=by kernel_rfl
theorem aRb (a p:Addr) (W:World) (ha:W.cell? a=some (.pointer (some p))) :
 (ReflectliteValue.method (ReflectliteValue.valueError "reflectlite.Value.IsNil" 0) ReflectliteValue.isNil #[.agg #[.pointer (some ⟨7,131,none⟩),.pointer (some a),.int .u64 150]]).run Tryz.prog W = .ok (.bool false) W:=by
 rw [aOu]
 simp only [Sem.run_bind,aFB,Result.andThen]
 simp [ReflectliteValue.isNil,loadVar,isAgg,underlying,Tryz.underlying131,ha,Result.andThen]
theorem aRf (h:Value) (w:World):(Go.method 583 255 (.agg #[h]) "Elem").run Tryz.prog w = .ok (426,.agg #[h]) w:=by kernel_rfl
theorem aRg (h:Value) (w:World):(Go.method 583 255 (.agg #[h]) "Implements").run Tryz.prog w = .ok (427,.agg #[h]) w:=by kernel_rfl
theorem aRe (h:Value) (w:World):(Go.method 583 255 (.agg #[h]) "AssignableTo").run Tryz.prog w = .ok (424,.agg #[h]) w:=by kernel_rfl
theorem aR9 (w:World):(ReflectliteType.method ReflectliteType.elem #[.agg #[.pointer (some ⟨7,131,none⟩)]]).run Tryz.prog w = .ok (.iface 255 (.agg #[.pointer (some ⟨7,91,none⟩)])) w:=by kernel_rfl
theorem aRa (w:World):(ReflectliteType.relation "Implements" ReflectliteType.implements_ #[.agg #[.pointer (some ⟨7,91,none⟩)],.iface 255 (.agg #[.pointer (some ⟨7,46,none⟩)])]).run Tryz.prog w = .ok (.bool true) w:=by kernel_rfl
theorem aK7 (v:Value) (w:World):(ReflectliteType.typeOf #[.iface 90 v]).run Tryz.prog w = .ok (.iface 255 (.agg #[.pointer (some ⟨7,90,none⟩)])) w:=by kernel_rfl
theorem aK8 (v:Value) (w:World):(ReflectliteType.typeOf #[.iface 91 v]).run Tryz.prog w = .ok (.iface 255 (.agg #[.pointer (some ⟨7,91,none⟩)])) w:=by kernel_rfl
theorem aR7 (w:World):(ReflectliteType.relation "AssignableTo" ReflectliteType.assignableTo #[.agg #[.pointer (some ⟨7,90,none⟩)],.iface 255 (.agg #[.pointer (some ⟨7,91,none⟩)])]).run Tryz.prog w = .ok (.bool false) w:=by kernel_rfl
theorem aR8 (w:World):(ReflectliteType.relation "AssignableTo" ReflectliteType.assignableTo #[.agg #[.pointer (some ⟨7,91,none⟩)],.iface 255 (.agg #[.pointer (some ⟨7,91,none⟩)])]).run Tryz.prog w = .ok (.bool true) w:=by kernel_rfl
theorem aIU (n:Int) (w:World):(ReflectliteValue.unpack (.iface 91 (i64 n))).run Tryz.prog w
    = .ok (.agg #[.pointer (some ⟨7,91,none⟩),.pointer (some ⟨w.heap.size,0,none⟩),.int .u64 130]) (w.alloc (.cells #[i64 n] 91)):=by kernel_rfl
theorem aK5 (w:World):(Rtype.elem? 131).run Tryz.prog w = .ok (some 91) w:=by kernel_rfl
theorem a0Z (p:Addr) (w:World):(ReflectliteValue.mk 91 p ReflectliteValue.flagAddr).run Tryz.prog w = .ok (.agg #[.pointer (some ⟨7,91,none⟩),.pointer (some p),.int .u64 386]) w:=by kernel_rfl
theorem aNP (a p:Addr) (W:World) (ha:W.cell? a=some (.pointer (some p))) :
 (ReflectliteValue.method (ReflectliteValue.valueError "reflectlite.Value.Elem" 0) ReflectliteValue.elem #[.agg #[.pointer (some ⟨7,131,none⟩),.pointer (some a),.int .u64 150]]).run Tryz.prog W
 = .ok (.agg #[.pointer (some ⟨7,91,none⟩),.pointer (some p),.int .u64 386]) W:=by
 rw [aOu]
 simp only [Sem.run_bind,aFB,Result.andThen]
 simp [ReflectliteValue.elem,loadVar,isAgg,underlying,Tryz.underlying131,ha,Result.andThen,aK5,a0Z]
theorem aK6 (a:Addr) (w:World):(ReflectliteValue.parts (.agg #[.pointer (some ⟨7,91,none⟩),.pointer (some a),.int .u64 386])).run Tryz.prog w = .ok (some (91,a,386)) w:=by kernel_rfl
theorem aNR (a:Addr) (w:World):(ReflectliteValue.parts (.agg #[.pointer (some ⟨7,91,none⟩),.pointer (some a),.int .u64 130])).run Tryz.prog w = .ok (some (91,a,130)) w:=by kernel_rfl
theorem aK4 (w:World):(Rtype.directlyAssignable 91 91).run Tryz.prog w = .ok true w:=by kernel_rfl
theorem a00 (v x:Value):ReflectliteValue.set #[v,x]=(do
    let (some (dst,a,fl),some (src,b,_)):=(← ReflectliteValue.parts v,← ReflectliteValue.parts x)
      | unsupported (.noEntry "extern/(internal/reflectlite.Value).Set.zeroValue")
    if fl / ReflectliteValue.flagAddr % 2==0 then unsupported (.noEntry "extern/(internal/reflectlite.Value).Set.unaddressable")
    let val ← loadVar src b
    if ← Rtype.directlyAssignable dst src then storeVar dst a val
    else if ← Rtype.implements dst src then
      if (← Rtype.kind src)==20 then
        match val with
        | .nilIface=>unsupported (.noEntry "extern/reflectlite: a nil value of one interface type handed on as a value of another")
        | _=>storeVar dst a val
      else storeVar dst a (.iface src val)
    else panicString ("reflectlite.Set: value of type " ++ (← Rtype.spelt src) ++ " is not assignable to type " ++ (← Rtype.spelt dst))
    pure (.tuple #[])):=rfl
theorem aU7 (ta b:Addr) (n:Int) (old:Value) (W:World) (hb:W.cell? b=some (i64 n)) (ht:W.cell? ta=some old) (hf:W.frozen? ta=false) :
 (ReflectliteValue.set #[.agg #[.pointer (some ⟨7,91,none⟩),.pointer (some ta),.int .u64 386],.agg #[.pointer (some ⟨7,91,none⟩),.pointer (some b),.int .u64 130]]).run Tryz.prog W
 = .ok (.tuple #[]) (W.setCell ta (i64 n)):=by
 rw [a00]
 simp only [Sem.run_bind,aK6,aNR,Result.andThen]
 simp [ReflectliteValue.flagAddr,loadVar,isAgg,underlying,Tryz.underlying91,hb,Result.andThen,aK4,storeVar,Value.cells,storeCells,Addr.add]
 rw [run_store Tryz.prog W ta _ _ (by rfl)]
 simp [ht,hf]
theorem a0Y (v:Value) (w:World):(Go.method 583 90 v "Unwrap").run Tryz.prog w = .ok (418,v) w:=by kernel_rfl
theorem a0X (b:Nat) (t:Addr) (n:Int) (old:Value) (w:World) (hc:w.cell? ⟨b,2,none⟩=some (.iface 91 (i64 n))) (hg:w.cell? ⟨0,0,none⟩=some (.iface 255 (.agg #[.pointer (some ⟨7,46,none⟩)]))) (ht0:w.cell? t=some old) (hf0:w.frozen? t=false) :
 Calls Tryz.prog 63 #[.iface 90 (.pointer (some ⟨b,0,none⟩)),.iface 131 (.pointer (some t))] w fun ev w'=>ev = .returned (.bool true)∧w'=(((((w.alloc (.cells #[.pointer (some t)] 131)).alloc (.cells #[.pointer (some ⟨7,131,none⟩),.pointer (some ⟨w.heap.size,0,none⟩),.int .u64 150] 178)).alloc (.cells #[.pointer (some ⟨7,131,none⟩),.pointer (some ⟨w.heap.size,0,none⟩),.int .u64 150] 178)).alloc (.cells #[i64 n] 91))).setCell t (i64 n):=by
 have h6 := @run_callFunc_extern Tryz.prog 107 _ (fun args=>ReflectliteValue.unpack (args.getD 0 (.tuple #[]))) Tryz.func107 (by kernel_rfl) (by kernel_rfl) (by kernel_rfl) (by kernel_rfl)
 have h7 := @run_callFunc_extern Tryz.prog 108 _ (ReflectliteValue.methodAny (ReflectliteValue.valueError "reflectlite.Value.Type" 0) (fun t _ _ _=>ReflectliteType.toType t)) Tryz.func108 (by kernel_rfl) (by kernel_rfl) (by kernel_rfl) (by kernel_rfl)
 have h8 := @run_callFunc_extern Tryz.prog 109 _ (ReflectliteValue.method (ReflectliteValue.valueError "reflectlite.Value.IsNil" 0) ReflectliteValue.isNil) Tryz.func109 (by kernel_rfl) (by kernel_rfl) (by kernel_rfl) (by kernel_rfl)
 have h27 := @run_callFunc_extern Tryz.prog 412 _ (ReflectliteType.abiMethod fun t=>do pure (.int .u8 (← Rtype.kind t))) Tryz.func412 (by kernel_rfl) (by kernel_rfl) (by kernel_rfl) (by kernel_rfl)
 have h37 := @run_callFunc_extern Tryz.prog 426 _ (ReflectliteType.method ReflectliteType.elem) Tryz.func426 (by kernel_rfl) (by kernel_rfl) (by kernel_rfl) (by kernel_rfl)
 have h38 := @run_callFunc_extern Tryz.prog 427 _ (ReflectliteType.relation "Implements" ReflectliteType.implements_) Tryz.func427 (by kernel_rfl) (by kernel_rfl) (by kernel_rfl) (by kernel_rfl)
 have h10 := @run_callFunc_extern Tryz.prog 193 _ ReflectliteType.typeOf Tryz.func193 (by kernel_rfl) (by kernel_rfl) (by kernel_rfl) (by kernel_rfl)
 have h35 := @run_callFunc_extern Tryz.prog 424 _ (ReflectliteType.relation "AssignableTo" ReflectliteType.assignableTo) Tryz.func424 (by kernel_rfl) (by kernel_rfl) (by kernel_rfl) (by kernel_rfl)
 have h11 := @run_callFunc_extern Tryz.prog 194 _ (ReflectliteValue.method (ReflectliteValue.valueError "reflectlite.Value.Elem" 0) ReflectliteValue.elem) Tryz.func194 (by kernel_rfl) (by kernel_rfl) (by kernel_rfl) (by kernel_rfl)
 have h12 := @run_callFunc_extern Tryz.prog 195 _ ReflectliteValue.set Tryz.func195 (by kernel_rfl) (by kernel_rfl) (by kernel_rfl) (by kernel_rfl)
 have tO:=aK8
 have tO1:=aK7
 have mA:=aRe
 have a25:=aR8
 have a1:=aR7
 have v25:=aIU
 have f6:=aK9
 have f7:=aU8
 have mK:=aRh
 have mE:=aRf
 have mI:=aRg
 have k27:=aRc
 have k25:=aRd
 have e27:=aR9
 have i25:=aRa
 have x1:=fun v xT w=>run_typeAssert_lacksB (P:=Tryz.prog) (asserted:=260) (t:=90) (z := .nilIface) Tryz.underlying260 (by kernel_rfl) (by kernel_rfl) v xT w
 have x2:=fun v xT w=>run_typeAssert_hasB (P:=Tryz.prog) (asserted:=263) (t:=90) Tryz.underlying263 (by kernel_rfl) v xT w
 have n8:=aRb ⟨w.heap.size,0,none⟩ t ((w.alloc (.cells #[.pointer (some t)] 131)).alloc (.cells #[.pointer (some ⟨7,131,none⟩),.pointer (some ⟨w.heap.size,0,none⟩),.int .u64 150] 178)) (by simp)
 have hlt:0 < w.heap.size:=by
   rcases Nat.lt_or_ge 0 w.heap.size with h | h
   . exact h
   . simp [World.cell?,Array.getElem?_eq_none h] at hg
 have hg2:(((w.alloc (.cells #[.pointer (some t)] 131)).alloc (.cells #[.pointer (some ⟨7,131,none⟩),.pointer (some ⟨w.heap.size,0,none⟩),.int .u64 150] 178))).cell? ⟨0,0,none⟩=some (.iface 255 (.agg #[.pointer (some ⟨7,46,none⟩)])):=by
   rw [World.cell?_alloc_lt _ _ ⟨0,0,none⟩ (by first | (simp; done) | (simp; omega)),World.cell?_alloc_lt _ _ ⟨0,0,none⟩ hlt]; exact hg
 have htl:t.block < w.heap.size:=by
   rcases Nat.lt_or_ge t.block w.heap.size with h | h
   . exact h
   . simp [World.cell?,Array.getElem?_eq_none h] at ht0
 have el:=aNP ⟨w.heap.size,0,none⟩ t (((w.alloc (.cells #[.pointer (some t)] 131)).alloc (.cells #[.pointer (some ⟨7,131,none⟩),.pointer (some ⟨w.heap.size,0,none⟩),.int .u64 150] 178)).alloc (.cells #[.pointer (some ⟨7,131,none⟩),.pointer (some ⟨w.heap.size,0,none⟩),.int .u64 150] 178)) (by rw [World.cell?_alloc_lt _ _ ⟨w.heap.size,0,none⟩ (by simp; omega)]; simp)
 have st:=aU7 t ⟨w.heap.size+1+1+1,0,none⟩ n old ((((w.alloc (.cells #[.pointer (some t)] 131)).alloc (.cells #[.pointer (some ⟨7,131,none⟩),.pointer (some ⟨w.heap.size,0,none⟩),.int .u64 150] 178)).alloc (.cells #[.pointer (some ⟨7,131,none⟩),.pointer (some ⟨w.heap.size,0,none⟩),.int .u64 150] 178)).alloc (.cells #[i64 n] 91))
   (by rw [World.cell?_alloc_at _ _ _ _ (by simp)]; rfl)
   (by rw [World.cell?_alloc_lt _ _ t (by simp; omega),World.cell?_alloc_lt _ _ t (by simp; omega),World.cell?_alloc_lt _ _ t (by simp; omega),World.cell?_alloc_lt _ _ t htl]; exact ht0)
   (by rw [World.frozen?_alloc_old _ _ t (by simp; omega),World.frozen?_alloc_old _ _ t (by simp; omega),World.frozen?_alloc_old _ _ t (by simp; omega),World.frozen?_alloc_old _ _ t (Nat.ne_of_lt htl)]; exact hf0)
 have mU:=a0Y
 have hbl:b < w.heap.size:=by
   rcases Nat.lt_or_ge b w.heap.size with h | h
   . exact h
   . simp [World.cell?,Array.getElem?_eq_none h] at hc
 have hW:((((w.alloc (.cells #[.pointer (some t)] 131)).alloc (.cells #[.pointer (some ⟨7,131,none⟩),.pointer (some ⟨w.heap.size,0,none⟩),.int .u64 150] 178)).alloc (.cells #[.pointer (some ⟨7,131,none⟩),.pointer (some ⟨w.heap.size,0,none⟩),.int .u64 150] 178))).cell? ⟨b,2,none⟩=some (.iface 91 (i64 n)):=by
   rw [World.cell?_alloc_lt _ _ ⟨b,2,none⟩ (by simp; omega),World.cell?_alloc_lt _ _ ⟨b,2,none⟩ (by simp; omega),World.cell?_alloc_lt _ _ ⟨b,2,none⟩ hbl]; exact hc
 have hEn:=x9 Tryz.func418 rfl (by kernel_rfl)
 go_enter Tryz.func63,Tryz.ntmps63
 go_wp2
 refine wp_loop_rounds 2 ?_
 rw [rounds_succ]
 go_wp2
 rw [rounds_succ]
 go_wp2
 go_ret
 exact ⟨rfl,rfl⟩
theorem a6s (b t:Nat) (p:bH) (a n:Int):Ct Tryz.prog 63 [.iface 90 (ptr b 0),.iface 131 (ptr t 0)] ((Cells b 0 [str p,i64 a,(Er.no n).val]).and (QS 0 #[.iface 255 (.agg #[.pointer (some ⟨7,46,none⟩)])])) (bN t [i64 0] 91) (X:=Unit) (fun _ => .bool true) (fun _=>True) (fun _=>Mo.tt) (fun _=>bN t [i64 n] 91) :=
  ⟨x9 Tryz.func63 rfl (by kernel_rfl),fun w hp z m ee d l k=>by
    have hb:w.heap[t]? = some (.cells #[i64 0] 91 (0,0)):=k _ _ ee
    obtain ⟨mc,t1,f1,m1⟩:=m
    have hg:w.heap[0]? = some (.cells #[.iface 255 (.agg #[.pointer (some ⟨7,46,none⟩)])] t1 f1):=l _ _ m1
    have htl:=(Array.getElem?_eq_some_iff.1 hb).1
    have hc:w.cell? ⟨b,2,none⟩=some (.iface 91 (i64 n)):=uP l (mc 2 _ rfl)
    refine (a0X b ⟨t,0,none⟩ n (i64 0) w hc (by simp [World.cell?,hg]) (by simp [World.cell?,hb]) (by simp [World.frozen?,hb])).mono fun en w' ⟨h1,h2⟩=>⟨_,h1,(),rfl,trivial,?_⟩
    have hgr:Gr w ((((w.alloc (.cells #[.pointer (some ⟨t,0,none⟩)] 131)).alloc (.cells #[.pointer (some ⟨7,131,none⟩),.pointer (some ⟨w.heap.size,0,none⟩),.int .u64 150] 178)).alloc (.cells #[.pointer (some ⟨7,131,none⟩),.pointer (some ⟨w.heap.size,0,none⟩),.int .u64 150] 178)).alloc (.cells #[i64 n] 91)):=(((Gr.alloc w _).trans (Gr.alloc _ _)).trans (Gr.alloc _ _)).trans (Gr.alloc _ _)
    exact St.a3z hb (show z t=_ from ee) d l hgr h2⟩
end As
instance a0P  :
 gF Tryz.prog 6 [] Sh.BQ Mo.tt (fun r => .agg #[.slice none 0 0,.slice none 0 0,.slice none 0 0,str [109,97,105,110],i64 0,str [],i64 0,str [],.slice none 0 0,.slice none 0 0,i64 0,str [],str [],i64 0,.slice none 0 0,.slice none 0 0,.slice none 0 0,.slice none 0 0,.slice none 0 0,.slice none 0 0,i64 0]):=by
 refine gM Tryz.func6 Tryz.ntmps6 fun r hS c => ?_
 unfold Sh.BQ at hS
 refine cI (dJ fun bDJ=>ZX ?_)
 refine Zu (cG (vs:=[(0,str [109,97,105,110])]) (cs := #[str [109,97,105,110],i64 0]) rfl (by kernel_rfl)) ?_
 refine Zu (cG (vs:=[(3,.agg #[str [109,97,105,110],i64 0])]) (cs := #[.slice none 0 0,.slice none 0 0,.slice none 0 0,str [109,97,105,110],i64 0,str [],i64 0,str [],.slice none 0 0,.slice none 0 0,i64 0,str [],str [],i64 0,.slice none 0 0,.slice none 0 0,.slice none 0 0]) rfl (by kernel_rfl)) ?_
 refine Zu (cG (vs:=[(0,.agg #[.slice none 0 0,.slice none 0 0,.slice none 0 0,str [109,97,105,110],i64 0,str [],i64 0,str [],.slice none 0 0,.slice none 0 0,i64 0,str [],str [],i64 0,.slice none 0 0,.slice none 0 0,.slice none 0 0])]) (cs := #[.slice none 0 0,.slice none 0 0,.slice none 0 0,str [109,97,105,110],i64 0,str [],i64 0,str [],.slice none 0 0,.slice none 0 0,i64 0,str [],str [],i64 0,.slice none 0 0,.slice none 0 0,.slice none 0 0,.slice none 0 0,.slice none 0 0,.slice none 0 0,i64 0]) rfl (by kernel_rfl)) ?_
 exact ZE hS
instance aKh (iX:bH) :
 gF Tryz.prog 268 [str iX] (Sh.cmp_isNaN_string iX) Mo.tt (fun r => .bool r):=by
 refine gM Tryz.func268 Tryz.ntmps268 fun r hS c => ?_
 unfold Sh.cmp_isNaN_string at hS
 exact ZE hS
instance aI5 (iX:bH) (zP:bH) :
 gF Tryz.prog 187 [str iX,str zP] (Sh.nA iX zP) Mo.tt (fun r=>i64 r):=by
 refine gM Tryz.func187 Tryz.ntmps187 fun r hS c => ?_
 unfold Sh.nA at hS
 refine ZX ?_
 refine jK hS rfl fun F0 hS=>ZX ?_
 refine jK hS rfl fun j4 hS=>ZX ?_
 refine Zq (ZX ?_)
 refine iZ hS (fun _ hS=>ZE hS) fun h11 hS=>Zk ?_
 refine Zq (ZX ?_)
 refine VC.aV [0,1,13] ?_
 refine iZ hS (fun _ hS=>ZE hS) fun h13 hS=>Zk ?_
 refine Zq (ZX ?_)
 refine Zu (a3O rfl rfl) ?_
 refine Zl ?_
 refine iZ hS (fun _ hS=>ZE hS) fun h16 hS=>Zk ?_
 refine Zq (ZX ?_)
 refine Zu (a3N rfl rfl) ?_
 exact ZE hS
instance RC (bP:bH) (b_1:bH) :
 gF Tryz.prog 103 [str bP,str b_1] (Sh.uG bP b_1) Mo.tt (fun r=>i64 r):=by
 refine gM Tryz.func103 Tryz.ntmps103 fun r hS c => ?_
 unfold Sh.uG at hS
 exact ZE hS
instance K1 (wC:aC) (p_1:bH) :
 gF Tryz.prog 102 [.agg #[str wC.path,i64 wC.mode,str wC.data],str p_1] (Sh.rO wC p_1) Mo.tt (fun r=>i64 r):=by
 refine gM Tryz.func102 Tryz.ntmps102 fun r hS c => ?_
 unfold Sh.rO at hS
 refine cI ?_
 exact kU fun iV=>ZE hS
instance LO (iX:Sv aC) (uA:bH) :
 gF Tryz.prog 101 [iX.val,str uA,.func (.func 102) #[] #[]] (Sh.fA iX.l uA) iX.ok (fun r => .tuple #[i64 r.1,.bool r.2]):=by
 refine gM Tryz.func101 Tryz.ntmps101 fun r hS c => ?_
 unfold Sh.fA at hS
 refine ZX ?_
 refine Zq (Zb ?_)
 refine VC.iJ [0,1,2,8] (fun (sg:Int×Int)=>(sg.1,sg.2)) (fun sg ρ=>(9,i64 sg.1)::(10,i64 sg.2)::ρ) (0,(iX.l.length:Int)) [9,10,0,1,2,8] hS ?_
 rintro ⟨xF,xI⟩ m1 y1 hS hK1
 refine Zq (ZX ?_)
 refine Zc hS (fun h17 hS => ?_) (fun h17 hS => ?_)
 ·
  obtain ⟨b20,hS⟩:=bM hS
  refine Zk ?_
  refine Zb (ZX ?_)
  refine Zu (z7 Tryz.underlying3 Tryz.underlying250 rfl) ?_
  refine Zu (aG5 rfl rfl (by decide)) ?_
  refine Zu (z7 Tryz.underlying250 Tryz.underlying3 rfl) (Za ?_)
  refine Zl ?_
  refine VC.aV [0,1,2,8,9,10,11] (ZX ?_)
  refine yH hS rfl fun aAc a2W hS=>ZX ?_
  obtain ⟨QG,aIh,hS⟩:=cS hS
  refine Zu (oL ((K1 aAc uA).out aIh) rfl rfl (fun _ _=>rfl)) ?_
  refine ZX ?_
  refine VC.aV [0,1,2,8,9,10,11,31] (Zc hS (fun h31 hS => ?_) (fun h31 hS => ?_))
  ·
   obtain ⟨b33,hS⟩:=bM hS
   refine Zr (ZX ?_)
   refine VL.kL (((IntKind.wrap .i64 (GS .u64 (IntKind.wrap .u64 (xF+xI)) 1))+1),xI) [9,10,0,1,2,8] (fun _ _ h=>h) (go2 hS hK1) rfl
  refine Zr (ZX ?_)
  refine VL.kL (xF,(IntKind.wrap .i64 (GS .u64 (IntKind.wrap .u64 (xF+xI)) 1))) [9,10,0,1,2,8] (fun _ _ h=>h) (go2 hS hK1) rfl
 replace hS:=kS hS hK1
 refine Zx ?_
 refine cI (Zm ?_)
 refine Zm (Zm (Zu (rW rfl rfl) (Zm ?_)))
 refine nT 39 hS (fun h39 hS => ?_) (fun h39 hS => ?_)
 ·
  refine ZX ?_
  refine aK1 hS rfl fun aAd a2Z hS=>ZX ?_
  obtain ⟨aHJ,aIk,hS⟩:=cS hS
  refine Zh (oL ((K1 aAd uA).out aIk) rfl rfl (fun _ _=>rfl)) ?_
  exact ZE hS
 exact ZE hS
instance aNc (dX:Sv aC) (p_1:bH) :
 gF Tryz.prog 56 [dX.val,str p_1] (Sh.qB dX.l p_1) dX.ok (fun r => .tuple #[i64 r.1,.bool r.2]):=by
 refine gM Tryz.func56 Tryz.ntmps56 fun r hS c => ?_
 unfold Sh.qB at hS
 exact ZE hS
instance aPO (dX:Sv aC) (p_1:bH) :
 gF Tryz.prog 28 [dX.val,str p_1] (Sh.fP dX.l p_1) dX.ok (fun r => .tuple #[.agg #[str r.1.path,i64 r.1.mode,str r.1.data],.bool r.2]):=by
 refine gM Tryz.func28 Tryz.ntmps28 fun r hS c => ?_
 unfold Sh.fP at hS
 refine cI (dJ fun Y5=>ZX ?_)
 refine jK hS rfl fun BX hS=>ZO ?_
 refine Zl ?_
 refine VC.aV [0,4,6,7] (Zq (ZX ?_))
 refine iZ hS (fun h15 hS => ?_) (fun h15 hS => ?_)
 ·
  refine cI ?_
  refine Zu (cG (vs:=[]) (cs := #[str [],i64 0,str []]) rfl (by kernel_rfl)) ?_
  exact ZE hS
 exact ZE hS
instance aAV (aA:bH) :
 gF Tryz.prog 280 [str aA] (Sh.lR aA) Mo.tt (fun r=>i64 r):=by
 refine gM Tryz.func280 Tryz.ntmps280 fun r hS c => ?_
 unfold Sh.lR at hS
 exact ZE hS
instance UP (aA:bH) :
 gF Tryz.prog 282 [str aA] (Sh.lW aA) Mo.tt (fun r => .tuple #[.int .i32 r.1,i64 r.2]):=by
 refine gM Tryz.func282 Tryz.ntmps282 fun r hS c => ?_
 unfold Sh.lW at hS
 refine ZX ?_
 refine Zq (ZX ?_)
 refine Zc hS (fun _ hS=>ZE hS) fun h16 hS=>ZX ?_
 obtain ⟨a9C,a2q,a2S,hS⟩:=gP hS
 refine Zu (yR Tryz.underlying9 rfl rfl a2q a2S) (Za ?_)
 exact ZE hS
instance ZF (aA:bH) :
 gF Tryz.prog 218 [str aA] (Sh.nR aA) Mo.tt (fun r => .tuple #[.int .i32 r.1,i64 r.2]):=by
 refine gM Tryz.func218 Tryz.ntmps218 fun r hS c => ?_
 unfold Sh.nR at hS
 refine ZX ?_
 refine Zq ?_
 refine VC.cJ [0] (fun (aDN:Bool)=>aDN) (fun aDN ρ=>(10,.bool aDN)::ρ) hS ?_ ?_
 ·
  intro k2 hS
  refine Zr (Zm (Zu (N3 rfl rfl) (Zm ?_)))
  refine UR 6 hS (fun h6 hS => ?_) (fun h6 hS => ?_)
  ·
   refine ZX ?_
   obtain ⟨aZu,a7l,a79,hS⟩:=gP hS
   refine Zh (yR Tryz.underlying9 rfl rfl a7l a79) ?_
   refine ZX ?_
   refine VL.mt (decide ((aZu.toNat:Int) < 128)) [10,0] (fun _ _ h=>h) hS rfl
  exact ZE hS
 rintro aDN hS
 refine iZ hS (fun h10 hS => ?_) (fun h10 hS => ?_)
 ·
  refine ZX ?_
  obtain ⟨aOa,a2n,a2Q,hS⟩:=gP hS
  refine Zu (yR Tryz.underlying9 rfl rfl a2n a2Q) (Zu (aEc Tryz.underlying5 Tryz.underlying21 rfl (a4F aOa)) ?_)
  exact ZE hS
 exact ZE hS
instance aNL (aA:bH) (n_1:Int) :
 vL Tryz.prog 214 [str aA,i64 n_1] (Sh.EU aA n_1) Mo.tt (Ow.emp) (X:=Sv bH) (fun x=>x.val) (fun x=>x.l) (fun x=>Mo.tt) (fun x=>Sv.own x 9):=by
 refine v8 Tryz.func214 Tryz.ntmps214 fun r hS c => ?_
 unfold Sh.EU at hS
 refine ZX ?_
 refine jK hS rfl fun kG hS=>Za ?_
 refine Zl ?_
 refine VC.cJ [0] (fun (NP:Int)=>NP) (fun NP ρ=>(1,i64 NP)::ρ) hS ?_ ?_
 ·
  intro k3 hS
  exact VC.cJ [0,1,5] (fun (aGk:Bool)=>aGk) (fun aGk ρ=>(18,.bool aGk)::ρ) hS (fun _ hS=>ZE hS) fun _ hS=>ZE hS
 rintro NP hS
 obtain ⟨b21,hS⟩:=bM hS
 refine ZX ?_
 refine VL.make (α:=bH) (z:=[]) Tryz.underlying39 a61 (by decide) rfl rfl b21.1 (Int.le_refl _) (by omega) (by omega) (by decide) (fun a8N a1x => ?_)
 replace hS:=dZ a1x hS
 refine ZX ?_
 refine Zq (ZX ?_)
 refine Zb ?_
 refine VC.iter (S:=bH×Sv bH×Int) (fun sg=>(sg.1,sg.2.1.l,sg.2.2)) (fun sg=>[(0,str sg.1),(1,i64 NP),(6,sg.2.1.val),(7,i64 sg.2.2)]) (fun sg=>Mo.tt) (fun sg=>Ow.star (Sv.own sg.2.1 9) (Ow.emp)) (aA,a8N,0) [0,1,6,7] hS rfl ?_
 rintro ⟨aBq,Y2,aAE⟩ m1 y1 hS hK1
 obtain ⟨b24,hS⟩:=bM hS
 refine Zq (ZX ?_)
 refine Zc hS (fun h25 hS => ?_) (fun h25 hS => ?_)
 ·
  refine Zk ?_
  refine Zq (Zb (ZX ?_))
  refine jK hS rfl fun TT hS=>ZO ?_
  refine Zl ?_
  refine VC.aV [0,1,6,7,9] ?_
  obtain ⟨b37,hS⟩:=bM hS
  refine ZX ?_
  obtain ⟨MS,aVK,hS⟩:=mB hS
  refine Zu (PB Tryz.underlying9 rfl rfl b37.1 b37.2 aVK) ?_
  obtain ⟨a6A,aLr,aLR,hS⟩:=gP hS
  refine Zu (lK (s:=Y2) Tryz.underlying39 xE rfl rfl aLr (bR aLr aLR)) ?_
  refine VL.oC (s:=Y2) (T:=9) (j:=0) (vc:=[str MS]) (MS:bH) (by decide) rfl rfl aLR rfl xE rfl rfl (Nat.le_of_ble_eq_true rfl) rfl (fun w14 hw14 haw14 hcw14 hvw14 hbw14 how14 => ?_)
  rw [← hvw14]
  replace hS:=dZ hw14 hS
  obtain ⟨b41,hS⟩:=bM hS
  refine Zl ?_
  refine Zr (ZX ?_)
  obtain ⟨aCH,aVO,hS⟩:=mB hS
  refine Zu (HE Tryz.underlying9 rfl rfl b41.1 b41.2 aVO) (Za ?_)
  refine Zl ?_
  refine VC.aV [0,1,6,7] ?_
  obtain ⟨b27,hS⟩:=bM hS
  refine Zr (ZX ?_)
  refine VL.kL (aCH,w14,(aAE+1)) [0,1,6,7] (fun _ _ h=>h) (go2 hS hK1) rfl
 replace hS:=kS hS hK1
 refine Zx ?_
 refine Zq (ZX ?_)
 refine Zc hS (fun h43 hS => ?_) (fun h43 hS => ?_)
 ·
  obtain ⟨b46,hS⟩:=bM hS
  refine Zr (ZX ?_)
  obtain ⟨a6F,aMA,aLZ,hS⟩:=gP hS
  refine Zu (lK (s:=Y2) Tryz.underlying39 xE rfl rfl aMA (bR aMA aLZ)) ?_
  refine VL.oC (s:=Y2) (T:=9) (j:=0) (vc:=[str aBq]) (aBq:bH) (by decide) rfl rfl aLZ rfl xE rfl rfl (Nat.le_of_ble_eq_true rfl) rfl (fun w18 hw18 haw18 hcw18 hvw18 hbw18 how18 => ?_)
  rw [← hvw18]
  replace hS:=dZ hw18 hS
  exact ZE hS
 exact ZE hS
instance GL (aA:bH) (dI:Int) :
 gF Tryz.prog 210 [str aA,.int .u8 dI] (Sh.j9 aA dI) Mo.tt (fun r=>i64 r):=by
 refine gM Tryz.func210 Tryz.ntmps210 fun r hS c => ?_
 unfold Sh.j9 at hS
 refine ZX ?_
 refine Zu (aIE Tryz.func278 rfl rfl (by kernel_rfl) (by kernel_rfl) rfl (fun w=>a8b aA dI w)) ?_
 exact ZE hS
instance aCi (aA:bH) (jS:bH) :
 gF Tryz.prog 136 [str aA,str jS] (Sh.jG aA jS) Mo.tt (fun r=>i64 r):=by
 refine gM Tryz.func136 Tryz.ntmps136 fun r hS c => ?_
 unfold Sh.jG at hS
 refine ZX ?_
 refine Zq (Zb ?_)
 refine VC.cJ [0,1,5] (fun (aDR:Bool)=>aDR) (fun aDR ρ=>(16,.bool aDR)::ρ) hS (fun _ hS=>ZE hS) ?_
 rintro aDR hS
 refine iZ hS (fun _ hS=>ZE hS) fun h16 hS=>ZX ?_
 refine Zc hS (fun h24 hS => ?_) (fun h24 hS => ?_)
 ·
  refine ZX ?_
  obtain ⟨aOj,a2u,a2Y,hS⟩:=gP hS
  refine Zu (yR Tryz.underlying9 rfl rfl a2u a2Y) ?_
  exact Zcq hS (GL aA (aOj.toNat:Int)).out fun QG hS=>ZE hS
 exact ZE hS
instance aQP (aA:bH) (jS:bH) :
 gF Tryz.prog 216 [str aA,str jS] (Sh.l8 aA jS) Mo.tt (fun r=>i64 r):=by
 refine gM Tryz.func216 Tryz.ntmps216 fun r hS c => ?_
 unfold Sh.l8 at hS
 exact ZE hS
instance aQO (aA:bH) (jS:bH) :
 gF Tryz.prog 215 [str aA,str jS] (Sh.xV aA jS) Mo.tt (fun r=>i64 r):=by
 refine gM Tryz.func215 Tryz.ntmps215 fun r hS c => ?_
 unfold Sh.xV at hS
 refine ZX ?_
 refine Zq (ZX ?_)
 refine Zc hS (fun _ hS=>ZE hS) fun h9 hS=>Zk ?_
 refine Zq (ZX ?_)
 refine Zc hS (fun h15 hS => ?_) (fun h15 hS => ?_)
 ·
  refine ZX ?_
  obtain ⟨sO,SQ,OV,hS⟩:=gP hS
  refine Zu (yR Tryz.underlying9 rfl rfl SQ OV) ?_
  refine Zu (aIE Tryz.func281 rfl rfl (by kernel_rfl) (by kernel_rfl) rfl (fun w=>a4G aA (sO.toNat:Int) w)) ?_
  exact ZE hS
 refine ZX ?_
 refine Zb ?_
 refine VC.iJ [1] (fun (sg:bH×Int)=>(sg.1,sg.2)) (fun sg ρ=>(0,str sg.1)::(5,i64 sg.2)::ρ) (aA,0) [0,5,1] hS ?_
 rintro ⟨aQF,aLk⟩ m1 y1 hS hK1
 refine Zb (ZX ?_)
 refine jK hS rfl fun p7 hS=>ZX ?_
 refine Zq (ZX ?_)
 refine Zc hS (fun _ hS=>ZE hS) fun h24 hS => ?_
 obtain ⟨b27,hS⟩:=bM hS
 refine Zk ?_
 refine cI (ZO ?_)
 refine Zl ?_
 refine VC.aV [0,1,5,6] ?_
 obtain ⟨b32,hS⟩:=bM hS
 obtain ⟨b33,hS⟩:=bM hS
 refine Zr (ZX ?_)
 obtain ⟨aO6,a1J,hS⟩:=mB hS
 refine Zu (HE Tryz.underlying9 rfl rfl b33.1 b33.2 a1J) (Za ?_)
 refine VL.kL (aO6,(aLk+1)) [0,5,1] (fun _ _ h=>h) (go2 hS hK1) rfl
instance aMr (aA:bH) (rC:bH) (sepSave_2:Int) (n_3:Int) :
 jZ Tryz.prog 137 [str aA,str rC,i64 sepSave_2,i64 n_3] (Sh.vI aA rC sepSave_2 n_3) Mo.tt (X:=Sv bH) (fun x=>x.val) (fun x=>x.l) (fun x=>x.ok):=by
 refine j6 Tryz.func137 Tryz.ntmps137 fun r hS c => ?_
 unfold Sh.vI at hS
 refine ZX ?_
 refine Zq (ZX ?_)
 refine Zc hS (fun h13 hS => ?_) (fun h13 hS => ?_)
 ·
  refine ZX ?_
  cases hS
  exact VC.ret (Z1 ⟨none,0,[]⟩)
 refine Zk ?_
 refine Zq (ZX ?_)
 refine Zc hS (fun h15 hS => ?_) (fun h15 hS => ?_)
 ·
  refine ZX ?_
  refine fM hS rfl fun aXc hS=>Za ?_
  refine Zl ?_
  refine VC.aV [8] ?_
  refine VC.shut aXc 9 (fun _ _ _ _=>trivial) ?_
  exact ZE hS
 refine Zk ?_
 refine VC.cJ [0,1,2] (fun (VM:Int)=>VM) (fun VM ρ=>(3,i64 VM)::ρ) hS (fun _ hS=>ZE hS) ?_
 rintro VM hS
 obtain ⟨b28,hS⟩:=bM hS
 refine ZX ?_
 refine Zu (aYJ rfl) ?_
 obtain ⟨b31,hS⟩:=bM hS
 refine ZX ?_
 refine VL.make (α:=bH) (z:=[]) Tryz.underlying39 a61 (by decide) rfl rfl b31.1 (Int.le_refl _) (by omega) (by omega) (by decide) (fun a8S a2G => ?_)
 replace hS:=dZ a2G hS
 refine Za ?_
 refine Zl ?_
 refine VC.aV [0,1,2,3,9] ?_
 obtain ⟨b33,hS⟩:=bM hS
 refine cI (ZO ?_)
 refine Zl ?_
 refine cI (Za ?_)
 refine Zl ?_
 refine VC.u5 (S:=bH×Sv bH×Int) (fun sg=>(sg.1,sg.2.1.l,sg.2.2)) (fun sg=>[(0,str sg.1),(9,sg.2.1.val),(10,i64 sg.2.2)]) (fun sg=>Mo.tt) (fun sg=>Ow.star (Sv.own sg.2.1 9) (Ow.emp)) hS ?_ ?_
 ·
  intro k10 hS
  refine Zb ?_
  refine VC.iter (S:=bH×Sv bH×Int) (fun sg=>(sg.1,sg.2.1.l,sg.2.2)) (fun sg=>[(0,str sg.1),(1,str rC),(2,i64 sepSave_2),(3,i64 ((min VM ((aA.length:Int)+1)) - 1)),(9,sg.2.1.val),(10,i64 sg.2.2)]) (fun sg=>Mo.tt) (fun sg=>Ow.star (Sv.own sg.2.1 9) (Ow.emp)) (aA,a8S,0) [0,1,2,3,9,10] hS rfl ?_
  rintro ⟨PZ,RZ,H8⟩ m1 y1 hS hK1
  refine Zq (ZX ?_)
  refine Zc hS (fun h36 hS => ?_) (fun h36 hS => ?_)
  ·
   refine Zk ?_
   refine Zb (ZX ?_)
   refine jK hS rfl fun KM hS=>ZX ?_
   refine Zq (ZX ?_)
   refine VC.aV [0,1,2,3,9,10,11,41] (Zc hS (fun h41 hS => ?_) (fun h41 hS => ?_))
   ·
    replace hS:=kS hS hK1
    refine VC.lX (PZ,RZ,H8) [0,9,10] (fun _ _ h=>h) hS rfl
   obtain ⟨b47,hS⟩:=bM hS
   obtain ⟨b48,hS⟩:=bM hS
   refine ZX ?_
   obtain ⟨aEj,aVT,hS⟩:=mB hS
   refine Zu (PB Tryz.underlying9 rfl rfl b48.1 b48.2 aVT) ?_
   obtain ⟨a6G,aME,aL2,hS⟩:=gP hS
   refine Zu (lK (s:=RZ) Tryz.underlying39 xE rfl rfl aME (bR aME aL2)) ?_
   refine VL.oC (s:=RZ) (T:=9) (j:=0) (vc:=[str aEj]) (aEj:bH) (by decide) rfl rfl aL2 rfl xE rfl rfl (Nat.le_of_ble_eq_true rfl) rfl (fun w17 hw17 haw17 hcw17 hvw17 hbw17 how17 => ?_)
   rw [← hvw17]
   replace hS:=dZ hw17 hS
   refine Zl ?_
   refine VC.aV [0,1,2,3,9,10,11] ?_
   obtain ⟨b54,hS⟩:=bM hS
   obtain ⟨b55,hS⟩:=bM hS
   refine ZX ?_
   obtain ⟨aCM,aV4,hS⟩:=mB hS
   refine Zu (HE Tryz.underlying9 rfl rfl b55.1 b55.2 aV4) (Za ?_)
   refine Zl ?_
   refine VC.aV [0,1,2,3,9,10] ?_
   obtain ⟨b57,hS⟩:=bM hS
   refine Zr (ZX ?_)
   refine VL.kL (aCM,w17,(H8+1)) [0,1,2,3,9,10] (fun _ _ h=>h) (go2 hS hK1) rfl
  replace hS:=kS hS hK1
  refine VC.lX (PZ,RZ,H8) [0,9,10] (fun _ _ h=>h) hS rfl
 rintro ⟨aQG,aK2,aAD⟩ hS
 refine ZX ?_
 obtain ⟨a6H,aMG,aL3,hS⟩:=gP hS
 refine Zu (lK (s:=aK2) Tryz.underlying39 xE rfl rfl aMG (bR aMG aL3)) ?_
 refine VL.oC (s:=aK2) (T:=9) (j:=0) (vc:=[str aQG]) (aQG:bH) (by decide) rfl rfl aL3 rfl xE rfl rfl (Nat.le_of_ble_eq_true rfl) rfl (fun w21 hw21 haw21 hcw21 hvw21 hbw21 how21 => ?_)
 rw [← hvw21]
 replace hS:=dZ hw21 hS
 obtain ⟨b64,hS⟩:=bM hS
 refine ZX ?_
 refine VL.shut w21 9 (fun _ _ _ _=>trivial) ?_
 obtain ⟨b65,hS⟩:=bM hS
 refine VL.sto Tryz.underlying39 xE rfl rfl b65.1 (b65.2) (by decide) fun bCQ aWj => ?_
 replace hS:=dZ aWj hS
 exact ZE hS
instance aQQ (aA:bH) (rC:bH) :
 jZ Tryz.prog 81 [str aA,str rC] (Sh.r8 aA rC) Mo.tt (X:=Sv bH) (fun x=>x.val) (fun x=>x.l) (fun x=>x.ok):=by
 refine j6 Tryz.func81 Tryz.ntmps81 fun r hS c => ?_
 unfold Sh.r8 at hS
 exact ZE hS
instance aH7 (dF:Int) :
 gF Tryz.prog 272 [.int .u8 dF] (Sh.JK dF) Mo.tt (fun r => .bool r):=by
 refine gM Tryz.func272 Tryz.ntmps272 fun r hS c => ?_
 unfold Sh.JK at hS
 refine cI (Za ?_)
 refine Zl ?_
 refine VC.cJ [0] (fun (_:Unit)=>()) (fun _ ρ=>ρ) hS ?_ ?_
 ·
  intro k1 hS
  refine ZX ?_
  refine Zb ?_
  exact VC.cJ [] (fun (_:Unit)=>()) (fun _ ρ=>ρ) hS (fun _ hS=>ZE hS) fun _ hS=>ZE hS
 rintro _ hS
 exact ZE hS
instance a0E (aA:bH) :
 gF Tryz.prog 196 [str aA] (Sh.JL aA) Mo.tt (fun r => .bool r):=by
 refine gM Tryz.func196 Tryz.ntmps196 fun r hS c => ?_
 unfold Sh.JL at hS
 refine ZX ?_
 refine Zq ?_
 refine VC.cJ [0] (fun (aDP:Bool)=>aDP) (fun aDP ρ=>(14,.bool aDP)::ρ) hS (fun _ hS=>ZE hS) ?_
 rintro aDP hS
 refine iZ hS (fun _ hS=>ZE hS) fun h14 hS => ?_
 obtain ⟨b16,hS⟩:=bM hS
 refine Zk ?_
 refine Zq (ZX ?_)
 refine VL.s2b Tryz.underlying9 Tryz.underlying67 Tryz.underlying5 rfl b16 (by decide) fun a8F a1s => ?_
 replace hS:=dZ a1s hS
 refine ZX ?_
 refine Zb ?_
 refine VC.iJ [16,17] (fun (TG:Int)=>TG) (fun TG ρ=>(18,i64 TG)::ρ) 0 [18,16,17] hS ?_
 rintro TG m1 y1 hS hK1
 refine ZX ?_
 refine Zq (Zc hS (fun h19 hS => ?_) (fun h19 hS => ?_))
 ·
  refine Zk ?_
  refine Zq (Zb (cI (yH hS rfl fun aOf bBn hS=>ZX ?_)))
  exact Zcq hS (aH7 (aOf.toNat:Int)).out fun aA3 hS=>ZE hS
 exact ZE hS
instance aXQ (C3:bH) :
 gF Tryz.prog 111 [str C3] (Sh.AQ C3) Mo.tt (fun r=>i64 r):=by
 refine gM Tryz.func111 Tryz.ntmps111 fun r hS c => ?_
 unfold Sh.AQ at hS
 refine ZX ?_
 refine Zq (ZX ?_)
 refine Zc hS (fun _ hS=>ZE hS) fun h7 hS=>Zk ?_
 refine Zq (ZX ?_)
 refine fR hS rfl fun bCC hS=>ZX ?_
 refine Zb ?_
 refine VC.iJ [9,10] (fun (EA:Int)=>EA) (fun EA ρ=>(11,i64 EA)::ρ) 0 [11,9,10] hS ?_
 rintro EA m1 y1 hS hK1
 exact ZE hS
instance aAG (aA:bH) (w9:bH) :
 gF Tryz.prog 273 [str aA,str w9] (Sh.j7 aA w9) Mo.tt (fun r => .bool r):=by
 refine gM Tryz.func273 Tryz.ntmps273 fun r hS c => ?_
 unfold Sh.j7 at hS
 refine cI (Za ?_)
 refine Zl ?_
 refine cI (Zm ?_)
 refine Zu (zS Tryz.underlying9 rfl) (Zm (Zu (zS Tryz.underlying9 rfl) (Zu (N1 rfl rfl) (Zm ?_))))
 refine nT 10 hS (fun h10 hS => ?_) (fun h10 hS => ?_)
 ·
  obtain ⟨b14,hS⟩:=bM hS
  refine ZX ?_
  obtain ⟨IS,aIb,hS⟩:=mB hS
  refine Zh (PB Tryz.underlying9 rfl rfl b14.1 b14.2 aIb) ?_
  exact ZE hS
 exact ZE hS
instance UL (aA:bH) (w9:bH) :
 gF Tryz.prog 197 [str aA,str w9] (Sh.tY aA w9) Mo.tt (fun r => .bool r):=by
 refine gM Tryz.func197 Tryz.ntmps197 fun r hS c => ?_
 unfold Sh.tY at hS
 exact ZE hS
instance VR (C3:bH) (U1:bH) :
 gF Tryz.prog 114 [str C3,str U1] (Sh.DI C3 U1) Mo.tt (fun r => .bool r):=by
 refine gM Tryz.func114 Tryz.ntmps114 fun r hS c => ?_
 unfold Sh.DI at hS
 refine ZX ?_
 refine Zq (ZX ?_)
 refine Zc hS (fun _ hS=>ZE hS) fun h6 hS => ?_
 obtain ⟨b13,hS⟩:=bM hS
 refine Zk ?_
 refine cI (Zm ?_)
 refine Zu (zS Tryz.underlying9 rfl) (Zm (Zu (zS Tryz.underlying9 rfl) (Zu (l5 rfl rfl b13) (Zu (zC rfl rfl) (Zm ?_)))))
 refine nT 15 hS (fun h15 hS => ?_) (fun h15 hS => ?_)
 ·
  obtain ⟨b18,hS⟩:=bM hS
  refine ZX ?_
  obtain ⟨aGv,a0p,hS⟩:=mB hS
  refine Zh (nO rfl rfl b18 a0p) ?_
  obtain ⟨aZP,a0t,hS⟩:=cS hS
  refine Zh (dU ((UL C3 aGv).out a0t) rfl (fun _ _=>rfl)) ?_
  exact ZE hS
 exact ZE hS
instance aGJ (bP:bH) (b_1:bH) :
 gF Tryz.prog 66 [str bP,str b_1] (Sh.pH bP b_1) Mo.tt (fun r => .bool r):=by
 refine gM Tryz.func66 Tryz.ntmps66 fun r hS c => ?_
 unfold Sh.pH at hS
 refine cI (Za ?_)
 refine Zl ?_
 refine cI (Zm ?_)
 refine Zu (N3 rfl rfl) (Zm ?_)
 refine UR 7 hS (fun h7 hS => ?_) (fun h7 hS => ?_)
 ·
  refine Zg ?_
  refine Zh (N3 rfl rfl) ?_
  refine Zt ?_
  refine Zm ?_
  refine UR 11 hS (fun h11 hS => ?_) (fun h11 hS => ?_)
  ·
   refine ZX ?_
   obtain ⟨IS,aIb,hS⟩:=cS hS
   refine Zh (dU ((VR bP b_1).out aIb) rfl (fun _ _=>rfl)) ?_
   refine Zg ?_
   refine xZ 15 hS (fun _ hS=>ZE hS) fun h15 hS => ?_
   refine ZX ?_
   obtain ⟨aA0,aId,hS⟩:=cS hS
   refine Zh (dU ((VR b_1 bP).out aId) rfl (fun _ _=>rfl)) ?_
   exact ZE hS
  exact ZE hS
 exact ZE hS
instance UG (rQ:aC) (iC:Nat) (a_1:aC) :
 gF Tryz.prog 113 [.agg #[str rQ.path,i64 rQ.mode,str rQ.data],ptr iC 0] (Sh.tQ rQ a_1) (Cells iC 0 [str a_1.path,i64 a_1.mode,str a_1.data]) (fun r => .bool r):=by
 refine gM Tryz.func113 Tryz.ntmps113 fun r hS c => ?_
 unfold Sh.tQ at hS
 refine cI (kU fun iV=>ZX ?_)
 refine Zu (z8 mF rfl rfl) ?_
 exact ZE hS
instance B9 (aA:Sv aC) (dY:Nat) (dP:aC) :
 gF Tryz.prog 106 [aA.val,.func (.func 113) #[] #[ptr dY 0]] (Sh.iR aA.l dP) (aA.ok.and (Cells dY 0 [str dP.path,i64 dP.mode,str dP.data])) (fun r=>i64 r):=by
 refine gM Tryz.func106 Tryz.ntmps106 fun r hS c => ?_
 unfold Sh.iR at hS
 refine ZX ?_
 refine Zq (ZX ?_)
 refine Zb ?_
 refine VC.iJ [0,1,7] (fun (dL:Int)=>dL) (fun dL ρ=>(8,i64 dL)::ρ) 0 [8,0,1,7] hS ?_
 rintro dL m1 y1 hS hK1
 refine ZX ?_
 refine Zq (Zc hS (fun h9 hS => ?_) (fun h9 hS => ?_))
 ·
  refine Zk ?_
  refine Zq (Zb (ZX ?_))
  obtain ⟨fD,rU,pF,hS⟩:=gP hS
  refine Zu (jA (s:=aA) Tryz.underlying26 kN rfl rfl rU (bR rU pF)) (Zu (nF  (s:=aA) BD rfl rfl pF) ?_)
  obtain ⟨mW,uE,hS⟩:=cS hS
  refine Zu (tU (vs:=[.agg #[str fD.path,i64 fD.mode,str fD.data]]) (caps:=[ptr dY 0]) ((UG fD dY dP).out uE) rfl rfl (fun _ _=>rfl)) ?_
  exact ZE hS
 exact ZE hS
instance AA (aA:Sv aC) (dY:Nat) (dP:aC) :
 gF Tryz.prog 112 [aA.val,.func (.func 113) #[] #[ptr dY 0]] (Sh.gT aA.l dP) (aA.ok.and (Cells dY 0 [str dP.path,i64 dP.mode,str dP.data])) (fun r => .bool r):=by
 refine gM Tryz.func112 Tryz.ntmps112 fun r hS c => ?_
 unfold Sh.gT at hS
 refine ZX ?_
 obtain ⟨kI,GJ,hS⟩:=cS hS
 refine Zu (l6 ((B9 aA dY dP).out GJ) rfl (fun _ _=>rfl)) ?_
 exact ZE hS
instance aNH (dX:Sv aC) (i_1:Int) :
 gF Tryz.prog 64 [dX.val,i64 i_1] (Sh.w8 dX.l i_1) dX.ok (fun r=>i64 r):=by
 refine gM Tryz.func64 Tryz.ntmps64 fun r hS c => ?_
 unfold Sh.w8 at hS
 refine ZX ?_
 refine yH hS rfl fun aCX bCf hS=>ZX ?_
 refine dJ fun a6Q=>ZX ?_
 refine Zq (ZX ?_)
 refine jK hS rfl fun J4 hS=>Za ?_
 refine Zl ?_
 refine VC.aV [0,1,5,6] (ZX ?_)
 refine oD hS (fun _ hS=>ZE hS) fun h15 hS=>Zk ?_
 refine Zq (Zb ?_)
 refine VC.cJ [0,1,5] (fun (sC:Bool)=>sC) (fun sC ρ=>(17,.bool sC)::ρ) hS (fun _ hS=>ZE hS) ?_
 rintro sC hS
 refine iZ hS (fun _ hS=>ZE hS) fun h17 hS=>ZX ?_
 refine Zc hS (fun _ hS=>ZE hS) fun h26 hS => ?_
 refine VC.cJ [0,1,5] (fun (L7:Bool)=>L7) (fun L7 ρ=>(31,.bool L7)::ρ) hS ?_ ?_
 ·
  intro k7 hS
  refine iB ((List.range 15).map fun k=>(k,true)) ?_
  refine ZX ?_
  refine VD.xR 34 rfl (fun h34 => ?_) (fun h34 => ?_)
  ·
   replace hS:=IB h34 hS
   obtain ⟨b37,hS⟩:=bM hS
   refine ZX ?_
   refine aU5 hS rfl fun aOo bBy hS => ?_
   refine ZX ?_
   obtain ⟨lH,a1Q,hS⟩:=cS hS
   refine Zi rfl (dU ((RC aOo.path aCX.path).out a1Q) rfl (fun _ _=>rfl)) ?_
   exact ZE hS
  replace hS:=T6 h34 hS
  exact ZE hS
 rintro L7 hS
 refine iZ hS (fun _ hS=>ZE hS) fun h31 hS => ?_
 obtain ⟨b49,hS⟩:=bM hS
 refine ZX ?_
 refine VL.sto Tryz.underlying26 kN rfl rfl b49.1 (b49.2) (by decide) fun a3d aWf => ?_
 replace hS:=dZ aWf hS
 refine ZX ?_
 obtain ⟨aQi,aVX,hS⟩:=cS hS
 refine Zu (l6 ((AA a3d a6Q aCX).out aVX) rfl (fun _ _=>rfl)) ?_
 exact ZE hS
instance aNF (dX:Sv aC) :
 jZ Tryz.prog 32 [dX.val] (Sh.iN dX.l) dX.ok (X:=Er) (fun x=>x.val) (fun x=>x.pl) (fun x=>x.ok):=by
 refine j6 Tryz.func32 Tryz.ntmps32 fun r hS c => ?_
 unfold Sh.iN at hS
 refine ZX ?_
 refine Zq (ZX ?_)
 refine Zc hS (fun h7 hS => ?_) (fun h7 hS => ?_)
 ·
  refine ZX ?_
  refine Zu (cG (vs:=[(0,str [102,105,108,101]),(1,i64 64),(2,(Er.no 4).val)]) (cs := #[str [102,105,108,101],i64 64,(Er.no 4).val]) rfl (by kernel_rfl)) ?_
  refine kU fun PR => ?_
  refine VL.FB PR ?_
  refine ZX ?_
  cases hS
  exact VC.ret (Z1 (Er.fault PR [102,105,108,101] 64 (Er.no 4)))
 refine Zk ?_
 refine Zq (ZX ?_)
 refine Zb ?_
 refine VC.iJ [0,13] (fun (rG:Int)=>rG) (fun rG ρ=>(14,i64 rG)::ρ) 0 [14,0,13] hS ?_
 rintro rG m1 y1 hS hK1
 refine ZX ?_
 refine Zq (Zc hS (fun h15 hS => ?_) (fun h15 hS => ?_))
 ·
  refine Zk ?_
  refine Zq (Zb (ZX ?_))
  refine jK hS rfl fun J7 hS=>ZX ?_
  refine oD hS (fun h21 hS => ?_) (fun h21 hS => ?_)
  ·
   refine ZX ?_
   refine Zu (cG (vs:=[(0,str [102,105,108,101]),(1,i64 rG),(2,(Er.no J7).val)]) (cs := #[str [102,105,108,101],i64 rG,(Er.no J7).val]) rfl (by kernel_rfl)) ?_
   refine kU fun aUe => ?_
   refine VL.FB aUe ?_
   refine ZX ?_
   replace hS:=kS hS hK1
   cases hS
   exact VC.ret (Z1 (Er.fault aUe [102,105,108,101] rG (Er.no J7)))
  exact ZE hS
 replace hS:=kS hS hK1
 refine Zx ?_
 refine ZX ?_
 cases hS
 exact VC.ret (Z1 .nil)
instance a0I (aCa:Er) :
 jZ Tryz.prog 31 [aCa.val] (Sh.qO aCa.pl) (aCa.ok.and Gl) (X:=Er) (fun x=>x.val) (fun x=>x.pl) (fun x=>x.ok):=by
 refine j6 Tryz.func31 Tryz.ntmps31 fun r hS c => ?_
 unfold Sh.qO at hS
 refine ZX ?_
 refine dJ fun uO=>Zl ?_
 refine Zq (ZX ?_)
 rcases aCa with _ | _ | ⟨eb2,ep2,ea2,_ | en2 | _⟩
 ·
  try dsimp only at hS
  refine VL.jN (aNQ _) rfl (by decide) ?_
  rintro _ _
  refine Zl ?_
  refine VC.wA rfl ?_
  refine ZX ?_
  cases hS
  exact VC.ret (Z1 (Er.nil))
 ·
  try dsimp only at hS
  exact ZE hS
 ·
  try dsimp only at hS
  exact ZE hS
 ·
  try dsimp only at hS
  refine VL.M9 (Cells eb2 0 [str ep2,i64 ea2,(Er.no en2).val]) (fun _ m=>(dV.out (X:=(Er.fault eb2 ep2 ea2 (.no en2)).ok) _ m).1) ?_
  refine VL.oE (As.a6s eb2 uO ep2 ea2 en2) rfl (by decide) ?_
  rintro _ _
  refine Zl ?_
  refine VC.EI rfl ?_
  refine ZX ?_
  cases hS
  exact VC.ret (Z1 (Er.no en2))
 try dsimp only at hS
 exact ZE hS
instance XW (aA:Sv aC) :
 vL Tryz.prog 61 [aA.val] (Sh.cE aA.l) aA.ok (Ow.emp) (X:=Sv aC) (fun x=>x.val) (fun x=>x.l) (fun x=>Mo.tt) (fun x=>Sv.own x 78):=by
 refine v8 Tryz.func61 Tryz.ntmps61 fun r hS c => ?_
 unfold Sh.cE at hS
 refine ZX ?_
 refine Zq (ZX ?_)
 refine Zu (LG (s:=aA) Tryz.underlying26 rfl) ?_
 refine Zl ?_
 refine VC.slnil (s:=aA) rfl (fun h4 => ?_) ?_
 ·
  have hS:(some [])=some r:=by
    simp [lt,gd,h4] at hS ⊢
    try exact hS
  refine cI (Za ?_)
  refine Zl ?_
  refine VC.mR (⟨none,0,[]⟩:Sv aC) 78 ⟨rfl,rfl⟩ ?_
  cases hS
  exact VC.ret (Z1 ⟨none,0,[]⟩)
 refine ZX ?_
 refine VL.aEA (α:=aC) Tryz.underlying26 a1a (by decide) (fun ME wE BF => ?_)
 refine VL.mR ME 78 ⟨BF,wE⟩ ?_
 replace hS:=dZ wE hS
 exact ZE hS
instance I2 (wC:aC) (iC:Nat) (a_1:bH) :
 gF Tryz.prog 65 [.agg #[str wC.path,i64 wC.mode,str wC.data],ptr iC 0] (Sh.qJ wC a_1) (Cells iC 0 [str a_1]) (fun r => .bool r):=by
 refine gM Tryz.func65 Tryz.ntmps65 fun r hS c => ?_
 unfold Sh.qJ at hS
 refine cI (kU fun iV=>ZX ?_)
 refine Zu (z8 mF rfl rfl) ?_
 exact ZE hS
instance AB (aA:Sv aC) (dY:Nat) (dP:bH) :
 gF Tryz.prog 106 [aA.val,.func (.func 65) #[] #[ptr dY 0]] (Sh.gU aA.l dP) (aA.ok.and (Cells dY 0 [str dP])) (fun r=>i64 r):=by
 refine gM Tryz.func106 Tryz.ntmps106 fun r hS c => ?_
 unfold Sh.gU at hS
 refine ZX ?_
 refine Zq (ZX ?_)
 refine Zb ?_
 refine VC.iJ [0,1,7] (fun (dL:Int)=>dL) (fun dL ρ=>(8,i64 dL)::ρ) 0 [8,0,1,7] hS ?_
 rintro dL m1 y1 hS hK1
 refine ZX ?_
 refine Zq (Zc hS (fun h9 hS => ?_) (fun h9 hS => ?_))
 ·
  refine Zk ?_
  refine Zq (Zb (ZX ?_))
  obtain ⟨fD,rU,pF,hS⟩:=gP hS
  refine Zu (jA (s:=aA) Tryz.underlying26 kN rfl rfl rU (bR rU pF)) (Zu (nF  (s:=aA) BD rfl rfl pF) ?_)
  obtain ⟨mW,uE,hS⟩:=cS hS
  refine Zu (tU (vs:=[.agg #[str fD.path,i64 fD.mode,str fD.data]]) (caps:=[ptr dY 0]) ((I2 fD dY dP).out uE) rfl rfl (fun _ _=>rfl)) ?_
  exact ZE hS
 exact ZE hS
instance SZ (aA:Sv aC) (dO:Nat) (dH:bH) :
 vL Tryz.prog 60 [aA.val,.func (.func 65) #[] #[ptr dO 0]] (Sh.iI aA.l dH) Mo.tt (Ow.star (Sv.own aA 78) (bN dO [str dH] 9)) (X:=Sv aC) (fun x=>x.val) (fun x=>x.l) (fun x=>Mo.tt) (fun x=>Ow.star (Sv.own x 78) (bN dO [str dH] 9)):=by
 refine v8 Tryz.func60 Tryz.ntmps60 fun r hS c => ?_
 unfold Sh.iI at hS
 refine ZX ?_
 obtain ⟨dK,HT,hS⟩:=cS hS
 refine Zu (l6 ((AB aA dO dH).out HT) rfl (fun _ _=>rfl)) ?_
 refine ZX ?_
 refine Zq (ZX ?_)
 refine Zc hS (fun _ hS=>ZE hS) fun h12 hS => ?_
 obtain ⟨b15,hS⟩:=bM hS
 refine Zk ?_
 refine Zq (ZX ?_)
 refine VC.aV [0,1,5,6] (Zb ?_)
 refine VC.iter (S:=Sv aC×Int×Int) (fun sg=>(sg.1.l,sg.2.1,sg.2.2)) (fun sg=>[(0,sg.1.val),(1,.func (.func 65) #[] #[ptr dO 0]),(5,i64 sg.2.1),(6,i64 sg.2.2)]) (fun sg=>Mo.tt) (fun sg=>Ow.star (bN dO [str dH] 9) (Ow.star (Sv.own sg.1 78) (Ow.emp))) (aA,dK,(dK+1)) [0,1,5,6] hS rfl ?_
 rintro ⟨fJ,jC,oJ⟩ m1 y1 hS hK1
 refine Zq (ZX ?_)
 refine Zc hS (fun h19 hS => ?_) (fun h19 hS => ?_)
 ·
  refine Zk ?_
  refine VC.u5 (S:=Sv aC×Int) (fun sg=>(sg.1.l,sg.2)) (fun sg=>[(0,sg.1.val),(1,.func (.func 65) #[] #[ptr dO 0]),(5,i64 sg.2),(6,i64 oJ)]) (fun sg=>Mo.tt) (fun sg=>Ow.star (bN dO [str dH] 9) (Ow.star (Sv.own sg.1 78) (Ow.emp))) hS ?_ ?_
  ·
   intro k7 hS
   refine Zb (ZX ?_)
   obtain ⟨cW,yM,xY,hS⟩:=gP hS
   refine Zu (lK (s:=fJ) Tryz.underlying26 kN rfl rfl yM (bR yM xY)) (Zu (XT (s:=fJ) BD rfl rfl xY) ?_)
   refine dJ fun T0=>ZO ?_
   refine Zl ?_
   refine VC.aV [0,1,5,6,7] (ZX ?_)
   obtain ⟨zT,HU,hS⟩:=cS hS
   refine Zu (tU (vs:=[.agg #[str cW.path,i64 cW.mode,str cW.data]]) (caps:=[ptr dO 0]) ((I2 cW dO dH).out HU) rfl rfl (fun _ _=>rfl)) ?_
   refine ZX ?_
   refine iZ hS (fun h29 hS => ?_) (fun h29 hS => ?_)
   ·
    refine ZX ?_
    obtain ⟨MV,yN,yL,hS⟩:=gP hS
    refine Zu (lK (s:=fJ) Tryz.underlying26 kN rfl rfl yN (bR yN yL)) ?_
    refine VL.oC (s:=fJ) (T:=78) (j:=0) (vc:=[str cW.path,i64 cW.mode,str cW.data]) (⟨cW.path,cW.mode,cW.data⟩:aC) (by decide) rfl rfl yL rfl kN rfl rfl (Nat.le_of_ble_eq_true rfl) rfl (fun w12 hw12 haw12 hcw12 hvw12 hbw12 how12 => ?_)
    rw [← hvw12]
    replace hS:=dZ hw12 hS
    refine Zl ?_
    refine VC.aV [0,1,5,6] ?_
    obtain ⟨b35,hS⟩:=bM hS
    refine Zr (ZX ?_)
    refine VL.mt (w12,(jC+1)) [0,1,5,6] (fun _ _ h=>h) hS rfl
   refine VC.rY (fJ,jC) [0,1,5,6] (fun _ _ h=>h) hS rfl
  rintro ⟨D5,DE⟩ hS
  obtain ⟨b21,hS⟩:=bM hS
  refine Zr (ZX ?_)
  refine VL.kL (D5,DE,(oJ+1)) [0,1,5,6] (fun _ _ h=>h) (go2 hS hK1) rfl
 replace hS:=kS hS hK1
 refine Zx ?_
 obtain ⟨b38,hS⟩:=bM hS
 refine ZX ?_
 refine VL.fits (s:=fJ) (e:=78) Fo.out fun CX => ?_
 refine Zu (F3 (s:=fJ) Tryz.underlying26 kN rfl rfl b38.1 b38.2 CX) ?_
 refine VL.aDv (s:=fJ) (i:=jC.toNat) (.agg #[str [],i64 0,str []]) Tryz.underlying26 aNi rfl rfl rfl (by have:=b38; dsimp only at this ⊢; omega) Fo.out fun MN H6 IP => ?_
 replace hS:=dZ H6 hS
 refine Zl ?_
 refine VC.aV [0,5] (ZX ?_)
 refine Zu (XS (s:=fJ) (q:=MN) Tryz.underlying26 kN rfl rfl b38.1 b38.2 CX IP) ?_
 exact ZE hS
instance YX (aA:Sv aC) :
 jZ Tryz.prog 59 [aA.val] (Sh.bQ aA.l) aA.ok (X:=Sv aC) (fun x=>x.val) (fun x=>x.l) (fun x=>x.ok):=by
 refine j6 Tryz.func59 Tryz.ntmps59 fun r hS c => ?_
 unfold Sh.bQ at hS
 obtain ⟨b8,hS⟩:=bM hS
 refine ZX ?_
 refine VL.UA Tryz.underlying26 kN rfl rfl rfl b8.1 (b8.2) (by decide) fun PC tC => ?_
 replace hS:=dZ tC hS
 exact ZE hS
instance aNG (dX:Sv aC) (p_1:bH) :
 jZ Tryz.prog 33 [dX.val,str p_1] (Sh.oS dX.l p_1) dX.ok (X:=Sv aC) (fun x=>x.val) (fun x=>x.l) (fun x=>x.ok):=by
 refine j6 Tryz.func33 Tryz.ntmps33 fun r hS c => ?_
 unfold Sh.oS at hS
 refine cI (kU fun uO=>ZX ?_)
 refine fM hS rfl fun aPv hS=>ZX ?_
 refine fM hS rfl fun IG hS => ?_
 refine VL.shut IG 78 (fun _ _ _ _=>trivial) ?_
 exact ZE hS
instance OQ (CP:Nat) (q9:eF) (l_1:Sv Int) :
 vL Tryz.prog 182 [ptr CP 0,l_1.val] (Sh.eT q9.pl l_1.l) l_1.ok (Ow.star (Sv.own q9.eU 5) (bN CP [q9.eU.val] 168)) (X:=eF) (fun x => .tuple #[]) (fun x=>x.pl) (fun x=>Mo.tt) (fun x=>Ow.star (bN CP [x.eU.val] 168) (Sv.own x.eU 5)):=by
 refine v8 Tryz.func182 Tryz.ntmps182 fun r hS c => ?_
 unfold Sh.eT at hS
 refine ZX ?_
 refine Zb ?_
 refine VC.iter (S:=Int×Sv UInt8) (fun sg=>(sg.1,sg.2.l)) (fun sg=>[(0,ptr CP 0),(7,l_1.val),(8,i64 (l_1.l.length:Int)),(9,i64 sg.1)]) (fun sg=>Mo.tt) (fun sg=>Ow.star (bN CP [sg.2.val] 168) (Ow.star (Sv.own sg.2 5) (Ow.emp))) (0,q9.eU) [0,7,8,9] hS rfl ?_
 rintro ⟨RV,U0⟩ m1 y1 hS hK1
 refine ZX ?_
 refine Zq (Zc hS (fun h10 hS => ?_) (fun h10 hS => ?_))
 ·
  refine Zk ?_
  refine Zq (Zb (cI (yH hS rfl fun W6 a2O hS=>ZX ?_)))
  refine Zu (z7 Tryz.underlying3 Tryz.underlying204 rfl) ?_
  refine Zu (aYM rfl rfl (by decide)) ?_
  refine Zm ?_
  refine Zu (aG5 rfl rfl (by decide)) ?_
  refine Zu (z7 Tryz.underlying2 Tryz.underlying204 rfl) (Zu (aYN rfl rfl) (Za ?_))
  refine Zl ?_
  refine VC.aV [0,7,8,9,6] (Zq (Zb ?_))
  refine VC.iter (S:=Int×Sv UInt8) (fun sg=>(sg.1,sg.2.l)) (fun sg=>[(0,ptr CP 0),(6,.int .u64 sg.1),(7,l_1.val),(8,i64 (l_1.l.length:Int)),(9,i64 RV)]) (fun sg=>Mo.tt) (fun sg=>Ow.star (bN CP [sg.2.val] 168) (Ow.star (Sv.own sg.2 5) (Ow.emp))) ((OP .u64 (sHl .u64 (IntKind.wrap .u64 W6) 1) (IntKind.wrap .u64 (GS .i64 W6 63))),U0) [0,6,7,8,9] hS rfl ?_
  rintro ⟨ZJ,C5⟩ m2 y2 hS hK2
  refine Zq (ZX ?_)
  refine Zc hS (fun h21 hS => ?_) (fun h21 hS => ?_)
  ·
   refine Zk ?_
   refine Zb (ZX ?_)
   refine Zu (aNv rfl rfl) (Zu (z7 Tryz.underlying204 Tryz.underlying5 rfl) (Zu (a6c rfl rfl) ?_))
   obtain ⟨a02,hS⟩:=bM hS
   obtain ⟨aYp,a0a,hS⟩:=mB hS
   refine VL.HH 30 rfl (congrArg (Value.int .u8) (aYq a02 a0a)) ?_
   refine mS hS fun bDD hS=>HM hS fun a8T hS => ?_
   refine ZO ?_
   refine Zl ?_
   refine VC.aV [0,6,7,8,9] (Zr (Zm ?_))
   refine Zu (aG5 rfl rfl (by decide)) ?_
   refine Za ?_
   refine VL.kL ((GS .u64 ZJ 7),a8T) [0,6,7,8,9] (fun _ _ h=>h) (go2 hS hK2) rfl
  replace hS:=kS hS hK2
  refine Zx ?_
  refine Zr (ZX ?_)
  refine Zu (z7 Tryz.underlying204 Tryz.underlying5 rfl) ?_
  obtain ⟨a03,hS⟩:=bM hS
  obtain ⟨aQS,aVA,hS⟩:=mB hS
  refine VL.HH 43 rfl (congrArg (Value.int .u8) (aYq a03 aVA)) ?_
  refine mS hS fun bCJ hS=>HM hS fun a3c hS => ?_
  refine ZO ?_
  refine Zl ?_
  refine VC.aV [0,7,8,9] ?_
  obtain ⟨b48,hS⟩:=bM hS
  refine Zr (ZX ?_)
  refine VL.kL ((RV+1),a3c) [0,7,8,9] (fun _ _ h=>h) (go2 hS hK1) rfl
 replace hS:=kS hS hK1
 cases hS
 exact VC.exit (rP (.inl rfl) rfl ⟨U0⟩ rfl rfl (by (try dsimp only); exact dV.out) (by (try dsimp only); exact fK.out))
instance BB (CP:Nat) (q9:eF) (l_1:Sv bH) :
 vL Tryz.prog 183 [ptr CP 0,l_1.val] (Sh.gD q9.pl l_1.l) l_1.ok (Ow.star (Sv.own q9.eU 5) (bN CP [q9.eU.val] 168)) (X:=eF) (fun x => .tuple #[]) (fun x=>x.pl) (fun x=>Mo.tt) (fun x=>Ow.star (bN CP [x.eU.val] 168) (Sv.own x.eU 5)):=by
 refine v8 Tryz.func183 Tryz.ntmps183 fun r hS c => ?_
 unfold Sh.gD at hS
 refine ZX ?_
 refine Zb ?_
 refine VC.iter (S:=Int×Sv UInt8) (fun sg=>(sg.1,sg.2.l)) (fun sg=>[(0,ptr CP 0),(6,l_1.val),(7,i64 (l_1.l.length:Int)),(8,i64 sg.1)]) (fun sg=>Mo.tt) (fun sg=>Ow.star (bN CP [sg.2.val] 168) (Ow.star (Sv.own sg.2 5) (Ow.emp))) (0,q9.eU) [0,6,7,8] hS rfl ?_
 rintro ⟨dL,U0⟩ m1 y1 hS hK1
 refine ZX ?_
 refine Zq (Zc hS (fun h9 hS => ?_) (fun h9 hS => ?_))
 ·
  refine Zk ?_
  refine Zq (Zb (cI (yH hS rfl fun wP KF hS=>ZX ?_)))
  refine mS hS fun a8C hS=>y7 hS (OQ CP (⟨U0⟩:eF) a8C).out fun aGO hS=>Zl ?_
  refine VC.aV [0,6,7,8,5] ?_
  obtain ⟨b23,hS⟩:=bM hS
  refine Zr (ZX ?_)
  refine VL.a6O (s:=aGO.eU) (r:=wP) Tryz.underlying67 Tryz.underlying9 a7J rfl Fo.out b23 (by decide) fun a8P a1y _ => ?_
  replace hS:=dZ a1y hS
  refine ZO ?_
  refine Zl ?_
  refine VC.aV [0,6,7,8] ?_
  obtain ⟨b26,hS⟩:=bM hS
  refine Zr (ZX ?_)
  refine VL.kL ((dL+1),a8P) [0,6,7,8] (fun _ _ h=>h) (go2 hS hK1) rfl
 replace hS:=kS hS hK1
 cases hS
 exact VC.exit (rP (.inl rfl) rfl ⟨U0⟩ rfl rfl (by (try dsimp only); exact dV.out) (by (try dsimp only); exact fK.out))
instance WK (jO:Nat) (w_0:eF) (r_1:Sv aC) :
 vL Tryz.prog 180 [ptr jO 0,r_1.val] (Sh.lG w_0.pl r_1.l) r_1.ok (Ow.star (Sv.own w_0.eU 5) (bN jO [w_0.eU.val] 168)) (X:=eF) (fun x => .tuple #[]) (fun x=>x.pl) (fun x=>Mo.tt) (fun x=>Ow.star (bN jO [x.eU.val] 168) (Sv.own x.eU 5)):=by
 refine v8 Tryz.func180 Tryz.ntmps180 fun r hS c => ?_
 unfold Sh.lG at hS
 refine ZX ?_
 refine mS hS fun aJU hS=>fM hS rfl fun gQ hS=>ZX ?_
 refine VC.aV [0,13,14,15] (Zb ?_)
 refine VC.iter (S:=Int×Sv UInt8) (fun sg=>(sg.1,sg.2.l)) (fun sg=>[(0,ptr jO 0),(13,r_1.val),(14,i64 (r_1.l.length:Int)),(15,i64 sg.1)]) (fun sg=>Mo.tt) (fun sg=>Ow.star (bN jO [sg.2.val] 168) (Ow.star (Sv.own sg.2 5) (Ow.emp))) (0,gQ.eU) [0,13,14,15] hS rfl ?_
 rintro ⟨AJ,C5⟩ m1 y1 hS hK1
 refine ZX ?_
 refine Zq (Zc hS (fun h16 hS => ?_) (fun h16 hS => ?_))
 ·
  refine Zk ?_
  refine Zq (Zb (cI ?_))
  obtain ⟨EE,O2,OU,hS⟩:=gP hS
  refine Zu (jA (s:=r_1) Tryz.underlying26 kN rfl rfl O2 (bR O2 OU)) (Zu (nF  (s:=r_1) BD rfl rfl OU) ?_)
  refine dJ fun QX=>ZX ?_
  refine Zq ?_
  refine iB [(0,true),(1,true),(2,true),(3,true),(4,true),(5,false),(6,false)] ?_
  refine ZX ?_
  refine VD.one rfl (mS hS fun aGd hS=>eO (Pk 2 (Pk 1 Pz)) ?_)
  refine VD.one rfl (y7 hS (BB jO (⟨C5⟩:eF) aGd).out fun aHu hS=>eV ?_)
  refine uD ?_
  refine VC.aV [0,13,14,15,5] (Zq ?_)
  refine iB [(0,true),(1,true),(2,true),(3,true),(4,true),(5,false),(6,false)] ?_
  refine ZX ?_
  refine VD.one rfl (mS hS fun a34 hS=>eO (Pk 2 (Pk 1 Pz)) ?_)
  refine VD.one rfl (fM hS rfl fun aSr hS=>eV ?_)
  refine uD ?_
  refine VC.aV [0,13,14,15,5] ?_
  refine iB [(0,true),(1,true),(2,true),(3,true),(4,true),(5,false),(6,false)] ?_
  refine ZX ?_
  refine VD.one rfl (mS hS fun a3b hS=>eO (Pk 2 (Pk 1 Pz)) ?_)
  refine VD.one rfl (fM hS rfl fun aCx hS=>eV ?_)
  refine uD ?_
  refine VC.aV [0,13,14,15] ?_
  obtain ⟨b40,hS⟩:=bM hS
  refine Zr (ZX ?_)
  refine VL.kL ((AJ+1),aCx.eU) [0,13,14,15] (fun _ _ h=>h) (go2 hS hK1) rfl
 replace hS:=kS hS hK1
 cases hS
 exact VC.exit (rP (.inl rfl) rfl ⟨C5⟩ rfl rfl (by (try dsimp only); exact dV.out) (by (try dsimp only); exact fK.out))
instance aHc (jO:Nat) (w_0:eF) (l_1:Sv aH) :
 vL Tryz.prog 181 [ptr jO 0,l_1.val] (Sh.nK w_0.pl l_1.l) l_1.ok (Ow.star (Sv.own w_0.eU 5) (bN jO [w_0.eU.val] 168)) (X:=eF) (fun x => .tuple #[]) (fun x=>x.pl) (fun x=>Mo.tt) (fun x=>Ow.star (bN jO [x.eU.val] 168) (Sv.own x.eU 5)):=by
 refine v8 Tryz.func181 Tryz.ntmps181 fun r hS c => ?_
 unfold Sh.nK at hS
 refine ZX ?_
 refine mS hS fun aJU hS=>fM hS rfl fun gQ hS=>ZX ?_
 refine VC.aV [0,13,14,15] (Zb ?_)
 refine VC.iter (S:=Int×Sv UInt8) (fun sg=>(sg.1,sg.2.l)) (fun sg=>[(0,ptr jO 0),(13,l_1.val),(14,i64 (l_1.l.length:Int)),(15,i64 sg.1)]) (fun sg=>Mo.tt) (fun sg=>Ow.star (bN jO [sg.2.val] 168) (Ow.star (Sv.own sg.2 5) (Ow.emp))) (0,gQ.eU) [0,13,14,15] hS rfl ?_
 rintro ⟨AJ,C5⟩ m1 y1 hS hK1
 refine ZX ?_
 refine Zq (Zc hS (fun h16 hS => ?_) (fun h16 hS => ?_))
 ·
  refine Zk ?_
  refine Zq (Zb (cI ?_))
  obtain ⟨EE,O2,OU,hS⟩:=gP hS
  refine Zu (jA (s:=l_1) Tryz.underlying27 oH rfl rfl O2 (bR O2 OU)) (Zu (nF  (s:=l_1) F1 rfl rfl OU) ?_)
  refine dJ fun QX=>ZX ?_
  refine Zq ?_
  refine iB [(0,true),(1,true),(2,true),(3,true),(4,true),(5,false),(6,false)] ?_
  refine ZX ?_
  refine VD.one rfl (mS hS fun aGd hS=>eO (Pk 2 (Pk 1 Pz)) ?_)
  refine VD.one rfl (y7 hS (BB jO (⟨C5⟩:eF) aGd).out fun aHu hS=>eV ?_)
  refine uD ?_
  refine VC.aV [0,13,14,15,5] (Zq ?_)
  refine iB [(0,true),(1,true),(2,true),(3,true),(4,true),(5,true),(6,true),(7,false),(8,false)] ?_
  refine ZX ?_
  refine VD.one rfl (mS hS fun bCE hS=>eO (Pk 2 (Pk 1 Pz)) ?_)
  refine VD.one rfl (fM hS rfl fun a9T hS=>eV ?_)
  refine uD ?_
  refine VC.aV [0,13,14,15,5] (Zq ?_)
  refine iB [(0,true),(1,true),(2,true),(3,true),(4,true),(5,false),(6,false)] ?_
  refine ZX ?_
  refine VD.one rfl (mS hS fun bCH hS=>eO (Pk 2 (Pk 1 Pz)) ?_)
  refine VD.one rfl (fM hS rfl fun a9X hS=>eV ?_)
  refine uD ?_
  refine VC.aV [0,13,14,15,5] ?_
  refine iB [(0,true),(1,true),(2,true),(3,true),(4,true),(5,true),(6,true),(7,false),(8,false)] ?_
  refine ZX ?_
  refine VD.one rfl (mS hS fun bCN hS=>eO (Pk 2 (Pk 1 Pz)) ?_)
  refine VD.one rfl (fM hS rfl fun aIA hS=>eV ?_)
  refine uD ?_
  refine VC.aV [0,13,14,15] ?_
  obtain ⟨b51,hS⟩:=bM hS
  refine Zr (ZX ?_)
  refine VL.kL ((AJ+1),aIA.eU) [0,13,14,15] (fun _ _ h=>h) (go2 hS hK1) rfl
 replace hS:=kS hS hK1
 cases hS
 exact VC.exit (rP (.inl rfl) rfl ⟨C5⟩ rfl rfl (by (try dsimp only); exact dV.out) (by (try dsimp only); exact fK.out))
instance I6 (jO:Nat) (w_0:eF) (h_1:mM) :
 vL Tryz.prog 184 [ptr jO 0,.agg #[str h_1.branch,i64 h_1.cC]] (Sh.qQ w_0.pl h_1) Mo.tt (Ow.star (Sv.own w_0.eU 5) (bN jO [w_0.eU.val] 168)) (X:=eF) (fun x => .tuple #[]) (fun x=>x.pl) (fun x=>Mo.tt) (fun x=>Ow.star (bN jO [x.eU.val] 168) (Sv.own x.eU 5)):=by
 refine v8 Tryz.func184 Tryz.ntmps184 fun r hS c => ?_
 unfold Sh.qQ at hS
 refine cI (kU fun uO=>Zl ?_)
 refine Zq ?_
 refine iB [(0,true),(1,true),(2,true),(3,true),(4,true),(5,false),(6,false)] ?_
 refine ZX ?_
 refine VD.one rfl (mS hS fun a6h hS=>eO (Pk 2 (Pk 1 Pz)) ?_)
 refine VD.one rfl (fM hS rfl fun aMQ hS=>eV ?_)
 refine ZX ?_
 refine iB [(0,true),(1,true),(2,true),(3,true),(4,true),(5,false),(6,false)] ?_
 refine ZX ?_
 refine VD.one rfl (mS hS fun aOD hS=>eO (Pk 2 (Pk 1 Pz)) ?_)
 refine VD.one rfl (fM hS rfl fun RI hS=>eV ?_)
 cases hS
 exact VD.nil (rP (.inl rfl) rfl ⟨RI.eU⟩ rfl rfl (by (try dsimp only); exact dV.out) (by (try dsimp only); exact fK.out))
instance aJW (jO:Nat) (w_0:eF) (l_1:Sv bK) :
 vL Tryz.prog 267 [ptr jO 0,l_1.val] (Sh.o9 w_0.pl l_1.l) l_1.ok (Ow.star (Sv.own w_0.eU 5) (bN jO [w_0.eU.val] 168)) (X:=eF) (fun x => .tuple #[]) (fun x=>x.pl) (fun x=>Mo.tt) (fun x=>Ow.star (bN jO [x.eU.val] 168) (Sv.own x.eU 5)):=by
 refine v8 Tryz.func267 Tryz.ntmps267 fun r hS c => ?_
 unfold Sh.o9 at hS
 refine ZX ?_
 refine mS hS fun aJU hS=>fM hS rfl fun gQ hS=>ZX ?_
 refine VC.aV [0,13,14,15] (Zb ?_)
 refine VC.iter (S:=Int×Sv UInt8) (fun sg=>(sg.1,sg.2.l)) (fun sg=>[(0,ptr jO 0),(13,l_1.val),(14,i64 (l_1.l.length:Int)),(15,i64 sg.1)]) (fun sg=>Mo.tt) (fun sg=>Ow.star (bN jO [sg.2.val] 168) (Ow.star (Sv.own sg.2 5) (Ow.emp))) (0,gQ.eU) [0,13,14,15] hS rfl ?_
 rintro ⟨AJ,C5⟩ m1 y1 hS hK1
 refine ZX ?_
 refine Zq (Zc hS (fun h16 hS => ?_) (fun h16 hS => ?_))
 ·
  refine Zk ?_
  refine Zq (Zb (cI ?_))
  obtain ⟨EE,O2,OU,hS⟩:=gP hS
  refine Zu (jA (s:=l_1) Tryz.underlying31 KE rfl rfl O2 (bR O2 OU)) (Zu (nF  (s:=l_1) NK rfl rfl OU) ?_)
  refine dJ fun QX=>ZX ?_
  refine Zq ?_
  refine iB [(0,true),(1,true),(2,true),(3,true),(4,true),(5,false),(6,false)] ?_
  refine ZX ?_
  refine VD.one rfl (mS hS fun aGd hS=>eO (Pk 2 (Pk 1 Pz)) ?_)
  refine VD.one rfl (y7 hS (BB jO (⟨C5⟩:eF) aGd).out fun aHu hS=>eV ?_)
  refine uD ?_
  refine VC.aV [0,13,14,15,5] (Zq ?_)
  refine iB [(0,true),(1,true),(2,true),(3,true),(4,true),(5,false),(6,false)] ?_
  refine ZX ?_
  refine VD.one rfl (mS hS fun a34 hS=>eO (Pk 2 (Pk 1 Pz)) ?_)
  refine VD.one rfl (fM hS rfl fun aSr hS=>eV ?_)
  refine uD ?_
  refine VC.aV [0,13,14,15,5] ?_
  refine iB [(0,true),(1,true),(2,true),(3,true),(4,true),(5,false),(6,false)] ?_
  refine ZX ?_
  refine VD.one rfl (mS hS fun a3b hS=>eO (Pk 2 (Pk 1 Pz)) ?_)
  refine VD.one rfl (fM hS rfl fun aCx hS=>eV ?_)
  refine uD ?_
  refine VC.aV [0,13,14,15] ?_
  obtain ⟨b40,hS⟩:=bM hS
  refine Zr (ZX ?_)
  refine VL.kL ((AJ+1),aCx.eU) [0,13,14,15] (fun _ _ h=>h) (go2 hS hK1) rfl
 replace hS:=kS hS hK1
 cases hS
 exact VC.exit (rP (.inl rfl) rfl ⟨C5⟩ rfl rfl (by (try dsimp only); exact dV.out) (by (try dsimp only); exact fK.out))
instance WL (jO:Nat) (w_0:eF) (s_1:pN) :
 vL Tryz.prog 185 [ptr jO 0,.agg (EG s_1).toArray] (Sh.vG w_0.pl s_1.pl) s_1.m (Ow.star (Sv.own w_0.eU 5) (bN jO [w_0.eU.val] 168)) (X:=eF) (fun x => .tuple #[]) (fun x=>x.pl) (fun x=>Mo.tt) (fun x=>Ow.star (bN jO [x.eU.val] 168) (Sv.own x.eU 5)):=by
 refine v8 Tryz.func185 Tryz.ntmps185 fun r hS c => ?_
 unfold Sh.vG at hS
 refine cI ?_
 refine qA (EG s_1) fun uO => ?_
 refine Zl ?_
 refine Zq ?_
 refine iB [(0,true),(1,true),(2,true),(3,true),(4,true),(5,false),(6,false)] ?_
 refine ZX ?_
 refine VD.one rfl (mS hS fun a6h hS=>eO (Pk 2 (Pk 1 Pz)) ?_)
 refine VD.one rfl (fM hS rfl fun aMQ hS=>eV ?_)
 refine ZX ?_
 refine Zq ?_
 refine iB [(0,true),(1,true),(2,true),(3,true),(4,true),(5,false),(6,false)] ?_
 refine ZX ?_
 refine VD.one rfl (mS hS fun aOD hS=>eO (Pk 2 (Pk 1 Pz)) ?_)
 refine VD.one rfl (fM hS rfl fun RI hS=>eV ?_)
 refine uD ?_
 refine VC.aV [0,3] (Zq ?_)
 refine iB [(0,true),(1,true),(2,true),(3,true),(4,true),(5,false),(6,false)] ?_
 refine ZX ?_
 refine VD.one rfl (mS hS fun bCw hS=>eO (Pk 2 (Pk 1 Pz)) ?_)
 refine VD.one rfl (fM hS rfl fun a9K hS=>eV ?_)
 refine ZX ?_
 refine fM hS rfl fun a9M hS=>Zl ?_
 refine VC.aV [0,3] (ZX ?_)
 refine fM hS rfl fun a9S hS=>Zl ?_
 refine Zq ?_
 refine iB [(0,true),(1,true),(2,true),(3,true),(4,true),(5,false),(6,false)] ?_
 refine ZX ?_
 refine VD.one rfl (mS hS fun bCG hS=>eO (Pk 2 (Pk 1 Pz)) ?_)
 refine VD.one rfl (fM hS rfl fun a9W hS=>eV ?_)
 refine uD ?_
 refine VC.aV [0,3] (Zq ?_)
 refine iB [(0,true),(1,true),(2,true),(3,true),(4,true),(5,false),(6,false)] ?_
 refine ZX ?_
 refine VD.one rfl (mS hS fun bCK hS=>eO (Pk 2 (Pk 1 Pz)) ?_)
 refine VD.one rfl (fM hS rfl fun aTD hS=>eV ?_)
 refine ZX ?_
 refine Zu (mG (j:=7) (n:=2) EK rfl rfl rfl) ?_
 refine y7 hS (I6 jO aTD (⟨s_1.cB,s_1.cA⟩:mM)).out fun aIA hS=>Zl ?_
 refine VC.aV [0,3] (ZX ?_)
 refine fM hS rfl fun a97 hS=>Zl ?_
 refine Zr (ZX ?_)
 refine fM hS rfl fun aTQ hS => ?_
 cases hS
 exact VL.nil (rP (.inl rfl) rfl ⟨aTQ.eU⟩ rfl rfl (by (try dsimp only); exact dV.out) (by (try dsimp only); exact fK.out))
instance LK (jO:Nat) (w_0:eF) (n_1:iY) :
 vL Tryz.prog 99 [ptr jO 0,.agg (mQ n_1).toArray] (Sh.nQ w_0.pl n_1.pl) n_1.m (Ow.star (Sv.own w_0.eU 5) (bN jO [w_0.eU.val] 168)) (X:=eF) (fun x => .tuple #[]) (fun x=>x.pl) (fun x=>Mo.tt) (fun x=>Ow.star (bN jO [x.eU.val] 168) (Sv.own x.eU 5)):=by
 refine v8 Tryz.func99 Tryz.ntmps99 fun r hS c => ?_
 unfold Sh.nQ at hS
 refine cI ?_
 refine qA (mQ n_1) fun uO => ?_
 refine ZX ?_
 refine fM hS rfl fun aMR hS=>ZX ?_
 refine fM hS rfl fun VV hS=>Zl ?_
 refine VC.aV [0,3] (Zq ?_)
 refine iB [(0,true),(1,true),(2,true),(3,true),(4,true),(5,true),(6,false),(7,false)] ?_
 refine ZX ?_
 refine VD.one rfl (mS hS fun bCv hS=>eO (Pk 2 (Pk 1 Pz)) ?_)
 refine VD.one rfl (fM hS rfl fun VZ hS=>eV ?_)
 refine ZX ?_
 refine Zq (ZX ?_)
 refine VC.aV [0,3,25,26,27] (Zb ?_)
 refine VC.iter (S:=Int×Sv UInt8) (fun sg=>(sg.1,sg.2.l)) (fun sg=>[(0,ptr jO 0),(3,ptr uO 0),(25,n_1.refs.val),(26,i64 (n_1.refs.l.length:Int)),(27,i64 sg.1)]) (fun sg=>Mo.tt) (fun sg=>Ow.star (bN jO [sg.2.val] 168) (Ow.star (bN uO (mQ n_1) 37) (Ow.star (Sv.own sg.2 5) (Ow.emp)))) (0,VZ.eU) [0,3,25,26,27] hS rfl ?_
 rintro ⟨AK,aKe⟩ m1 y1 hS hK1
 refine ZX ?_
 refine Zq (Zc hS (fun h28 hS => ?_) (fun h28 hS => ?_))
 ·
  refine Zk ?_
  refine Zq (Zb (cI (yH hS rfl fun aOl bBt hS=>ZX ?_)))
  refine dJ fun bC9=>ZX ?_
  refine Zq ?_
  refine iB [(0,true),(1,true),(2,true),(3,true),(4,true),(5,false),(6,false)] ?_
  refine ZX ?_
  refine VD.one rfl (mS hS fun a39 hS=>eO (Pk 2 (Pk 1 Pz)) ?_)
  refine VD.one rfl (y7 hS (BB jO (⟨aKe⟩:eF) a39).out fun aHw hS=>eV ?_)
  refine uD ?_
  refine VC.aV [0,3,25,26,27,5] ?_
  refine iB [(0,true),(1,true),(2,true),(3,true),(4,true),(5,false),(6,false)] ?_
  refine ZX ?_
  refine VD.one rfl (mS hS fun bCI hS=>eO (Pk 2 (Pk 1 Pz)) ?_)
  refine VD.one rfl (fM hS rfl fun aTB hS=>eV ?_)
  refine uD ?_
  refine VC.aV [0,3,25,26,27] ?_
  obtain ⟨b45,hS⟩:=bM hS
  refine Zr (ZX ?_)
  refine VL.kL ((AK+1),aTB.eU) [0,3,25,26,27] (fun _ _ h=>h) (go2 hS hK1) rfl
 replace hS:=kS hS hK1
 refine Zx ?_
 refine ZX ?_
 refine Zu (mG (j:=3) (n:=2) EK rfl rfl rfl) ?_
 refine y7 hS (I6 jO (⟨aKe⟩:eF) (⟨n_1.cB,n_1.cA⟩:mM)).out fun aHz hS=>ZX ?_
 refine Zu (mG (j:=5) (n:=11) HZ rfl rfl rfl) ?_
 refine y7 hS (WL jO aHz (⟨n_1.fE,n_1.eM,n_1.fF,n_1.cZ,n_1.eA,n_1.eX,n_1.dM,n_1.bW,n_1.bX,n_1.dB,n_1.eC⟩:pN)).out fun a96 hS=>Zl ?_
 refine VC.aV [0,3] (Zq ?_)
 refine iB [(0,true),(1,true),(2,true),(3,true),(4,true),(5,true),(6,false),(7,false)] ?_
 refine ZX ?_
 refine Zw rfl (vV bL.pl (s:=n_1.gB) Tryz.underlying35 rfl) ?_
 refine VD.one rfl (mS hS fun a3j hS=>eO (Pk 2 (Pk 1 Pz)) ?_)
 refine VD.one rfl (fM hS rfl fun aTU hS=>eV ?_)
 refine ZX ?_
 refine Zu (vV bL.pl (s:=n_1.gB) Tryz.underlying35 rfl) ?_
 refine ZX ?_
 refine VC.aV [0,63,64,65] (Zb ?_)
 refine VC.iter (S:=Int×Sv UInt8) (fun sg=>(sg.1,sg.2.l)) (fun sg=>[(0,ptr jO 0),(63,n_1.gB.val),(64,i64 ((n_1.gB.l.map bL.pl).length:Int)),(65,i64 sg.1)]) (fun sg=>Mo.tt) (fun sg=>Ow.star (bN jO [sg.2.val] 168) (Ow.star (bN uO (mQ n_1) 37) (Ow.star (Sv.own sg.2 5) (Ow.emp)))) (0,aTU.eU) [0,63,64,65] hS rfl ?_
 rintro ⟨YB,aFL⟩ m1 y1 hS hK1
 refine ZX ?_
 refine Zq (Zc hS (fun h66 hS => ?_) (fun h66 hS => ?_))
 ·
  refine Zk ?_
  refine Zq (Zb (cI ?_))
  obtain ⟨YP,aMJ,aFu,hS⟩:=zW hS
  refine VL.deep YP.m aFu (fun _ q=>q) ?_
  refine Zu (jA (s:=n_1.gB) Tryz.underlying35 oA rfl rfl aMJ (bR aMJ aFu)) (Zu (nF  (s:=n_1.gB) Q4 rfl rfl aFu) ?_)
  refine dJ fun bCc=>ZX ?_
  refine Zq ?_
  refine iB [(0,true),(1,true),(2,true),(3,true),(4,true),(5,false),(6,false)] ?_
  refine ZX ?_
  refine VD.one rfl (mS hS fun a3n hS=>eO (Pk 2 (Pk 1 Pz)) ?_)
  refine VD.one rfl (y7 hS (OQ jO (⟨aFL⟩:eF) a3n).out fun a9l hS=>eV ?_)
  refine uD ?_
  refine VC.aV [0,63,64,65,7] (ZX ?_)
  refine fM hS rfl fun a9p hS=>ZX ?_
  refine fM hS rfl fun a9r hS=>Zl ?_
  refine VC.aV [0,63,64,65,7] ?_
  refine iB [(0,true),(1,true),(2,true),(3,true),(4,true),(5,false),(6,false)] ?_
  refine ZX ?_
  refine VD.one rfl (mS hS fun bCU hS=>eO (Pk 2 (Pk 1 Pz)) ?_)
  refine VD.one rfl (fM hS rfl fun aTk hS=>eV ?_)
  refine uD ?_
  refine VC.aV [0,63,64,65] ?_
  obtain ⟨b91,hS⟩:=bM hS
  refine Zr (ZX ?_)
  refine VL.kL ((YB+1),aTk.eU) [0,63,64,65] (fun _ _ h=>h) (go2 hS hK1) rfl
 replace hS:=kS hS hK1
 cases hS
 exact VC.exit (rP (.inl rfl) rfl ⟨aFL⟩ rfl rfl (by (try dsimp only); exact dV.out) (by (try dsimp only); exact fK.out))
instance S6 (jO:Nat) (w_0:eF) (l_1:Sv bH) :
 vL Tryz.prog 192 [ptr jO 0,l_1.val] (Sh.nD w_0.pl l_1.l) l_1.ok (Ow.star (Sv.own w_0.eU 5) (bN jO [w_0.eU.val] 168)) (X:=eF) (fun x => .tuple #[]) (fun x=>x.pl) (fun x=>Mo.tt) (fun x=>Ow.star (bN jO [x.eU.val] 168) (Sv.own x.eU 5)):=by
 refine v8 Tryz.func192 Tryz.ntmps192 fun r hS c => ?_
 unfold Sh.nD at hS
 refine ZX ?_
 refine mS hS fun bDT hS=>fM hS rfl fun kX hS=>Zl ?_
 refine Zr (ZX ?_)
 refine fM hS rfl fun FT hS => ?_
 cases hS
 exact VL.nil (rP (.inl rfl) rfl ⟨FT.eU⟩ rfl rfl (by (try dsimp only); exact dV.out) (by (try dsimp only); exact fK.out))
end Go.Proofs.YtgdabkldgphdeaaGreatDoor
end
