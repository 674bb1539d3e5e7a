/- Part of the proofs of: a plan's folder, laid down by the journal, is on the disk as planned, and outlasts the power (any two trees, any keep) -/
import Derived.Shelf.Strings.OnBuilder
import Derived.Shelf.LaysM
import Derived.Shelf.Strconv.Itoa3
import Derived.Shelf.Sort.Plain
import Derived.Shelf.Slices.CompactS
import Derived.Shelf.Slices.In.SortNone
import Derived.Test.YtedhnpjkoeblnaaGreatDoorProg
import Derived.Shelf.SlMaps.Clone
import Derived.Shelf.SlIter.Nil
import Derived.Shelf.SortM.Plain
import Derived.Shelf.SortM.SortNone
import Derived.Test.YtedhnpjkoeblnaaGreatDoorRows
import Derived.Test.YtedhnpjkoeblnaaGreatDoorLB
set_option linter.unusedVariables false
set_option linter.unusedSimpArgs false
set_option linter.unusedSectionVars false
section
namespace Go.Proofs
open Go.Shelf
def Tryz.aBq:Go.Shelf.Ren:=⟨fun | 156=>404 | 165=>410 | 166=>394 | 169=>397 | 240=>402 | 241=>417 | 276=>408 | 277=>424 | n=>n,fun | 31=>39 | 9=>9 | 3=>3 | 4=>4 | 0=>0 | 20=>20 | 72=>455 | 76=>458 | 70=>453 | 37=>35 | 75=>27 | 127=>470 | 164=>316 | 5=>5 | 80=>181 | n=>n,fun | n=>n⟩
theorem Tryz.aMM:Go.Proofs.Lays.n156 Tryz.prog Tryz.aBq:={
  mixed:=by kernel_rfl
  f156:=Tryz.func404.trans (congrArg some (by kernel_rfl))
  f165:=Tryz.func410.trans (congrArg some (by kernel_rfl))
  f166:=Tryz.func394.trans (congrArg some (by kernel_rfl))
  f169:=Tryz.func397.trans (congrArg some (by kernel_rfl))
  f240:=Tryz.func402.trans (congrArg some (by kernel_rfl))
  f241:=Tryz.func417.trans (congrArg some (by kernel_rfl))
  f276:=Tryz.func408.trans (congrArg some (by kernel_rfl))
  f277:=Tryz.func424.trans (congrArg some (by kernel_rfl))
  t0:=Tryz.underlying0
  a0:=Tryz.isAgg0
  z0:=Tryz.sizeOf0
  v0:=Tryz.zeroValue0
  t3:=Tryz.underlying3
  a3:=Tryz.isAgg3
  z3:=Tryz.sizeOf3
  v3:=Tryz.zeroValue3
  t4:=Tryz.underlying4
  a4:=Tryz.isAgg4
  z4:=Tryz.sizeOf4
  v4:=Tryz.zeroValue4
  t9:=Tryz.underlying9
  a9:=Tryz.isAgg9
  z9:=Tryz.sizeOf9
  v9:=Tryz.zeroValue9
  t20:=Tryz.underlying20
  a20:=Tryz.isAgg20
  z20:=Tryz.sizeOf20
  v20:=Tryz.zeroValue20
  t31:=Tryz.underlying39
  a31:=Tryz.isAgg39
  z31:=Tryz.sizeOf39
  v31:=Tryz.zeroValue39
  t37:=Tryz.underlying35
  a37:=Tryz.isAgg35
  z37:=Tryz.sizeOf35
  v37:=Tryz.zeroValue35
  t70:=Tryz.underlying453
  a70:=Tryz.isAgg453
  z70:=Tryz.sizeOf453
  v70:=Tryz.zeroValue453
  t72:=Tryz.underlying455
  a72:=Tryz.isAgg455
  z72:=Tryz.sizeOf455
  v72:=Tryz.zeroValue455
  t75:=Tryz.underlying27
  a75:=Tryz.isAgg27
  z75:=Tryz.sizeOf27
  v75:=Tryz.zeroValue27
  t76:=Tryz.underlying458
  a76:=Tryz.isAgg458
  z76:=Tryz.sizeOf458
  v76:=Tryz.zeroValue458
  t127:=Tryz.underlying470
  a127:=Tryz.isAgg470
  z127:=Tryz.sizeOf470
  v127:=Tryz.zeroValue470
  t164:=Tryz.underlying316
  a164:=Tryz.isAgg316
  z164:=Tryz.sizeOf316
  v164:=Tryz.zeroValue316 }
theorem Tryz.KV:Builder.Extra Tryz.prog Tryz.aBq:={
  sizeBuilder:=by kernel_rfl
  liesBuilder:=by kernel_rfl
  t5:=Tryz.underlying5
  a5:=Tryz.isAgg5
  z5:=Tryz.sizeOf5
  v5:=Tryz.zeroValue5
  infoByte:=by kernel_rfl
  cellsByte:=by kernel_rfl
  sizeByte:=by kernel_rfl
  neB5:=by decide }
open Go.RowKit in
/-- No element: the empty string; the world is as it was. (Whatever the slice's address and capacity: a nil slice too.) (LAID: no walk: one application.) -/
theorem Tryz.strings_Join_none (a:Option Addr) (c:Nat) (sep:ByteArray) (w:World) :
    Calls Tryz.prog 404 #[.slice a 0 c,.string sep] w fun e w'=>e = .returned (.string ⟨#[]⟩)∧w'=w:=Any.strings_Join_none Tryz.aMM Tryz.KV a c sep w
open Go.RowKit in
/-- strings.Join: "Join concatenates the elements of its first argument to create a single string. The separator string sep is placed between elements in the resulting string.": HOWEVER MANY ELEMENTS. Below the heap's end the world is as it was. (LAID: no walk: one application.) -/
theorem Tryz.strings_Join (bk o c:Nat) (xs:List ByteArray) (sep:ByteArray) (w:World) (hcells : ∀ (j:Nat) x,xs[j]? = some x→w.cell? ⟨bk,o+j,none⟩=some (.string x)) (hbk:bk < w.heap.size) (hN:xs.length≤140737488355328) (hcap:xs.length≤c) (hlen:(Lib.join (xs.map (·.data.toList)) sep.data.toList).length≤140737488355328) :
    Calls Tryz.prog 404 #[.slice (some ⟨bk,o,none⟩) xs.length c,.string sep] w fun e w'=>e = .returned (.string ⟨(Lib.join (xs.map (·.data.toList)) sep.data.toList).toArray⟩)∧Below w.heap.size w w':=Any.strings_Join Tryz.aMM Tryz.KV bk o c xs sep w hcells hbk hN hcap hlen
def Tryz.aH8:Go.Shelf.Ren:=⟨fun | 171=>140 | 243=>190 | 246=>252 | 283=>317 | 284=>318 | 285=>319 | 286=>320 | 129=>181 | 317=>363 | 318=>364 | 319=>365 | 320=>366 | 337=>381 | 338=>382 | n=>n,fun | 3=>3 | 9=>9 | 2=>2 | 4=>4 | 171=>378 | 0=>0 | 53=>216 | 37=>35 | 5=>5 | 173=>380 | 212=>422 | 51=>254 | 20=>20 | 213=>423 | 46=>207 | 232=>443 | 233=>444 | n=>n,fun | 17=>2 | 18=>5 | 19=>6 | n=>n⟩
theorem Tryz.aTP:Go.Proofs.LaysM.n171 Tryz.prog Tryz.aH8:={
  mixed:=by kernel_rfl
  f129:=Tryz.func181.trans (congrArg some (by kernel_rfl))
  f171:=Tryz.func140.trans (congrArg some (by kernel_rfl))
  f243:=Tryz.func190.trans (congrArg some (by kernel_rfl))
  f246:=Tryz.func252.trans (congrArg some (by kernel_rfl))
  f283:=Tryz.func317.trans (congrArg some (by kernel_rfl))
  f284:=Tryz.func318.trans (congrArg some (by kernel_rfl))
  f285:=Tryz.func319.trans (congrArg some (by kernel_rfl))
  f286:=Tryz.func320.trans (congrArg some (by kernel_rfl))
  f317:=Tryz.func363.trans (congrArg some (by kernel_rfl))
  f318:=Tryz.func364.trans (congrArg some (by kernel_rfl))
  f319:=Tryz.func365.trans (congrArg some (by kernel_rfl))
  f320:=Tryz.func366.trans (congrArg some (by kernel_rfl))
  f337:=Tryz.func381.trans (congrArg some (by kernel_rfl))
  f338:=Tryz.func382.trans (congrArg some (by kernel_rfl))
  t0:=Tryz.underlying0
  a0:=Tryz.isAgg0
  z0:=Tryz.sizeOf0
  v0:=Tryz.zeroValue0
  t2:=Tryz.underlying2
  a2:=Tryz.isAgg2
  z2:=Tryz.sizeOf2
  v2:=Tryz.zeroValue2
  t3:=Tryz.underlying3
  a3:=Tryz.isAgg3
  z3:=Tryz.sizeOf3
  v3:=Tryz.zeroValue3
  t4:=Tryz.underlying4
  a4:=Tryz.isAgg4
  z4:=Tryz.sizeOf4
  v4:=Tryz.zeroValue4
  t5:=Tryz.underlying5
  a5:=Tryz.isAgg5
  z5:=Tryz.sizeOf5
  v5:=Tryz.zeroValue5
  t9:=Tryz.underlying9
  a9:=Tryz.isAgg9
  z9:=Tryz.sizeOf9
  v9:=Tryz.zeroValue9
  t20:=Tryz.underlying20
  a20:=Tryz.isAgg20
  z20:=Tryz.sizeOf20
  v20:=Tryz.zeroValue20
  t37:=Tryz.underlying35
  a37:=Tryz.isAgg35
  z37:=Tryz.sizeOf35
  v37:=Tryz.zeroValue35
  t46:=Tryz.underlying207
  a46:=Tryz.isAgg207
  z46:=Tryz.sizeOf207
  v46:=Tryz.zeroValue207
  t51:=Tryz.underlying254
  a51:=Tryz.isAgg254
  z51:=Tryz.sizeOf254
  v51:=Tryz.zeroValue254
  t53:=Tryz.underlying216
  a53:=Tryz.isAgg216
  z53:=Tryz.sizeOf216
  v53:=Tryz.zeroValue216
  t171:=Tryz.underlying378
  a171:=Tryz.isAgg378
  z171:=Tryz.sizeOf378
  v171:=Tryz.zeroValue378
  t173:=Tryz.underlying380
  a173:=Tryz.isAgg380
  z173:=Tryz.sizeOf380
  v173:=Tryz.zeroValue380
  t212:=Tryz.underlying422
  a212:=Tryz.isAgg422
  z212:=Tryz.sizeOf422
  v212:=Tryz.zeroValue422
  t213:=Tryz.underlying423
  a213:=Tryz.isAgg423
  z213:=Tryz.sizeOf423
  t232:=Tryz.underlying443
  a232:=Tryz.isAgg443
  z232:=Tryz.sizeOf443
  v232:=Tryz.zeroValue443
  t233:=Tryz.underlying444
  a233:=Tryz.isAgg444
  z233:=Tryz.sizeOf444
  v233:=Tryz.zeroValue444
  g17:=by kernel_rfl
  g18:=by kernel_rfl
  g19:=by kernel_rfl
  i0:=by kernel_rfl
  i2:=by kernel_rfl
  i3:=by kernel_rfl
  i4:=by kernel_rfl
  i5:=by kernel_rfl
  i9:=by kernel_rfl
  i20:=by kernel_rfl
  i37:=by kernel_rfl
  i46:=by kernel_rfl
  i51:=by kernel_rfl
  i53:=by kernel_rfl
  i171:=by kernel_rfl
  i173:=by kernel_rfl
  i212:=by kernel_rfl
  i232:=by kernel_rfl
  i233:=by kernel_rfl
  m17:=by kernel_rfl
  m18:=by kernel_rfl
  m19:=by kernel_rfl }
open Go.RowKit Go.Sort Go.Lib in
/-- strconv.Itoa: "Itoa is equivalent to FormatInt(int64(i), 10).": i's DECIMAL NUMERAL ('Lib.itoa': a '-' where i is negative, then the digits), FOR EVERY int. The world behind the call: the world before it, new blocks behind the heap (the library's 'var a [24]byte'), draws. (LAID: no walk: one application.) -/
theorem Tryz.strconv_Itoa (n:Int) (h0 : -9223372036854775808≤n) (h1:n≤9223372036854775807) (w:World) (htab:Lib.TabIs Tryz.prog w "internal/strconv.uint64pow10" .u64 Lib.pow10Tab) :
    Calls Tryz.prog 140 #[.int .i64 n] w fun e w'=>e = .returned (.string ⟨(Lib.itoa n).toArray⟩) ∧ ∃ k os,w'=grow (w.drewN k) os:=Any.strconv_Itoa Tryz.aTP n h0 h1 w htab
def Tryz.aKG:Go.Shelf.Ren:=⟨fun | 190=>70 | 125=>126 | 258=>125 | 128=>180 | 129=>181 | 302=>171 | 303=>172 | 304=>173 | 305=>174 | 306=>175 | 307=>176 | 308=>177 | 309=>178 | 310=>179 | 333=>244 | 329=>245 | 330=>246 | 334=>247 | 335=>248 | 336=>170 | 344=>315 | n=>n,fun | 31=>39 | 9=>9 | 3=>3 | 46=>207 | 0=>0 | 51=>254 | 53=>216 | 4=>4 | 183=>248 | 182=>247 | 131=>116 | 5=>5 | 218=>307 | 222=>311 | 228=>375 | 229=>376 | n=>n,fun | n=>n⟩
theorem Tryz.aMN:Go.Proofs.Lays.n190 Tryz.prog Tryz.aKG:={
  mixed:=by kernel_rfl
  f125:=Tryz.func126.trans (congrArg some (by kernel_rfl))
  f128:=Tryz.func180.trans (congrArg some (by kernel_rfl))
  f129:=Tryz.func181.trans (congrArg some (by kernel_rfl))
  f190:=Tryz.func70.trans (congrArg some (by kernel_rfl))
  f258:=Tryz.func125.trans (congrArg some (by kernel_rfl))
  f302:=Tryz.func171.trans (congrArg some (by kernel_rfl))
  f303:=Tryz.func172.trans (congrArg some (by kernel_rfl))
  f304:=Tryz.func173.trans (congrArg some (by kernel_rfl))
  f305:=Tryz.func174.trans (congrArg some (by kernel_rfl))
  f306:=Tryz.func175.trans (congrArg some (by kernel_rfl))
  f307:=Tryz.func176.trans (congrArg some (by kernel_rfl))
  f308:=Tryz.func177.trans (congrArg some (by kernel_rfl))
  f309:=Tryz.func178.trans (congrArg some (by kernel_rfl))
  f310:=Tryz.func179.trans (congrArg some (by kernel_rfl))
  f329:=Tryz.func245.trans (congrArg some (by kernel_rfl))
  f330:=Tryz.func246.trans (congrArg some (by kernel_rfl))
  f333:=Tryz.func244.trans (congrArg some (by kernel_rfl))
  f334:=Tryz.func247.trans (congrArg some (by kernel_rfl))
  f335:=Tryz.func248.trans (congrArg some (by kernel_rfl))
  f336:=Tryz.func170.trans (congrArg some (by kernel_rfl))
  f344:=Tryz.func315.trans (congrArg some (by kernel_rfl))
  t0:=Tryz.underlying0
  a0:=Tryz.isAgg0
  z0:=Tryz.sizeOf0
  v0:=Tryz.zeroValue0
  t3:=Tryz.underlying3
  a3:=Tryz.isAgg3
  z3:=Tryz.sizeOf3
  v3:=Tryz.zeroValue3
  t4:=Tryz.underlying4
  a4:=Tryz.isAgg4
  z4:=Tryz.sizeOf4
  v4:=Tryz.zeroValue4
  t5:=Tryz.underlying5
  a5:=Tryz.isAgg5
  z5:=Tryz.sizeOf5
  v5:=Tryz.zeroValue5
  t9:=Tryz.underlying9
  a9:=Tryz.isAgg9
  z9:=Tryz.sizeOf9
  v9:=Tryz.zeroValue9
  t31:=Tryz.underlying39
  a31:=Tryz.isAgg39
  z31:=Tryz.sizeOf39
  v31:=Tryz.zeroValue39
  t46:=Tryz.underlying207
  a46:=Tryz.isAgg207
  z46:=Tryz.sizeOf207
  v46:=Tryz.zeroValue207
  t51:=Tryz.underlying254
  a51:=Tryz.isAgg254
  z51:=Tryz.sizeOf254
  v51:=Tryz.zeroValue254
  t53:=Tryz.underlying216
  a53:=Tryz.isAgg216
  z53:=Tryz.sizeOf216
  v53:=Tryz.zeroValue216
  t131:=Tryz.underlying116
  a131:=Tryz.isAgg116
  z131:=Tryz.sizeOf116
  v131:=Tryz.zeroValue116
  t182:=Tryz.underlying247
  a182:=Tryz.isAgg247
  z182:=Tryz.sizeOf247
  v182:=Tryz.zeroValue247
  t183:=Tryz.underlying248
  a183:=Tryz.isAgg248
  z183:=Tryz.sizeOf248
  v183:=Tryz.zeroValue248
  t218:=Tryz.underlying307
  a218:=Tryz.isAgg307
  z218:=Tryz.sizeOf307
  v218:=Tryz.zeroValue307
  t222:=Tryz.underlying311
  a222:=Tryz.isAgg311
  z222:=Tryz.sizeOf311
  v222:=Tryz.zeroValue311
  t228:=Tryz.underlying375
  a228:=Tryz.isAgg375
  z228:=Tryz.sizeOf375
  v228:=Tryz.zeroValue375
  t229:=Tryz.underlying376
  a229:=Tryz.isAgg376
  z229:=Tryz.sizeOf376
  v229:=Tryz.zeroValue376 }
open Go.Sort Go.RowKit in
theorem Tryz.slices_Sort_string (blk off cap:Nat) (ss:List (List UInt8)) (w:World) (hH:Holds encStr w blk off ss.toArray) (hblk:blk < w.heap.size) (hsz:ss.length < 4611686018427387904) :
    Calls Tryz.prog 70 #[.slice (some ⟨blk,off,none⟩) ss.length cap] w fun e w' =>
      e = .returned (.tuple #[]) ∧ ∃ n os,w'=grow (putRow encStr (Sort.ahead w n) blk off (ss.mergeSort fun x y=>decide (x≤y)).toArray) os:=Any.slices_Sort_string Tryz.aMN blk off cap ss w hH hblk hsz
def Tryz.aKH:Go.Shelf.Ren:=⟨fun | 194=>72 | n=>n,fun | 31=>39 | 9=>9 | 3=>3 | 4=>4 | 0=>0 | n=>n,fun | n=>n⟩
theorem Tryz.aGI:Go.Proofs.Lays.n194 Tryz.prog Tryz.aKH:={
  mixed:=by kernel_rfl
  f194:=Tryz.func72.trans (congrArg some (by kernel_rfl))
  t0:=Tryz.underlying0
  a0:=Tryz.isAgg0
  z0:=Tryz.sizeOf0
  v0:=Tryz.zeroValue0
  t3:=Tryz.underlying3
  a3:=Tryz.isAgg3
  z3:=Tryz.sizeOf3
  v3:=Tryz.zeroValue3
  t4:=Tryz.underlying4
  a4:=Tryz.isAgg4
  z4:=Tryz.sizeOf4
  v4:=Tryz.zeroValue4
  t9:=Tryz.underlying9
  a9:=Tryz.isAgg9
  z9:=Tryz.sizeOf9
  v9:=Tryz.zeroValue9
  t31:=Tryz.underlying39
  a31:=Tryz.isAgg39
  z31:=Tryz.sizeOf39
  v31:=Tryz.zeroValue39 }
open Go.RowKit Go.Lib Go.Sort in
/-- slices.Compact at []string, over an array: the library's two loops are walked. (LAID: no walk: one application.) -/
theorem Tryz.slices_Compact_string_arr (blk off cap:Nat) (d:Array (List UInt8)) (w:World) (hH:Holds encStr w blk off d) (hsz:d.size≤9223372036854775807) (hcap:d.size≤cap) :
    Calls Tryz.prog 72 #[.slice (some ⟨blk,off,none⟩) d.size cap] w fun e w'=>e = .returned (.slice (some ⟨blk,off,none⟩) (compactUpTo d d.size).length cap) ∧ ∃ q,w'=putRow encStr (Sort.ahead w q) blk off (compactUpTo d d.size++List.replicate (d.size - (compactUpTo d d.size).length) []).toArray:=Any.slices_Compact_string_arr Tryz.aGI blk off cap d w hH hsz hcap
open Go.RowKit Go.Lib Go.Sort in
/-- slices.Compact at []string: "Compact replaces consecutive runs of equal elements with a single copy. This is like the uniq command found on Unix. Compact modifies the contents of the slice s and returns the modified slice, which may have a smaller length. Compact zeroes the elements between the new length and the original length. The result preserves the nilness of s.": IT RETURNS THE SLICE CUT TO 'Lib.compact zs'; ITS CELLS HOLD 'Lib.compact zs', THEN ZERO VALUES up to the old length; all else is as it was, but for the count of draws. IN THE WORDS OF slices.Sort's CONTRACT ('Holds', 'putRow'): so the everyday 'slices.Sort(xs); xs = slices.Compact(xs)' goes from the one contract to the other. It asks 'zs.length ≤ cap' (every slice's: the reslicing 's[:k]' looks at it). Length 0, nil: '.._empty'. (LAID: no walk: one application.) -/
theorem Tryz.slices_Compact_string (blk off cap:Nat) (zs:List (List UInt8)) (w:World) (hH:Holds encStr w blk off zs.toArray) (hsz:zs.length≤9223372036854775807) (hcap:zs.length≤cap) :
    Calls Tryz.prog 72 #[.slice (some ⟨blk,off,none⟩) zs.length cap] w fun e w'=>e = .returned (.slice (some ⟨blk,off,none⟩) (Lib.compact zs).length cap) ∧ ∃ q,w'=putRow encStr (Sort.ahead w q) blk off (Lib.compact zs++List.replicate (zs.length - (Lib.compact zs).length) []).toArray:=Any.slices_Compact_string Tryz.aGI blk off cap zs w hH hsz hcap
open Go.RowKit Go.Lib Go.Sort in
/-- The same at a slice of length 0, a nil one too: it comes back as it is. (LAID: no walk: one application.) -/
theorem Tryz.slices_Compact_string_empty (a:Option Addr) (cap:Nat) (w:World) :
    Calls Tryz.prog 72 #[.slice a 0 cap] w fun e w'=>e = .returned (.slice a 0 cap)∧w'=w:=Any.slices_Compact_string_empty Tryz.aGI a cap w
open Go.RowKit Go.Sort in
/-- .. and plain. (LAID: no walk: one application.) -/
theorem Tryz.slices_Sort_string_none (p:Option Addr) (cap:Nat) (w:World) :
    Calls Tryz.prog 70 #[.slice p 0 cap] w fun e w'=>e = .returned (.tuple #[])∧w'=w:=Any.slices_Sort_string_none Tryz.aMN p cap w
end Go.Proofs
end

section
namespace Go.Proofs
open Go.Shelf
def Tryz.aEC:Go.Shelf.Ren:=⟨fun | 7=>80 | 10=>135 | n=>n,fun | 23=>157 | 26=>9 | 3=>4 | 28=>160 | 0=>0 | 27=>159 | 33=>148 | 4=>4 | n=>n,fun | n=>n⟩
theorem Tryz.aQZ:Go.Proofs.SlLaysZ.n7 Tryz.prog Tryz.aEC:={
  mixed:=by kernel_rfl
  f7:=⟨Tryz.f80.name,by decide,Tryz.func80.trans (congrArg some (by kernel_rfl))⟩
  f10:=⟨Tryz.f135.name,by decide,Tryz.func135.trans (congrArg some (by kernel_rfl))⟩
  t0:=Tryz.underlying0
  a0:=Tryz.isAgg0
  z0:=Tryz.sizeOf0
  v0:=Tryz.zeroValue0
  t4:=Tryz.underlying4
  a4:=Tryz.isAgg4
  z4:=Tryz.sizeOf4
  v4:=Tryz.zeroValue4
  t23:=Tryz.underlying157
  a23:=Tryz.isAgg157
  z23:=Tryz.sizeOf157
  v23:=Tryz.zeroValue157
  t26:=Tryz.underlying9
  a26:=Tryz.isAgg9
  z26:=Tryz.sizeOf9
  v26:=Tryz.zeroValue9
  t27:=Tryz.underlying159
  a27:=Tryz.isAgg159
  z27:=Tryz.sizeOf159
  v27:=Tryz.zeroValue159
  t28:=Tryz.underlying160
  a28:=Tryz.isAgg160
  z28:=Tryz.sizeOf160
  v28:=Tryz.zeroValue160
  t33:=Tryz.underlying148
  a33:=Tryz.isAgg148
  z33:=Tryz.sizeOf148
  v33:=Tryz.zeroValue148 }
def Tryz.Y9:Go.Shelf.Ren:=⟨fun | 6=>79 | 8=>134 | 9=>70 | 11=>187 | 13=>126 | 12=>125 | 23=>180 | 24=>181 | 14=>171 | 15=>172 | 16=>173 | 17=>174 | 18=>175 | 19=>176 | 20=>177 | 21=>178 | 22=>179 | 25=>244 | 26=>245 | 27=>246 | 28=>247 | 29=>248 | 30=>170 | 31=>315 | n=>n,fun | 26=>9 | 28=>160 | 24=>39 | 0=>0 | 3=>3 | 37=>207 | 48=>254 | 50=>216 | 4=>4 | 40=>248 | 39=>247 | 45=>116 | 5=>5 | 9=>9 | 51=>307 | 55=>311 | 57=>375 | 58=>376 | 33=>148 | n=>n,fun | n=>n⟩
theorem Tryz.aIp:Go.Proofs.SlLaysZ.n6 Tryz.prog Tryz.Y9:={
  mixed:=by kernel_rfl
  f6:=⟨Tryz.f79.name,by decide,Tryz.func79.trans (congrArg some (by kernel_rfl))⟩
  f8:=⟨Tryz.f134.name,by decide,Tryz.func134.trans (congrArg some (by kernel_rfl))⟩
  f11:=⟨Tryz.f187.name,by decide,Tryz.func187.trans (congrArg some (by kernel_rfl))⟩
  t0:=Tryz.underlying0
  a0:=Tryz.isAgg0
  z0:=Tryz.sizeOf0
  v0:=Tryz.zeroValue0
  t24:=Tryz.underlying39
  a24:=Tryz.isAgg39
  z24:=Tryz.sizeOf39
  v24:=Tryz.zeroValue39
  t26:=Tryz.underlying9
  a26:=Tryz.isAgg9
  z26:=Tryz.sizeOf9
  v26:=Tryz.zeroValue9
  t28:=Tryz.underlying160
  a28:=Tryz.isAgg160
  z28:=Tryz.sizeOf160
  v28:=Tryz.zeroValue160
  i26:=by kernel_rfl }
def Tryz.aNU:Go.Shelf.Ren:=⟨fun | 6=>70 | 8=>126 | 9=>125 | 19=>180 | 20=>181 | 21=>171 | 22=>172 | 23=>173 | 24=>174 | 25=>175 | 26=>176 | 27=>177 | 28=>178 | 29=>179 | 36=>244 | 31=>245 | 32=>246 | 37=>247 | 38=>248 | 39=>170 | 41=>315 | n=>n,fun | 27=>39 | 29=>9 | 3=>3 | 32=>207 | 26=>39 | 0=>0 | 44=>254 | 46=>216 | 4=>4 | 36=>248 | 35=>247 | 41=>116 | 5=>5 | 9=>9 | 53=>307 | 57=>311 | 63=>375 | 64=>376 | n=>n,fun | n=>n⟩
theorem Tryz.aRX:Go.Proofs.SlLaysM.n6 Tryz.prog Tryz.aNU:={
  mixed:=by kernel_rfl
  f6:=⟨Tryz.f70.name,by decide,Tryz.func70.trans (congrArg some (by kernel_rfl))⟩
  f8:=Tryz.func126.trans (congrArg some (by kernel_rfl))
  f9:=⟨Tryz.f125.name,by decide,Tryz.func125.trans (congrArg some (by kernel_rfl))⟩
  f19:=Tryz.func180.trans (congrArg some (by kernel_rfl))
  f20:=Tryz.func181.trans (congrArg some (by kernel_rfl))
  f21:=⟨Tryz.f171.name,by decide,Tryz.func171.trans (congrArg some (by kernel_rfl))⟩
  f22:=⟨Tryz.f172.name,by decide,Tryz.func172.trans (congrArg some (by kernel_rfl))⟩
  f23:=⟨Tryz.f173.name,by decide,Tryz.func173.trans (congrArg some (by kernel_rfl))⟩
  f24:=⟨Tryz.f174.name,by decide,Tryz.func174.trans (congrArg some (by kernel_rfl))⟩
  f25:=⟨Tryz.f175.name,by decide,Tryz.func175.trans (congrArg some (by kernel_rfl))⟩
  f26:=⟨Tryz.f176.name,by decide,Tryz.func176.trans (congrArg some (by kernel_rfl))⟩
  f27:=⟨Tryz.f177.name,by decide,Tryz.func177.trans (congrArg some (by kernel_rfl))⟩
  f28:=⟨Tryz.f178.name,by decide,Tryz.func178.trans (congrArg some (by kernel_rfl))⟩
  f29:=⟨Tryz.f179.name,by decide,Tryz.func179.trans (congrArg some (by kernel_rfl))⟩
  f31:=Tryz.func245.trans (congrArg some (by kernel_rfl))
  f32:=Tryz.func246.trans (congrArg some (by kernel_rfl))
  f36:=⟨Tryz.f244.name,by decide,Tryz.func244.trans (congrArg some (by kernel_rfl))⟩
  f37:=⟨Tryz.f247.name,by decide,Tryz.func247.trans (congrArg some (by kernel_rfl))⟩
  f38:=⟨Tryz.f248.name,by decide,Tryz.func248.trans (congrArg some (by kernel_rfl))⟩
  f39:=⟨Tryz.f170.name,by decide,Tryz.func170.trans (congrArg some (by kernel_rfl))⟩
  f41:=⟨Tryz.f315.name,by decide,Tryz.func315.trans (congrArg some (by kernel_rfl))⟩
  t0:=Tryz.underlying0
  a0:=Tryz.isAgg0
  z0:=Tryz.sizeOf0
  v0:=Tryz.zeroValue0
  t3:=Tryz.underlying3
  a3:=Tryz.isAgg3
  z3:=Tryz.sizeOf3
  v3:=Tryz.zeroValue3
  t4:=Tryz.underlying4
  a4:=Tryz.isAgg4
  z4:=Tryz.sizeOf4
  v4:=Tryz.zeroValue4
  t5:=Tryz.underlying5
  a5:=Tryz.isAgg5
  z5:=Tryz.sizeOf5
  v5:=Tryz.zeroValue5
  t9:=Tryz.underlying9
  a9:=Tryz.isAgg9
  z9:=Tryz.sizeOf9
  v9:=Tryz.zeroValue9
  t26:=Tryz.underlying39
  a26:=Tryz.isAgg39
  z26:=Tryz.sizeOf39
  v26:=Tryz.zeroValue39
  t27:=Tryz.underlying39
  a27:=Tryz.isAgg39
  z27:=Tryz.sizeOf39
  v27:=Tryz.zeroValue39
  t29:=Tryz.underlying9
  a29:=Tryz.isAgg9
  z29:=Tryz.sizeOf9
  v29:=Tryz.zeroValue9
  t32:=Tryz.underlying207
  a32:=Tryz.isAgg207
  z32:=Tryz.sizeOf207
  v32:=Tryz.zeroValue207
  t35:=Tryz.underlying247
  a35:=Tryz.isAgg247
  z35:=Tryz.sizeOf247
  v35:=Tryz.zeroValue247
  t36:=Tryz.underlying248
  a36:=Tryz.isAgg248
  z36:=Tryz.sizeOf248
  v36:=Tryz.zeroValue248
  t41:=Tryz.underlying116
  a41:=Tryz.isAgg116
  z41:=Tryz.sizeOf116
  v41:=Tryz.zeroValue116
  t44:=Tryz.underlying254
  a44:=Tryz.isAgg254
  z44:=Tryz.sizeOf254
  v44:=Tryz.zeroValue254
  t46:=Tryz.underlying216
  a46:=Tryz.isAgg216
  z46:=Tryz.sizeOf216
  v46:=Tryz.zeroValue216
  t53:=Tryz.underlying307
  a53:=Tryz.isAgg307
  z53:=Tryz.sizeOf307
  v53:=Tryz.zeroValue307
  t57:=Tryz.underlying311
  a57:=Tryz.isAgg311
  z57:=Tryz.sizeOf311
  v57:=Tryz.zeroValue311
  t63:=Tryz.underlying375
  a63:=Tryz.isAgg375
  z63:=Tryz.sizeOf375
  v63:=Tryz.zeroValue375
  t64:=Tryz.underlying376
  a64:=Tryz.isAgg376
  z64:=Tryz.sizeOf376
  v64:=Tryz.zeroValue376 }
def Tryz.aBp:Go.Shelf.Ren:=⟨fun | 7=>136 | 10=>188 | n=>n,fun | 23=>90 | 26=>9 | 3=>96 | 28=>160 | 0=>0 | 27=>159 | 33=>148 | 4=>4 | n=>n,fun | n=>n⟩
theorem Tryz.aMK:Go.Proofs.SlLaysZ.n7 Tryz.prog Tryz.aBp:={
  mixed:=by kernel_rfl
  f7:=⟨Tryz.f136.name,by decide,Tryz.func136.trans (congrArg some (by kernel_rfl))⟩
  f10:=⟨Tryz.f188.name,by decide,Tryz.func188.trans (congrArg some (by kernel_rfl))⟩
  t0:=Tryz.underlying0
  a0:=Tryz.isAgg0
  z0:=Tryz.sizeOf0
  v0:=Tryz.zeroValue0
  t4:=Tryz.underlying4
  a4:=Tryz.isAgg4
  z4:=Tryz.sizeOf4
  v4:=Tryz.zeroValue4
  t23:=Tryz.underlying90
  a23:=Tryz.isAgg90
  z23:=Tryz.sizeOf90
  v23:=Tryz.zeroValue90
  t26:=Tryz.underlying9
  a26:=Tryz.isAgg9
  z26:=Tryz.sizeOf9
  v26:=Tryz.zeroValue9
  t27:=Tryz.underlying159
  a27:=Tryz.isAgg159
  z27:=Tryz.sizeOf159
  v27:=Tryz.zeroValue159
  t28:=Tryz.underlying160
  a28:=Tryz.isAgg160
  z28:=Tryz.sizeOf160
  v28:=Tryz.zeroValue160
  t33:=Tryz.underlying148
  a33:=Tryz.isAgg148
  z33:=Tryz.sizeOf148
  v33:=Tryz.zeroValue148 }
def Tryz.aJG:Go.Shelf.Ren:=⟨fun | 5=>49 | 7=>97 | n=>n,fun | 23=>90 | 25=>9 | 3=>96 | 4=>4 | 20=>20 | n=>n,fun | n=>n⟩
theorem Tryz.aU8:Go.Proofs.SlLaysW.n5 Tryz.prog Tryz.aJG:={
  mixed:=by kernel_rfl
  f5:=⟨Tryz.f49.name,by decide,Tryz.func49.trans (congrArg some (by kernel_rfl))⟩
  f7:=Tryz.func97.trans (congrArg some (by kernel_rfl))
  t4:=Tryz.underlying4
  a4:=Tryz.isAgg4
  z4:=Tryz.sizeOf4
  v4:=Tryz.zeroValue4
  t20:=Tryz.underlying20
  a20:=Tryz.isAgg20
  z20:=Tryz.sizeOf20
  v20:=Tryz.zeroValue20
  t23:=Tryz.underlying90
  a23:=Tryz.isAgg90
  z23:=Tryz.sizeOf90
  v23:=Tryz.zeroValue90 }
open Go.RowKit Go.Maps Go.Sort
theorem Tryz.aNW (m:Nat):AnyZ.SortsIn Tryz.prog Tryz.Y9 Fence.wide m :=
  ⟨fun blk off cap ss W hH hblk hsz=>callsIn_wide.2 (AnyM.slices_Sort_string Tryz.aRX blk off cap ss W hH hblk hsz),
   fun p cap W=>callsIn_wide.2 (AnyM.slices_Sort_string_none Tryz.aRX p cap W)⟩
theorem Tryz.aHa (mb:Option Nat) (W:World):CallsIn Fence.wide 5 Tryz.prog 80 #[.map mb] W fun e w'=>e = .returned (.func (.func 135) #[] #[.pointer (some ⟨W.heap.size,0,none⟩)])∧w'=W.alloc (.cells #[.map mb] 157) :=
  AnyZ.keys_in Tryz.aQZ Fence.wide 5 trivial rfl mb W
theorem Tryz.aGK (mb:Option Nat) (W:World):CallsIn Fence.wide 5 Tryz.prog 136 #[.map mb] W fun e w'=>e = .returned (.func (.func 188) #[] #[.pointer (some ⟨W.heap.size,0,none⟩)])∧w'=W.alloc (.cells #[.map mb] 90) :=
  AnyZ.keys_in Tryz.aMK Fence.wide 5 trivial rfl mb W
set_option maxHeartbeats 1000000 in
 theorem Tryz.sortedKeys_79_80 {H:Type} (Bm b nn:Nat) (D0:DataW H) (R:Value→Option (DataW H×List MemPlace)) (w:World) (hBm:Bm < w.heap.size) (hm:w.cell? ⟨Bm,0,none⟩=some (.map (some b))) (hown:w.ownsMap Tryz.prog 9 R b nn D0) (hmax:Maps.size D0≤maxLen) (hbytes:Maps.size D0*16≤140737488355328) :
 Calls Tryz.prog 79 #[.func (.func 135) #[] #[.pointer (some ⟨Bm,0,none⟩)]] w fun e w' => ∃ (v:Value) (ss:List (List UInt8)),e = .returned v∧ss.Perm (strKeys D0) ∧
 w'.ownsRow w.heap.size 9 1 v ss.length ((ss.mergeSort (fun x y=>decide (x≤y))).map encStr)∧(v = .slice none 0 0↔ss=[])∧Below w.heap.size w w':=by
 have hseq:SeqGives Fence.wide 2 Tryz.prog 135 #[.pointer (some ⟨Bm,0,none⟩)] encStr (fun ss=>ss.Perm (strKeys D0)) (Maps.size D0) w :=
   AnyZ.keys_gives (ρ:=Tryz.aEC) { Tryz.aQZ with } Fence.wide _ trivial rfl (by omega) Bm b nn D0 _ hBm hm hown
 exact (callsIn_wide (n:=5)).1 (AnyZ.sorted_in Tryz.aIp Fence.wide 5 trivial trivial trivial trivial rfl (by omega) (Tryz.aNW _) (enters_of Tryz.func70 (by kernel_rfl) rfl) 135 #[.pointer (some ⟨Bm,0,none⟩)] trivial (enters_of Tryz.func135 (by kernel_rfl) rfl) _ _ hmax hbytes _ hseq)
theorem Tryz.aKI (mb:Option Nat) (W:World):Calls Tryz.prog 80 #[.map mb] W fun e w'=>e = .returned (.func (.func 135) #[] #[.pointer (some ⟨W.heap.size,0,none⟩)])∧w'=W.alloc (.cells #[.map mb] 157) :=
  (callsIn_wide (n:=5)).1 (Tryz.aHa mb W)
set_option maxHeartbeats 1000000 in
 theorem Tryz.sortedKeys_79_136 {H:Type} (Bm b nn:Nat) (D0:DataW H) (R:Value→Option (DataW H×List MemPlace)) (w:World) (hBm:Bm < w.heap.size) (hm:w.cell? ⟨Bm,0,none⟩=some (.map (some b))) (hown:w.ownsMap Tryz.prog 9 R b nn D0) (hmax:Maps.size D0≤maxLen) (hbytes:Maps.size D0*16≤140737488355328) :
 Calls Tryz.prog 79 #[.func (.func 188) #[] #[.pointer (some ⟨Bm,0,none⟩)]] w fun e w' => ∃ (v:Value) (ss:List (List UInt8)),e = .returned v∧ss.Perm (strKeys D0) ∧
 w'.ownsRow w.heap.size 9 1 v ss.length ((ss.mergeSort (fun x y=>decide (x≤y))).map encStr)∧(v = .slice none 0 0↔ss=[])∧Below w.heap.size w w':=by
 have hseq:SeqGives Fence.wide 2 Tryz.prog 188 #[.pointer (some ⟨Bm,0,none⟩)] encStr (fun ss=>ss.Perm (strKeys D0)) (Maps.size D0) w :=
   AnyZ.keys_gives (ρ:=Tryz.aBp) { Tryz.aMK with } Fence.wide _ trivial rfl (by omega) Bm b nn D0 _ hBm hm hown
 exact (callsIn_wide (n:=5)).1 (AnyZ.sorted_in Tryz.aIp Fence.wide 5 trivial trivial trivial trivial rfl (by omega) (Tryz.aNW _) (enters_of Tryz.func70 (by kernel_rfl) rfl) 188 #[.pointer (some ⟨Bm,0,none⟩)] trivial (enters_of Tryz.func188 (by kernel_rfl) rfl) _ _ hmax hbytes _ hseq)
theorem Tryz.aH9 (mb:Option Nat) (W:World):Calls Tryz.prog 136 #[.map mb] W fun e w'=>e = .returned (.func (.func 188) #[] #[.pointer (some ⟨W.heap.size,0,none⟩)])∧w'=W.alloc (.cells #[.map mb] 90) :=
  (callsIn_wide (n:=5)).1 (Tryz.aGK mb W)
theorem Tryz.Y3 (b:Nat) (es:Array MapEntry) (clock:Nat) (w:World) (hb:w.heap[b]? = some (.map es clock)):Calls Tryz.prog 49 #[.map (some b)] w fun e w'=>e = .returned (.map (some w.heap.size))∧w'=w.alloc (.map es clock) :=
  AnyW.maps_Clone Tryz.aU8 b es clock w hb
end Go.Proofs
end

section
namespace Go.V
open Go.RowKit
open Go.S hiding aK
instance:aLD:=⟨33,86⟩
@[reducible] def Gl:Mo:=(aAo 2 (Lib.pow10Tab.map fun z=>Value.int .u64 z).toArray)
instance:bM aC:=⟨3,fun x=>[str x.path,i64 x.mode,str x.data],fun _=>rfl,fun _ u h=>by simp only [List.mem_cons,List.not_mem_nil,or_false] at h; rcases h with rfl | rfl | rfl <;> first | rfl | exact Er.one _,fun _=>Mo.tt⟩
instance:Flat aC:=⟨fun _=>rfl⟩
instance:bM aE:=⟨6,fun x=>[str x.path,i64 x.eM,i64 x.mode,str x.data,i64 x.time,i64 x.size],fun _=>rfl,fun _ u h=>by simp only [List.mem_cons,List.not_mem_nil,or_false] at h; rcases h with rfl | rfl | rfl | rfl | rfl | rfl <;> first | rfl | exact Er.one _,fun _=>Mo.tt⟩
instance:Flat aE:=⟨fun _=>rfl⟩
instance:bM fH:=⟨2,fun x=>[str x.name,i64 x.dX],fun _=>rfl,fun _ u h=>by simp only [List.mem_cons,List.not_mem_nil,or_false] at h; rcases h with rfl | rfl <;> first | rfl | exact Er.one _,fun _=>Mo.tt⟩
instance:Flat fH:=⟨fun _=>rfl⟩
structure eN where
  base:Int
  index:Sv aC
  work:Sv aC
  text:aK
@[reducible] def eN.m (x:eN):Mo:=(x.index.ok.and x.work.ok)
def eN.pl (x:eN):pX:=⟨x.base,x.index.l,x.work.l,x.text⟩
instance:bM eN:=⟨4,fun x=>[i64 x.base,x.index.val,x.work.val,str x.text],fun _=>rfl,fun _ u h=>by simp only [List.mem_cons,List.not_mem_nil,or_false] at h; rcases h with rfl | rfl | rfl | rfl <;> first | rfl | exact Er.one _,eN.m⟩
instance:bM dB:=⟨3,fun x=>[str x.verb,i64 x.dX,str x.text],fun _=>rfl,fun _ u h=>by simp only [List.mem_cons,List.not_mem_nil,or_false] at h; rcases h with rfl | rfl | rfl <;> first | rfl | exact Er.one _,fun _=>Mo.tt⟩
instance:Flat dB:=⟨fun _=>rfl⟩
structure cG where
  tree:Sv aC
  parents:Sv Int
  time:Int
  text:aK
@[reducible] def cG.m (x:cG):Mo:=(x.tree.ok.and x.parents.ok)
def cG.pl (x:cG):mO:=⟨x.tree.l,x.parents.l,x.time,x.text⟩
instance:bM cG:=⟨4,fun x=>[x.tree.val,x.parents.val,i64 x.time,str x.text],fun _=>rfl,fun _ u h=>by simp only [List.mem_cons,List.not_mem_nil,or_false] at h; rcases h with rfl | rfl | rfl | rfl <;> first | rfl | exact Er.one _,cG.m⟩
structure cF where
  bG:Sv aC
  aY:Sv aE
  bP:Sv fH
  aS:aK
  aH:Int
  bK:aK
  bI:Int
  bO:aK
  aP:Sv dB
  aT:Sv dB
  bN:Int
  aZ:aK
  aM:aK
  aN:Int
  aQ:Sv aE
  aU:Sv aC
  bC:Sv eN
  bD:Sv cG
  bS:Sv aK
  bJ:Sv aK
  time:Int
@[reducible] def cF.m (x:cF):Mo:=(x.bG.ok.and (x.aY.ok.and (x.bP.ok.and (x.aP.ok.and (x.aT.ok.and (x.aQ.ok.and (x.aU.ok.and (x.bC.ok.and (x.bD.ok.and (x.bS.ok.and x.bJ.ok))))))))))
def cF.pl (x:cF):bQ:=⟨x.bG.l,x.aY.l,x.bP.l,x.aS,x.aH,x.bK,x.bI,x.bO,x.aP.l,x.aT.l,x.bN,x.aZ,x.aM,x.aN,x.aQ.l,x.aU.l,(x.bC.l.map eN.pl),(x.bD.l.map cG.pl),x.bS.l,x.bJ.l,x.time⟩
instance:bM cF:=⟨21,fun x=>[x.bG.val,x.aY.val,x.bP.val,str x.aS,i64 x.aH,str x.bK,i64 x.bI,str x.bO,x.aP.val,x.aT.val,i64 x.bN,str x.aZ,str x.aM,i64 x.aN,x.aQ.val,x.aU.val,x.bC.val,x.bD.val,x.bS.val,x.bJ.val,i64 x.time],fun _=>rfl,fun _ u h=>by simp only [List.mem_cons,List.not_mem_nil,or_false] at h; rcases h with rfl | rfl | rfl | rfl | rfl | rfl | rfl | rfl | rfl | rfl | rfl | rfl | rfl | rfl | rfl | rfl | rfl | rfl | rfl | rfl | rfl <;> first | rfl | exact Er.one _,cF.m⟩
structure eW where
  fB:Sv UInt8
@[reducible] def eW.m (x:eW):Mo:=x.fB.ok
def eW.pl (x:eW):dU:=⟨x.fB.l⟩
instance:bM eW:=⟨1,fun x=>[x.fB.val],fun _=>rfl,fun _ u h=>by simp only [List.mem_cons,List.not_mem_nil,or_false] at h; rcases h with rfl <;> first | rfl | exact Er.one _,eW.m⟩
structure kP where
  work:Sv aC
  index:Sv aE
  refs:Sv fH
  dO:aK
  dP:Int
  mS:aK
  lG:Int
  mU:aK
  iC:Sv dB
  jF:Sv dB
  mT:Int
  jY:aK
  fV:aK
  fW:Int
  iD:Sv aE
  jG:Sv aC
  fZ:Sv eN
@[reducible] def kP.m (x:kP):Mo:=(x.work.ok.and (x.index.ok.and (x.refs.ok.and (x.iC.ok.and (x.jF.ok.and (x.iD.ok.and (x.jG.ok.and x.fZ.ok)))))))
def kP.pl (x:kP):mX:=⟨x.work.l,x.index.l,x.refs.l,x.dO,x.dP,x.mS,x.lG,x.mU,x.iC.l,x.jF.l,x.mT,x.jY,x.fV,x.fW,x.iD.l,x.jG.l,(x.fZ.l.map eN.pl)⟩
instance:bM kP:=⟨17,fun x=>[x.work.val,x.index.val,x.refs.val,str x.dO,i64 x.dP,str x.mS,i64 x.lG,str x.mU,x.iC.val,x.jF.val,i64 x.mT,str x.jY,str x.fV,i64 x.fW,x.iD.val,x.jG.val,x.fZ.val],fun _=>rfl,fun _ u h=>by simp only [List.mem_cons,List.not_mem_nil,or_false] at h; rcases h with rfl | rfl | rfl | rfl | rfl | rfl | rfl | rfl | rfl | rfl | rfl | rfl | rfl | rfl | rfl | rfl | rfl <;> first | rfl | exact Er.one _,kP.m⟩
instance:bM pW:=⟨2,fun x=>[str x.branch,i64 x.dX],fun _=>rfl,fun _ u h=>by simp only [List.mem_cons,List.not_mem_nil,or_false] at h; rcases h with rfl | rfl <;> first | rfl | exact Er.one _,fun _=>Mo.tt⟩
instance:Flat pW:=⟨fun _=>rfl⟩
structure z8 where
  kind:aK
  other:Int
  text:aK
  o7:Sv dB
  todo:Sv dB
  made:Int
  branch:aK
  dO:aK
  dP:Int
  index:Sv aE
  work:Sv aC
@[reducible] def z8.m (x:z8):Mo:=(x.o7.ok.and (x.todo.ok.and (x.index.ok.and x.work.ok)))
def z8.pl (x:z8):KX:=⟨x.kind,x.other,x.text,x.o7.l,x.todo.l,x.made,x.branch,x.dO,x.dP,x.index.l,x.work.l⟩
instance:bM z8:=⟨11,fun x=>[str x.kind,i64 x.other,str x.text,x.o7.val,x.todo.val,i64 x.made,str x.branch,str x.dO,i64 x.dP,x.index.val,x.work.val],fun _=>rfl,fun _ u h=>by simp only [List.mem_cons,List.not_mem_nil,or_false] at h; rcases h with rfl | rfl | rfl | rfl | rfl | rfl | rfl | rfl | rfl | rfl | rfl <;> first | rfl | exact Er.one _,z8.m⟩
structure cX where
  b:Sv UInt8
  at_:Int
  err:Er
@[reducible] def cX.m (x:cX):Mo:=(x.b.ok.and x.err.ok)
def cX.pl (x:cX):bT:=⟨x.b.l,x.at_,x.err.pl⟩
instance:bM cX:=⟨3,fun x=>[x.b.val,i64 x.at_,x.err.val],fun _=>rfl,fun _ u h=>by simp only [List.mem_cons,List.not_mem_nil,or_false] at h; rcases h with rfl | rfl | rfl <;> first | rfl | exact Er.one _,cX.m⟩
structure r9 where
  verb:aK
  name:aK
  n:Int
  text:aK
  force:Bool
  todo:Sv dB
@[reducible] def r9.m (x:r9):Mo:=x.todo.ok
def r9.pl (x:r9):qU:=⟨x.verb,x.name,x.n,x.text,x.force,x.todo.l⟩
instance:bM r9:=⟨6,fun x=>[str x.verb,str x.name,i64 x.n,str x.text,.bool x.force,x.todo.val],fun _=>rfl,fun _ u h=>by simp only [List.mem_cons,List.not_mem_nil,or_false] at h; rcases h with rfl | rfl | rfl | rfl | rfl | rfl <;> first | rfl | exact Er.one _,r9.m⟩
structure jL where
  files:Sv aC
  entries:Sv aE
  conflicts:Sv aK
@[reducible] def jL.m (x:jL):Mo:=(x.files.ok.and (x.entries.ok.and x.conflicts.ok))
def jL.pl (x:jL):eA:=⟨x.files.l,x.entries.l,x.conflicts.l⟩
instance:bM jL:=⟨3,fun x=>[x.files.val,x.entries.val,x.conflicts.val],fun _=>rfl,fun _ u h=>by simp only [List.mem_cons,List.not_mem_nil,or_false] at h; rcases h with rfl | rfl | rfl <;> first | rfl | exact Er.one _,jL.m⟩
instance:bM T9:=⟨4,fun x=>[str x.dZ,i64 x.cN,str x.dQ,.bool x.is],fun _=>rfl,fun _ u h=>by simp only [List.mem_cons,List.not_mem_nil,or_false] at h; rcases h with rfl | rfl | rfl | rfl <;> first | rfl | exact Er.one _,fun _=>Mo.tt⟩
instance:Flat T9:=⟨fun _=>rfl⟩
instance:bM QW:=⟨4,fun x=>[str x.dZ,i64 x.cN,str x.dQ,.bool x.is],fun _=>rfl,fun _ u h=>by simp only [List.mem_cons,List.not_mem_nil,or_false] at h; rcases h with rfl | rfl | rfl | rfl <;> first | rfl | exact Er.one _,fun _=>Mo.tt⟩
instance:Flat QW:=⟨fun _=>rfl⟩
structure B9 where
  back:Sv aK
  OB:Sv aK
@[reducible] def B9.m (x:B9):Mo:=(x.back.ok.and x.OB.ok)
def B9.pl (x:B9):KW:=⟨x.back.l,x.OB.l⟩
instance:bM B9:=⟨2,fun x=>[x.back.val,x.OB.val],fun _=>rfl,fun _ u h=>by simp only [List.mem_cons,List.not_mem_nil,or_false] at h; rcases h with rfl | rfl <;> first | rfl | exact Er.one _,B9.m⟩
structure gM where
  kind:Int
  path:aK
  O5:aK
  cN:Int
  oF:Int
  mW:Int
  rH:Sv UInt8
@[reducible] def gM.m (x:gM):Mo:=x.rH.ok
def gM.pl (x:gM):mN:=⟨x.kind,x.path,x.O5,x.cN,x.oF,x.mW,x.rH.l⟩
instance:bM gM:=⟨7,fun x=>[i64 x.kind,str x.path,str x.O5,i64 x.cN,i64 x.oF,i64 x.mW,x.rH.val],fun _=>rfl,fun _ u h=>by simp only [List.mem_cons,List.not_mem_nil,or_false] at h; rcases h with rfl | rfl | rfl | rfl | rfl | rfl | rfl <;> first | rfl | exact Er.one _,gM.m⟩
structure cU where
  mode:Int
  time:Int
  mI:Int
  b:Sv UInt8
@[reducible] def cU.m (x:cU):Mo:=x.b.ok
def cU.pl (x:cU):fS:=⟨x.mode,x.time,x.mI,x.b.l⟩
instance:bM cU:=⟨4,fun x=>[i64 x.mode,i64 x.time,i64 x.mI,x.b.val],fun _=>rfl,fun _ u h=>by simp only [List.mem_cons,List.not_mem_nil,or_false] at h; rcases h with rfl | rfl | rfl | rfl <;> first | rfl | exact Er.one _,cU.m⟩
instance:Hv cU:=⟨fun x => .agg #[i64 x.mode,i64 x.time,i64 x.mI,x.b.val],fun x=>x.m⟩
structure eL where
  kept:Mh cU
  files:Mh cU
  pending:Sv gM
  cK:Int
  now:Int
  bX:Int
  ops:Int
  off:Bool
  cS:Bool
  left:Int
  keep:Sv Bool
@[reducible] def eL.m (x:eL):Mo:=((jX x.kept.l).and ((jX x.files.l).and (x.pending.ok.and x.keep.ok)))
def eL.pl (x:eL):cB:=⟨(IP cU.pl x.kept.l),(IP cU.pl x.files.l),(x.pending.l.map gM.pl),x.cK,x.now,x.bX,x.ops,x.off,x.cS,x.left,x.keep.l⟩
instance:bM eL:=⟨11,fun x=>[.map (some x.kept.b),.map (some x.files.b),x.pending.val,i64 x.cK,i64 x.now,i64 x.bX,i64 x.ops,.bool x.off,.bool x.cS,i64 x.left,x.keep.val],fun _=>rfl,fun _ u h=>by simp only [List.mem_cons,List.not_mem_nil,or_false] at h; rcases h with rfl | rfl | rfl | rfl | rfl | rfl | rfl | rfl | rfl | rfl | rfl <;> first | rfl | exact Er.one _,eL.m⟩
instance:bM iO:=⟨2,fun x=>[str x.path,str x.what],fun _=>rfl,fun _ u h=>by simp only [List.mem_cons,List.not_mem_nil,or_false] at h; rcases h with rfl | rfl <;> first | rfl | exact Er.one _,fun _=>Mo.tt⟩
instance:Flat iO:=⟨fun _=>rfl⟩
structure cO where
  path:aK
  gone:Bool
  mode:Int
  data:Sv UInt8
@[reducible] def cO.m (x:cO):Mo:=x.data.ok
def cO.pl (x:cO):eH:=⟨x.path,x.gone,x.mode,x.data.l⟩
instance:bM cO:=⟨4,fun x=>[str x.path,.bool x.gone,i64 x.mode,x.data.val],fun _=>rfl,fun _ u h=>by simp only [List.mem_cons,List.not_mem_nil,or_false] at h; rcases h with rfl | rfl | rfl | rfl <;> first | rfl | exact Er.one _,cO.m⟩
structure q6 where
  b:Sv UInt8
@[reducible] def q6.m (x:q6):Mo:=x.b.ok
def q6.pl (x:q6):pV:=⟨x.b.l⟩
instance:bM q6:=⟨1,fun x=>[x.b.val],fun _=>rfl,fun _ u h=>by simp only [List.mem_cons,List.not_mem_nil,or_false] at h; rcases h with rfl <;> first | rfl | exact Er.one _,q6.m⟩
instance:bM QV:=⟨4,fun x=>[i64 x.size,i64 x.time,i64 x.mI,i64 x.mode],fun _=>rfl,fun _ u h=>by simp only [List.mem_cons,List.not_mem_nil,or_false] at h; rcases h with rfl | rfl | rfl | rfl <;> first | rfl | exact Er.one _,fun _=>Mo.tt⟩
instance:Flat QV:=⟨fun _=>rfl⟩
@[reducible] def aJ (x:cF):List Value:=[x.bG.val,x.aY.val,x.bP.val,str x.aS,i64 x.aH,str x.bK,i64 x.bI,str x.bO,x.aP.val,x.aT.val,i64 x.bN,str x.aZ,str x.aM,i64 x.aN,x.aQ.val,x.aU.val,x.bC.val,x.bD.val,x.bS.val,x.bJ.val,i64 x.time]
@[reducible] def nA (x:kP):List Value:=[x.work.val,x.index.val,x.refs.val,str x.dO,i64 x.dP,str x.mS,i64 x.lG,str x.mU,x.iC.val,x.jF.val,i64 x.mT,str x.jY,str x.fV,i64 x.fW,x.iD.val,x.jG.val,x.fZ.val]
@[reducible] def aHW (x:z8):List Value:=[str x.kind,i64 x.other,str x.text,x.o7.val,x.todo.val,i64 x.made,str x.branch,str x.dO,i64 x.dP,x.index.val,x.work.val]
end Go.V
end

section
set_option linter.unusedVariables false
namespace Go.Proofs.YtedhnpjkoeblnaaGreatDoor
set_option maxHeartbeats 4000000
set_option maxRecDepth 100000
set_option synthInstance.maxSize 2000
set_option synthInstance.maxHeartbeats 1000000
open Go.RowKit Go.V
open Go.S hiding aK
theorem mixed:Tryz.prog.follows .mixedOrders=true:=by kernel_rfl
theorem qR:OneCell Tryz.prog 35:=kX Tryz.underlying35 rfl
theorem aDH:(Tryz.prog.info? 35).map (·.size)=some 1:=by kernel_rfl
theorem aE6:OneCell Tryz.prog 27:=kX Tryz.underlying27 rfl
theorem gP:(Tryz.prog.info? 77).map (·.size)=some 21:=by kernel_rfl
theorem cI:qZ Tryz.prog 77 21:=oA Tryz.underlying77 rfl (by kernel_rfl)
theorem fC:(Tryz.prog.info? 32).map (·.size)=some 3:=by kernel_rfl
theorem eO:dI Tryz.prog 77 0 0:=b5 (n:=16) (f:=⟨_,_,0,_,_,_,_⟩) Tryz.underlying77 rfl (by kernel_rfl)
theorem tP:dI Tryz.prog 72 0 0:=b5 (n:=0) (f:=⟨_,_,0,_,_,_,_⟩) Tryz.underlying72 rfl (by kernel_rfl)
theorem kO:OneCell Tryz.prog 23:=kX Tryz.underlying23 rfl
theorem kI:qZ Tryz.prog 32 3:=oA Tryz.underlying32 rfl (by kernel_rfl)
theorem kU:dI Tryz.prog 32 0 0:=b5 (n:=0) (f:=⟨_,_,0,_,_,_,_⟩) Tryz.underlying32 rfl (by kernel_rfl)
theorem cQ:OneCell Tryz.prog 9:=kX Tryz.underlying9 rfl
theorem aB4:((Tryz.prog.info? 32).map fun i=>(i.size,i.zero.isSome))=some (3,true):=by kernel_rfl
theorem a4a:((Tryz.prog.info? 9).map fun i=>(i.size,i.bytes,i.zero.map fun z=>z.cells.toList))=some (1,16,some [str []]):=by kernel_rfl
theorem pU:(Tryz.prog.info? 9).map (·.size)=some 1:=by kernel_rfl
theorem aLh:(Tryz.prog.info? 5).map (·.size)=some 1:=by kernel_rfl
theorem aOZ:OneCell Tryz.prog 5:=kX Tryz.underlying5 rfl
theorem xO:dI Tryz.prog 32 1 1:=b5 (n:=0) (f:=⟨_,_,1,_,_,_,_⟩) Tryz.underlying32 rfl (by kernel_rfl)
theorem fL:OneCell Tryz.prog 3:=kX Tryz.underlying3 rfl
theorem DD:dI Tryz.prog 32 2 2:=b5 (n:=0) (f:=⟨_,_,2,_,_,_,_⟩) Tryz.underlying32 rfl (by kernel_rfl)
theorem a1J:((Tryz.prog.info? 32).map (·.size)).isSome=true:=by kernel_rfl
theorem XN:((Tryz.prog.info? 32).map fun i=>(i.size,i.bytes,(i.zero.map fun z=>z.cells.size)))=some (3,40,some 3):=by kernel_rfl
theorem aWf : ∀ w:World,(zeroValue 32).run Tryz.prog w = .ok (.agg #[str [],i64 0,str []]) w:=by intro w; kernel_rfl
theorem J7:qZ Tryz.prog 72 17:=oA Tryz.underlying72 rfl (by kernel_rfl)
theorem eR:dI Tryz.prog 242 0 0:=b5 (n:=0) (f:=⟨_,_,0,_,_,_,_⟩) Tryz.underlying242 rfl (by kernel_rfl)
theorem oS:((Tryz.prog.info? 3).map fun i=>(i.size,i.zero.isSome))=some (1,true):=by kernel_rfl
theorem DE:(Tryz.prog.info? 3).map (·.size)=some 1:=by kernel_rfl
theorem sE:dI Tryz.prog 169 0 0:=b5 (n:=0) (f:=⟨_,_,0,_,_,_,_⟩) Tryz.underlying169 rfl (by kernel_rfl)
theorem aJg:((Tryz.prog.info? 5).map fun i=>(i.size,i.zero.isSome))=some (1,true):=by kernel_rfl
theorem aFe:((Tryz.prog.info? 5).map fun i=>(i.size,i.bytes,(i.zero.map fun z=>z.cells.size)))=some (1,1,some 1):=by kernel_rfl
theorem xQ:((Tryz.prog.info? 9).map fun i=>(i.size,i.zero.isSome))=some (1,true):=by kernel_rfl
theorem aWL:((Tryz.prog.info? 5).map fun i=>(i.size,i.bytes,i.zero))=some (1,1,some (.int .u8 0)):=by kernel_rfl
theorem rO:dI Tryz.prog 72 1 1:=b5 (n:=0) (f:=⟨_,_,1,_,_,_,_⟩) Tryz.underlying72 rfl (by kernel_rfl)
theorem nN:OneCell Tryz.prog 36:=kX Tryz.underlying36 rfl
theorem jD:(Tryz.prog.info? 103).map (·.size)=some 6:=by kernel_rfl
theorem oE:qZ Tryz.prog 103 6:=oA Tryz.underlying103 rfl (by kernel_rfl)
theorem tG:dI Tryz.prog 103 0 0:=b5 (n:=0) (f:=⟨_,_,0,_,_,_,_⟩) Tryz.underlying103 rfl (by kernel_rfl)
theorem xN:dI Tryz.prog 103 1 1:=b5 (n:=0) (f:=⟨_,_,1,_,_,_,_⟩) Tryz.underlying103 rfl (by kernel_rfl)
theorem XO:dI Tryz.prog 103 2 2:=b5 (n:=0) (f:=⟨_,_,2,_,_,_,_⟩) Tryz.underlying103 rfl (by kernel_rfl)
theorem XP:dI Tryz.prog 103 3 3:=b5 (n:=0) (f:=⟨_,_,3,_,_,_,_⟩) Tryz.underlying103 rfl (by kernel_rfl)
theorem aSy:dI Tryz.prog 103 4 4:=b5 (n:=0) (f:=⟨_,_,4,_,_,_,_⟩) Tryz.underlying103 rfl (by kernel_rfl)
theorem aSz:dI Tryz.prog 103 5 5:=b5 (n:=0) (f:=⟨_,_,5,_,_,_,_⟩) Tryz.underlying103 rfl (by kernel_rfl)
theorem lX:dI Tryz.prog 72 2 2:=b5 (n:=0) (f:=⟨_,_,2,_,_,_,_⟩) Tryz.underlying72 rfl (by kernel_rfl)
theorem vT:OneCell Tryz.prog 63:=kX Tryz.underlying63 rfl
theorem p5:(Tryz.prog.info? 301).map (·.size)=some 2:=by kernel_rfl
theorem aFc:qZ Tryz.prog 301 2:=oA Tryz.underlying301 rfl (by kernel_rfl)
theorem aIA:dI Tryz.prog 301 0 0:=b5 (n:=0) (f:=⟨_,_,0,_,_,_,_⟩) Tryz.underlying301 rfl (by kernel_rfl)
theorem XR:dI Tryz.prog 301 1 1:=b5 (n:=0) (f:=⟨_,_,1,_,_,_,_⟩) Tryz.underlying301 rfl (by kernel_rfl)
theorem p4:dI Tryz.prog 72 3 3:=b5 (n:=1) (f:=⟨_,_,3,_,_,_,_⟩) Tryz.underlying72 rfl (by kernel_rfl)
theorem aBX:qZ Tryz.prog 65 2:=oA Tryz.underlying65 rfl (by kernel_rfl)
theorem UR:dI Tryz.prog 65 0 0:=b5 (n:=0) (f:=⟨_,_,0,_,_,_,_⟩) Tryz.underlying65 rfl (by kernel_rfl)
theorem F1:dI Tryz.prog 65 1 1:=b5 (n:=0) (f:=⟨_,_,1,_,_,_,_⟩) Tryz.underlying65 rfl (by kernel_rfl)
theorem tQ:dI Tryz.prog 72 4 5:=b5 (n:=10) (f:=⟨_,_,5,_,_,_,_⟩) Tryz.underlying72 rfl (by kernel_rfl)
theorem aPl:qZ Tryz.prog 68 11:=oA Tryz.underlying68 rfl (by kernel_rfl)
theorem IG:dI Tryz.prog 68 0 0:=b5 (n:=0) (f:=⟨_,_,0,_,_,_,_⟩) Tryz.underlying68 rfl (by kernel_rfl)
theorem aWO:dI Tryz.prog 68 1 1:=b5 (n:=0) (f:=⟨_,_,1,_,_,_,_⟩) Tryz.underlying68 rfl (by kernel_rfl)
theorem aWP:dI Tryz.prog 68 2 2:=b5 (n:=0) (f:=⟨_,_,2,_,_,_,_⟩) Tryz.underlying68 rfl (by kernel_rfl)
theorem aL5:dI Tryz.prog 68 3 3:=b5 (n:=0) (f:=⟨_,_,3,_,_,_,_⟩) Tryz.underlying68 rfl (by kernel_rfl)
theorem J8:OneCell Tryz.prog 66:=kX Tryz.underlying66 rfl
theorem aJk:(Tryz.prog.info? 230).map (·.size)=some 3:=by kernel_rfl
theorem aWJ:qZ Tryz.prog 230 3:=oA Tryz.underlying230 rfl (by kernel_rfl)
theorem aWQ:dI Tryz.prog 68 4 4:=b5 (n:=0) (f:=⟨_,_,4,_,_,_,_⟩) Tryz.underlying68 rfl (by kernel_rfl)
theorem aWR:dI Tryz.prog 68 5 5:=b5 (n:=0) (f:=⟨_,_,5,_,_,_,_⟩) Tryz.underlying68 rfl (by kernel_rfl)
theorem aWS:dI Tryz.prog 68 6 6:=b5 (n:=0) (f:=⟨_,_,6,_,_,_,_⟩) Tryz.underlying68 rfl (by kernel_rfl)
theorem aWT:dI Tryz.prog 68 7 7:=b5 (n:=1) (f:=⟨_,_,7,_,_,_,_⟩) Tryz.underlying68 rfl (by kernel_rfl)
theorem aWU:dI Tryz.prog 68 8 9:=b5 (n:=0) (f:=⟨_,_,9,_,_,_,_⟩) Tryz.underlying68 rfl (by kernel_rfl)
theorem aWV:dI Tryz.prog 68 9 10:=b5 (n:=0) (f:=⟨_,_,10,_,_,_,_⟩) Tryz.underlying68 rfl (by kernel_rfl)
theorem BL:dI Tryz.prog 72 5 16:=b5 (n:=0) (f:=⟨_,_,16,_,_,_,_⟩) Tryz.underlying72 rfl (by kernel_rfl)
theorem M6:OneCell Tryz.prog 70:=kX Tryz.underlying70 rfl
theorem aJl:(Tryz.prog.info? 305).map (·.size)=some 4:=by kernel_rfl
theorem aWK:qZ Tryz.prog 305 4:=oA Tryz.underlying305 rfl (by kernel_rfl)
theorem nT:dI Tryz.prog 77 1 17:=b5 (n:=0) (f:=⟨_,_,17,_,_,_,_⟩) Tryz.underlying77 rfl (by kernel_rfl)
theorem s5:OneCell Tryz.prog 73:=kX Tryz.underlying73 rfl
theorem aAI:(Tryz.prog.info? 85).map (·.size)=some 4:=by kernel_rfl
theorem aPn:qZ Tryz.prog 85 4:=oA Tryz.underlying85 rfl (by kernel_rfl)
theorem aL7:dI Tryz.prog 85 0 0:=b5 (n:=0) (f:=⟨_,_,0,_,_,_,_⟩) Tryz.underlying85 rfl (by kernel_rfl)
theorem aB2:dI Tryz.prog 85 1 1:=b5 (n:=0) (f:=⟨_,_,1,_,_,_,_⟩) Tryz.underlying85 rfl (by kernel_rfl)
theorem HR:OneCell Tryz.prog 83:=kX Tryz.underlying83 rfl
theorem aWX:dI Tryz.prog 85 2 2:=b5 (n:=0) (f:=⟨_,_,2,_,_,_,_⟩) Tryz.underlying85 rfl (by kernel_rfl)
theorem aWY:dI Tryz.prog 85 3 3:=b5 (n:=0) (f:=⟨_,_,3,_,_,_,_⟩) Tryz.underlying85 rfl (by kernel_rfl)
theorem US:dI Tryz.prog 77 2 18:=b5 (n:=1) (f:=⟨_,_,18,_,_,_,_⟩) Tryz.underlying77 rfl (by kernel_rfl)
theorem aL6:dI Tryz.prog 75 0 0:=b5 (n:=0) (f:=⟨_,_,0,_,_,_,_⟩) Tryz.underlying75 rfl (by kernel_rfl)
theorem zC:OneCell Tryz.prog 39:=kX Tryz.underlying39 rfl
theorem aWW:dI Tryz.prog 75 1 1:=b5 (n:=0) (f:=⟨_,_,1,_,_,_,_⟩) Tryz.underlying75 rfl (by kernel_rfl)
theorem aB1:dI Tryz.prog 77 3 20:=b5 (n:=0) (f:=⟨_,_,20,_,_,_,_⟩) Tryz.underlying77 rfl (by kernel_rfl)
theorem a5M:((Tryz.prog.info? 5).map (·.size)).isSome=true:=by kernel_rfl
theorem dL:OneCell Tryz.prog 277:=kX Tryz.underlying277 rfl
theorem cP:dI Tryz.prog 279 0 0:=b5 (n:=0) (f:=⟨_,_,0,_,_,_,_⟩) Tryz.underlying279 rfl (by kernel_rfl)
theorem dH:OneCell Tryz.prog 178:=kX Tryz.underlying178 rfl
theorem XQ:dI Tryz.prog 221 2 2:=b5 (n:=0) (f:=⟨_,_,2,_,_,_,_⟩) Tryz.underlying221 rfl (by kernel_rfl)
theorem vN:dI Tryz.prog 221 1 1:=b5 (n:=0) (f:=⟨_,_,1,_,_,_,_⟩) Tryz.underlying221 rfl (by kernel_rfl)
theorem PR:dI Tryz.prog 221 0 0:=b5 (n:=0) (f:=⟨_,_,0,_,_,_,_⟩) Tryz.underlying221 rfl (by kernel_rfl)
theorem kS:dI Tryz.prog 279 1 1:=b5 (n:=0) (f:=⟨_,_,1,_,_,_,_⟩) Tryz.underlying279 rfl (by kernel_rfl)
theorem lK:OneCell Tryz.prog 4:=kX Tryz.underlying4 rfl
theorem qV:(Tryz.prog.info? 4).map (·.size)=some 1:=by kernel_rfl
theorem aDG:(Tryz.prog.info? 23).map (·.size)=some 1:=by kernel_rfl
theorem aFm:((Tryz.prog.info? 103).map fun i=>(i.size,i.zero.isSome))=some (6,true):=by kernel_rfl
theorem UP:((Tryz.prog.info? 103).map fun i=>(i.size,i.bytes,(i.zero.map fun z=>z.cells.size)))=some (6,64,some 6):=by kernel_rfl
theorem aO0:(Tryz.prog.info? 36).map (·.size)=some 1:=by kernel_rfl
theorem aDK:(Tryz.prog.info? 72).map (·.size)=some 17:=by kernel_rfl
theorem aLf:((Tryz.prog.info? 301).map fun i=>(i.size,i.zero.isSome))=some (2,true):=by kernel_rfl
theorem aBZ:((Tryz.prog.info? 301).map fun i=>(i.size,i.bytes,(i.zero.map fun z=>z.cells.size)))=some (2,24,some 2):=by kernel_rfl
theorem aDJ:(Tryz.prog.info? 63).map (·.size)=some 1:=by kernel_rfl
theorem aAG:(Tryz.prog.info? 65).map (·.size)=some 2:=by kernel_rfl
theorem aW6:((Tryz.prog.info? 230).map fun i=>(i.size,i.zero.isSome))=some (3,true):=by kernel_rfl
theorem aWM:((Tryz.prog.info? 230).map fun i=>(i.size,i.bytes,(i.zero.map fun z=>z.cells.size)))=some (3,40,some 3):=by kernel_rfl
theorem a5R:(Tryz.prog.info? 66).map (·.size)=some 1:=by kernel_rfl
theorem aAH:(Tryz.prog.info? 68).map (·.size)=some 11:=by kernel_rfl
theorem aO1:(Tryz.prog.info? 70).map (·.size)=some 1:=by kernel_rfl
theorem aFd:((Tryz.prog.info? 3).map fun i=>(i.size,i.bytes,(i.zero.map fun z=>z.cells.size)))=some (1,8,some 1):=by kernel_rfl
theorem aJn:(Tryz.prog.info? 83).map (·.size)=some 1:=by kernel_rfl
theorem aJi:((Tryz.prog.info? 85).map fun i=>(i.size,i.zero.isSome))=some (4,true):=by kernel_rfl
theorem aE3:((Tryz.prog.info? 85).map fun i=>(i.size,i.bytes,(i.zero.map fun z=>z.cells.size)))=some (4,72,some 4):=by kernel_rfl
theorem aJm:(Tryz.prog.info? 73).map (·.size)=some 1:=by kernel_rfl
theorem R6:((Tryz.prog.info? 9).map fun i=>(i.size,i.bytes,(i.zero.map fun z=>z.cells.size)))=some (1,16,some 1):=by kernel_rfl
theorem a5Q:(Tryz.prog.info? 39).map (·.size)=some 1:=by kernel_rfl
theorem aO2:(Tryz.prog.info? 75).map (·.size)=some 2:=by kernel_rfl
theorem R7:(Tryz.prog.info? 133).map (·.size)=some 6:=by kernel_rfl
theorem aDF:dI Tryz.prog 133 3 3:=b5 (n:=0) (f:=⟨_,_,3,_,_,_,_⟩) Tryz.underlying133 rfl (by kernel_rfl)
theorem rN:qZ Tryz.prog 133 6:=oA Tryz.underlying133 rfl (by kernel_rfl)
theorem sD:dI Tryz.prog 133 0 0:=b5 (n:=0) (f:=⟨_,_,0,_,_,_,_⟩) Tryz.underlying133 rfl (by kernel_rfl)
theorem qK:dI Tryz.prog 133 1 1:=b5 (n:=0) (f:=⟨_,_,1,_,_,_,_⟩) Tryz.underlying133 rfl (by kernel_rfl)
theorem aHz:dI Tryz.prog 133 2 2:=b5 (n:=0) (f:=⟨_,_,2,_,_,_,_⟩) Tryz.underlying133 rfl (by kernel_rfl)
theorem a1L:((Tryz.prog.info? 33).map fun i=>(i.size,i.zero.isSome))=some (1,true):=by kernel_rfl
theorem a5P:(Tryz.prog.info? 33).map (·.size)=some 1:=by kernel_rfl
theorem a1P:OneCell Tryz.prog 33:=kX Tryz.underlying33 rfl
theorem aW3:((Tryz.prog.info? 103).map (·.size)).isSome=true:=by kernel_rfl
theorem aPq : ∀ w:World,(zeroValue 103).run Tryz.prog w = .ok (.agg #[str [],i64 0,i64 0,str [],i64 0,i64 0]) w:=by intro w; kernel_rfl
theorem aPp : ∀ (x0:List UInt8) (x1:Int) (x2:List UInt8) (y0:List UInt8) (y1:Int) (y2:List UInt8) (w:World),(Op.equalIn 10000 32 (.agg #[str x0,i64 x1,str x2]) (.agg #[str y0,i64 y1,str y2])).run Tryz.prog w = .ok (decide (x0=y0∧x1=y1∧x2=y2)) w:=by
 intro x0 x1 x2 y0 y1 y2 w
 have hS:Tryz.prog.underlying 32=some (.struct (Tryz.prog.fieldsOf 32)):=by kernel_rfl
 rw [show (10000:Nat)=9999+1 from rfl,run_equalIn_agg w 9999 32 _ _ hS (by kernel_rfl)]
 simp only [Program.fieldsOf,Tryz.underlying32]
 go_simp
 by_cases h0:x0=y0 <;> by_cases h1:x1=y1 <;> by_cases h2:x2=y2 <;> simp [h0,h1,h2]
theorem aPo:Tryz.prog.eqGuardType Tryz.prog.depth 32=false:=by kernel_rfl
theorem a6y : ∀ w:World,(zeroValue 3).run Tryz.prog w = .ok (i64 0) w:=by intro w; kernel_rfl
theorem a1K:((Tryz.prog.info? 85).map (·.size)).isSome=true:=by kernel_rfl
theorem aW4:((Tryz.prog.info? 301).map (·.size)).isSome=true:=by kernel_rfl
theorem aTA:dI Tryz.prog 133 4 4:=b5 (n:=0) (f:=⟨_,_,4,_,_,_,_⟩) Tryz.underlying133 rfl (by kernel_rfl)
theorem FZ:qZ Tryz.prog 41 3:=oA Tryz.underlying41 rfl (by kernel_rfl)
theorem xP:dI Tryz.prog 41 0 0:=b5 (n:=0) (f:=⟨_,_,0,_,_,_,_⟩) Tryz.underlying41 rfl (by kernel_rfl)
theorem aE5:((Tryz.prog.info? 23).map fun i=>(i.size,i.zero.isSome))=some (1,true):=by kernel_rfl
theorem aE7:(Tryz.prog.info? 110).map (·.size)=some 4:=by kernel_rfl
theorem aFb:qZ Tryz.prog 110 4:=oA Tryz.underlying110 rfl (by kernel_rfl)
theorem aFh : ∀ (x0:List UInt8) (x1:Int) (x2:List UInt8) (x3:Bool) (y0:List UInt8) (y1:Int) (y2:List UInt8) (y3:Bool) (w:World),(Op.equalIn 10000 110 (.agg #[str x0,i64 x1,str x2,.bool x3]) (.agg #[str y0,i64 y1,str y2,.bool y3])).run Tryz.prog w = .ok (decide (x0=y0∧x1=y1∧x2=y2∧x3=y3)) w:=by
 intro x0 x1 x2 x3 y0 y1 y2 y3 w
 have hS:Tryz.prog.underlying 110=some (.struct (Tryz.prog.fieldsOf 110)):=by kernel_rfl
 rw [show (10000:Nat)=9999+1 from rfl,run_equalIn_agg w 9999 110 _ _ hS (by kernel_rfl)]
 simp only [Program.fieldsOf,Tryz.underlying110]
 go_simp
 by_cases h0:x0=y0 <;> by_cases h1:x1=y1 <;> by_cases h2:x2=y2 <;> by_cases h3:x3=y3 <;> simp [h0,h1,h2,h3]
theorem aFf:Tryz.prog.eqGuardType Tryz.prog.depth 110=false:=by kernel_rfl
theorem IF:dI Tryz.prog 41 2 2:=b5 (n:=0) (f:=⟨_,_,2,_,_,_,_⟩) Tryz.underlying41 rfl (by kernel_rfl)
theorem aFk:dI Tryz.prog 41 1 1:=b5 (n:=0) (f:=⟨_,_,1,_,_,_,_⟩) Tryz.underlying41 rfl (by kernel_rfl)
theorem aHy:dI Tryz.prog 110 1 3:=b5 (n:=0) (f:=⟨_,_,3,_,_,_,_⟩) Tryz.underlying110 rfl (by kernel_rfl)
theorem aDE:dI Tryz.prog 110 0 0:=b5 (n:=2) (f:=⟨_,_,0,_,_,_,_⟩) Tryz.underlying110 rfl (by kernel_rfl)
theorem a5K:((Tryz.prog.info? 3).map (·.size)).isSome=true:=by kernel_rfl
theorem a1N:((Tryz.prog.info? 83).map fun i=>(i.size,i.zero.isSome))=some (1,true):=by kernel_rfl
theorem a1H:((Tryz.prog.info? 83).map fun i=>(i.size,i.bytes,(i.zero.map fun z=>z.cells.size)))=some (1,24,some 1):=by kernel_rfl
theorem a6w:((Tryz.prog.info? 4).map fun i=>(i.size,i.bytes,i.zero.map fun z=>z.cells.toList))=some (1,1,some [.bool false]):=by kernel_rfl
theorem aE8:(Tryz.prog.info? 439).map (·.size)=some 4:=by kernel_rfl
theorem LG:qZ Tryz.prog 439 4:=oA Tryz.underlying439 rfl (by kernel_rfl)
theorem aFi : ∀ (x0:List UInt8) (x1:Int) (x2:List UInt8) (x3:Bool) (y0:List UInt8) (y1:Int) (y2:List UInt8) (y3:Bool) (w:World),(Op.equalIn 10000 439 (.agg #[str x0,i64 x1,str x2,.bool x3]) (.agg #[str y0,i64 y1,str y2,.bool y3])).run Tryz.prog w = .ok (decide (x0=y0∧x1=y1∧x2=y2∧x3=y3)) w:=by
 intro x0 x1 x2 x3 y0 y1 y2 y3 w
 have hS:Tryz.prog.underlying 439=some (.struct (Tryz.prog.fieldsOf 439)):=by kernel_rfl
 rw [show (10000:Nat)=9999+1 from rfl,run_equalIn_agg w 9999 439 _ _ hS (by kernel_rfl)]
 simp only [Program.fieldsOf,Tryz.underlying439]
 go_simp
 by_cases h0:x0=y0 <;> by_cases h1:x1=y1 <;> by_cases h2:x2=y2 <;> by_cases h3:x3=y3 <;> simp [h0,h1,h2,h3]
theorem aFg:Tryz.prog.eqGuardType Tryz.prog.depth 439=false:=by kernel_rfl
theorem aIB:dI Tryz.prog 439 0 0:=b5 (n:=2) (f:=⟨_,_,0,_,_,_,_⟩) Tryz.underlying439 rfl (by kernel_rfl)
theorem HA:dI Tryz.prog 439 1 3:=b5 (n:=0) (f:=⟨_,_,3,_,_,_,_⟩) Tryz.underlying439 rfl (by kernel_rfl)
theorem aDI:(Tryz.prog.info? 41).map (·.size)=some 3:=by kernel_rfl
theorem aPm:qZ Tryz.prog 75 2:=oA Tryz.underlying75 rfl (by kernel_rfl)
theorem a5N:((Tryz.prog.info? 9).map (·.size)).isSome=true:=by kernel_rfl
theorem II:dI Tryz.prog 93 7 7:=b5 (n:=0) (f:=⟨_,_,7,_,_,_,_⟩) Tryz.underlying93 rfl (by kernel_rfl)
theorem tT:dI Tryz.prog 93 1 1:=b5 (n:=0) (f:=⟨_,_,1,_,_,_,_⟩) Tryz.underlying93 rfl (by kernel_rfl)
theorem zD:OneCell Tryz.prog 90:=kX Tryz.underlying90 rfl
theorem aDL : ∀ w:World,(zeroValue 96).run Tryz.prog w = .ok (.agg #[i64 0,i64 0,i64 0,(⟨none,0,[]⟩:Sv UInt8).val]) w:=by intro w; kernel_rfl
theorem OD:(Tryz.prog.info? 96).map (·.size)=some 4:=by kernel_rfl
theorem UT:dI Tryz.prog 93 3 3:=b5 (n:=0) (f:=⟨_,_,3,_,_,_,_⟩) Tryz.underlying93 rfl (by kernel_rfl)
theorem LH:dI Tryz.prog 96 3 3:=b5 (n:=0) (f:=⟨_,_,3,_,_,_,_⟩) Tryz.underlying96 rfl (by kernel_rfl)
theorem aFl:dI Tryz.prog 93 5 5:=b5 (n:=0) (f:=⟨_,_,5,_,_,_,_⟩) Tryz.underlying93 rfl (by kernel_rfl)
theorem aB3:dI Tryz.prog 96 2 2:=b5 (n:=0) (f:=⟨_,_,2,_,_,_,_⟩) Tryz.underlying96 rfl (by kernel_rfl)
theorem aL9:dI Tryz.prog 93 4 4:=b5 (n:=0) (f:=⟨_,_,4,_,_,_,_⟩) Tryz.underlying93 rfl (by kernel_rfl)
theorem aO4:(Tryz.prog.info? 98).map (·.size)=some 7:=by kernel_rfl
theorem aE2:qZ Tryz.prog 98 7:=oA Tryz.underlying98 rfl (by kernel_rfl)
theorem UU:dI Tryz.prog 98 1 1:=b5 (n:=0) (f:=⟨_,_,1,_,_,_,_⟩) Tryz.underlying98 rfl (by kernel_rfl)
theorem aW1:dI Tryz.prog 98 0 0:=b5 (n:=0) (f:=⟨_,_,0,_,_,_,_⟩) Tryz.underlying98 rfl (by kernel_rfl)
theorem aW2:dI Tryz.prog 98 3 3:=b5 (n:=3) (f:=⟨_,_,3,_,_,_,_⟩) Tryz.underlying98 rfl (by kernel_rfl)
theorem aBY:qZ Tryz.prog 96 4:=oA Tryz.underlying96 rfl (by kernel_rfl)
theorem aLc:dI Tryz.prog 98 2 2:=b5 (n:=0) (f:=⟨_,_,2,_,_,_,_⟩) Tryz.underlying98 rfl (by kernel_rfl)
theorem aL8:dI Tryz.prog 93 0 0:=b5 (n:=0) (f:=⟨_,_,0,_,_,_,_⟩) Tryz.underlying93 rfl (by kernel_rfl)
theorem aWb:(Tryz.prog.info? 90).map (·.size)=some 1:=by kernel_rfl
theorem PT:dI Tryz.prog 93 2 2:=b5 (n:=0) (f:=⟨_,_,2,_,_,_,_⟩) Tryz.underlying93 rfl (by kernel_rfl)
theorem aO3:(Tryz.prog.info? 91).map (·.size)=some 1:=by kernel_rfl
theorem aJh:((Tryz.prog.info? 50).map fun i=>(i.size,i.zero.isSome))=some (2,true):=by kernel_rfl
theorem aJf:((Tryz.prog.info? 50).map fun i=>(i.size,i.bytes,(i.zero.map fun z=>z.cells.size)))=some (2,32,some 2):=by kernel_rfl
theorem aAF:(Tryz.prog.info? 50).map (·.size)=some 2:=by kernel_rfl
theorem PS:dI Tryz.prog 50 0 0:=b5 (n:=0) (f:=⟨_,_,0,_,_,_,_⟩) Tryz.underlying50 rfl (by kernel_rfl)
theorem a1M:((Tryz.prog.info? 52).map fun i=>(i.size,i.zero.isSome))=some (4,true):=by kernel_rfl
theorem a1G:((Tryz.prog.info? 52).map fun i=>(i.size,i.bytes,(i.zero.map fun z=>z.cells.size)))=some (4,56,some 4):=by kernel_rfl
theorem OC:(Tryz.prog.info? 52).map (·.size)=some 4:=by kernel_rfl
theorem R5:qZ Tryz.prog 52 4:=oA Tryz.underlying52 rfl (by kernel_rfl)
theorem F0:dI Tryz.prog 52 0 0:=b5 (n:=0) (f:=⟨_,_,0,_,_,_,_⟩) Tryz.underlying52 rfl (by kernel_rfl)
theorem a6x : ∀ w:World,(zeroValue 4).run Tryz.prog w = .ok (.bool false) w:=by intro w; kernel_rfl
theorem UQ:dI Tryz.prog 52 1 1:=b5 (n:=0) (f:=⟨_,_,1,_,_,_,_⟩) Tryz.underlying52 rfl (by kernel_rfl)
theorem aL3:dI Tryz.prog 52 2 2:=b5 (n:=0) (f:=⟨_,_,2,_,_,_,_⟩) Tryz.underlying52 rfl (by kernel_rfl)
theorem aL4:dI Tryz.prog 52 3 3:=b5 (n:=0) (f:=⟨_,_,3,_,_,_,_⟩) Tryz.underlying52 rfl (by kernel_rfl)
theorem a6z : ∀ w:World,(zeroValue 9).run Tryz.prog w = .ok (str []) w:=by intro w; kernel_rfl
theorem aLb:dI Tryz.prog 93 8 8:=b5 (n:=0) (f:=⟨_,_,8,_,_,_,_⟩) Tryz.underlying93 rfl (by kernel_rfl)
theorem aJj:OneCell Tryz.prog 91:=kX Tryz.underlying91 rfl
theorem a1O:((Tryz.prog.info? 98).map fun i=>(i.size,i.zero.isSome))=some (7,true):=by kernel_rfl
theorem a1I:((Tryz.prog.info? 98).map fun i=>(i.size,i.bytes,(i.zero.map fun z=>z.cells.size)))=some (7,88,some 7):=by kernel_rfl
theorem aLa:dI Tryz.prog 93 6 6:=b5 (n:=0) (f:=⟨_,_,6,_,_,_,_⟩) Tryz.underlying93 rfl (by kernel_rfl)
theorem a5L:((Tryz.prog.info? 4).map (·.size)).isSome=true:=by kernel_rfl
theorem a5J:((Tryz.prog.info? 4).map fun i=>(i.size,i.bytes,(i.zero.map fun z=>z.cells.size)))=some (1,1,some 1):=by kernel_rfl
theorem aTB:dI Tryz.prog 93 10 10:=b5 (n:=0) (f:=⟨_,_,10,_,_,_,_⟩) Tryz.underlying93 rfl (by kernel_rfl)
theorem a5O:(Tryz.prog.info? 24).map (·.size)=some 1:=by kernel_rfl
theorem aW0:dI Tryz.prog 96 1 1:=b5 (n:=0) (f:=⟨_,_,1,_,_,_,_⟩) Tryz.underlying96 rfl (by kernel_rfl)
theorem aWZ:dI Tryz.prog 96 0 0:=b5 (n:=0) (f:=⟨_,_,0,_,_,_,_⟩) Tryz.underlying96 rfl (by kernel_rfl)
theorem aWa:(Tryz.prog.info? 59).map (·.size)=some 4:=by kernel_rfl
theorem a1F:qZ Tryz.prog 59 4:=oA Tryz.underlying59 rfl (by kernel_rfl)
theorem aWN:dI Tryz.prog 59 3 3:=b5 (n:=0) (f:=⟨_,_,3,_,_,_,_⟩) Tryz.underlying59 rfl (by kernel_rfl)
theorem aNh (v:Value):Ct Tryz.prog 191 [.nilIface,v] Mo.tt Ow.emp (X:=Unit) (fun _ => .bool false) (fun _=>True) (fun _=>Mo.tt) (fun _=>Ow.emp):=by
 refine Zo Tryz.func191 Tryz.ntmps191 fun c => ?_
 refine Zq (Zr (Zy ?_))
 refine Zq (Zq (Zr (Zm (Zu (aNL Tryz.underlying27 rfl) ?_))))
 refine Zl ?_
 refine VC.RM rfl ?_
 refine Zq (Zr (Zy ?_))
 exact Ze
theorem aHj  {r:bQ} (hS:Sh.aAa=some r) :
 Cp Tryz.prog 20 [] Mo.tt (.agg #[.slice none 0 0,.slice none 0 0,.slice none 0 0,str [109,97,105,110],i64 0,str [],i64 0,str [],.slice none 0 0,.slice none 0 0,i64 0,str [],str [],i64 0,.slice none 0 0,.slice none 0 0,.slice none 0 0,.slice none 0 0,.slice none 0 0,.slice none 0 0,i64 0]):=by
 refine Zo Tryz.func20 Tryz.ntmps20 fun c => ?_
 unfold Sh.aAa at hS
 refine Zq (Zr ?_)
 refine gV [.slice none 0 0,.slice none 0 0,.slice none 0 0,str [],i64 0,str [],i64 0,str [],.slice none 0 0,.slice none 0 0,i64 0,str [],str [],i64 0,.slice none 0 0,.slice none 0 0,.slice none 0 0,.slice none 0 0,.slice none 0 0,.slice none 0 0,i64 0] fun a7W => ?_
 refine Zl ?_
 refine Zq (Zr ?_)
 refine Zu (fR (vs:=[(0,str [109,97,105,110])]) (cs := #[str [109,97,105,110],i64 0]) rfl (by kernel_rfl)) ?_
 refine Zu (fR (vs:=[(3,.agg #[str [109,97,105,110],i64 0])]) (cs := #[.slice none 0 0,.slice none 0 0,.slice none 0 0,str [109,97,105,110],i64 0,str [],i64 0,str [],.slice none 0 0,.slice none 0 0,i64 0,str [],str [],i64 0,.slice none 0 0,.slice none 0 0,.slice none 0 0]) rfl (by kernel_rfl)) ?_
 refine Zu (fR (vs:=[(0,.agg #[.slice none 0 0,.slice none 0 0,.slice none 0 0,str [109,97,105,110],i64 0,str [],i64 0,str [],.slice none 0 0,.slice none 0 0,i64 0,str [],str [],i64 0,.slice none 0 0,.slice none 0 0,.slice none 0 0])]) (cs := #[.slice none 0 0,.slice none 0 0,.slice none 0 0,str [109,97,105,110],i64 0,str [],i64 0,str [],.slice none 0 0,.slice none 0 0,i64 0,str [],str [],i64 0,.slice none 0 0,.slice none 0 0,.slice none 0 0,.slice none 0 0,.slice none 0 0,.slice none 0 0,i64 0]) rfl (by kernel_rfl)) ?_
 refine Zv (cs':=[.slice none 0 0,.slice none 0 0,.slice none 0 0,str [109,97,105,110],i64 0,str [],i64 0,str [],.slice none 0 0,.slice none 0 0,i64 0,str [],str [],i64 0,.slice none 0 0,.slice none 0 0,.slice none 0 0,.slice none 0 0,.slice none 0 0,.slice none 0 0,i64 0]) rfl gP ?_
 refine Zl ?_
 cases hS
 exact VC.ret (Z3 () [.agg #[.slice none 0 0,.slice none 0 0,.slice none 0 0,str [109,97,105,110],i64 0,str [],i64 0,str [],.slice none 0 0,.slice none 0 0,i64 0,str [],str [],i64 0,.slice none 0 0,.slice none 0 0,.slice none 0 0,.slice none 0 0,.slice none 0 0,.slice none 0 0,i64 0]] (fI.cell cI rfl rfl Rd.blk (fI.nil)))
theorem H9 (fY:aK) {r:Bool} (hS:Sh.cmp_isNaN_string fY=some r) :
 Cp Tryz.prog 170 [str fY] Mo.tt (.bool r):=by
 refine Zo Tryz.func170 Tryz.ntmps170 fun c => ?_
 unfold Sh.cmp_isNaN_string at hS
 refine Zq (Zr (Zy ?_))
 refine Zq (Zr (Zy ?_))
 refine Zu (vD rfl rfl) (Zy ?_)
 cases hS
 exact Ze
theorem FO (fY:aK) (z7:aK) {r:Int} (hS:Sh.qI fY z7=some r) :
 Cp Tryz.prog 119 [str fY,str z7] Mo.tt (i64 r):=by
 refine Zo Tryz.func119 Tryz.ntmps119 fun c => ?_
 unfold Sh.qI at hS
 refine Zq (Zr (Zy ?_))
 refine Zq (Zr (Zm ?_))
 obtain ⟨uL,G8,hS⟩:=aO hS
 refine Zu (cH (H9 fY G8) rfl (fun _ _=>rfl)) ?_
 refine Zy ?_
 refine Zq (Zr (Zm ?_))
 obtain ⟨gD,FQ,hS⟩:=aO hS
 refine Zu (cH (H9 z7 FQ) rfl (fun _ _=>rfl)) ?_
 refine Zy ?_
 refine Zq (Zq (Zr (Zy ?_)))
 refine gR hS (fun h11 hS => ?_) (fun h11 hS => ?_)
 ·
  refine Zq (Zq (Zr (Zy ?_)))
  refine VC.keep (ρ':=[(12,.bool gD)]) [12] rfl ?_
  refine gR hS (fun h12 hS => ?_) (fun h12 hS => ?_)
  ·
   refine Zq (Zr (Zy ?_))
   cases hS
   exact Ze
  refine Zk ?_
  refine Zq (Zr (Zy ?_))
  cases hS
  exact Ze
 refine Zk ?_
 refine Zq (Zq (Zr (Zy ?_)))
 refine VC.keep (ρ':=[(0,str fY),(1,str z7),(13,.bool gD)]) [0,1,13] rfl ?_
 refine gR hS (fun h13 hS => ?_) (fun h13 hS => ?_)
 ·
  refine Zq (Zr (Zy ?_))
  cases hS
  exact Ze
 refine Zk ?_
 refine Zq (Zq (Zr (Zy ?_)))
 refine Zu (a2r rfl rfl) ?_
 refine Zl ?_
 refine gR hS (fun h16 hS => ?_) (fun h16 hS => ?_)
 ·
  refine Zq (Zr (Zy ?_))
  cases hS
  exact Ze
 refine Zk ?_
 refine Zq (Zq (Zr (Zy ?_)))
 refine Zu (a2q rfl rfl) ?_
 refine Zl ?_
 refine gR hS (fun h19 hS => ?_) (fun h19 hS => ?_)
 ·
  refine Zq (Zr (Zy ?_))
  cases hS
  exact Ze
 refine Zk ?_
 refine Zq (Zr (Zy ?_))
 cases hS
 exact Ze
theorem HC (bZ:aK) (b_1:aK) {r:Int} (hS:Sh.rJ bZ b_1=some r) :
 Cp Tryz.prog 60 [str bZ,str b_1] Mo.tt (i64 r):=by
 refine Zo Tryz.func60 Tryz.ntmps60 fun c => ?_
 unfold Sh.rJ at hS
 refine Zq (Zr (Zy ?_))
 refine Zq (Zr (Zy ?_))
 obtain ⟨jO,mD,hS⟩:=aO hS
 refine Zu (cH (FO bZ b_1 mD) rfl (fun _ _=>rfl)) ?_
 refine Zy ?_
 cases hS
 exact Ze
theorem ID (aD:aC) (p_1:aK) {r:Int} (hS:Sh.sC aD p_1=some r) :
 Cp Tryz.prog 82 [.agg #[str aD.path,i64 aD.mode,str aD.data],str p_1] Mo.tt (i64 r):=by
 refine Zo Tryz.func82 Tryz.ntmps82 fun c => ?_
 unfold Sh.sC at hS
 refine Zq (Zr ?_)
 refine kQ [str aD.path,i64 aD.mode,str aD.data] fun fJ => ?_
 refine Zy ?_
 refine Zq (Zr (Zu (aB kU rfl) (Zu (aL cQ rfl rfl) (Zm ?_))))
 obtain ⟨lR,y9,hS⟩:=aO hS
 refine Zu (cH (HC aD.path p_1 y9) rfl (fun _ _=>rfl)) ?_
 refine Zy ?_
 cases hS
 exact Ze
theorem r8 (fY:Sv aC) (mV:aK) {r:Int×Bool} (hS:Sh.iB fY.l mV=some r) :
 Cp Tryz.prog 81 [fY.val,str mV,.func (.func 82) #[] #[]] fY.ok (.tuple #[i64 r.1,.bool r.2]):=by
 refine Zo Tryz.func81 Tryz.ntmps81 fun c => ?_
 unfold Sh.iB at hS
 refine Zq (Zr (Zy ?_))
 refine Zq (Zr (Zm (Zu (eB (s:=fY) Tryz.underlying23 rfl) (Zy ?_))))
 refine Zq (Zr (Zy ?_))
 refine Zq (Zb ?_)
 refine VC.iter (S:=Int×Int) (fun sg=>(sg.1,sg.2)) (fun sg=>[(0,fY.val),(1,str mV),(2,.func (.func 82) #[] #[]),(8,i64 (fY.l.length:Int)),(9,i64 sg.1),(10,i64 sg.2)]) (fun sg=>Mo.tt) (fun sg=>Ow.emp) (0,(fY.l.length:Int)) [0,1,2,8,9,10] hS rfl ?_
 clear hS
 rintro ⟨oT,o8⟩ m1 y1 hS hK1
 refine Zq (Zq (Zr (Zy ?_)))
 refine Zu (dW rfl rfl) ?_
 refine Zl ?_
 refine Zc hS (fun h17 hS => ?_) (fun h17 hS => ?_)
 ·
  refine Zk ?_
  refine Zb (Zq (Zr (Zy ?_)))
  obtain ⟨b20,hS⟩:=bU hS
  refine Zu (cR rfl rfl b20) (Zu (tZ Tryz.underlying3 Tryz.underlying207 rfl) ?_)
  refine Zu (aA0 rfl rfl (by decide)) ?_
  refine Zu (tZ Tryz.underlying207 Tryz.underlying3 rfl) (Zy ?_)
  refine VC.keep (ρ':=[(0,fY.val),(1,str mV),(2,.func (.func 82) #[] #[]),(8,i64 (fY.l.length:Int)),(9,i64 oT),(10,i64 o8),(11,i64 (IntKind.wrap .i64 (yX .u64 (IntKind.wrap .u64 (oT+o8)) 1)))]) [0,1,2,8,9,10,11] rfl ?_
  refine Zq (Zr (Zy ?_))
  obtain ⟨aAl,aBx,aBc,hS⟩:=fA hS
  refine Zu (eZ (s:=fY) Tryz.underlying23 fC rfl rfl aBx (bH aBx aBc)) (Zu (nX (s:=fY) kI rfl rfl aBc) (Zm ?_))
  obtain ⟨uJ,RZ,hS⟩:=aO hS
  refine Zu (L7 (ID aAl mV RZ) rfl rfl (fun _ _=>rfl)) ?_
  refine Zu (dW rfl rfl) ?_
  refine Zl ?_
  refine VC.keep (ρ':=[(0,fY.val),(1,str mV),(2,.func (.func 82) #[] #[]),(8,i64 (fY.l.length:Int)),(9,i64 oT),(10,i64 o8),(11,i64 (IntKind.wrap .i64 (yX .u64 (IntKind.wrap .u64 (oT+o8)) 1))),(31,.bool (decide (uJ < 0)))]) [0,1,2,8,9,10,11,31] rfl ?_
  refine Zc hS (fun h31 hS => ?_) (fun h31 hS => ?_)
  ·
   refine Zr (Zm ?_)
   obtain ⟨b33,hS⟩:=bU hS
   refine Zu (cR rfl rfl b33) (Za ?_)
   refine VL.jU (((IntKind.wrap .i64 (yX .u64 (IntKind.wrap .u64 (oT+o8)) 1))+1),o8) [0,1,2,8,9,10] (fun _ _ h=>h) (go2 hS hK1) rfl
  refine Zr (Zy ?_)
  refine VL.jU (oT,(IntKind.wrap .i64 (yX .u64 (IntKind.wrap .u64 (oT+o8)) 1))) [0,1,2,8,9,10] (fun _ _ h=>h) (go2 hS hK1) rfl
 replace hS:=iJ hS hK1
 refine Zx ?_
 refine Zq (Zr (Zy ?_))
 refine Zu (dW rfl rfl) (Zm ?_)
 refine o4 39 hS (fun h39 hS => ?_) (fun h39 hS => ?_)
 ·
  refine Zy ?_
  obtain ⟨aAm,aBy,aBd,hS⟩:=fA hS
  refine Zh (eZ (s:=fY) Tryz.underlying23 fC rfl rfl aBy (bH aBy aBd)) ?_
  refine Zh (nX (s:=fY) kI rfl rfl aBd) ?_
  refine Zg ?_
  obtain ⟨zP,aBS,hS⟩:=aO hS
  refine Zh (L7 (ID aAm mV aBS) rfl rfl (fun _ _=>rfl)) ?_
  refine Zh (iI rfl rfl) ?_
  refine Zy ?_
  refine VC.keep (ρ':=[(6,i64 oT),(7,.bool (decide (zP=0)))]) [6,7] rfl ?_
  cases hS
  exact VC.ret (Z2 ())
 refine VL.runs 9 [(48,some false)] (by kernel_rfl) ?_
 refine Zy ?_
 refine VC.keep (ρ':=[(6,i64 oT),(7,.bool false)]) [6,7] rfl ?_
 cases hS
 exact VC.ret (Z2 ())
theorem LF (dD:Sv aC) (p_1:aK) {r:Int×Bool} (hS:Sh.vM dD.l p_1=some r) :
 Cp Tryz.prog 42 [dD.val,str p_1] dD.ok (.tuple #[i64 r.1,.bool r.2]):=by
 refine Zo Tryz.func42 Tryz.ntmps42 fun c => ?_
 unfold Sh.vM at hS
 refine Zq (Zr (Zy ?_))
 refine Zq (Zr (Zy ?_))
 obtain ⟨uL,G8,hS⟩:=aO hS
 refine Zu (cH (r8 dD p_1 G8) rfl (fun _ _=>rfl)) ?_
 refine Zu (aV rfl rfl) (Zu (aV rfl rfl) (Zy ?_))
 cases hS
 exact VC.ret (Z2 ())
theorem lT (dD:Sv aC) (p_1:aK) {r:aC×Bool} (hS:Sh.kC dD.l p_1=some r) :
 Cp Tryz.prog 12 [dD.val,str p_1] dD.ok (.tuple #[.agg #[str r.1.path,i64 r.1.mode,str r.1.data],.bool r.2]):=by
 refine Zo Tryz.func12 Tryz.ntmps12 fun c => ?_
 unfold Sh.kC at hS
 refine Zq (Zr ?_)
 refine gV [str [],i64 0,str []] fun tL => ?_
 refine Zy ?_
 refine Zq (Zr (Zy ?_))
 obtain ⟨rE,RO,hS⟩:=aO hS
 refine Zu (cH (LF dD p_1 RO) rfl (fun _ _=>rfl)) ?_
 refine Zm (Zu (aV rfl rfl) (Zu (aV rfl rfl) (Zy ?_)))
 refine VC.keep (ρ':=[(0,dD.val),(4,ptr tL 0),(6,i64 rE.1),(7,.bool rE.2)]) [0,4,6,7] rfl ?_
 refine Zq (Zq (Zr (Zm (Zu (jE rfl) ?_))))
 refine Zl ?_
 refine gR hS (fun h15 hS => ?_) (fun h15 hS => ?_)
 ·
  refine Zq (Zr ?_)
  refine Zu (fR (vs:=[]) (cs := #[str [],i64 0,str []]) rfl (by kernel_rfl)) ?_
  refine Zv (cs':=[str [],i64 0,str []]) rfl fC ?_
  refine Zy ?_
  cases hS
  exact VC.ret (Z3 () [.agg #[str [],i64 0,str []],.bool false] (fI.cell kI rfl rfl Rd.blk (fI.tmp rfl (fI.nil))))
 refine Zk ?_
 refine Zq (Zr (Zy ?_))
 obtain ⟨PD,aQe,aQC,hS⟩:=fA hS
 refine Zu (eZ (s:=dD) Tryz.underlying23 fC rfl rfl aQe (bH aQe aQC)) (Zu (nX (s:=dD) kI rfl rfl aQC) ?_)
 refine Zv (cs':=[str PD.path,i64 PD.mode,str PD.data]) rfl fC ?_
 refine Zy ?_
 refine VC.keep (ρ':=[(4,ptr tL 0),(5,.bool true)]) [4,5] rfl ?_
 cases hS
 exact VC.ret (Z3 () [.agg #[str PD.path,i64 PD.mode,str PD.data],.bool true] (fI.cell kI rfl rfl Rd.blk (fI.tmp rfl (fI.nil))))
theorem uF (aA:aK) {r:Int} (hS:Sh.nQ aA=some r) :
 Cp Tryz.prog 313 [str aA] Mo.tt (i64 r):=by
 refine Zo Tryz.func313 Tryz.ntmps313 fun c => ?_
 unfold Sh.nQ at hS
 refine Zq (Zr (Zy ?_))
 refine Zq (Zq (Zr (Zm ?_)))
 cases hS
theorem BE (aA:aK) {r:Int×Int} (hS:Sh.oJ aA=some r) :
 Cp Tryz.prog 326 [str aA] Mo.tt (.tuple #[.int .i32 r.1,i64 r.2]):=by
 refine Zo Tryz.func326 Tryz.ntmps326 fun c => ?_
 unfold Sh.oJ at hS
 refine Zq (Zr (Zy ?_))
 refine Zq (Zr (Zm (Zu (pN Tryz.underlying9 rfl) (Zy ?_))))
 refine Zq (Zq (Zr (Zm (Zu (dW rfl rfl) ?_))))
 refine Zl ?_
 refine Zc hS (fun h16 hS => ?_) (fun h16 hS => ?_)
 ·
  refine Zq (Zr (Zy ?_))
  cases hS
  exact VC.ret (Z2 ())
 refine Zk ?_
 refine Zq (Zr (Zm ?_))
 obtain ⟨aZb,a2U,a2C,hS⟩:=fA hS
 refine Zu (SH Tryz.underlying9 rfl rfl a2U a2C) (Zy ?_)
 refine VC.keep (ρ':=[(0,str aA),(4,i64 (aA.length:Int)),(5,.int .u8 (aZb.toNat:Int))]) [0,4,5] rfl ?_
 refine Zq (Zr (Zm ?_))
 cases hS
theorem DY (aA:aK) {r:Int×Int} (hS:Sh.qC aA=some r) :
 Cp Tryz.prog 262 [str aA] Mo.tt (.tuple #[.int .i32 r.1,i64 r.2]):=by
 refine Zo Tryz.func262 Tryz.ntmps262 fun c => ?_
 unfold Sh.qC at hS
 refine Zq (Zr (Zy ?_))
 refine Zq ?_
 refine VC.gN (S:=Bool) (fun (B5:Bool)=>B5) (fun (B5:Bool)=>[(0,str aA),(10,.bool B5)]) (fun (B5:Bool)=>Mo.tt) (fun (B5:Bool)=>Ow.emp) hS ?_ ?_
 ·
  clear hS
  intro k2 hS
  refine Zr (Zm (Zu (vD rfl rfl) (Zm ?_)))
  refine MW 6 hS (fun h6 hS => ?_) (fun h6 hS => ?_)
  ·
   refine Zg ?_
   obtain ⟨aZe,a5c,a5W,hS⟩:=fA hS
   refine Zh (SH Tryz.underlying9 rfl rfl a5c a5W) ?_
   refine Zh (dW rfl rfl) ?_
   refine Zt ?_
   refine VL.mt (decide ((aZe.toNat:Int) < 128)) [0,10] (fun _ _ h=>h) hS rfl
  refine VL.runs 4 [(10,some false)] (by kernel_rfl) ?_
  refine VL.mt false [0,10] (fun _ _ h=>h) hS rfl
 clear hS
 rintro B5 hS
 refine gR hS (fun h10 hS => ?_) (fun h10 hS => ?_)
 ·
  refine Zq (Zr (Zm ?_))
  obtain ⟨aP2,a2T,a2B,hS⟩:=fA hS
  refine Zu (SH Tryz.underlying9 rfl rfl a2T a2B) (Zu (a2o Tryz.underlying5 Tryz.underlying21 rfl (a3d aP2)) (Zy ?_))
  cases hS
  exact VC.ret (Z2 ())
 refine Zr (Zm ?_)
 obtain ⟨aDr,aZx,hS⟩:=aO hS
 refine Zu (cH (BE aA aZx) rfl (fun _ _=>rfl)) ?_
 refine Zm (Zu (aV rfl rfl) (Zu (aV rfl rfl) (Zy ?_)))
 cases hS
 exact VC.ret (Z2 ())
theorem YS (aA:aK) (n_1:Int) {r:List aK} (hS:Sh.HI aA n_1=some r) :
 Ct Tryz.prog 241 [str aA,i64 n_1] Mo.tt (Ow.emp) (X:=Sv aK) (fun x=>x.val) (fun x=>r=x.l) (fun x=>Mo.tt) (fun x=>Sv.own x 9):=by
 refine Zo Tryz.func241 Tryz.ntmps241 fun c => ?_
 unfold Sh.HI at hS
 refine Zq (Zr (Zy ?_))
 refine Zq (Zr (Zm ?_))
 obtain ⟨iW,CE,hS⟩:=aO hS
 refine Zu (cH (uF aA CE) rfl (fun _ _=>rfl)) ?_
 refine Zy ?_
 refine VC.gN (S:=Int) (fun (F9:Int)=>F9) (fun (F9:Int)=>[(0,str aA),(1,i64 F9)]) (fun (F9:Int)=>Mo.tt) (fun (F9:Int)=>Ow.emp) hS ?_ ?_
 ·
  clear hS
  intro k3 hS
  refine VC.gN (S:=Bool) (fun (rD:Bool)=>rD) (fun (rD:Bool)=>[(0,str aA),(1,i64 n_1),(5,i64 iW),(18,.bool rD)]) (fun (rD:Bool)=>Mo.tt) (fun (rD:Bool)=>Ow.emp) hS ?_ ?_
  ·
   clear hS
   intro k5 hS
   refine Zr (Zm (Zu (dW rfl rfl) (Zm ?_)))
   refine o4 14 hS (fun h14 hS => ?_) (fun h14 hS => ?_)
   ·
    refine VL.runs 4 [(18,some true)] (by kernel_rfl) ?_
    refine VL.mt true [0,1,5,18] (fun _ _ h=>h) hS rfl
   refine Zy ?_
   refine Zh (lE rfl rfl) ?_
   refine Zf ?_
   refine VL.mt (decide (iW < n_1)) [0,1,5,18] (fun _ _ h=>h) hS rfl
  clear hS
  rintro rD hS
  refine gR hS (fun h18 hS => ?_) (fun h18 hS => ?_)
  ·
   refine Zr (Zy ?_)
   refine VL.mt iW [0,1] (fun _ _ h=>h) hS rfl
  refine VC.iV n_1 [0,1] (fun _ _ h=>h) hS rfl
 clear hS
 rintro F9 hS
 refine Zq (Zr (Zm ?_))
 obtain ⟨b21,hS⟩:=bU hS
 refine VL.make (α:=aK) (z:=[]) Tryz.underlying39 a4a (by decide) rfl rfl b21.1 (Int.le_refl _) (by omega) (by omega) (by decide) (fun a6K a1j => ?_)
 replace hS:=bW a1j hS
 refine Zy ?_
 refine Zq (Zq (Zr (Zy ?_)))
 refine Zb ?_
 refine VC.iter (S:=aK×Sv aK×Int) (fun sg=>(sg.1,sg.2.1.l,sg.2.2)) (fun sg=>[(0,str sg.1),(1,i64 F9),(6,sg.2.1.val),(7,i64 sg.2.2)]) (fun sg=>Mo.tt) (fun sg=>Ow.star (Sv.own sg.2.1 9) (Ow.emp)) (aA,a6K,0) [0,1,6,7] hS rfl ?_
 clear hS
 rintro ⟨V6,PI,SA⟩ m1 y1 hS hK1
 refine Zq (Zq (Zr (Zy ?_)))
 obtain ⟨b24,hS⟩:=bU hS
 refine Zu (zI rfl rfl b24) (Zu (dW rfl rfl) ?_)
 refine Zl ?_
 refine Zc hS (fun h25 hS => ?_) (fun h25 hS => ?_)
 ·
  refine Zk ?_
  refine Zq (Zb (Zq (Zr (Zm ?_))))
  obtain ⟨N3,aUq,hS⟩:=aO hS
  refine Zu (cH (DY V6 aUq) rfl (fun _ _=>rfl)) ?_
  refine Zm (Zu (aV rfl rfl) (Zu (aV rfl rfl) (Zy ?_)))
  refine VC.keep (ρ':=[(0,str V6),(1,i64 F9),(6,PI.val),(7,i64 SA),(9,i64 N3.2)]) [0,1,6,7,9] rfl ?_
  refine Zq (Zr (Zy ?_))
  obtain ⟨b37,hS⟩:=bU hS
  obtain ⟨aEi,aVG,hS⟩:=wV hS
  refine Zu (X7 Tryz.underlying9 rfl rfl b37.1 b37.2 aVG) ?_
  obtain ⟨a4S,aM3,aLn,hS⟩:=fA hS
  refine Zu (lN (s:=PI) Tryz.underlying39 pU rfl rfl aM3 (bH aM3 aLn)) ?_
  refine VL.wJ (s:=PI) (T:=9) (j:=0) (vc:=[str aEi]) (aEi:aK) (by decide) rfl rfl aLn rfl pU rfl rfl (Nat.le_of_ble_eq_true rfl) rfl (fun w14 hw14 haw14 hcw14 hvw14 hbw14 how14 => ?_)
  rw [← hvw14]
  replace hS:=bW hw14 hS
  refine Zl ?_
  refine Zr (Zy ?_)
  obtain ⟨b41,hS⟩:=bU hS
  obtain ⟨TG,aFZ,hS⟩:=wV hS
  refine Zu (X6 Tryz.underlying9 rfl rfl b41.1 b41.2 aFZ) (Zy ?_)
  refine VC.keep (ρ':=[(0,str TG),(1,i64 F9),(6,w14.val),(7,i64 SA)]) [0,1,6,7] rfl ?_
  refine Zr (Zm ?_)
  obtain ⟨b27,hS⟩:=bU hS
  refine Zu (cR rfl rfl b27) (Za ?_)
  refine VL.jU (TG,w14,(SA+1)) [0,1,6,7] (fun _ _ h=>h) (go2 hS hK1) rfl
 replace hS:=iJ hS hK1
 refine Zx ?_
 refine Zq (Zq (Zr (Zm (Zu (lE rfl rfl) ?_))))
 refine Zl ?_
 refine Zc hS (fun h43 hS => ?_) (fun h43 hS => ?_)
 ·
  refine Zr (Zy ?_)
  obtain ⟨b46,hS⟩:=bU hS
  refine Zu (zI rfl rfl b46) (Zm ?_)
  obtain ⟨a4W,aMa,aLt,hS⟩:=fA hS
  refine Zu (lN (s:=PI) Tryz.underlying39 pU rfl rfl aMa (bH aMa aLt)) ?_
  refine VL.wJ (s:=PI) (T:=9) (j:=0) (vc:=[str V6]) (V6:aK) (by decide) rfl rfl aLt rfl pU rfl rfl (Nat.le_of_ble_eq_true rfl) rfl (fun w18 hw18 haw18 hcw18 hvw18 hbw18 how18 => ?_)
  rw [← hvw18]
  replace hS:=bW hw18 hS
  refine Zl ?_
  refine VC.keep (ρ':=[(6,w18.val)]) [6] rfl ?_
  refine Zq (Zr (Zy ?_))
  cases hS
  exact VC.ret (Z1 w18)
 refine Zk ?_
 refine Zq (Zr (Zy ?_))
 refine VC.keep (ρ':=[(4,PI.val)]) [4] rfl ?_
 cases hS
 exact VC.ret (Z1 PI)
theorem EI (aA:aK) (eC:Int) {r:Int} (hS:Sh.nP aA eC=some r) :
 Cp Tryz.prog 257 [str aA,.int .u8 eC] Mo.tt (i64 r):=by
 refine Zo Tryz.func257 Tryz.ntmps257 fun c => ?_
 unfold Sh.nP at hS
 refine Zq (Zr (Zy ?_))
 refine Zq (Zr (Zy ?_))
 refine Zu (aIl Tryz.func324 rfl rfl (by kernel_rfl) (by kernel_rfl) rfl (fun w=>a62 aA eC w)) ?_
 refine Zy ?_
 cases hS
 exact Ze
theorem xS (aA:aK) (gE:aK) {r:Int} (hS:Sh.lH aA gE=some r) :
 Cp Tryz.prog 193 [str aA,str gE] Mo.tt (i64 r):=by
 refine Zo Tryz.func193 Tryz.ntmps193 fun c => ?_
 unfold Sh.lH at hS
 refine Zq (Zr (Zy ?_))
 refine Zq (Zr (Zm (Zu (pN Tryz.underlying9 rfl) (Zy ?_))))
 refine Zq (Zb ?_)
 refine VC.gN (S:=Bool) (fun (WS:Bool)=>WS) (fun (WS:Bool)=>[(0,str aA),(1,str gE),(5,i64 (gE.length:Int)),(16,.bool WS)]) (fun (WS:Bool)=>Mo.tt) (fun (WS:Bool)=>Ow.emp) hS ?_ ?_
 ·
  clear hS
  intro k2 hS
  refine Zr (Zm (Zu (iI rfl rfl) (Zm ?_)))
  refine o4 19 hS (fun h19 hS => ?_) (fun h19 hS => ?_)
  ·
   refine VL.runs 5 [(16,some true)] (by kernel_rfl) ?_
   refine VL.mt true [0,1,5,16] (fun _ _ h=>h) hS rfl
  refine Zy ?_
  refine Zh (EM rfl rfl) ?_
  refine Zy ?_
  refine VL.mt (decide (gE=aA)) [0,1,5,16] (fun _ _ h=>h) hS rfl
 clear hS
 rintro WS hS
 refine gR hS (fun h16 hS => ?_) (fun h16 hS => ?_)
 ·
  refine Zq (Zr (Zy ?_))
  cases hS
  exact Ze
 refine Zq (Zr (Zm (Zu (iI rfl rfl) (Zy ?_))))
 refine Zc hS (fun h24 hS => ?_) (fun h24 hS => ?_)
 ·
  refine Zq (Zr (Zy ?_))
  obtain ⟨aP6,a2V,a2D,hS⟩:=fA hS
  refine Zu (SH Tryz.underlying9 rfl rfl a2V a2D) ?_
  obtain ⟨uJ,RZ,hS⟩:=aO hS
  refine Zu (cH (EI aA (aP6.toNat:Int) RZ) rfl (fun _ _=>rfl)) ?_
  refine Zy ?_
  refine VC.keep (ρ':=[(4,i64 uJ)]) [4] rfl ?_
  cases hS
  exact Ze
 refine Zq (Zr (Zy ?_))
 refine Zu (pN Tryz.underlying9 rfl) (Zu (vC rfl rfl) (Zy ?_))
 refine VC.keep (ρ':=[(0,str aA),(1,str gE),(5,i64 (gE.length:Int)),(31,.bool (decide ((aA.length:Int)≤(gE.length:Int))))]) [0,1,5,31] rfl ?_
 refine Zc hS (fun h31 hS => ?_) (fun h31 hS => ?_)
 ·
  refine Zq (Zr (Zy ?_))
  cases hS
  exact Ze
 refine Zq (Zr (Zm ?_))
 cases hS
theorem GU (aA:aK) (gE:aK) {r:Int} (hS:Sh.uD aA gE=some r) :
 Cp Tryz.prog 243 [str aA,str gE] Mo.tt (i64 r):=by
 refine Zo Tryz.func243 Tryz.ntmps243 fun c => ?_
 unfold Sh.uD at hS
 refine Zq (Zr (Zy ?_))
 refine Zq (Zr (Zy ?_))
 obtain ⟨jO,mD,hS⟩:=aO hS
 refine Zu (cH (xS aA gE mD) rfl (fun _ _=>rfl)) ?_
 refine Zy ?_
 cases hS
 exact Ze
theorem aC0 (aA:aK) (gE:aK) {r:Int} (hS:Sh.B3 aA gE=some r) :
 Cp Tryz.prog 242 [str aA,str gE] Mo.tt (i64 r):=by
 refine Zo Tryz.func242 Tryz.ntmps242 fun c => ?_
 unfold Sh.B3 at hS
 refine Zq (Zr (Zy ?_))
 refine Zq (Zq (Zr (Zm (Zu (pN Tryz.underlying9 rfl) (Zu (iI rfl rfl) ?_)))))
 refine Zl ?_
 refine Zc hS (fun h9 hS => ?_) (fun h9 hS => ?_)
 ·
  refine Zq (Zr (Zm ?_))
  obtain ⟨iW,CE,hS⟩:=aO hS
  refine Zu (cH (uF aA CE) rfl (fun _ _=>rfl)) ?_
  obtain ⟨b12,hS⟩:=bU hS
  refine Zu (cR rfl rfl b12) (Zy ?_)
  cases hS
  exact Ze
 refine Zk ?_
 refine Zq (Zq (Zr (Zm (Zu (pN Tryz.underlying9 rfl) (Zu (iI rfl rfl) ?_)))))
 refine Zl ?_
 refine Zc hS (fun h15 hS => ?_) (fun h15 hS => ?_)
 ·
  refine Zq (Zr (Zy ?_))
  obtain ⟨EX,aEc,aE9,hS⟩:=fA hS
  refine Zu (SH Tryz.underlying9 rfl rfl aEc aE9) ?_
  refine Zu (aIl Tryz.func314 rfl rfl (by kernel_rfl) (by kernel_rfl) rfl (fun w=>a3e aA (EX.toNat:Int) w)) ?_
  refine Zy ?_
  refine VC.keep (ρ':=[(4,i64 (aPi aA (EX.toNat:Int)))]) [4] rfl ?_
  cases hS
  exact Ze
 refine Zk ?_
 refine Zq (Zr (Zy ?_))
 refine Zb ?_
 refine VC.iter (S:=aK×Int) (fun sg=>(sg.1,sg.2)) (fun sg=>[(0,str sg.1),(1,str gE),(5,i64 sg.2)]) (fun sg=>Mo.tt) (fun sg=>Ow.emp) (aA,0) [0,1,5] hS rfl ?_
 clear hS
 rintro ⟨aIn,aGL⟩ m1 y1 hS hK1
 refine Zb (Zq (Zr (Zy ?_)))
 obtain ⟨HN,aJ2,hS⟩:=aO hS
 refine Zu (cH (GU aIn gE aJ2) rfl (fun _ _=>rfl)) ?_
 refine Zy ?_
 refine Zq (Zq (Zr (Zm (Zu (iI rfl rfl) ?_))))
 refine Zl ?_
 refine Zc hS (fun h24 hS => ?_) (fun h24 hS => ?_)
 ·
  refine Zq (Zr (Zy ?_))
  refine VC.keep (ρ':=[(4,i64 aGL)]) [4] rfl ?_
  replace hS:=iJ hS hK1
  cases hS
  exact Ze
 refine Zk ?_
 refine Zq (Zr (Zm ?_))
 obtain ⟨b27,hS⟩:=bU hS
 refine Zu (cR rfl rfl b27) (Zy ?_)
 refine VC.keep (ρ':=[(0,str aIn),(1,str gE),(5,i64 (aGL+1)),(6,i64 HN)]) [0,1,5,6] rfl ?_
 refine Zr (Zy ?_)
 refine Zu (pN Tryz.underlying9 rfl) ?_
 obtain ⟨b32,hS⟩:=bU hS
 refine Zu (cR rfl rfl b32) ?_
 obtain ⟨b33,hS⟩:=bU hS
 obtain ⟨aPU,a0b,hS⟩:=wV hS
 refine Zu (X6 Tryz.underlying9 rfl rfl b33.1 b33.2 a0b) (Za ?_)
 refine VL.jU (aPU,(aGL+1)) [0,1,5] (fun _ _ h=>h) (go2 hS hK1) rfl
theorem WI (aA:aK) (lP:aK) (sepSave_2:Int) (n_3:Int) {r:List aK} (hS:Sh.BA aA lP sepSave_2 n_3=some r) :
 Ct Tryz.prog 168 [str aA,str lP,i64 sepSave_2,i64 n_3] Mo.tt (Ow.emp) (X:=Sv aK) (fun x=>x.val) (fun x=>r=x.l) (fun x=>x.ok) (fun x=>Ow.emp):=by
 refine Zo Tryz.func168 Tryz.ntmps168 fun c => ?_
 unfold Sh.BA at hS
 refine Zq (Zr (Zy ?_))
 refine Zq (Zq (Zr (Zm (Zu (iI rfl rfl) ?_))))
 refine Zl ?_
 refine Zc hS (fun h13 hS => ?_) (fun h13 hS => ?_)
 ·
  refine Zq (Zr (Zy ?_))
  cases hS
  exact VC.ret (Z1 ⟨none,0,[]⟩)
 refine Zk ?_
 refine Zq (Zq (Zr (Zy ?_)))
 refine Zc hS (fun h15 hS => ?_) (fun h15 hS => ?_)
 ·
  refine Zq (Zr (Zy ?_))
  obtain ⟨aDt,aJZ,hS⟩:=aO hS
  refine VL.bL (YS aA n_3 aJZ) rfl (by decide) ?_
  rintro aGV rfl
  try dsimp only
  refine Zy ?_
  refine VC.keep (ρ':=[(8,aGV.val)]) [8] rfl ?_
  refine VC.shut aGV 9 (fun _ _ _ _=>trivial) ?_
  cases hS
  exact VC.ret (Z1 aGV)
 refine Zk ?_
 refine VC.gN (S:=Int) (fun (IQ:Int)=>IQ) (fun (IQ:Int)=>[(0,str aA),(1,str lP),(2,i64 sepSave_2),(3,i64 IQ)]) (fun (IQ:Int)=>Mo.tt) (fun (IQ:Int)=>Ow.emp) hS ?_ ?_
 ·
  clear hS
  intro k3 hS
  refine Zq (Zr (Zm (Zu (dW rfl rfl) ?_)))
  refine Zl ?_
  refine Zc hS (fun h20 hS => ?_) (fun h20 hS => ?_)
  ·
   refine Zr (Zy ?_)
   obtain ⟨S9,aJ3,hS⟩:=aO hS
   refine Zu (cH (aC0 aA lP aJ3) rfl (fun _ _=>rfl)) ?_
   obtain ⟨b24,hS⟩:=bU hS
   refine Zu (cR rfl rfl b24) (Za ?_)
   refine VL.mt (S9+1) [0,1,2,3] (fun _ _ h=>h) hS rfl
  refine VC.iV n_3 [0,1,2,3] (fun _ _ h=>h) hS rfl
 clear hS
 rintro IQ hS
 refine Zq (Zr (Zy ?_))
 refine Zu (pN Tryz.underlying9 rfl) ?_
 obtain ⟨b28,hS⟩:=bU hS
 refine Zu (cR rfl rfl b28) (Zu (a5q rfl) (Zy ?_))
 refine Zq (Zr (Zm ?_))
 obtain ⟨b31,hS⟩:=bU hS
 refine VL.make (α:=aK) (z:=[]) Tryz.underlying39 a4a (by decide) rfl rfl b31.1 (Int.le_refl _) (by omega) (by omega) (by decide) (fun aYf a1s => ?_)
 replace hS:=bW a1s hS
 refine Zy ?_
 refine VC.keep (ρ':=[(0,str aA),(1,str lP),(2,i64 sepSave_2),(3,i64 (min IQ ((aA.length:Int)+1))),(9,aYf.val)]) [0,1,2,3,9] rfl ?_
 refine Zq (Zr (Zm ?_))
 obtain ⟨b33,hS⟩:=bU hS
 refine Zu (zI rfl rfl b33) (Zy ?_)
 refine Zq (Zr (Zy ?_))
 refine VC.gN (S:=aK×Sv aK×Int) (fun sg=>(sg.1,sg.2.1.l,sg.2.2)) (fun sg=>[(0,str sg.1),(9,sg.2.1.val),(10,i64 sg.2.2)]) (fun sg=>Mo.tt) (fun sg=>Ow.star (Sv.own sg.2.1 9) (Ow.emp)) hS ?_ ?_
 ·
  clear hS
  intro k10 hS
  refine Zb ?_
  refine VC.iter (S:=aK×Sv aK×Int) (fun sg=>(sg.1,sg.2.1.l,sg.2.2)) (fun sg=>[(0,str sg.1),(1,str lP),(2,i64 sepSave_2),(3,i64 ((min IQ ((aA.length:Int)+1)) - 1)),(9,sg.2.1.val),(10,i64 sg.2.2)]) (fun sg=>Mo.tt) (fun sg=>Ow.star (Sv.own sg.2.1 9) (Ow.emp)) (aA,aYf,0) [0,1,2,3,9,10] hS rfl ?_
  clear hS
  rintro ⟨HG,N6,A6⟩ m1 y1 hS hK1
  refine Zq (Zq (Zr (Zy ?_)))
  refine Zu (dW rfl rfl) ?_
  refine Zl ?_
  refine Zc hS (fun h36 hS => ?_) (fun h36 hS => ?_)
  ·
   refine Zk ?_
   refine Zb (Zq (Zr (Zy ?_)))
   obtain ⟨CS,aVJ,hS⟩:=aO hS
   refine Zu (cH (GU HG lP aVJ) rfl (fun _ _=>rfl)) ?_
   refine Zy ?_
   refine Zq (Zq (Zr (Zm (Zu (dW rfl rfl) ?_))))
   refine Zl ?_
   refine VC.keep (ρ':=[(0,str HG),(1,str lP),(2,i64 sepSave_2),(3,i64 ((min IQ ((aA.length:Int)+1)) - 1)),(9,N6.val),(10,i64 A6),(11,i64 CS),(41,.bool (decide (CS < 0)))]) [0,1,2,3,9,10,11,41] rfl ?_
   refine Zc hS (fun h41 hS => ?_) (fun h41 hS => ?_)
   ·
    replace hS:=iJ hS hK1
    refine VC.fM (HG,N6,A6) [0,9,10] (fun _ _ h=>h) hS rfl
   refine Zk ?_
   refine Zq (Zr (Zy ?_))
   obtain ⟨b47,hS⟩:=bU hS
   refine Zu (cR rfl rfl b47) ?_
   obtain ⟨b48,hS⟩:=bU hS
   obtain ⟨aEj,aVY,hS⟩:=wV hS
   refine Zu (X7 Tryz.underlying9 rfl rfl b48.1 b48.2 aVY) ?_
   obtain ⟨a4X,aMd,aLv,hS⟩:=fA hS
   refine Zu (lN (s:=N6) Tryz.underlying39 pU rfl rfl aMd (bH aMd aLv)) ?_
   refine VL.wJ (s:=N6) (T:=9) (j:=0) (vc:=[str aEj]) (aEj:aK) (by decide) rfl rfl aLv rfl pU rfl rfl (Nat.le_of_ble_eq_true rfl) rfl (fun w17 hw17 haw17 hcw17 hvw17 hbw17 how17 => ?_)
   rw [← hvw17]
   replace hS:=bW hw17 hS
   refine Zl ?_
   refine VC.keep (ρ':=[(0,str HG),(1,str lP),(2,i64 sepSave_2),(3,i64 ((min IQ ((aA.length:Int)+1)) - 1)),(9,w17.val),(10,i64 A6),(11,i64 CS)]) [0,1,2,3,9,10,11] rfl ?_
   refine Zq (Zr (Zy ?_))
   refine Zu (pN Tryz.underlying9 rfl) ?_
   obtain ⟨b54,hS⟩:=bU hS
   refine Zu (cR rfl rfl b54) ?_
   obtain ⟨b55,hS⟩:=bU hS
   obtain ⟨YH,aV9,hS⟩:=wV hS
   refine Zu (X6 Tryz.underlying9 rfl rfl b55.1 b55.2 aV9) (Zy ?_)
   refine VC.keep (ρ':=[(0,str YH),(1,str lP),(2,i64 sepSave_2),(3,i64 ((min IQ ((aA.length:Int)+1)) - 1)),(9,w17.val),(10,i64 A6)]) [0,1,2,3,9,10] rfl ?_
   refine Zr (Zm ?_)
   obtain ⟨b57,hS⟩:=bU hS
   refine Zu (cR rfl rfl b57) (Za ?_)
   refine VL.jU (YH,w17,(A6+1)) [0,1,2,3,9,10] (fun _ _ h=>h) (go2 hS hK1) rfl
  replace hS:=iJ hS hK1
  refine VC.fM (HG,N6,A6) [0,9,10] (fun _ _ h=>h) hS rfl
 clear hS
 rintro ⟨aRM,aLG,aAK⟩ hS
 refine Zq (Zr (Zy ?_))
 obtain ⟨aS4,aMg,aLx,hS⟩:=fA hS
 refine Zu (lN (s:=aLG) Tryz.underlying39 pU rfl rfl aMg (bH aMg aLx)) ?_
 refine VL.wJ (s:=aLG) (T:=9) (j:=0) (vc:=[str aRM]) (aRM:aK) (by decide) rfl rfl aLx rfl pU rfl rfl (Nat.le_of_ble_eq_true rfl) rfl (fun w21 hw21 haw21 hcw21 hvw21 hbw21 how21 => ?_)
 rw [← hvw21]
 replace hS:=bW hw21 hS
 refine Zl ?_
 refine Zq (Zr (Zy ?_))
 obtain ⟨b64,hS⟩:=bU hS
 refine Zu (cR rfl rfl b64) ?_
 refine VL.shut w21 9 (fun _ _ _ _=>trivial) ?_
 obtain ⟨b65,hS⟩:=bU hS
 refine VL.sto Tryz.underlying39 pU rfl rfl b65.1 (b65.2) (by decide) fun aRW aXU => ?_
 replace hS:=bW aXU hS
 refine Zy ?_
 refine VC.keep (ρ':=[(8,aRW.val)]) [8] rfl ?_
 cases hS
 exact VC.ret (Z1 aRW)
theorem NT (aA:aK) (lP:aK) {r:List aK} (hS:Sh.yN aA lP=some r) :
 Ct Tryz.prog 117 [str aA,str lP] Mo.tt (Ow.emp) (X:=Sv aK) (fun x=>x.val) (fun x=>r=x.l) (fun x=>x.ok) (fun x=>Ow.emp):=by
 refine Zo Tryz.func117 Tryz.ntmps117 fun c => ?_
 unfold Sh.yN at hS
 refine Zq (Zr (Zy ?_))
 refine Zq (Zr (Zy ?_))
 obtain ⟨jO,mD,hS⟩:=aO hS
 refine VL.dK (WI aA lP 0 (-1) mD) rfl (by decide) ?_
 rintro lJ rfl
 try dsimp only
 refine Zy ?_
 cases hS
 exact VC.ret (Z1 lJ)
theorem aHb (cC:Int) {r:Bool} (hS:Sh.LP cC=some r) :
 Cp Tryz.prog 169 [.int .u8 cC] Mo.tt (.bool r):=by
 refine Zo Tryz.func169 Tryz.ntmps169 fun c => ?_
 unfold Sh.LP at hS
 refine Zq (Zr (Zy ?_))
 refine VC.gN (S:=Unit) (fun (_:Unit)=>()) (fun (_:Unit)=>[(0,.int .u8 cC)]) (fun (_:Unit)=>Mo.tt) (fun (_:Unit)=>Ow.emp) hS ?_ ?_
 ·
  clear hS
  intro k1 hS
  refine Zq (Zr (Zy ?_))
  refine Zb ?_
  refine VC.gN (S:=Unit) (fun (_:Unit)=>()) (fun (_:Unit)=>[]) (fun (_:Unit)=>Mo.tt) (fun (_:Unit)=>Ow.emp) hS ?_ ?_
  ·
   clear hS
   intro k2 hS
   refine Zb (Zb (Zb (Zq (Zq (Zq (Zr (Zu (iI rfl rfl) (Zy ?_))))))))
   refine Zc hS (fun h4 hS => ?_) (fun h4 hS => ?_)
   ·
    refine VC.fM () [] (fun _ _ h=>h) hS rfl
   refine Zk ?_
   refine Zq (Zq (Zr (Zu (iI rfl rfl) (Zy ?_))))
   refine Zc hS (fun h6 hS => ?_) (fun h6 hS => ?_)
   ·
    refine VC.fM () [] (fun _ _ h=>h) hS rfl
   refine Zk ?_
   refine Zq (Zr (Zu (iI rfl rfl) (Zy ?_)))
   refine Zc hS (fun h8 hS => ?_) (fun h8 hS => ?_)
   ·
    refine VC.fM () [] (fun _ _ h=>h) hS rfl
   refine Zk ?_
   refine VC.fM () [0] (fun _ _ h=>h) hS rfl
  clear hS
  rintro _ hS
  refine Zq (Zq (Zr (Zy ?_)))
  cases hS
  exact Ze
 clear hS
 rintro _ hS
 refine Zq (Zr (Zm (Zu (vC rfl rfl) (Zm ?_))))
 refine o4 12 hS (fun h12 hS => ?_) (fun h12 hS => ?_)
 ·
  refine Zg ?_
  refine Zh (L8 rfl rfl) ?_
  refine Zy ?_
  refine o4 16 hS (fun h16 hS => ?_) (fun h16 hS => ?_)
  ·
   refine VL.runs 8 [(2,some true)] (by kernel_rfl) ?_
   refine Zl ?_
   cases hS
   exact Ze
  refine Zg ?_
  refine Zh (vC rfl rfl) ?_
  refine Zg ?_
  refine o4 19 hS (fun h19 hS => ?_) (fun h19 hS => ?_)
  ·
   refine Zg ?_
   refine Zh (L8 rfl rfl) ?_
   refine Zh (gS rfl rfl) ?_
   refine Zy ?_
   refine VC.keep (ρ':=[(2,.bool (decide (cC≤57)))]) [2] rfl ?_
   cases hS
   exact Ze
  refine Zy ?_
  refine Zh (gL rfl rfl) ?_
  refine Zy ?_
  refine VC.keep (ρ':=[(2,.bool false)]) [2] rfl ?_
  cases hS
  exact Ze
 refine VL.runs 4 [(16,some false)] (by kernel_rfl) ?_
 refine Zg ?_
 refine Zh (vC rfl rfl) ?_
 refine Zg ?_
 refine o4 19 hS (fun h19 hS => ?_) (fun h19 hS => ?_)
 ·
  refine Zg ?_
  refine Zh (L8 rfl rfl) ?_
  refine Zh (gS rfl rfl) ?_
  refine Zy ?_
  refine VC.keep (ρ':=[(2,.bool (decide (cC≤57)))]) [2] rfl ?_
  cases hS
  exact Ze
 refine Zy ?_
 refine Zh (gL rfl rfl) ?_
 refine Zy ?_
 refine VC.keep (ρ':=[(2,.bool false)]) [2] rfl ?_
 cases hS
 exact Ze
theorem aHc (aA:aK) {r:Bool} (hS:Sh.LQ aA=some r) :
 Cp Tryz.prog 118 [str aA] Mo.tt (.bool r):=by
 refine Zo Tryz.func118 Tryz.ntmps118 fun c => ?_
 unfold Sh.LQ at hS
 refine Zq (Zr (Zy ?_))
 refine Zq ?_
 refine VC.gN (S:=Bool) (fun (rW:Bool)=>rW) (fun (rW:Bool)=>[(0,str aA),(14,.bool rW)]) (fun (rW:Bool)=>Mo.tt) (fun (rW:Bool)=>Ow.emp) hS ?_ ?_
 ·
  clear hS
  intro k2 hS
  refine Zr (Zy ?_)
  refine o4 7 hS (fun h7 hS => ?_) (fun h7 hS => ?_)
  ·
   refine VL.runs 7 [(14,some true)] (by kernel_rfl) ?_
   refine VL.mt true [0,14] (fun _ _ h=>h) hS rfl
  refine Zg ?_
  refine Zh (EM rfl rfl) ?_
  refine Zy ?_
  refine o4 11 hS (fun h11 hS => ?_) (fun h11 hS => ?_)
  ·
   refine VL.runs 3 [(14,some true)] (by kernel_rfl) ?_
   refine VL.mt true [0,14] (fun _ _ h=>h) hS rfl
  refine Zg ?_
  refine Zh (EM rfl rfl) ?_
  refine Zf ?_
  refine VL.mt (decide (aA=[46,46])) [0,14] (fun _ _ h=>h) hS rfl
 clear hS
 rintro rW hS
 refine gR hS (fun h14 hS => ?_) (fun h14 hS => ?_)
 ·
  refine Zq (Zr (Zy ?_))
  cases hS
  exact Ze
 refine Zk ?_
 refine Zq (Zq (Zr (Zm ?_)))
 obtain ⟨b16,hS⟩:=bU hS
 refine VL.s2b Tryz.underlying9 Tryz.underlying35 Tryz.underlying5 rfl b16 (by decide) fun SU aB6 => ?_
 replace hS:=bW aB6 hS
 refine Zu (eB (s:=SU) Tryz.underlying35 rfl) (Zy ?_)
 refine Zb ?_
 refine VC.iter (S:=Int) (fun (JK:Int)=>JK) (fun (JK:Int)=>[(16,SU.val),(17,i64 (SU.l.length:Int)),(18,i64 JK)]) (fun (JK:Int)=>Mo.tt) (fun (JK:Int)=>Ow.emp) 0 [16,17,18] hS rfl ?_
 clear hS
 rintro JK m1 y1 hS hK1
 refine Zq (Zr (Zu (dW rfl rfl) ?_))
 refine Zl ?_
 refine Zq ?_
 refine Zc hS (fun h19 hS => ?_) (fun h19 hS => ?_)
 ·
  refine Zk ?_
  refine Zq (Zb (Zq (Zr ?_)))
  obtain ⟨aP4,aQj,aQI,hS⟩:=fA hS
  refine Zu (eZ (s:=SU) Tryz.underlying35 aLh rfl rfl aQj (bH aQj aQI)) (Zu (zW (s:=SU) aOZ rfl aQI rfl) (Zy ?_))
  refine Zq (Zr (Zm ?_))
  obtain ⟨aHH,aJ4,hS⟩:=aO hS
  refine Zu (cH (aHb (aP4.toNat:Int) aJ4) rfl (fun _ _=>rfl)) ?_
  refine Zu (jE rfl) ?_
  refine Zl ?_
  refine gR hS (fun h24 hS => ?_) (fun h24 hS => ?_)
  ·
   refine Zq (Zr (Zy ?_))
   refine VC.keep (ρ':=[(2,.bool false)]) [2] rfl ?_
   replace hS:=iJ hS hK1
   cases hS
   exact Ze
  refine Zk ?_
  refine Zr ?_
  obtain ⟨b25,hS⟩:=bU hS
  refine Zu (cR rfl rfl b25) (Zm ?_)
  refine VL.jU (JK+1) [16,17,18] (fun _ _ h=>h) (go2 hS hK1) rfl
 replace hS:=iJ hS hK1
 refine Zx ?_
 refine Zq (Zr (Zy ?_))
 cases hS
 exact Ze
theorem xV (zT:aK) {r:Int} (hS:Sh.tE zT=some r) :
 Cp Tryz.prog 59 [str zT] Mo.tt (i64 r):=by
 refine Zo Tryz.func59 Tryz.ntmps59 fun c => ?_
 unfold Sh.tE at hS
 refine Zq (Zr (Zy ?_))
 refine Zq (Zq (Zr (Zm (Zu (pN Tryz.underlying9 rfl) (Zu (lE rfl rfl) ?_)))))
 refine Zl ?_
 refine Zc hS (fun h7 hS => ?_) (fun h7 hS => ?_)
 ·
  refine Zq (Zr (Zy ?_))
  cases hS
  exact Ze
 refine Zk ?_
 refine Zq (Zq (Zr (Zm ?_)))
 obtain ⟨XE,aOV,hS⟩:=aO hS
 refine VL.dK (NT zT [47] aOV) rfl (by decide) ?_
 rintro aCQ rfl
 try dsimp only
 refine Zu (eB (s:=aCQ) Tryz.underlying39 rfl) (Zy ?_)
 refine Zb ?_
 refine VC.iter (S:=Int) (fun (pS:Int)=>pS) (fun (pS:Int)=>[(9,aCQ.val),(10,i64 (aCQ.l.length:Int)),(11,i64 pS)]) (fun (pS:Int)=>Mo.tt) (fun (pS:Int)=>Ow.emp) 0 [9,10,11] hS rfl ?_
 clear hS
 rintro pS m1 y1 hS hK1
 refine Zq (Zr (Zu (dW rfl rfl) ?_))
 refine Zl ?_
 refine Zq ?_
 refine Zc hS (fun h12 hS => ?_) (fun h12 hS => ?_)
 ·
  refine Zk ?_
  refine Zq (Zb (Zq (Zr ?_)))
  obtain ⟨XH,aBu,XU,hS⟩:=fA hS
  refine Zu (eZ (s:=aCQ) Tryz.underlying39 pU rfl rfl aBu (bH aBu XU)) (Zu (zW (s:=aCQ) cQ rfl XU rfl) (Zy ?_))
  refine Zq (Zr (Zm ?_))
  obtain ⟨pT,J5,hS⟩:=aO hS
  refine Zu (cH (aHc XH J5) rfl (fun _ _=>rfl)) ?_
  refine Zu (jE rfl) ?_
  refine Zl ?_
  refine gR hS (fun h17 hS => ?_) (fun h17 hS => ?_)
  ·
   refine Zq (Zr (Zy ?_))
   refine VC.keep (ρ':=[(2,i64 5)]) [2] rfl ?_
   replace hS:=iJ hS hK1
   cases hS
   exact Ze
  refine Zk ?_
  refine Zr ?_
  obtain ⟨b18,hS⟩:=bU hS
  refine Zu (cR rfl rfl b18) (Zm ?_)
  refine VL.jU (pS+1) [9,10,11] (fun _ _ h=>h) (go2 hS hK1) rfl
 replace hS:=iJ hS hK1
 refine Zx ?_
 refine Zq (Zr (Zy ?_))
 cases hS
 exact Ze
theorem EH (aA:aK) (rA:aK) {r:Bool} (hS:Sh.nO aA rA=some r) :
 Cp Tryz.prog 189 [str aA,str rA] Mo.tt (.bool r):=by
 refine Zo Tryz.func189 Tryz.ntmps189 fun c => ?_
 unfold Sh.nO at hS
 refine Zq (Zr (Zy ?_))
 refine Zq (Zr (Zm (Zu (pN Tryz.underlying9 rfl) (Zm (Zu (pN Tryz.underlying9 rfl) (Zu (vC rfl rfl) (Zm ?_)))))))
 refine o4 10 hS (fun h10 hS => ?_) (fun h10 hS => ?_)
 ·
  refine Zy ?_
  refine Zh (pN Tryz.underlying9 rfl) ?_
  obtain ⟨b14,hS⟩:=bU hS
  obtain ⟨C8,RR,hS⟩:=wV hS
  refine Zh (X7 Tryz.underlying9 rfl rfl b14.1 b14.2 RR) ?_
  refine Zg ?_
  refine Zh (EM rfl rfl) ?_
  refine Zy ?_
  refine VC.keep (ρ':=[(4,.bool (decide (C8=rA)))]) [4] rfl ?_
  cases hS
  exact Ze
 refine VL.runs 8 [(4,some false)] (by kernel_rfl) ?_
 refine Zl ?_
 cases hS
 exact Ze
theorem T7 (aA:aK) (rA:aK) {r:Bool} (hS:Sh.zM aA rA=some r) :
 Cp Tryz.prog 137 [str aA,str rA] Mo.tt (.bool r):=by
 refine Zo Tryz.func137 Tryz.ntmps137 fun c => ?_
 unfold Sh.zM at hS
 refine Zq (Zr (Zy ?_))
 refine Zq (Zr (Zy ?_))
 obtain ⟨jO,mD,hS⟩:=aO hS
 refine Zu (cH (EH aA rA mD) rfl (fun _ _=>rfl)) ?_
 refine Zy ?_
 cases hS
 exact Ze
theorem GB (zT:aK) (eD:aK) {r:Bool} (hS:Sh.yZ zT eD=some r) :
 Cp Tryz.prog 87 [str zT,str eD] Mo.tt (.bool r):=by
 refine Zo Tryz.func87 Tryz.ntmps87 fun c => ?_
 unfold Sh.yZ at hS
 refine Zq (Zr (Zy ?_))
 refine Zq (Zq (Zr (Zy ?_)))
 refine Zc hS (fun h6 hS => ?_) (fun h6 hS => ?_)
 ·
  refine Zq (Zr (Zm (Zu (vD rfl rfl) (Zy ?_))))
  cases hS
  exact Ze
 refine Zk ?_
 refine Zq (Zr (Zm (Zu (pN Tryz.underlying9 rfl) (Zm (Zu (pN Tryz.underlying9 rfl) ?_)))))
 obtain ⟨b13,hS⟩:=bU hS
 refine Zu (cR rfl rfl b13) (Zu (lE rfl rfl) (Zm ?_))
 refine o4 15 hS (fun h15 hS => ?_) (fun h15 hS => ?_)
 ·
  refine Zy ?_
  obtain ⟨b18,hS⟩:=bU hS
  obtain ⟨aDt,aJZ,hS⟩:=wV hS
  refine Zh (HW rfl rfl b18 aJZ) ?_
  obtain ⟨PB,aBM,hS⟩:=aO hS
  refine Zh (cH (T7 zT aDt aBM) rfl (fun _ _=>rfl)) ?_
  refine Zy ?_
  refine VC.keep (ρ':=[(4,.bool PB)]) [4] rfl ?_
  cases hS
  exact Ze
 refine VL.runs 6 [(4,some false)] (by kernel_rfl) ?_
 refine Zl ?_
 refine VC.keep (ρ':=[(4,.bool false)]) [4] rfl ?_
 cases hS
 exact Ze
theorem rQ (bZ:aK) (b_1:aK) {r:Bool} (hS:Sh.pH bZ b_1=some r) :
 Cp Tryz.prog 63 [str bZ,str b_1] Mo.tt (.bool r):=by
 refine Zo Tryz.func63 Tryz.ntmps63 fun c => ?_
 unfold Sh.pH at hS
 refine Zq (Zr (Zy ?_))
 refine Zq (Zr (Zm (Zu (vD rfl rfl) (Zm ?_))))
 refine MW 7 hS (fun h7 hS => ?_) (fun h7 hS => ?_)
 ·
  refine Zg ?_
  refine Zh (vD rfl rfl) ?_
  refine Zy ?_
  refine MW 11 hS (fun h11 hS => ?_) (fun h11 hS => ?_)
  ·
   refine Zy ?_
   obtain ⟨C8,RR,hS⟩:=aO hS
   refine Zh (cH (GB bZ b_1 RR) rfl (fun _ _=>rfl)) ?_
   refine Zg ?_
   refine xJ 15 hS (fun h15 hS => ?_) (fun h15 hS => ?_)
   ·
    refine VL.runs 3 [(18,none)] (by kernel_rfl) ?_
    refine Zh (gS rfl rfl) ?_
    refine Zy ?_
    refine VC.keep (ρ':=[(4,.bool true)]) [4] rfl ?_
    cases hS
    exact Ze
   refine Zy ?_
   obtain ⟨aHB,a0B,hS⟩:=aO hS
   refine Zh (cH (GB b_1 bZ a0B) rfl (fun _ _=>rfl)) ?_
   refine Zh (gL rfl rfl) ?_
   refine Zy ?_
   refine VC.keep (ρ':=[(4,.bool aHB)]) [4] rfl ?_
   cases hS
   exact Ze
  refine VL.runs 10 [(4,some false)] (by kernel_rfl) ?_
  refine Zl ?_
  cases hS
  exact Ze
 refine VL.runs 14 [(4,some false)] (by kernel_rfl) ?_
 refine Zl ?_
 cases hS
 exact Ze
theorem T3 (mQ:aC) (jA:Nat) (a_1:aC) {r:Bool} (hS:Sh.tO mQ a_1=some r) :
 Cp Tryz.prog 62 [.agg #[str mQ.path,i64 mQ.mode,str mQ.data],ptr jA 0] (Cells jA 0 [str a_1.path,i64 a_1.mode,str a_1.data]) (.bool r):=by
 refine Zo Tryz.func62 Tryz.ntmps62 fun c => ?_
 unfold Sh.tO at hS
 refine Zq (Zr ?_)
 refine kQ [str mQ.path,i64 mQ.mode,str mQ.data] fun fJ => ?_
 refine Zy ?_
 refine Zq (Zr (Zu (aB kU rfl) (Zu (aL cQ rfl rfl) (Zu (aB kU rfl) (Zu (VW cQ rfl rfl) ?_)))))
 obtain ⟨lR,y9,hS⟩:=aO hS
 refine Zu (cH (rQ mQ.path a_1.path y9) rfl (fun _ _=>rfl)) ?_
 refine Zy ?_
 cases hS
 exact Ze
theorem zZ (aA:Sv aC) (eF:Nat) (fD:aC) {r:Int} (hS:Sh.kZ aA.l fD=some r) :
 Cp Tryz.prog 120 [aA.val,.func (.func 62) #[] #[ptr eF 0]] (aA.ok.and (Cells eF 0 [str fD.path,i64 fD.mode,str fD.data])) (i64 r):=by
 refine Zo Tryz.func120 Tryz.ntmps120 fun c => ?_
 unfold Sh.kZ at hS
 refine Zq (Zr (Zy ?_))
 refine Zq (Zq (Zr (Zm (Zu (eB (s:=aA) Tryz.underlying23 rfl) (Zy ?_)))))
 refine Zb ?_
 refine VC.iter (S:=Int) (fun (cV:Int)=>cV) (fun (cV:Int)=>[(0,aA.val),(1,.func (.func 62) #[] #[ptr eF 0]),(7,i64 (aA.l.length:Int)),(8,i64 cV)]) (fun (cV:Int)=>Mo.tt) (fun (cV:Int)=>Ow.emp) 0 [0,1,7,8] hS rfl ?_
 clear hS
 rintro cV m1 y1 hS hK1
 refine Zq (Zr (Zu (dW rfl rfl) ?_))
 refine Zl ?_
 refine Zq ?_
 refine Zc hS (fun h9 hS => ?_) (fun h9 hS => ?_)
 ·
  refine Zk ?_
  refine Zq (Zb (Zq (Zr (Zy ?_))))
  refine Zq (Zr (Zy ?_))
  obtain ⟨eV,nC,lU,hS⟩:=fA hS
  refine Zu (eZ (s:=aA) Tryz.underlying23 fC rfl rfl nC (bH nC lU)) (Zu (nX (s:=aA) kI rfl rfl lU) ?_)
  obtain ⟨iA,rG,hS⟩:=aO hS
  refine Zu (tJ (vs:=[.agg #[str eV.path,i64 eV.mode,str eV.data]]) (caps:=[ptr eF 0]) (T3 eV eF fD rG) rfl rfl (fun _ _=>rfl)) ?_
  refine Zl ?_
  refine VC.keep (ρ':=[(0,aA.val),(1,.func (.func 62) #[] #[ptr eF 0]),(7,i64 (aA.l.length:Int)),(8,i64 cV),(5,i64 cV),(16,.bool iA)]) [0,1,7,8,5,16] rfl ?_
  refine gR hS (fun h16 hS => ?_) (fun h16 hS => ?_)
  ·
   refine Zq (Zr (Zy ?_))
   replace hS:=iJ hS hK1
   cases hS
   exact Ze
  refine Zk ?_
  refine Zr ?_
  obtain ⟨b18,hS⟩:=bU hS
  refine Zu (cR rfl rfl b18) (Zm ?_)
  refine VL.jU (cV+1) [0,1,7,8] (fun _ _ h=>h) (go2 hS hK1) rfl
 replace hS:=iJ hS hK1
 refine Zx ?_
 refine Zq (Zr (Zy ?_))
 cases hS
 exact Ze
theorem yF (aA:Sv aC) (eF:Nat) (fD:aC) {r:Bool} (hS:Sh.iQ aA.l fD=some r) :
 Cp Tryz.prog 61 [aA.val,.func (.func 62) #[] #[ptr eF 0]] (aA.ok.and (Cells eF 0 [str fD.path,i64 fD.mode,str fD.data])) (.bool r):=by
 refine Zo Tryz.func61 Tryz.ntmps61 fun c => ?_
 unfold Sh.iQ at hS
 refine Zq (Zr (Zy ?_))
 refine Zq (Zr (Zy ?_))
 obtain ⟨jO,mD,hS⟩:=aO hS
 refine Zu (rT (zZ aA eF fD mD) rfl (fun _ _=>rfl)) ?_
 refine Zu (vC rfl rfl) (Zy ?_)
 cases hS
 exact Ze
theorem YQ (dD:Sv aC) (i_1:Int) {r:Int} (hS:Sh.xM dD.l i_1=some r) :
 Cp Tryz.prog 23 [dD.val,i64 i_1] dD.ok (i64 r):=by
 refine Zo Tryz.func23 Tryz.ntmps23 fun c => ?_
 unfold Sh.xM at hS
 refine Zq (Zr (Zy ?_))
 refine Zq (Zr (Zy ?_))
 obtain ⟨E8,aXk,aX4,hS⟩:=fA hS
 refine Zu (eZ (s:=dD) Tryz.underlying23 fC rfl rfl aXk (bH aXk aX4)) (Zu (nX (s:=dD) kI rfl rfl aX4) ?_)
 refine gV [str [],i64 0,str []] fun aEy => ?_
 refine Zv (cs':=[str E8.path,i64 E8.mode,str E8.data]) rfl fC ?_
 refine Zl ?_
 refine Zq (Zq (Zr (Zu (aB kU rfl) (Zu (aL cQ rfl rfl) ?_))))
 obtain ⟨B7,RQ,hS⟩:=aO hS
 refine Zu (cH (xV E8.path RQ) rfl (fun _ _=>rfl)) ?_
 refine Zy ?_
 refine VC.keep (ρ':=[(0,dD.val),(1,i64 i_1),(5,ptr aEy 0),(6,i64 B7)]) [0,1,5,6] rfl ?_
 refine Zq (Zr (Zm (Zu (lF rfl rfl) ?_)))
 refine Zl ?_
 refine o3 hS (fun h15 hS => ?_) (fun h15 hS => ?_)
 ·
  refine Zq (Zr (Zy ?_))
  cases hS
  exact Ze
 refine Zk ?_
 refine Zq (Zb ?_)
 refine VC.gN (S:=Bool) (fun (yQ:Bool)=>yQ) (fun (yQ:Bool)=>[(0,dD.val),(1,i64 i_1),(5,ptr aEy 0),(17,.bool yQ)]) (fun (yQ:Bool)=>Mo.tt) (fun (yQ:Bool)=>Ow.star (bE aEy [str E8.path,i64 E8.mode,str E8.data] 32) (Ow.emp)) hS ?_ ?_
 ·
  clear hS
  intro k5 hS
  refine Zr (Zu (aB xO rfl) (Zu (aL fL rfl rfl) (Zu (lF rfl rfl) (Zm ?_))))
  refine MW 21 hS (fun h21 hS => ?_) (fun h21 hS => ?_)
  ·
   refine Zh (aB xO rfl) ?_
   refine Zh (aL fL rfl rfl) ?_
   refine Zh (lF rfl rfl) ?_
   refine Zy ?_
   refine VL.mt (!decide (E8.mode=2)) [0,1,5,17] (fun _ _ h=>h) hS rfl
  refine VL.runs 5 [(17,some false)] (by kernel_rfl) ?_
  refine VL.mt false [0,1,5,17] (fun _ _ h=>h) hS rfl
 clear hS
 rintro yQ hS
 refine gR hS (fun h17 hS => ?_) (fun h17 hS => ?_)
 ·
  refine Zq (Zr (Zy ?_))
  cases hS
  exact Ze
 refine Zq (Zr (Zu (aB DD rfl) (Zu (aL cQ rfl rfl) (Zu (pN Tryz.underlying9 rfl) (Zu (lE rfl rfl) (Zy ?_))))))
 refine Zc hS (fun h26 hS => ?_) (fun h26 hS => ?_)
 ·
  refine Zq (Zr (Zy ?_))
  cases hS
  exact Ze
 refine VC.gN (S:=Bool) (fun (C6:Bool)=>C6) (fun (C6:Bool)=>[(0,dD.val),(1,i64 i_1),(5,ptr aEy 0),(31,.bool C6)]) (fun (C6:Bool)=>Mo.tt) (fun (C6:Bool)=>Ow.star (bE aEy [str E8.path,i64 E8.mode,str E8.data] 32) (Ow.emp)) hS ?_ ?_
 ·
  clear hS
  intro k7 hS
  refine l9 ((List.range 15).map fun k=>(k,true)) ?_
  refine Zw rfl (bB rfl) ?_
  refine Zw rfl (lE rfl rfl) ?_
  refine Zw rfl (bB rfl) ?_
  refine VD.rC 34 rfl (fun h34 => ?_) (fun h34 => ?_)
  ·
   replace hS:=EZ h34 hS
   refine Zi rfl (bB rfl) ?_
   refine Zi rfl (bB rfl) ?_
   obtain ⟨b37,hS⟩:=bU hS
   refine Zi rfl (zI rfl rfl b37) ?_
   obtain ⟨aP7,aQx,aQT,hS⟩:=fA hS
   refine Zi rfl (eZ (s:=dD) Tryz.underlying23 fC rfl rfl aQx (bH aQx aQT)) ?_
   refine Zi rfl (aB kU rfl) ?_
   refine Zi rfl (pQ (s:=dD) cQ rfl aQT rfl) ?_
   refine Zi rfl (aB kU rfl) ?_
   refine Zi rfl (aL cQ rfl rfl) ?_
   obtain ⟨aPZ,a0u,hS⟩:=aO hS
   refine Zi rfl (cH (HC aP7.path E8.path a0u) rfl (fun _ _=>rfl)) ?_
   refine Zi rfl (vC rfl rfl) ?_
   refine Zw rfl (gS rfl rfl) ?_
   refine Zw rfl (gI rfl) ?_
   refine VD.mt (decide (0≤aPZ)) [0,1,5,31] (fun _ _ h=>h) hS rfl
  replace hS:=JW h34 hS
  refine Zd ?_
  refine Zd ?_
  refine Zd ?_
  refine Zd ?_
  refine Zd ?_
  refine Zd ?_
  refine Zd ?_
  refine Zd ?_
  refine Zd ?_
  refine Zd ?_
  refine Zw rfl (gL rfl rfl) ?_
  refine Zw rfl (gI rfl) ?_
  refine VD.mt false [0,1,5,31] (fun _ _ h=>h) hS rfl
 clear hS
 rintro C6 hS
 refine gR hS (fun h31 hS => ?_) (fun h31 hS => ?_)
 ·
  refine Zq (Zr (Zy ?_))
  cases hS
  exact Ze
 refine Zq (Zr (Zy ?_))
 obtain ⟨b49,hS⟩:=bU hS
 refine VL.sto Tryz.underlying23 fC rfl rfl b49.1 (b49.2) (by decide) fun a3J aXH => ?_
 replace hS:=bW aXH hS
 refine Zu (sJ rfl) ?_
 obtain ⟨YG,aF4,hS⟩:=aO hS
 refine Zu (rT (yF a3J aEy E8 aF4) rfl (fun _ _=>rfl)) ?_
 refine Zy ?_
 refine gR hS (fun h46 hS => ?_) (fun h46 hS => ?_)
 ·
  refine Zq (Zr (Zy ?_))
  refine VC.keep (ρ':=[(4,i64 11)]) [4] rfl ?_
  cases hS
  exact Ze
 refine Zk ?_
 refine Zq (Zr (Zy ?_))
 refine VC.keep (ρ':=[(4,i64 0)]) [4] rfl ?_
 cases hS
 exact Ze
theorem sY (dD:Sv aC) {r:kH} (hS:Sh.oB dD.l=some r) :
 Ct Tryz.prog 5 [dD.val] dD.ok (Ow.emp) (X:=Er) (fun x=>x.val) (fun x=>r=x.pl) (fun x=>x.ok) (fun x=>Ow.emp):=by
 refine Zo Tryz.func5 Tryz.ntmps5 fun c => ?_
 unfold Sh.oB at hS
 refine Zq (Zr (Zy ?_))
 refine Zq (Zq (Zr (Zm (Zu (eB (s:=dD) Tryz.underlying23 rfl) (Zu (lE rfl rfl) ?_)))))
 refine Zl ?_
 refine Zc hS (fun h7 hS => ?_) (fun h7 hS => ?_)
 ·
  refine Zq (Zr ?_)
  refine Zu (SG Tryz.underlying33 (fun _ h=>by cases h) rfl) ?_
  refine Zu (fR (vs:=[(0,str [102,105,108,101]),(1,i64 64),(2,(Er.no 4).val)]) (cs := #[str [102,105,108,101],i64 64,(Er.no 4).val]) rfl (by kernel_rfl)) ?_
  refine kQ [str [102,105,108,101],i64 64,(Er.no 4).val] fun FB => ?_
  refine VL.aPB FB ?_
  refine Zu (SG Tryz.underlying86 (fun _ h=>by cases h) rfl) ?_
  refine Zy ?_
  cases hS
  exact VC.ret (Z1 (Er.fault FB [102,105,108,101] 64 (Er.no 4)))
 refine Zk ?_
 refine Zq (Zq (Zr (Zm (Zu (eB (s:=dD) Tryz.underlying23 rfl) (Zy ?_)))))
 refine Zb ?_
 refine VC.iter (S:=Int) (fun (yO:Int)=>yO) (fun (yO:Int)=>[(0,dD.val),(13,i64 (dD.l.length:Int)),(14,i64 yO)]) (fun (yO:Int)=>Mo.tt) (fun (yO:Int)=>Ow.emp) 0 [0,13,14] hS rfl ?_
 clear hS
 rintro yO m1 y1 hS hK1
 refine Zq (Zr (Zu (dW rfl rfl) ?_))
 refine Zl ?_
 refine Zq ?_
 refine Zc hS (fun h15 hS => ?_) (fun h15 hS => ?_)
 ·
  refine Zk ?_
  refine Zq (Zb (Zq (Zr (Zy ?_))))
  refine Zq (Zr (Zy ?_))
  obtain ⟨GY,aBN,hS⟩:=aO hS
  refine Zu (cH (YQ dD yO aBN) rfl (fun _ _=>rfl)) ?_
  refine Zy ?_
  refine Zq (Zr (Zm (Zu (lF rfl rfl) ?_)))
  refine Zl ?_
  refine o3 hS (fun h21 hS => ?_) (fun h21 hS => ?_)
  ·
   refine Zq (Zr (Zy ?_))
   refine Zu (SG Tryz.underlying33 (fun _ h=>by cases h) rfl) ?_
   refine Zu (fR (vs:=[(0,str [102,105,108,101]),(1,i64 yO),(2,(Er.no GY).val)]) (cs := #[str [102,105,108,101],i64 yO,(Er.no GY).val]) rfl (by kernel_rfl)) ?_
   refine kQ [str [102,105,108,101],i64 yO,(Er.no GY).val] fun aNi => ?_
   refine VL.aPB aNi ?_
   refine Zu (SG Tryz.underlying86 (fun _ h=>by cases h) rfl) ?_
   refine Zy ?_
   refine VC.keep (ρ':=[(2,(Er.fault aNi [102,105,108,101] yO (Er.no GY)).val)]) [2] rfl ?_
   replace hS:=iJ hS hK1
   cases hS
   exact VC.ret (Z1 (Er.fault aNi [102,105,108,101] yO (Er.no GY)))
  refine Zk ?_
  refine VC.keep (ρ':=[(0,dD.val),(13,i64 (dD.l.length:Int)),(14,i64 yO)]) [0,13,14] rfl ?_
  refine Zr ?_
  obtain ⟨b28,hS⟩:=bU hS
  refine Zu (cR rfl rfl b28) (Zm ?_)
  refine VL.jU (yO+1) [0,13,14] (fun _ _ h=>h) (go2 hS hK1) rfl
 replace hS:=iJ hS hK1
 refine Zx ?_
 refine Zq (Zr (Zy ?_))
 cases hS
 exact VC.ret (Z1 .nil)
theorem aHg (aDB:Er) {r:kH} (hS:Sh.aA4 aDB.pl=some r) :
 Ct Tryz.prog 145 [aDB.val] aDB.ok (Ow.emp) (X:=Er) (fun x=>x.val) (fun x=>r=x.pl) (fun x=>x.ok) (fun x=>Ow.emp):=by
 refine Zo Tryz.func145 Tryz.ntmps145 fun c => ?_
 unfold Sh.aA4 at hS
 refine Zq (Zr (Zy ?_))
 refine Zq (Zr ?_)
 refine gV [i64 0] fun jC => ?_
 refine Zl ?_
 refine Zq (Zq (Zr (Zm ?_)))
 refine Zu (SG Tryz.underlying262 (fun _ h=>by cases h) rfl) ?_
 rcases aDB with _ | _ | ⟨_,_,_,_⟩
 rotate_left
 ·
  exact absurd hS (by simp [Er.pl])
 ·
  exact absurd hS (by simp [Er.pl])
 dsimp only [Er.pl] at hS
 refine VL.dK (aNh _) rfl (by decide) ?_
 rintro _ _
 refine Zl ?_
 refine VC.CC rfl ?_
 refine Zk ?_
 refine Zq (Zr (Zy ?_))
 cases hS
 exact VC.ret (Z1 (Er.nil))
theorem iH (aA:Sv aC) {r:List aC} (hS:Sh.fG aA.l=some r) :
 Ct Tryz.prog 32 [aA.val] aA.ok (Ow.emp) (X:=Sv aC) (fun x=>x.val) (fun x=>r=x.l) (fun x=>Mo.tt) (fun x=>Sv.own x 32):=by
 refine Zo Tryz.func32 Tryz.ntmps32 fun c => ?_
 unfold Sh.fG at hS
 refine Zq (Zr (Zy ?_))
 refine Zq (Zq (Zr (Zm (Zu (IZ (s:=aA) Tryz.underlying23 rfl) ?_))))
 refine Zl ?_
 refine VC.slnil (s:=aA) rfl (fun h4 => ?_) ?_
 ·
  have hS:(some [])=some r:=by
    simp [lt,gd,h4] at hS ⊢
    try exact hS
  refine Zq (Zr (Zy ?_))
  refine VC.nU (⟨none,0,[]⟩:Sv aC) 32 ⟨rfl,rfl⟩ ?_
  cases hS
  exact VC.ret (Z1 ⟨none,0,[]⟩)
 refine Zk ?_
 refine Zq (Zr ?_)
 refine VL.aEE (α:=aC) Tryz.underlying23 a1J (by decide) (fun BX s6 zE => ?_)
 refine VL.nU BX 32 ⟨zE,s6⟩ ?_
 replace hS:=bW s6 hS
 refine Zm ?_
 obtain ⟨b7,hS⟩:=bU hS
 refine VL.app (s:=BX) (r:=aA) Tryz.underlying23 XN (by decide) rfl Fo.out (wM b7) (wN b7 (by decide)) (by decide) (fun MB CY => ?_)
 replace hS:=bW CY hS
 refine Zy ?_
 cases hS
 exact VC.ret (Z1 MB)
theorem G3 (aD:aC) (jA:Nat) (a_1:aK) {r:Bool} (hS:Sh.zB aD a_1=some r) :
 Cp Tryz.prog 192 [.agg #[str aD.path,i64 aD.mode,str aD.data],ptr jA 0] (Cells jA 0 [str a_1]) (.bool r):=by
 refine Zo Tryz.func192 Tryz.ntmps192 fun c => ?_
 unfold Sh.zB at hS
 refine Zq (Zr ?_)
 refine kQ [str aD.path,i64 aD.mode,str aD.data] fun fJ => ?_
 refine Zy ?_
 refine Zq (Zr (Zu (aB kU rfl) (Zu (aL cQ rfl rfl) (Zu (VW cQ rfl rfl) ?_))))
 obtain ⟨yU,EC,hS⟩:=aO hS
 refine Zu (cH (rQ aD.path a_1 EC) rfl (fun _ _=>rfl)) ?_
 refine Zy ?_
 cases hS
 exact Ze
theorem yG (aA:Sv aC) (eF:Nat) (fD:aK) {r:Int} (hS:Sh.mJ aA.l fD=some r) :
 Cp Tryz.prog 120 [aA.val,.func (.func 192) #[] #[ptr eF 0]] (aA.ok.and (Cells eF 0 [str fD])) (i64 r):=by
 refine Zo Tryz.func120 Tryz.ntmps120 fun c => ?_
 unfold Sh.mJ at hS
 refine Zq (Zr (Zy ?_))
 refine Zq (Zq (Zr (Zm (Zu (eB (s:=aA) Tryz.underlying23 rfl) (Zy ?_)))))
 refine Zb ?_
 refine VC.iter (S:=Int) (fun (cV:Int)=>cV) (fun (cV:Int)=>[(0,aA.val),(1,.func (.func 192) #[] #[ptr eF 0]),(7,i64 (aA.l.length:Int)),(8,i64 cV)]) (fun (cV:Int)=>Mo.tt) (fun (cV:Int)=>Ow.emp) 0 [0,1,7,8] hS rfl ?_
 clear hS
 rintro cV m1 y1 hS hK1
 refine Zq (Zr (Zu (dW rfl rfl) ?_))
 refine Zl ?_
 refine Zq ?_
 refine Zc hS (fun h9 hS => ?_) (fun h9 hS => ?_)
 ·
  refine Zk ?_
  refine Zq (Zb (Zq (Zr (Zy ?_))))
  refine Zq (Zr (Zy ?_))
  obtain ⟨eV,nC,lU,hS⟩:=fA hS
  refine Zu (eZ (s:=aA) Tryz.underlying23 fC rfl rfl nC (bH nC lU)) (Zu (nX (s:=aA) kI rfl rfl lU) ?_)
  obtain ⟨iA,rG,hS⟩:=aO hS
  refine Zu (tJ (vs:=[.agg #[str eV.path,i64 eV.mode,str eV.data]]) (caps:=[ptr eF 0]) (G3 eV eF fD rG) rfl rfl (fun _ _=>rfl)) ?_
  refine Zl ?_
  refine VC.keep (ρ':=[(0,aA.val),(1,.func (.func 192) #[] #[ptr eF 0]),(7,i64 (aA.l.length:Int)),(8,i64 cV),(5,i64 cV),(16,.bool iA)]) [0,1,7,8,5,16] rfl ?_
  refine gR hS (fun h16 hS => ?_) (fun h16 hS => ?_)
  ·
   refine Zq (Zr (Zy ?_))
   replace hS:=iJ hS hK1
   cases hS
   exact Ze
  refine Zk ?_
  refine Zr ?_
  obtain ⟨b18,hS⟩:=bU hS
  refine Zu (cR rfl rfl b18) (Zm ?_)
  refine VL.jU (cV+1) [0,1,7,8] (fun _ _ h=>h) (go2 hS hK1) rfl
 replace hS:=iJ hS hK1
 refine Zx ?_
 refine Zq (Zr (Zy ?_))
 cases hS
 exact Ze
theorem zJ (aA:Sv aC) (cY:Nat) (dY:aK) {r:List aC} (hS:Sh.nK aA.l dY=some r) :
 Ct Tryz.prog 75 [aA.val,.func (.func 192) #[] #[ptr cY 0]] Mo.tt (Ow.star (Sv.own aA 32) (bE cY [str dY] 9)) (X:=Sv aC) (fun x=>x.val) (fun x=>r=x.l) (fun x=>Mo.tt) (fun x=>Ow.star (Sv.own x 32) (bE cY [str dY] 9)):=by
 refine Zo Tryz.func75 Tryz.ntmps75 fun c => ?_
 unfold Sh.nK at hS
 refine Zq (Zr (Zy ?_))
 refine Zq (Zr (Zy ?_))
 obtain ⟨dA,mC,hS⟩:=aO hS
 refine Zu (rT (yG aA cY dY mC) rfl (fun _ _=>rfl)) ?_
 refine Zy ?_
 refine Zq (Zq (Zr (Zm (Zu (iI rfl rfl) ?_))))
 refine Zl ?_
 refine Zc hS (fun h12 hS => ?_) (fun h12 hS => ?_)
 ·
  refine Zq (Zr (Zy ?_))
  cases hS
  exact VC.ret (Z1 aA)
 refine Zk ?_
 refine Zq (Zq (Zr (Zm ?_)))
 obtain ⟨b15,hS⟩:=bU hS
 refine Zu (cR rfl rfl b15) (Zy ?_)
 refine VC.keep (ρ':=[(0,aA.val),(1,.func (.func 192) #[] #[ptr cY 0]),(5,i64 dA),(6,i64 (dA+1))]) [0,1,5,6] rfl ?_
 refine Zb ?_
 refine VC.iter (S:=Sv aC×Int×Int) (fun sg=>(sg.1.l,sg.2.1,sg.2.2)) (fun sg=>[(0,sg.1.val),(1,.func (.func 192) #[] #[ptr cY 0]),(5,i64 sg.2.1),(6,i64 sg.2.2)]) (fun sg=>Mo.tt) (fun sg=>Ow.star (bE cY [str dY] 9) (Ow.star (Sv.own sg.1 32) (Ow.emp))) (aA,dA,(dA+1)) [0,1,5,6] hS rfl ?_
 clear hS
 rintro ⟨eT,gF,kV⟩ m1 y1 hS hK1
 refine Zq (Zq (Zr (Zy ?_)))
 refine Zu (eB (s:=eT) Tryz.underlying23 rfl) (Zu (dW rfl rfl) ?_)
 refine Zl ?_
 refine Zc hS (fun h19 hS => ?_) (fun h19 hS => ?_)
 ·
  refine Zk ?_
  refine VC.gN (S:=Sv aC×Int) (fun sg=>(sg.1.l,sg.2)) (fun sg=>[(0,sg.1.val),(1,.func (.func 192) #[] #[ptr cY 0]),(5,i64 sg.2),(6,i64 kV)]) (fun sg=>Mo.tt) (fun sg=>Ow.star (bE cY [str dY] 9) (Ow.star (Sv.own sg.1 32) (Ow.emp))) hS ?_ ?_
  ·
   clear hS
   intro k7 hS
   refine Zb (Zq (Zr (Zy ?_)))
   obtain ⟨dN,vX,vV,hS⟩:=fA hS
   refine Zu (lN (s:=eT) Tryz.underlying23 fC rfl rfl vX (bH vX vV)) (Zu (X5 (s:=eT) kI rfl rfl vV) ?_)
   refine gV [str [],i64 0,str []] fun aFA => ?_
   refine Zv (cs':=[str dN.path,i64 dN.mode,str dN.data]) rfl fC ?_
   refine Zl ?_
   refine VC.keep (ρ':=[(0,eT.val),(1,.func (.func 192) #[] #[ptr cY 0]),(5,i64 gF),(6,i64 kV),(7,ptr aFA 0)]) [0,1,5,6,7] rfl ?_
   refine Zq (Zr (Zm (Zu (cJ kI rfl rfl) ?_)))
   obtain ⟨BB,FR,hS⟩:=aO hS
   refine Zu (tJ (vs:=[.agg #[str dN.path,i64 dN.mode,str dN.data]]) (caps:=[ptr cY 0]) (G3 dN cY dY FR) rfl rfl (fun _ _=>rfl)) ?_
   refine Zu (jE rfl) ?_
   refine Zl ?_
   refine gR hS (fun h29 hS => ?_) (fun h29 hS => ?_)
   ·
    refine Zq (Zr (Zy ?_))
    refine Zu (cJ kI rfl rfl) ?_
    obtain ⟨TP,BS,BM,hS⟩:=fA hS
    refine Zu (lN (s:=eT) Tryz.underlying23 fC rfl rfl BS (bH BS BM)) ?_
    refine VL.wJ (s:=eT) (T:=32) (j:=0) (vc:=[str dN.path,i64 dN.mode,str dN.data]) (⟨dN.path,dN.mode,dN.data⟩:aC) (by decide) rfl rfl BM rfl fC rfl rfl (Nat.le_of_ble_eq_true rfl) rfl (fun w12 hw12 haw12 hcw12 hvw12 hbw12 how12 => ?_)
    rw [← hvw12]
    replace hS:=bW hw12 hS
    refine Zl ?_
    refine VC.keep (ρ':=[(0,w12.val),(1,.func (.func 192) #[] #[ptr cY 0]),(5,i64 gF),(6,i64 kV)]) [0,1,5,6] rfl ?_
    refine Zr (Zm ?_)
    obtain ⟨b35,hS⟩:=bU hS
    refine Zu (cR rfl rfl b35) (Za ?_)
    refine VL.mt (w12,(gF+1)) [0,1,5,6] (fun _ _ h=>h) hS rfl
   refine VC.iV (eT,gF) [0,1,5,6] (fun _ _ h=>h) hS rfl
  clear hS
  rintro ⟨BW,BN⟩ hS
  refine Zr (Zm ?_)
  obtain ⟨b21,hS⟩:=bU hS
  refine Zu (cR rfl rfl b21) (Za ?_)
  refine VL.jU (BW,BN,(kV+1)) [0,1,5,6] (fun _ _ h=>h) (go2 hS hK1) rfl
 replace hS:=iJ hS hK1
 refine Zx ?_
 refine Zq (Zr (Zy ?_))
 obtain ⟨b38,hS⟩:=bU hS
 refine VL.fits (s:=eT) (e:=32) Fo.out fun FU => ?_
 refine Zu (KC (s:=eT) Tryz.underlying23 fC rfl rfl b38.1 b38.2 FU) ?_
 refine VL.aHs (s:=eT) (i:=gF.toNat) (.agg #[str [],i64 0,str []]) Tryz.underlying23 aWf rfl rfl rfl (by have:=b38; dsimp only at this ⊢; omega) Fo.out fun GJ LL MK => ?_
 replace hS:=bW LL hS
 refine Zl ?_
 refine VC.keep (ρ':=[(0,eT.val),(5,i64 gF)]) [0,5] rfl ?_
 refine Zq (Zr (Zy ?_))
 refine Zu (X4 (s:=eT) (q:=GJ) Tryz.underlying23 fC rfl rfl b38.1 b38.2 FU MK) (Zy ?_)
 cases hS
 exact VC.ret (Z1 GJ)
theorem eU (aA:Sv aC) {r:List aC} (hS:Sh.dS aA.l=some r) :
 Ct Tryz.prog 31 [aA.val] aA.ok (Ow.emp) (X:=Sv aC) (fun x=>x.val) (fun x=>r=x.l) (fun x=>x.ok) (fun x=>Ow.emp):=by
 refine Zo Tryz.func31 Tryz.ntmps31 fun c => ?_
 unfold Sh.dS at hS
 refine Zq (Zr (Zy ?_))
 refine Zq (Zr (Zy ?_))
 refine Zu (eB (s:=aA) Tryz.underlying23 rfl) (Zm (Zu (eB (s:=aA) Tryz.underlying23 rfl) ?_))
 obtain ⟨b8,hS⟩:=bU hS
 refine VL.WG Tryz.underlying23 fC rfl rfl rfl b8.1 (b8.2) (by decide) fun BY tU => ?_
 replace hS:=bW tU hS
 refine Zy ?_
 cases hS
 exact VC.ret (Z1 BY)
theorem YP (dD:Sv aC) (p_1:aK) {r:List aC} (hS:Sh.G9 dD.l p_1=some r) :
 Ct Tryz.prog 146 [dD.val,str p_1] dD.ok (Ow.emp) (X:=Sv aC) (fun x=>x.val) (fun x=>r=x.l) (fun x=>x.ok) (fun x=>Ow.emp):=by
 refine Zo Tryz.func146 Tryz.ntmps146 fun c => ?_
 unfold Sh.G9 at hS
 refine Zq (Zr ?_)
 refine kQ [str p_1] fun jC => ?_
 refine Zy ?_
 refine Zq (Zr (Zm ?_))
 obtain ⟨N5,aAB,hS⟩:=aO hS
 refine VL.bL (iH dD aAB) rfl (by decide) ?_
 rintro aCO rfl
 try dsimp only
 refine Zu (sJ rfl) ?_
 obtain ⟨E7,R2,hS⟩:=aO hS
 refine VL.bL (zJ aCO jC p_1 R2) rfl (by decide) ?_
 rintro xB rfl
 try dsimp only
 refine VL.shut xB 32 (fun _ _ _ _=>trivial) ?_
 obtain ⟨XG,aAD,hS⟩:=aO hS
 refine VL.dK (eU xB aAD) rfl (by decide) ?_
 rintro aCR rfl
 try dsimp only
 refine Zy ?_
 cases hS
 exact VC.ret (Z1 aCR)
theorem gB (j9:Nat) (vA:eW) (l_1:Sv Int) {r:dU} (hS:Sh.gO vA.pl l_1.l=some r) :
 Ct Tryz.prog 88 [ptr j9 0,l_1.val] l_1.ok (Ow.star (Sv.own vA.fB 5) (bE j9 [vA.fB.val] 242)) (X:=eW) (fun x => .tuple #[]) (fun x=>r=x.pl) (fun x=>Mo.tt) (fun x=>Ow.star (bE j9 [x.fB.val] 242) (Sv.own x.fB 5)):=by
 refine Zo Tryz.func88 Tryz.ntmps88 fun c => ?_
 unfold Sh.gO at hS
 refine Zq (Zr (Zm (Zu (eB (s:=l_1) Tryz.underlying83 rfl) (Zy ?_))))
 refine Zb ?_
 refine VC.iter (S:=Int×Sv UInt8) (fun sg=>(sg.1,sg.2.l)) (fun sg=>[(0,ptr j9 0),(7,l_1.val),(8,i64 (l_1.l.length:Int)),(9,i64 sg.1)]) (fun sg=>Mo.tt) (fun sg=>Ow.star (bE j9 [sg.2.val] 242) (Ow.star (Sv.own sg.2 5) (Ow.emp))) (0,vA.fB) [0,7,8,9] hS rfl ?_
 clear hS
 rintro ⟨uX,BI⟩ m1 y1 hS hK1
 refine Zq (Zr (Zu (dW rfl rfl) ?_))
 refine Zl ?_
 refine Zq ?_
 refine Zc hS (fun h10 hS => ?_) (fun h10 hS => ?_)
 ·
  refine Zk ?_
  refine Zq (Zb (Zq (Zr ?_)))
  obtain ⟨A5,NH,M7,hS⟩:=fA hS
  refine Zu (eZ (s:=l_1) Tryz.underlying83 DE rfl rfl NH (bH NH M7)) (Zu (zW (s:=l_1) fL rfl M7 rfl) (Zy ?_))
  refine Zq (Zr (Zm (Zu (tZ Tryz.underlying3 Tryz.underlying216 rfl) ?_)))
  refine Zu (aOs rfl rfl (by decide)) ?_
  refine Zm ?_
  refine Zu (aA0 rfl rfl (by decide)) ?_
  refine Zu (tZ Tryz.underlying2 Tryz.underlying216 rfl) (Zu (aOt rfl rfl) (Zy ?_))
  refine VC.keep (ρ':=[(0,ptr j9 0),(7,l_1.val),(8,i64 (l_1.l.length:Int)),(9,i64 uX),(6,.int .u64 (PL .u64 (SV .u64 (IntKind.wrap .u64 A5) 1) (IntKind.wrap .u64 (yX .i64 A5 63))))]) [0,7,8,9,6] rfl ?_
  refine Zq (Zb ?_)
  refine VC.iter (S:=Int×Sv UInt8) (fun sg=>(sg.1,sg.2.l)) (fun sg=>[(0,ptr j9 0),(6,.int .u64 sg.1),(7,l_1.val),(8,i64 (l_1.l.length:Int)),(9,i64 uX)]) (fun sg=>Mo.tt) (fun sg=>Ow.star (bE j9 [sg.2.val] 242) (Ow.star (Sv.own sg.2 5) (Ow.emp))) ((PL .u64 (SV .u64 (IntKind.wrap .u64 A5) 1) (IntKind.wrap .u64 (yX .i64 A5 63))),BI) [0,6,7,8,9] hS rfl ?_
  clear hS
  rintro ⟨B4,fO⟩ m2 y2 hS hK2
  refine Zq (Zq (Zr (Zm (Zu (vC rfl rfl) ?_))))
  refine Zl ?_
  refine Zc hS (fun h21 hS => ?_) (fun h21 hS => ?_)
  ·
   refine Zk ?_
   refine Zb (Zq (Zr (Zy ?_)))
   refine Zu (aF rfl) (Zu (aB sE rfl) (Zu (aL qR rfl rfl) (Zm (Zu (aKW rfl rfl) (Zu (tZ Tryz.underlying216 Tryz.underlying5 rfl) ?_)))))
   refine Zu (aY2 rfl rfl) ?_
   obtain ⟨aIy,hS⟩:=bU hS
   obtain ⟨MI,aJP,hS⟩:=wV hS
   refine VL.MC 30 rfl (congrArg (Value.int .u8) (aN0 aIy aJP)) ?_
   refine VL.lit (α:=UInt8) (xs:=[.tmp 30]) (vs:=[.int .u8 (MI.toNat:Int)]) [MI] Tryz.underlying35 aJg (by decide) rfl rfl rfl rfl (by decide) (fun _ _ _ _=>trivial) (by decide) (fun aOz aJt => ?_) (by decide)
   replace hS:=bW aJt hS
   obtain ⟨b32,hS⟩:=bU hS
   refine VL.app (s:=fO) (r:=aOz) Tryz.underlying35 aFe (by decide) rfl Fo.out (wM b32) (wN b32 (by decide)) (by decide) (fun aGk aJu => ?_)
   replace hS:=bW aJu hS
   refine Zu (aF rfl) (Zu (aB sE rfl) ?_)
   refine Zv (cs':=[aGk.val]) rfl aDH ?_
   refine Zl ?_
   refine VC.keep (ρ':=[(0,ptr j9 0),(6,.int .u64 B4),(7,l_1.val),(8,i64 (l_1.l.length:Int)),(9,i64 uX)]) [0,6,7,8,9] rfl ?_
   refine Zr (Zm ?_)
   refine Zu (aA0 rfl rfl (by decide)) ?_
   refine Za ?_
   refine VL.jU ((yX .u64 B4 7),aGk) [0,6,7,8,9] (fun _ _ h=>h) (go2 hS hK2) rfl
  replace hS:=iJ hS hK2
  refine Zx ?_
  refine Zr (Zy ?_)
  refine Zu (aF rfl) (Zu (aB sE rfl) (Zu (aL qR rfl rfl) (Zm (Zu (tZ Tryz.underlying216 Tryz.underlying5 rfl) ?_))))
  obtain ⟨aIz,hS⟩:=bU hS
  obtain ⟨GV,aFW,hS⟩:=wV hS
  refine VL.MC 43 rfl (congrArg (Value.int .u8) (aN0 aIz aFW)) ?_
  refine VL.lit (α:=UInt8) (xs:=[.tmp 43]) (vs:=[.int .u8 (GV.toNat:Int)]) [GV] Tryz.underlying35 aJg (by decide) rfl rfl rfl rfl (by decide) (fun _ _ _ _=>trivial) (by decide) (fun aK0 aFr => ?_) (by decide)
  replace hS:=bW aFr hS
  obtain ⟨b45,hS⟩:=bU hS
  refine VL.app (s:=fO) (r:=aK0) Tryz.underlying35 aFe (by decide) rfl Fo.out (wM b45) (wN b45 (by decide)) (by decide) (fun aCV aFs => ?_)
  replace hS:=bW aFs hS
  refine Zu (aF rfl) (Zu (aB sE rfl) ?_)
  refine Zv (cs':=[aCV.val]) rfl aDH ?_
  refine Zl ?_
  refine VC.keep (ρ':=[(0,ptr j9 0),(7,l_1.val),(8,i64 (l_1.l.length:Int)),(9,i64 uX)]) [0,7,8,9] rfl ?_
  refine Zr ?_
  obtain ⟨b48,hS⟩:=bU hS
  refine Zu (cR rfl rfl b48) (Zm ?_)
  refine VL.jU ((uX+1),aCV) [0,7,8,9] (fun _ _ h=>h) (go2 hS hK1) rfl
 replace hS:=iJ hS hK1
 cases hS
 exact VC.exit (pZ (.inl rfl) rfl ⟨BI⟩ rfl rfl (by (try dsimp only); exact fQ.out) (by (try dsimp only); exact iY.out))
theorem j8 (j9:Nat) (vA:eW) (l_1:Sv aK) {r:dU} (hS:Sh.kR vA.pl l_1.l=some r) :
 Ct Tryz.prog 89 [ptr j9 0,l_1.val] l_1.ok (Ow.star (Sv.own vA.fB 5) (bE j9 [vA.fB.val] 242)) (X:=eW) (fun x => .tuple #[]) (fun x=>r=x.pl) (fun x=>Mo.tt) (fun x=>Ow.star (bE j9 [x.fB.val] 242) (Sv.own x.fB 5)):=by
 refine Zo Tryz.func89 Tryz.ntmps89 fun c => ?_
 unfold Sh.kR at hS
 refine Zq (Zr (Zm (Zu (eB (s:=l_1) Tryz.underlying39 rfl) (Zy ?_))))
 refine Zb ?_
 refine VC.iter (S:=Int×Sv UInt8) (fun sg=>(sg.1,sg.2.l)) (fun sg=>[(0,ptr j9 0),(6,l_1.val),(7,i64 (l_1.l.length:Int)),(8,i64 sg.1)]) (fun sg=>Mo.tt) (fun sg=>Ow.star (bE j9 [sg.2.val] 242) (Ow.star (Sv.own sg.2 5) (Ow.emp))) (0,vA.fB) [0,6,7,8] hS rfl ?_
 clear hS
 rintro ⟨cV,BI⟩ m1 y1 hS hK1
 refine Zq (Zr (Zu (dW rfl rfl) ?_))
 refine Zl ?_
 refine Zq ?_
 refine Zc hS (fun h9 hS => ?_) (fun h9 hS => ?_)
 ·
  refine Zk ?_
  refine Zq (Zb (Zq (Zr ?_)))
  obtain ⟨jW,GA,F6,hS⟩:=fA hS
  refine Zu (eZ (s:=l_1) Tryz.underlying39 pU rfl rfl GA (bH GA F6)) (Zu (zW (s:=l_1) cQ rfl F6 rfl) (Zy ?_))
  refine Zq (Zr (Zy ?_))
  refine Zu (pN Tryz.underlying9 rfl) ?_
  refine VL.lit (α:=Int) (xs:=[.tmp 14]) (vs:=[i64 (jW.length:Int)]) [(jW.length:Int)] Tryz.underlying83 oS (by decide) rfl rfl rfl rfl (by decide) (fun _ _ _ _=>trivial) (by decide) (fun aOw aJo => ?_) (by decide)
  replace hS:=bW aJo hS
  obtain ⟨DA,aBJ,hS⟩:=aO hS
  refine VL.bL (gB j9 (⟨BI⟩:eW) aOw aBJ) rfl (by decide) ?_
  rintro QD rfl
  try dsimp only
  refine Zl ?_
  refine VC.keep (ρ':=[(0,ptr j9 0),(6,l_1.val),(7,i64 (l_1.l.length:Int)),(8,i64 cV),(5,str jW)]) [0,6,7,8,5] rfl ?_
  refine Zr (Zy ?_)
  refine Zu (aF rfl) (Zu (aB sE rfl) (Zu (aL qR rfl rfl) (Zm ?_)))
  obtain ⟨b23,hS⟩:=bU hS
  refine VL.a45 (s:=QD.fB) (r:=jW) Tryz.underlying35 Tryz.underlying9 aWL rfl Fo.out b23 (by decide) fun aGj aJq _ => ?_
  replace hS:=bW aJq hS
  refine Zu (aF rfl) (Zu (aB sE rfl) ?_)
  refine Zv (cs':=[aGj.val]) rfl aDH ?_
  refine Zl ?_
  refine VC.keep (ρ':=[(0,ptr j9 0),(6,l_1.val),(7,i64 (l_1.l.length:Int)),(8,i64 cV)]) [0,6,7,8] rfl ?_
  refine Zr ?_
  obtain ⟨b26,hS⟩:=bU hS
  refine Zu (cR rfl rfl b26) (Zm ?_)
  refine VL.jU ((cV+1),aGj) [0,6,7,8] (fun _ _ h=>h) (go2 hS hK1) rfl
 replace hS:=iJ hS hK1
 cases hS
 exact VC.exit (pZ (.inl rfl) rfl ⟨BI⟩ rfl rfl (by (try dsimp only); exact fQ.out) (by (try dsimp only); exact iY.out))
theorem B2 (cL:Nat) (w_0:eW) (r_1:Sv aC) {r:dU} (hS:Sh.wI w_0.pl r_1.l=some r) :
 Ct Tryz.prog 237 [ptr cL 0,r_1.val] r_1.ok (Ow.star (Sv.own w_0.fB 5) (bE cL [w_0.fB.val] 242)) (X:=eW) (fun x => .tuple #[]) (fun x=>r=x.pl) (fun x=>Mo.tt) (fun x=>Ow.star (bE cL [x.fB.val] 242) (Sv.own x.fB 5)):=by
 refine Zo Tryz.func237 Tryz.ntmps237 fun c => ?_
 unfold Sh.wI at hS
 refine Zq (Zr (Zm (Zu (aF rfl) (Zu (aB eR rfl) (Zm (Zu (eB (s:=r_1) Tryz.underlying23 rfl) ?_))))))
 refine VL.lit (α:=Int) (xs:=[.tmp 10]) (vs:=[i64 (r_1.l.length:Int)]) [(r_1.l.length:Int)] Tryz.underlying83 oS (by decide) rfl rfl rfl rfl (by decide) (fun _ _ _ _=>trivial) (by decide) (fun V7 R8 => ?_) (by decide)
 replace hS:=bW R8 hS
 obtain ⟨mL,vR,hS⟩:=aO hS
 refine VL.bL (gB cL w_0 V7 vR) rfl (by decide) ?_
 rintro iG rfl
 try dsimp only
 refine Zl ?_
 refine Zq (Zr (Zm (Zu (eB (s:=r_1) Tryz.underlying23 rfl) (Zy ?_))))
 refine VC.keep (ρ':=[(0,ptr cL 0),(13,r_1.val),(14,i64 (r_1.l.length:Int)),(15,i64 0)]) [0,13,14,15] rfl ?_
 refine Zb ?_
 refine VC.iter (S:=Int×Sv UInt8) (fun sg=>(sg.1,sg.2.l)) (fun sg=>[(0,ptr cL 0),(13,r_1.val),(14,i64 (r_1.l.length:Int)),(15,i64 sg.1)]) (fun sg=>Mo.tt) (fun sg=>Ow.star (bE cL [sg.2.val] 242) (Ow.star (Sv.own sg.2 5) (Ow.emp))) (0,iG.fB) [0,13,14,15] hS rfl ?_
 clear hS
 rintro ⟨yP,fO⟩ m1 y1 hS hK1
 refine Zq (Zr (Zu (dW rfl rfl) ?_))
 refine Zl ?_
 refine Zq ?_
 refine Zc hS (fun h16 hS => ?_) (fun h16 hS => ?_)
 ·
  refine Zk ?_
  refine Zq (Zb (Zq (Zr ?_)))
  obtain ⟨mG,aBv,aBa,hS⟩:=fA hS
  refine Zu (eZ (s:=r_1) Tryz.underlying23 fC rfl rfl aBv (bH aBv aBa)) (Zu (nX (s:=r_1) kI rfl rfl aBa) ?_)
  refine gV [str [],i64 0,str []] fun aHn => ?_
  refine Zv (cs':=[str mG.path,i64 mG.mode,str mG.data]) rfl fC ?_
  refine Zl ?_
  refine Zq ?_
  refine l9 [(0,true),(1,true),(2,true),(3,true),(4,true),(5,false),(6,false)] ?_
  refine Zw rfl (bB rfl) ?_
  refine Zw rfl (aF rfl) ?_
  refine Zw rfl (aB eR rfl) ?_
  refine Zw rfl (aB kU rfl) ?_
  refine Zw rfl (aL cQ rfl rfl) ?_
  refine VD.one rfl ?_
  refine VL.lit (α:=aK) (xs:=[.tmp 23]) (vs:=[str mG.path]) [mG.path] Tryz.underlying39 xQ (by decide) rfl rfl rfl rfl (by decide) (fun _ _ _ _=>trivial) (by decide) (fun aOy aJr => ?_) (by decide)
  replace hS:=bW aJr hS
  refine jS [(2,ptr cL 0),(1,ptr cL 0)] (aI.cons rfl (aB eR rfl) (aI.cons rfl (aF rfl) aI.nil)) ?_
  refine VD.one rfl ?_
  obtain ⟨aC6,aFX,hS⟩:=aO hS
  refine VL.bL (j8 cL (⟨fO⟩:eW) aOy aFX) rfl (by decide) ?_
  rintro aDZ rfl
  try dsimp only
  refine jH ?_
  refine VD.to (fun _ _ h=>h) ?_
  refine VC.keep (ρ':=[(0,ptr cL 0),(13,r_1.val),(14,i64 (r_1.l.length:Int)),(15,i64 yP),(5,ptr aHn 0)]) [0,13,14,15,5] rfl ?_
  refine Zq ?_
  refine l9 [(0,true),(1,true),(2,true),(3,true),(4,true),(5,false),(6,false)] ?_
  refine Zw rfl (bB rfl) ?_
  refine Zw rfl (aF rfl) ?_
  refine Zw rfl (aB eR rfl) ?_
  refine Zw rfl (aB xO rfl) ?_
  refine Zw rfl (aL fL rfl rfl) ?_
  refine VD.one rfl ?_
  refine VL.lit (α:=Int) (xs:=[.tmp 30]) (vs:=[i64 mG.mode]) [mG.mode] Tryz.underlying83 oS (by decide) rfl rfl rfl rfl (by decide) (fun _ _ _ _=>trivial) (by decide) (fun a2w aWr => ?_) (by decide)
  replace hS:=bW aWr hS
  refine jS [(2,ptr cL 0),(1,ptr cL 0)] (aI.cons rfl (aB eR rfl) (aI.cons rfl (aF rfl) aI.nil)) ?_
  refine VD.one rfl ?_
  obtain ⟨aRe,aUw,hS⟩:=aO hS
  refine VL.bL (gB cL aDZ a2w aUw) rfl (by decide) ?_
  rintro aT9 rfl
  try dsimp only
  refine jH ?_
  refine VD.to (fun _ _ h=>h) ?_
  refine VC.keep (ρ':=[(0,ptr cL 0),(13,r_1.val),(14,i64 (r_1.l.length:Int)),(15,i64 yP),(5,ptr aHn 0)]) [0,13,14,15,5] rfl ?_
  refine l9 [(0,true),(1,true),(2,true),(3,true),(4,true),(5,false),(6,false)] ?_
  refine Zw rfl (bB rfl) ?_
  refine Zw rfl (aF rfl) ?_
  refine Zw rfl (aB eR rfl) ?_
  refine Zw rfl (aB DD rfl) ?_
  refine Zw rfl (aL cQ rfl rfl) ?_
  refine VD.one rfl ?_
  refine VL.lit (α:=aK) (xs:=[.tmp 37]) (vs:=[str mG.data]) [mG.data] Tryz.underlying39 xQ (by decide) rfl rfl rfl rfl (by decide) (fun _ _ _ _=>trivial) (by decide) (fun a3C aWy => ?_) (by decide)
  replace hS:=bW aWy hS
  refine jS [(2,ptr cL 0),(1,ptr cL 0)] (aI.cons rfl (aB eR rfl) (aI.cons rfl (aF rfl) aI.nil)) ?_
  refine VD.one rfl ?_
  obtain ⟨aRn,aVL,hS⟩:=aO hS
  refine VL.bL (j8 cL aT9 a3C aVL) rfl (by decide) ?_
  rintro aTj rfl
  try dsimp only
  refine jH ?_
  refine VD.to (fun _ _ h=>h) ?_
  refine VC.keep (ρ':=[(0,ptr cL 0),(13,r_1.val),(14,i64 (r_1.l.length:Int)),(15,i64 yP)]) [0,13,14,15] rfl ?_
  refine Zr ?_
  obtain ⟨b40,hS⟩:=bU hS
  refine Zu (cR rfl rfl b40) (Zm ?_)
  refine VL.jU ((yP+1),aTj.fB) [0,13,14,15] (fun _ _ h=>h) (go2 hS hK1) rfl
 replace hS:=iJ hS hK1
 cases hS
 exact VC.exit (pZ (.inl rfl) rfl ⟨fO⟩ rfl rfl (by (try dsimp only); exact fQ.out) (by (try dsimp only); exact iY.out))
theorem DX (cL:Nat) (w_0:eW) (l_1:Sv aE) {r:dU} (hS:Sh.uU w_0.pl l_1.l=some r) :
 Ct Tryz.prog 238 [ptr cL 0,l_1.val] l_1.ok (Ow.star (Sv.own w_0.fB 5) (bE cL [w_0.fB.val] 242)) (X:=eW) (fun x => .tuple #[]) (fun x=>r=x.pl) (fun x=>Mo.tt) (fun x=>Ow.star (bE cL [x.fB.val] 242) (Sv.own x.fB 5)):=by
 refine Zo Tryz.func238 Tryz.ntmps238 fun c => ?_
 unfold Sh.uU at hS
 refine Zq (Zr (Zm (Zu (aF rfl) (Zu (aB eR rfl) (Zm (Zu (eB (s:=l_1) Tryz.underlying36 rfl) ?_))))))
 refine VL.lit (α:=Int) (xs:=[.tmp 10]) (vs:=[i64 (l_1.l.length:Int)]) [(l_1.l.length:Int)] Tryz.underlying83 oS (by decide) rfl rfl rfl rfl (by decide) (fun _ _ _ _=>trivial) (by decide) (fun V7 R8 => ?_) (by decide)
 replace hS:=bW R8 hS
 obtain ⟨mL,vR,hS⟩:=aO hS
 refine VL.bL (gB cL w_0 V7 vR) rfl (by decide) ?_
 rintro iG rfl
 try dsimp only
 refine Zl ?_
 refine Zq (Zr (Zm (Zu (eB (s:=l_1) Tryz.underlying36 rfl) (Zy ?_))))
 refine VC.keep (ρ':=[(0,ptr cL 0),(13,l_1.val),(14,i64 (l_1.l.length:Int)),(15,i64 0)]) [0,13,14,15] rfl ?_
 refine Zb ?_
 refine VC.iter (S:=Int×Sv UInt8) (fun sg=>(sg.1,sg.2.l)) (fun sg=>[(0,ptr cL 0),(13,l_1.val),(14,i64 (l_1.l.length:Int)),(15,i64 sg.1)]) (fun sg=>Mo.tt) (fun sg=>Ow.star (bE cL [sg.2.val] 242) (Ow.star (Sv.own sg.2 5) (Ow.emp))) (0,iG.fB) [0,13,14,15] hS rfl ?_
 clear hS
 rintro ⟨yP,fO⟩ m1 y1 hS hK1
 refine Zq (Zr (Zu (dW rfl rfl) ?_))
 refine Zl ?_
 refine Zq ?_
 refine Zc hS (fun h16 hS => ?_) (fun h16 hS => ?_)
 ·
  refine Zk ?_
  refine Zq (Zb (Zq (Zr ?_)))
  obtain ⟨mG,aBv,aBa,hS⟩:=fA hS
  refine Zu (eZ (s:=l_1) Tryz.underlying36 jD rfl rfl aBv (bH aBv aBa)) (Zu (nX (s:=l_1) oE rfl rfl aBa) ?_)
  refine gV [str [],i64 0,i64 0,str [],i64 0,i64 0] fun aHn => ?_
  refine Zv (cs':=[str mG.path,i64 mG.eM,i64 mG.mode,str mG.data,i64 mG.time,i64 mG.size]) rfl jD ?_
  refine Zl ?_
  refine Zq ?_
  refine l9 [(0,true),(1,true),(2,true),(3,true),(4,true),(5,false),(6,false)] ?_
  refine Zw rfl (bB rfl) ?_
  refine Zw rfl (aF rfl) ?_
  refine Zw rfl (aB eR rfl) ?_
  refine Zw rfl (aB tG rfl) ?_
  refine Zw rfl (aL cQ rfl rfl) ?_
  refine VD.one rfl ?_
  refine VL.lit (α:=aK) (xs:=[.tmp 23]) (vs:=[str mG.path]) [mG.path] Tryz.underlying39 xQ (by decide) rfl rfl rfl rfl (by decide) (fun _ _ _ _=>trivial) (by decide) (fun aOy aJr => ?_) (by decide)
  replace hS:=bW aJr hS
  refine jS [(2,ptr cL 0),(1,ptr cL 0)] (aI.cons rfl (aB eR rfl) (aI.cons rfl (aF rfl) aI.nil)) ?_
  refine VD.one rfl ?_
  obtain ⟨aC6,aFX,hS⟩:=aO hS
  refine VL.bL (j8 cL (⟨fO⟩:eW) aOy aFX) rfl (by decide) ?_
  rintro aDZ rfl
  try dsimp only
  refine jH ?_
  refine VD.to (fun _ _ h=>h) ?_
  refine VC.keep (ρ':=[(0,ptr cL 0),(13,l_1.val),(14,i64 (l_1.l.length:Int)),(15,i64 yP),(5,ptr aHn 0)]) [0,13,14,15,5] rfl ?_
  refine Zq ?_
  refine l9 [(0,true),(1,true),(2,true),(3,true),(4,true),(5,true),(6,true),(7,false),(8,false)] ?_
  refine Zw rfl (bB rfl) ?_
  refine Zw rfl (aF rfl) ?_
  refine Zw rfl (aB eR rfl) ?_
  refine Zw rfl (aB xN rfl) ?_
  refine Zw rfl (aL fL rfl rfl) ?_
  refine Zw rfl (aB XO rfl) ?_
  refine Zw rfl (aL fL rfl rfl) ?_
  refine VD.one rfl ?_
  refine VL.lit (α:=Int) (xs:=[.tmp 30,.tmp 32]) (vs:=[i64 mG.eM,i64 mG.mode]) [mG.eM,mG.mode] Tryz.underlying83 oS (by decide) rfl rfl rfl rfl (by decide) (fun _ _ _ _=>trivial) (by decide) (fun a2y aWt => ?_) (by decide)
  replace hS:=bW aWt hS
  refine jS [(2,ptr cL 0),(1,ptr cL 0)] (aI.cons rfl (aB eR rfl) (aI.cons rfl (aF rfl) aI.nil)) ?_
  refine VD.one rfl ?_
  obtain ⟨aRg,aUz,hS⟩:=aO hS
  refine VL.bL (gB cL aDZ a2y aUz) rfl (by decide) ?_
  rintro aTb rfl
  try dsimp only
  refine jH ?_
  refine VD.to (fun _ _ h=>h) ?_
  refine VC.keep (ρ':=[(0,ptr cL 0),(13,l_1.val),(14,i64 (l_1.l.length:Int)),(15,i64 yP),(5,ptr aHn 0)]) [0,13,14,15,5] rfl ?_
  refine Zq ?_
  refine l9 [(0,true),(1,true),(2,true),(3,true),(4,true),(5,false),(6,false)] ?_
  refine Zw rfl (bB rfl) ?_
  refine Zw rfl (aF rfl) ?_
  refine Zw rfl (aB eR rfl) ?_
  refine Zw rfl (aB XP rfl) ?_
  refine Zw rfl (aL cQ rfl rfl) ?_
  refine VD.one rfl ?_
  refine VL.lit (α:=aK) (xs:=[.tmp 39]) (vs:=[str mG.data]) [mG.data] Tryz.underlying39 xQ (by decide) rfl rfl rfl rfl (by decide) (fun _ _ _ _=>trivial) (by decide) (fun a3E aXB => ?_) (by decide)
  replace hS:=bW aXB hS
  refine jS [(2,ptr cL 0),(1,ptr cL 0)] (aI.cons rfl (aB eR rfl) (aI.cons rfl (aF rfl) aI.nil)) ?_
  refine VD.one rfl ?_
  obtain ⟨TG,aFZ,hS⟩:=aO hS
  refine VL.bL (j8 cL aTb a3E aFZ) rfl (by decide) ?_
  rintro aTk rfl
  try dsimp only
  refine jH ?_
  refine VD.to (fun _ _ h=>h) ?_
  refine VC.keep (ρ':=[(0,ptr cL 0),(13,l_1.val),(14,i64 (l_1.l.length:Int)),(15,i64 yP),(5,ptr aHn 0)]) [0,13,14,15,5] rfl ?_
  refine l9 [(0,true),(1,true),(2,true),(3,true),(4,true),(5,true),(6,true),(7,false),(8,false)] ?_
  refine Zw rfl (bB rfl) ?_
  refine Zw rfl (aF rfl) ?_
  refine Zw rfl (aB eR rfl) ?_
  refine Zw rfl (aB aSy rfl) ?_
  refine Zw rfl (aL fL rfl rfl) ?_
  refine Zw rfl (aB aSz rfl) ?_
  refine Zw rfl (aL fL rfl rfl) ?_
  refine VD.one rfl ?_
  refine VL.lit (α:=Int) (xs:=[.tmp 46,.tmp 48]) (vs:=[i64 mG.time,i64 mG.size]) [mG.time,mG.size] Tryz.underlying83 oS (by decide) rfl rfl rfl rfl (by decide) (fun _ _ _ _=>trivial) (by decide) (fun a3K aXI => ?_) (by decide)
  replace hS:=bW aXI hS
  refine jS [(2,ptr cL 0),(1,ptr cL 0)] (aI.cons rfl (aB eR rfl) (aI.cons rfl (aF rfl) aI.nil)) ?_
  refine VD.one rfl ?_
  obtain ⟨aCb,aF3,hS⟩:=aO hS
  refine VL.bL (gB cL aTk a3K aF3) rfl (by decide) ?_
  rintro aD4 rfl
  try dsimp only
  refine jH ?_
  refine VD.to (fun _ _ h=>h) ?_
  refine VC.keep (ρ':=[(0,ptr cL 0),(13,l_1.val),(14,i64 (l_1.l.length:Int)),(15,i64 yP)]) [0,13,14,15] rfl ?_
  refine Zr ?_
  obtain ⟨b51,hS⟩:=bU hS
  refine Zu (cR rfl rfl b51) (Zm ?_)
  refine VL.jU ((yP+1),aD4.fB) [0,13,14,15] (fun _ _ h=>h) (go2 hS hK1) rfl
 replace hS:=iJ hS hK1
 cases hS
 exact VC.exit (pZ (.inl rfl) rfl ⟨fO⟩ rfl rfl (by (try dsimp only); exact fQ.out) (by (try dsimp only); exact iY.out))
theorem G5 (cL:Nat) (w_0:eW) (h_1:pW) {r:dU} (hS:Sh.zL w_0.pl h_1=some r) :
 Ct Tryz.prog 239 [ptr cL 0,.agg #[str h_1.branch,i64 h_1.dX]] Mo.tt (Ow.star (Sv.own w_0.fB 5) (bE cL [w_0.fB.val] 242)) (X:=eW) (fun x => .tuple #[]) (fun x=>r=x.pl) (fun x=>Mo.tt) (fun x=>Ow.star (bE cL [x.fB.val] 242) (Sv.own x.fB 5)):=by
 refine Zo Tryz.func239 Tryz.ntmps239 fun c => ?_
 unfold Sh.zL at hS
 refine Zq (Zr ?_)
 refine kQ [str h_1.branch,i64 h_1.dX] fun jC => ?_
 refine Zl ?_
 refine Zq ?_
 refine l9 [(0,true),(1,true),(2,true),(3,true),(4,true),(5,false),(6,false)] ?_
 refine Zw rfl (bB rfl) ?_
 refine Zw rfl (aF rfl) ?_
 refine Zw rfl (aB eR rfl) ?_
 refine Zw rfl (aB UR rfl) ?_
 refine Zw rfl (aL cQ rfl rfl) ?_
 refine VD.one rfl ?_
 refine VL.lit (α:=aK) (xs:=[.tmp 8]) (vs:=[str h_1.branch]) [h_1.branch] Tryz.underlying39 xQ (by decide) rfl rfl rfl rfl (by decide) (fun _ _ _ _=>trivial) (by decide) (fun aNS aFu => ?_) (by decide)
 replace hS:=bW aFu hS
 refine jS [(2,ptr cL 0),(1,ptr cL 0)] (aI.cons rfl (aB eR rfl) (aI.cons rfl (aF rfl) aI.nil)) ?_
 refine VD.one rfl ?_
 obtain ⟨S7,aBF,hS⟩:=aO hS
 refine VL.bL (j8 cL w_0 aNS aBF) rfl (by decide) ?_
 rintro QB rfl
 try dsimp only
 refine jH ?_
 refine VD.to (fun _ _ h=>h) ?_
 refine l9 [(0,true),(1,true),(2,true),(3,true),(4,true),(5,false),(6,false)] ?_
 refine Zw rfl (bB rfl) ?_
 refine Zw rfl (aF rfl) ?_
 refine Zw rfl (aB eR rfl) ?_
 refine Zw rfl (aB F1 rfl) ?_
 refine Zw rfl (aL fL rfl rfl) ?_
 refine VD.one rfl ?_
 refine VL.lit (α:=Int) (xs:=[.tmp 15]) (vs:=[i64 h_1.dX]) [h_1.dX] Tryz.underlying83 oS (by decide) rfl rfl rfl rfl (by decide) (fun _ _ _ _=>trivial) (by decide) (fun aDg aB7 => ?_) (by decide)
 replace hS:=bW aB7 hS
 refine jS [(2,ptr cL 0),(1,ptr cL 0)] (aI.cons rfl (aB eR rfl) (aI.cons rfl (aF rfl) aI.nil)) ?_
 refine VD.one rfl ?_
 obtain ⟨PA,aBL,hS⟩:=aO hS
 refine VL.bL (gB cL QB aDg aBL) rfl (by decide) ?_
 rintro L0 rfl
 try dsimp only
 refine jH ?_
 cases hS
 exact VD.nil (pZ (.inl rfl) rfl ⟨L0.fB⟩ rfl rfl (by (try dsimp only); exact fQ.out) (by (try dsimp only); exact iY.out))
theorem GQ (cL:Nat) (w_0:eW) (l_1:Sv dB) {r:dU} (hS:Sh.xE w_0.pl l_1.l=some r) :
 Ct Tryz.prog 312 [ptr cL 0,l_1.val] l_1.ok (Ow.star (Sv.own w_0.fB 5) (bE cL [w_0.fB.val] 242)) (X:=eW) (fun x => .tuple #[]) (fun x=>r=x.pl) (fun x=>Mo.tt) (fun x=>Ow.star (bE cL [x.fB.val] 242) (Sv.own x.fB 5)):=by
 refine Zo Tryz.func312 Tryz.ntmps312 fun c => ?_
 unfold Sh.xE at hS
 refine Zq (Zr (Zm (Zu (aF rfl) (Zu (aB eR rfl) (Zm (Zu (eB (s:=l_1) Tryz.underlying66 rfl) ?_))))))
 refine VL.lit (α:=Int) (xs:=[.tmp 10]) (vs:=[i64 (l_1.l.length:Int)]) [(l_1.l.length:Int)] Tryz.underlying83 oS (by decide) rfl rfl rfl rfl (by decide) (fun _ _ _ _=>trivial) (by decide) (fun V7 R8 => ?_) (by decide)
 replace hS:=bW R8 hS
 obtain ⟨mL,vR,hS⟩:=aO hS
 refine VL.bL (gB cL w_0 V7 vR) rfl (by decide) ?_
 rintro iG rfl
 try dsimp only
 refine Zl ?_
 refine Zq (Zr (Zm (Zu (eB (s:=l_1) Tryz.underlying66 rfl) (Zy ?_))))
 refine VC.keep (ρ':=[(0,ptr cL 0),(13,l_1.val),(14,i64 (l_1.l.length:Int)),(15,i64 0)]) [0,13,14,15] rfl ?_
 refine Zb ?_
 refine VC.iter (S:=Unit) (fun (_:Unit)=>()) (fun (_:Unit)=>[(0,ptr cL 0),(13,l_1.val),(14,i64 (l_1.l.length:Int)),(15,i64 0)]) (fun (_:Unit)=>Mo.tt) (fun (_:Unit)=>Ow.star (bE cL [iG.fB.val] 242) (Ow.star (Sv.own iG.fB 5) (Ow.emp))) () [0,13,14,15] hS rfl ?_
 clear hS
 rintro _ m1 y1 hS hK1
 refine Zq (Zr (Zu (dW rfl rfl) ?_))
 refine Zl ?_
 refine Zq ?_
 refine Zc hS (fun h16 hS => ?_) (fun h16 hS => ?_)
 ·
  refine Zk ?_
  refine Zq (Zb (Zq (Zr ?_)))
  obtain ⟨aKv,aQb,aPz,hS⟩:=fA hS
  refine Zu (eZ (s:=l_1) Tryz.underlying66 aJk rfl rfl aQb (bH aQb aPz)) (Zu (nX (s:=l_1) aWJ rfl rfl aPz) ?_)
  refine gV [str [],i64 0,str []] fun aUZ => ?_
  refine Zv (cs':=[str aKv.verb,i64 aKv.dX,str aKv.text]) rfl aJk ?_
  refine Zl ?_
  refine Zq ?_
  cases hS
 replace hS:=iJ hS hK1
 cases hS
 exact VC.exit (pZ (.inl rfl) rfl ⟨iG.fB⟩ rfl rfl (by (try dsimp only); exact fQ.out) (by (try dsimp only); exact iY.out))
theorem WE (cL:Nat) (w_0:eW) (s_1:z8) {r:dU} (hS:Sh.GP w_0.pl s_1.pl=some r) :
 Ct Tryz.prog 240 [ptr cL 0,.agg (aHW s_1).toArray] (s_1.o7.ok.and (s_1.todo.ok.and (s_1.index.ok.and s_1.work.ok))) (Ow.star (Sv.own w_0.fB 5) (bE cL [w_0.fB.val] 242)) (X:=eW) (fun x => .tuple #[]) (fun x=>r=x.pl) (fun x=>Mo.tt) (fun x=>Ow.star (bE cL [x.fB.val] 242) (Sv.own x.fB 5)):=by
 refine Zo Tryz.func240 Tryz.ntmps240 fun c => ?_
 unfold Sh.GP at hS
 refine Zq (Zr ?_)
 refine kQ (aHW s_1) fun jC => ?_
 refine Zl ?_
 refine Zq ?_
 refine l9 [(0,true),(1,true),(2,true),(3,true),(4,true),(5,false),(6,false)] ?_
 refine Zw rfl (bB rfl) ?_
 refine Zw rfl (aF rfl) ?_
 refine Zw rfl (aB eR rfl) ?_
 refine Zw rfl (aB IG rfl) ?_
 refine Zw rfl (aL cQ rfl rfl) ?_
 refine VD.one rfl ?_
 refine VL.lit (α:=aK) (xs:=[.tmp 8]) (vs:=[str s_1.kind]) [s_1.kind] Tryz.underlying39 xQ (by decide) rfl rfl rfl rfl (by decide) (fun _ _ _ _=>trivial) (by decide) (fun aNS aFu => ?_) (by decide)
 replace hS:=bW aFu hS
 refine jS [(2,ptr cL 0),(1,ptr cL 0)] (aI.cons rfl (aB eR rfl) (aI.cons rfl (aF rfl) aI.nil)) ?_
 refine VD.one rfl ?_
 obtain ⟨S7,aBF,hS⟩:=aO hS
 refine VL.bL (j8 cL w_0 aNS aBF) rfl (by decide) ?_
 rintro QB rfl
 try dsimp only
 refine jH ?_
 refine VD.to (fun _ _ h=>h) ?_
 refine Zq ?_
 refine l9 [(0,true),(1,true),(2,true),(3,true),(4,true),(5,false),(6,false)] ?_
 refine Zw rfl (bB rfl) ?_
 refine Zw rfl (aF rfl) ?_
 refine Zw rfl (aB eR rfl) ?_
 refine Zw rfl (aB aWO rfl) ?_
 refine Zw rfl (aL fL rfl rfl) ?_
 refine VD.one rfl ?_
 refine VL.lit (α:=Int) (xs:=[.tmp 15]) (vs:=[i64 s_1.other]) [s_1.other] Tryz.underlying83 oS (by decide) rfl rfl rfl rfl (by decide) (fun _ _ _ _=>trivial) (by decide) (fun aDg aB7 => ?_) (by decide)
 replace hS:=bW aB7 hS
 refine jS [(2,ptr cL 0),(1,ptr cL 0)] (aI.cons rfl (aB eR rfl) (aI.cons rfl (aF rfl) aI.nil)) ?_
 refine VD.one rfl ?_
 obtain ⟨PA,aBL,hS⟩:=aO hS
 refine VL.bL (gB cL QB aDg aBL) rfl (by decide) ?_
 rintro L0 rfl
 try dsimp only
 refine jH ?_
 refine VD.to (fun _ _ h=>h) ?_
 refine VC.keep (ρ':=[(0,ptr cL 0),(3,ptr jC 0)]) [0,3] rfl ?_
 refine Zq ?_
 refine l9 [(0,true),(1,true),(2,true),(3,true),(4,true),(5,false),(6,false)] ?_
 refine Zw rfl (bB rfl) ?_
 refine Zw rfl (aF rfl) ?_
 refine Zw rfl (aB eR rfl) ?_
 refine Zw rfl (aB aWP rfl) ?_
 refine Zw rfl (aL cQ rfl rfl) ?_
 refine VD.one rfl ?_
 refine VL.lit (α:=aK) (xs:=[.tmp 22]) (vs:=[str s_1.text]) [s_1.text] Tryz.underlying39 xQ (by decide) rfl rfl rfl rfl (by decide) (fun _ _ _ _=>trivial) (by decide) (fun a6M a1m => ?_) (by decide)
 replace hS:=bW a1m hS
 refine jS [(2,ptr cL 0),(1,ptr cL 0)] (aI.cons rfl (aB eR rfl) (aI.cons rfl (aF rfl) aI.nil)) ?_
 refine VD.one rfl ?_
 obtain ⟨aR6,aUj,hS⟩:=aO hS
 refine VL.bL (j8 cL L0 a6M aUj) rfl (by decide) ?_
 rintro aTZ rfl
 try dsimp only
 refine jH ?_
 refine VD.to (fun _ _ h=>h) ?_
 refine Zq (Zr (Zm (Zu (aB aL5 rfl) (Zu (aL J8 rfl rfl) ?_))))
 obtain ⟨TE,aUm,hS⟩:=aO hS
 refine VL.bL (GQ cL aTZ s_1.o7 aUm) rfl (by decide) ?_
 rintro aT1 rfl
 try dsimp only
 refine Zl ?_
 refine VC.keep (ρ':=[(0,ptr cL 0),(3,ptr jC 0)]) [0,3] rfl ?_
 refine Zq (Zr (Zm (Zu (aB aWQ rfl) (Zu (aL J8 rfl rfl) ?_))))
 obtain ⟨aRd,aUv,hS⟩:=aO hS
 refine VL.bL (GQ cL aT1 s_1.todo aUv) rfl (by decide) ?_
 rintro aT8 rfl
 try dsimp only
 refine Zl ?_
 refine Zq ?_
 refine l9 [(0,true),(1,true),(2,true),(3,true),(4,true),(5,false),(6,false)] ?_
 refine Zw rfl (bB rfl) ?_
 refine Zw rfl (aF rfl) ?_
 refine Zw rfl (aB eR rfl) ?_
 refine Zw rfl (aB aWR rfl) ?_
 refine Zw rfl (aL fL rfl rfl) ?_
 refine VD.one rfl ?_
 refine VL.lit (α:=Int) (xs:=[.tmp 37]) (vs:=[i64 s_1.made]) [s_1.made] Tryz.underlying83 oS (by decide) rfl rfl rfl rfl (by decide) (fun _ _ _ _=>trivial) (by decide) (fun a3B aWx => ?_) (by decide)
 replace hS:=bW aWx hS
 refine jS [(2,ptr cL 0),(1,ptr cL 0)] (aI.cons rfl (aB eR rfl) (aI.cons rfl (aF rfl) aI.nil)) ?_
 refine VD.one rfl ?_
 obtain ⟨aRm,aVK,hS⟩:=aO hS
 refine VL.bL (gB cL aT8 a3B aVK) rfl (by decide) ?_
 rintro aTi rfl
 try dsimp only
 refine jH ?_
 refine VD.to (fun _ _ h=>h) ?_
 refine VC.keep (ρ':=[(0,ptr cL 0),(3,ptr jC 0)]) [0,3] rfl ?_
 refine Zq ?_
 refine l9 [(0,true),(1,true),(2,true),(3,true),(4,true),(5,false),(6,false)] ?_
 refine Zw rfl (bB rfl) ?_
 refine Zw rfl (aF rfl) ?_
 refine Zw rfl (aB eR rfl) ?_
 refine Zw rfl (aB aWS rfl) ?_
 refine Zw rfl (aL cQ rfl rfl) ?_
 refine VD.one rfl ?_
 refine VL.lit (α:=aK) (xs:=[.tmp 44]) (vs:=[str s_1.branch]) [s_1.branch] Tryz.underlying39 xQ (by decide) rfl rfl rfl rfl (by decide) (fun _ _ _ _=>trivial) (by decide) (fun a3G aXD => ?_) (by decide)
 replace hS:=bW aXD hS
 refine jS [(2,ptr cL 0),(1,ptr cL 0)] (aI.cons rfl (aB eR rfl) (aI.cons rfl (aF rfl) aI.nil)) ?_
 refine VD.one rfl ?_
 obtain ⟨aRr,aVW,hS⟩:=aO hS
 refine VL.bL (j8 cL aTi a3G aVW) rfl (by decide) ?_
 rintro aTq rfl
 try dsimp only
 refine jH ?_
 refine VD.to (fun _ _ h=>h) ?_
 refine Zq (Zr (Zm (Zu (aB aWT rfl) (Zu (ON (j:=7) (n:=2) aBX rfl rfl rfl) ?_))))
 obtain ⟨aCb,aF3,hS⟩:=aO hS
 refine VL.bL (G5 cL aTq (⟨s_1.dO,s_1.dP⟩:pW) aF3) rfl (by decide) ?_
 rintro aD4 rfl
 try dsimp only
 refine Zl ?_
 refine VC.keep (ρ':=[(0,ptr cL 0),(3,ptr jC 0)]) [0,3] rfl ?_
 refine Zq (Zr (Zm (Zu (aB aWU rfl) (Zu (aL nN rfl rfl) ?_))))
 obtain ⟨aRy,aV7,hS⟩:=aO hS
 refine VL.bL (DX cL aD4 s_1.index aV7) rfl (by decide) ?_
 rintro aTt rfl
 try dsimp only
 refine Zl ?_
 refine Zr (Zm (Zu (aB aWV rfl) (Zu (aL kO rfl rfl) ?_)))
 obtain ⟨aSC,aVf,hS⟩:=aO hS
 refine VL.bL (B2 cL aTt s_1.work aVf) rfl (by decide) ?_
 rintro aTx rfl
 try dsimp only
 cases hS
 exact VL.nil (pZ (.inl rfl) rfl ⟨aTx.fB⟩ rfl rfl (by (try dsimp only); exact fQ.out) (by (try dsimp only); exact iY.out))
theorem I1 (cL:Nat) (w_0:eW) (n_1:kP) {r:dU} (hS:Sh.A9 w_0.pl n_1.pl=some r) :
 Ct Tryz.prog 167 [ptr cL 0,.agg (nA n_1).toArray] (n_1.work.ok.and (n_1.index.ok.and (n_1.refs.ok.and (n_1.iC.ok.and (n_1.jF.ok.and (n_1.iD.ok.and (n_1.jG.ok.and n_1.fZ.ok))))))) (Ow.star (Sv.own w_0.fB 5) (bE cL [w_0.fB.val] 242)) (X:=eW) (fun x => .tuple #[]) (fun x=>r=x.pl) (fun x=>Mo.tt) (fun x=>Ow.star (bE cL [x.fB.val] 242) (Sv.own x.fB 5)):=by
 refine Zo Tryz.func167 Tryz.ntmps167 fun c => ?_
 unfold Sh.A9 at hS
 refine Zq (Zr ?_)
 refine kQ (nA n_1) fun jC => ?_
 refine Zl ?_
 refine Zq (Zr (Zm (Zu (aB tP rfl) (Zu (aL kO rfl rfl) ?_))))
 obtain ⟨rE,RO,hS⟩:=aO hS
 refine VL.bL (B2 cL w_0 n_1.work RO) rfl (by decide) ?_
 rintro nV rfl
 try dsimp only
 refine Zl ?_
 refine Zq (Zr (Zm (Zu (aB rO rfl) (Zu (aL nN rfl rfl) ?_))))
 obtain ⟨XB,aJW,hS⟩:=aO hS
 refine VL.bL (DX cL nV n_1.index aJW) rfl (by decide) ?_
 rintro pJ rfl
 try dsimp only
 refine Zl ?_
 refine VC.keep (ρ':=[(0,ptr cL 0),(3,ptr jC 0)]) [0,3] rfl ?_
 refine Zq ?_
 refine l9 [(0,true),(1,true),(2,true),(3,true),(4,true),(5,true),(6,false),(7,false)] ?_
 refine Zw rfl (bB rfl) ?_
 refine Zw rfl (aF rfl) ?_
 refine Zw rfl (aB eR rfl) ?_
 refine Zw rfl (aB lX rfl) ?_
 refine Zw rfl (aL vT rfl rfl) ?_
 refine Zw rfl (eB (s:=n_1.refs) Tryz.underlying63 rfl) ?_
 refine VD.one rfl ?_
 refine VL.lit (α:=Int) (xs:=[.tmp 21]) (vs:=[i64 (n_1.refs.l.length:Int)]) [(n_1.refs.l.length:Int)] Tryz.underlying83 oS (by decide) rfl rfl rfl rfl (by decide) (fun _ _ _ _=>trivial) (by decide) (fun a6L a1l => ?_) (by decide)
 replace hS:=bW a1l hS
 refine jS [(2,ptr cL 0),(1,ptr cL 0)] (aI.cons rfl (aB eR rfl) (aI.cons rfl (aF rfl) aI.nil)) ?_
 refine VD.one rfl ?_
 obtain ⟨HO,RW,hS⟩:=aO hS
 refine VL.bL (gB cL pJ a6L RW) rfl (by decide) ?_
 rintro L2 rfl
 try dsimp only
 refine jH ?_
 refine VD.to (fun _ _ h=>h) ?_
 refine Zq (Zq (Zr (Zu (aB lX rfl) (Zu (aL vT rfl rfl) (Zu (eB (s:=n_1.refs) Tryz.underlying63 rfl) (Zy ?_))))))
 refine VC.keep (ρ':=[(0,ptr cL 0),(3,ptr jC 0),(25,n_1.refs.val),(26,i64 (n_1.refs.l.length:Int)),(27,i64 0)]) [0,3,25,26,27] rfl ?_
 refine Zb ?_
 refine VC.iter (S:=Int×Sv UInt8) (fun sg=>(sg.1,sg.2.l)) (fun sg=>[(0,ptr cL 0),(3,ptr jC 0),(25,n_1.refs.val),(26,i64 (n_1.refs.l.length:Int)),(27,i64 sg.1)]) (fun sg=>Mo.tt) (fun sg=>Ow.star (bE cL [sg.2.val] 242) (Ow.star (bE jC (nA n_1) 72) (Ow.star (Sv.own sg.2 5) (Ow.emp)))) (0,L2.fB) [0,3,25,26,27] hS rfl ?_
 clear hS
 rintro ⟨WX,iZ⟩ m1 y1 hS hK1
 refine Zq (Zr (Zu (dW rfl rfl) ?_))
 refine Zl ?_
 refine Zq ?_
 refine Zc hS (fun h28 hS => ?_) (fun h28 hS => ?_)
 ·
  refine Zk ?_
  refine Zq (Zb (Zq (Zr ?_)))
  obtain ⟨TN,aQt,aQP,hS⟩:=fA hS
  refine Zu (eZ (s:=n_1.refs) Tryz.underlying63 p5 rfl rfl aQt (bH aQt aQP)) (Zu (nX (s:=n_1.refs) aFc rfl rfl aQP) ?_)
  refine gV [str [],i64 0] fun a4p => ?_
  refine Zv (cs':=[str TN.name,i64 TN.dX]) rfl p5 ?_
  refine Zl ?_
  refine Zq ?_
  refine l9 [(0,true),(1,true),(2,true),(3,true),(4,true),(5,false),(6,false)] ?_
  refine Zw rfl (bB rfl) ?_
  refine Zw rfl (aF rfl) ?_
  refine Zw rfl (aB eR rfl) ?_
  refine Zw rfl (aB aIA rfl) ?_
  refine Zw rfl (aL cQ rfl rfl) ?_
  refine VD.one rfl ?_
  refine VL.lit (α:=aK) (xs:=[.tmp 35]) (vs:=[str TN.name]) [TN.name] Tryz.underlying39 xQ (by decide) rfl rfl rfl rfl (by decide) (fun _ _ _ _=>trivial) (by decide) (fun a3A aWw => ?_) (by decide)
  replace hS:=bW aWw hS
  refine jS [(2,ptr cL 0),(1,ptr cL 0)] (aI.cons rfl (aB eR rfl) (aI.cons rfl (aF rfl) aI.nil)) ?_
  refine VD.one rfl ?_
  obtain ⟨aRk,aVH,hS⟩:=aO hS
  refine VL.bL (j8 cL (⟨iZ⟩:eW) a3A aVH) rfl (by decide) ?_
  rintro aTh rfl
  try dsimp only
  refine jH ?_
  refine VD.to (fun _ _ h=>h) ?_
  refine VC.keep (ρ':=[(0,ptr cL 0),(3,ptr jC 0),(25,n_1.refs.val),(26,i64 (n_1.refs.l.length:Int)),(27,i64 WX),(5,ptr a4p 0)]) [0,3,25,26,27,5] rfl ?_
  refine l9 [(0,true),(1,true),(2,true),(3,true),(4,true),(5,false),(6,false)] ?_
  refine Zw rfl (bB rfl) ?_
  refine Zw rfl (aF rfl) ?_
  refine Zw rfl (aB eR rfl) ?_
  refine Zw rfl (aB XR rfl) ?_
  refine Zw rfl (aL fL rfl rfl) ?_
  refine VD.one rfl ?_
  refine VL.lit (α:=Int) (xs:=[.tmp 42]) (vs:=[i64 TN.dX]) [TN.dX] Tryz.underlying83 oS (by decide) rfl rfl rfl rfl (by decide) (fun _ _ _ _=>trivial) (by decide) (fun a3F aXC => ?_) (by decide)
  replace hS:=bW aXC hS
  refine jS [(2,ptr cL 0),(1,ptr cL 0)] (aI.cons rfl (aB eR rfl) (aI.cons rfl (aF rfl) aI.nil)) ?_
  refine VD.one rfl ?_
  obtain ⟨aC8,aF0,hS⟩:=aO hS
  refine VL.bL (gB cL aTh a3F aF0) rfl (by decide) ?_
  rintro aTn rfl
  try dsimp only
  refine jH ?_
  refine VD.to (fun _ _ h=>h) ?_
  refine VC.keep (ρ':=[(0,ptr cL 0),(3,ptr jC 0),(25,n_1.refs.val),(26,i64 (n_1.refs.l.length:Int)),(27,i64 WX)]) [0,3,25,26,27] rfl ?_
  refine Zr ?_
  obtain ⟨b45,hS⟩:=bU hS
  refine Zu (cR rfl rfl b45) (Zm ?_)
  refine VL.jU ((WX+1),aTn.fB) [0,3,25,26,27] (fun _ _ h=>h) (go2 hS hK1) rfl
 replace hS:=iJ hS hK1
 refine Zx ?_
 refine Zq (Zr (Zm (Zu (aB p4 rfl) (Zu (ON (j:=3) (n:=2) aBX rfl rfl rfl) ?_))))
 obtain ⟨aCa,aF2,hS⟩:=aO hS
 refine VL.bL (G5 cL (⟨iZ⟩:eW) (⟨n_1.dO,n_1.dP⟩:pW) aF2) rfl (by decide) ?_
 rintro aD3 rfl
 try dsimp only
 refine Zl ?_
 refine Zq (Zr (Zm (Zu (aB tQ rfl) (Zu (ON (j:=5) (n:=11) aPl rfl rfl rfl) ?_))))
 obtain ⟨aRw,aV5,hS⟩:=aO hS
 refine VL.bL (WE cL aD3 (⟨n_1.mS,n_1.lG,n_1.mU,n_1.iC,n_1.jF,n_1.mT,n_1.jY,n_1.fV,n_1.fW,n_1.iD,n_1.jG⟩:z8) aV5) rfl (by decide) ?_
 rintro aTs rfl
 try dsimp only
 refine Zl ?_
 refine VC.keep (ρ':=[(0,ptr cL 0),(3,ptr jC 0)]) [0,3] rfl ?_
 refine Zq ?_
 refine l9 [(0,true),(1,true),(2,true),(3,true),(4,true),(5,true),(6,false),(7,false)] ?_
 refine Zw rfl (bB rfl) ?_
 refine Zw rfl (aF rfl) ?_
 refine Zw rfl (aB eR rfl) ?_
 refine Zw rfl (aB BL rfl) ?_
 refine Zw rfl (aL M6 rfl rfl) ?_
 refine Zw rfl (qN eN.pl (s:=n_1.fZ) Tryz.underlying70 rfl) ?_
 refine VD.one rfl ?_
 refine VL.lit (α:=Int) (xs:=[.tmp 59]) (vs:=[i64 ((n_1.fZ.l.map eN.pl).length:Int)]) [((n_1.fZ.l.map eN.pl).length:Int)] Tryz.underlying83 oS (by decide) rfl rfl rfl rfl (by decide) (fun _ _ _ _=>trivial) (by decide) (fun aK2 aFt => ?_) (by decide)
 replace hS:=bW aFt hS
 refine jS [(2,ptr cL 0),(1,ptr cL 0)] (aI.cons rfl (aB eR rfl) (aI.cons rfl (aF rfl) aI.nil)) ?_
 refine VD.one rfl ?_
 obtain ⟨aSG,aVj,hS⟩:=aO hS
 refine VL.bL (gB cL aTs aK2 aVj) rfl (by decide) ?_
 rintro aD8 rfl
 try dsimp only
 refine jH ?_
 refine VD.to (fun _ _ h=>h) ?_
 refine Zq (Zr (Zu (aB BL rfl) (Zu (aL M6 rfl rfl) (Zu (qN eN.pl (s:=n_1.fZ) Tryz.underlying70 rfl) (Zy ?_)))))
 refine VC.keep (ρ':=[(0,ptr cL 0),(63,n_1.fZ.val),(64,i64 ((n_1.fZ.l.map eN.pl).length:Int)),(65,i64 0)]) [0,63,64,65] rfl ?_
 refine Zb ?_
 refine VC.iter (S:=Unit) (fun (_:Unit)=>()) (fun (_:Unit)=>[(0,ptr cL 0),(63,n_1.fZ.val),(64,i64 ((n_1.fZ.l.map eN.pl).length:Int)),(65,i64 0)]) (fun (_:Unit)=>Mo.tt) (fun (_:Unit)=>Ow.star (bE cL [aD8.fB.val] 242) (Ow.star (bE jC (nA n_1) 72) (Ow.star (Sv.own aD8.fB 5) (Ow.emp)))) () [0,63,64,65] hS rfl ?_
 clear hS
 rintro _ m1 y1 hS hK1
 refine Zq (Zr (Zu (dW rfl rfl) ?_))
 refine Zl ?_
 refine Zq ?_
 refine Zc hS (fun h66 hS => ?_) (fun h66 hS => ?_)
 ·
  refine Zk ?_
  refine Zq (Zb (Zq (Zr ?_)))
  obtain ⟨YM,aMk,aGC,hS⟩:=EB hS
  refine VL.deep YM.m aGC (fun _ q=>q) ?_
  refine Zu (eZ (s:=n_1.fZ) Tryz.underlying70 aJl rfl rfl aMk (bH aMk aGC)) (Zu (nX (s:=n_1.fZ) aWK rfl rfl aGC) ?_)
  refine gV [i64 0,.slice none 0 0,.slice none 0 0,str []] fun a7V => ?_
  refine Zv (cs':=[i64 YM.base,YM.index.val,YM.work.val,str YM.text]) rfl aJl ?_
  refine Zl ?_
  refine Zq ?_
  cases hS
 replace hS:=iJ hS hK1
 cases hS
 exact VC.exit (pZ (.inl rfl) rfl ⟨aD8.fB⟩ rfl rfl (by (try dsimp only); exact fQ.out) (by (try dsimp only); exact iY.out))
theorem GR (cL:Nat) (w_0:eW) (l_1:Sv aK) {r:dU} (hS:Sh.xF w_0.pl l_1.l=some r) :
 Ct Tryz.prog 275 [ptr cL 0,l_1.val] l_1.ok (Ow.star (Sv.own w_0.fB 5) (bE cL [w_0.fB.val] 242)) (X:=eW) (fun x => .tuple #[]) (fun x=>r=x.pl) (fun x=>Mo.tt) (fun x=>Ow.star (bE cL [x.fB.val] 242) (Sv.own x.fB 5)):=by
 refine Zo Tryz.func275 Tryz.ntmps275 fun c => ?_
 unfold Sh.xF at hS
 refine Zq (Zr (Zm (Zu (aF rfl) (Zu (aB eR rfl) (Zm (Zu (eB (s:=l_1) Tryz.underlying39 rfl) ?_))))))
 refine VL.lit (α:=Int) (xs:=[.tmp 8]) (vs:=[i64 (l_1.l.length:Int)]) [(l_1.l.length:Int)] Tryz.underlying83 oS (by decide) rfl rfl rfl rfl (by decide) (fun _ _ _ _=>trivial) (by decide) (fun a7P a5V => ?_) (by decide)
 replace hS:=bW a5V hS
 obtain ⟨tC,J3,hS⟩:=aO hS
 refine VL.bL (gB cL w_0 a7P J3) rfl (by decide) ?_
 rintro lY rfl
 try dsimp only
 refine Zl ?_
 refine Zr (Zm (Zu (aF rfl) (Zu (aB eR rfl) (Zm ?_))))
 obtain ⟨HL,aBI,hS⟩:=aO hS
 refine VL.bL (j8 cL lY l_1 aBI) rfl (by decide) ?_
 rintro aCF rfl
 try dsimp only
 cases hS
 exact VL.nil (pZ (.inl rfl) rfl ⟨aCF.fB⟩ rfl rfl (by (try dsimp only); exact fQ.out) (by (try dsimp only); exact iY.out))
theorem S3 (cL:Nat) (w_0:eW) (s_1:cF) {r:dU} (hS:Sh.C5 w_0.pl s_1.pl=some r) :
 Ct Tryz.prog 210 [ptr cL 0,.agg (aJ s_1).toArray] (s_1.bG.ok.and (s_1.aY.ok.and (s_1.bP.ok.and (s_1.aP.ok.and (s_1.aT.ok.and (s_1.aQ.ok.and (s_1.aU.ok.and (s_1.bC.ok.and (s_1.bD.ok.and (s_1.bS.ok.and s_1.bJ.ok)))))))))) (Ow.star (Sv.own w_0.fB 5) (bE cL [w_0.fB.val] 242)) (X:=eW) (fun x => .tuple #[]) (fun x=>r=x.pl) (fun x=>Mo.tt) (fun x=>Ow.star (bE cL [x.fB.val] 242) (Sv.own x.fB 5)):=by
 refine Zo Tryz.func210 Tryz.ntmps210 fun c => ?_
 unfold Sh.C5 at hS
 refine Zq (Zr ?_)
 refine kQ (aJ s_1) fun jC => ?_
 refine Zl ?_
 refine Zq (Zr (Zm (Zu (aB eO rfl) (Zu (ON (j:=0) (n:=17) J7 rfl rfl rfl) ?_))))
 obtain ⟨CX,R3,hS⟩:=aO hS
 refine VL.bL (I1 cL w_0 (⟨s_1.bG,s_1.aY,s_1.bP,s_1.aS,s_1.aH,s_1.bK,s_1.bI,s_1.bO,s_1.aP,s_1.aT,s_1.bN,s_1.aZ,s_1.aM,s_1.aN,s_1.aQ,s_1.aU,s_1.bC⟩:kP) R3) rfl (by decide) ?_
 rintro SF rfl
 try dsimp only
 refine Zl ?_
 refine Zq ?_
 refine l9 [(0,true),(1,true),(2,true),(3,true),(4,true),(5,true),(6,false),(7,false)] ?_
 refine Zw rfl (bB rfl) ?_
 refine Zw rfl (aF rfl) ?_
 refine Zw rfl (aB eR rfl) ?_
 refine Zw rfl (aB nT rfl) ?_
 refine Zw rfl (aL s5 rfl rfl) ?_
 refine Zw rfl (qN cG.pl (s:=s_1.bD) Tryz.underlying73 rfl) ?_
 refine VD.one rfl ?_
 refine VL.lit (α:=Int) (xs:=[.tmp 15]) (vs:=[i64 ((s_1.bD.l.map cG.pl).length:Int)]) [((s_1.bD.l.map cG.pl).length:Int)] Tryz.underlying83 oS (by decide) rfl rfl rfl rfl (by decide) (fun _ _ _ _=>trivial) (by decide) (fun SU aB6 => ?_) (by decide)
 replace hS:=bW aB6 hS
 refine jS [(2,ptr cL 0),(1,ptr cL 0)] (aI.cons rfl (aB eR rfl) (aI.cons rfl (aF rfl) aI.nil)) ?_
 refine VD.one rfl ?_
 obtain ⟨HM,RU,hS⟩:=aO hS
 refine VL.bL (gB cL SF SU RU) rfl (by decide) ?_
 rintro LZ rfl
 try dsimp only
 refine jH ?_
 refine VD.to (fun _ _ h=>h) ?_
 refine VC.keep (ρ':=[(0,ptr cL 0),(3,ptr jC 0)]) [0,3] rfl ?_
 refine Zq (Zq (Zr (Zu (aB nT rfl) (Zu (aL s5 rfl rfl) (Zu (qN cG.pl (s:=s_1.bD) Tryz.underlying73 rfl) (Zy ?_))))))
 refine Zb ?_
 refine VC.iter (S:=Int×Sv UInt8) (fun sg=>(sg.1,sg.2.l)) (fun sg=>[(0,ptr cL 0),(3,ptr jC 0),(19,s_1.bD.val),(20,i64 ((s_1.bD.l.map cG.pl).length:Int)),(21,i64 sg.1)]) (fun sg=>Mo.tt) (fun sg=>Ow.star (bE cL [sg.2.val] 242) (Ow.star (bE jC (aJ s_1) 77) (Ow.star (Sv.own sg.2 5) (Ow.emp)))) (0,LZ.fB) [0,3,19,20,21] hS rfl ?_
 clear hS
 rintro ⟨O9,aLM⟩ m1 y1 hS hK1
 refine Zq (Zr (Zu (dW rfl rfl) ?_))
 refine Zl ?_
 refine Zq ?_
 refine Zc hS (fun h22 hS => ?_) (fun h22 hS => ?_)
 ·
  refine Zk ?_
  refine Zq (Zb (Zq (Zr ?_)))
  obtain ⟨yW,aQq,aJz,hS⟩:=EB hS
  refine VL.deep yW.m aJz (fun _ q=>q) ?_
  refine Zu (eZ (s:=s_1.bD) Tryz.underlying73 aAI rfl rfl aQq (bH aQq aJz)) (Zu (nX (s:=s_1.bD) aPn rfl rfl aJz) ?_)
  refine gV [.slice none 0 0,.slice none 0 0,i64 0,str []] fun aU0 => ?_
  refine Zv (cs':=[yW.tree.val,yW.parents.val,i64 yW.time,str yW.text]) rfl aAI ?_
  refine Zl ?_
  refine Zq (Zr (Zm (Zu (aB aL7 rfl) (Zu (aL kO rfl rfl) ?_))))
  obtain ⟨BB,FR,hS⟩:=aO hS
  refine VL.bL (B2 cL (⟨aLM⟩:eW) yW.tree FR) rfl (by decide) ?_
  rintro aT0 rfl
  try dsimp only
  refine Zl ?_
  refine VC.keep (ρ':=[(0,ptr cL 0),(3,ptr jC 0),(19,s_1.bD.val),(20,i64 ((s_1.bD.l.map cG.pl).length:Int)),(21,i64 O9),(5,ptr aU0 0)]) [0,3,19,20,21,5] rfl ?_
  refine Zq ?_
  refine l9 [(0,true),(1,true),(2,true),(3,true),(4,true),(5,true),(6,false),(7,false)] ?_
  refine Zw rfl (bB rfl) ?_
  refine Zw rfl (aF rfl) ?_
  refine Zw rfl (aB eR rfl) ?_
  refine Zw rfl (aB aB2 rfl) ?_
  refine Zw rfl (aL HR rfl rfl) ?_
  refine Zw rfl (eB (s:=yW.parents) Tryz.underlying83 rfl) ?_
  refine VD.one rfl ?_
  refine VL.lit (α:=Int) (xs:=[.tmp 34]) (vs:=[i64 (yW.parents.l.length:Int)]) [(yW.parents.l.length:Int)] Tryz.underlying83 oS (by decide) rfl rfl rfl rfl (by decide) (fun _ _ _ _=>trivial) (by decide) (fun a2z aWv => ?_) (by decide)
  replace hS:=bW aWv hS
  refine jS [(2,ptr cL 0),(1,ptr cL 0)] (aI.cons rfl (aB eR rfl) (aI.cons rfl (aF rfl) aI.nil)) ?_
  refine VD.one rfl ?_
  obtain ⟨aRi,aVC,hS⟩:=aO hS
  refine VL.bL (gB cL aT0 a2z aVC) rfl (by decide) ?_
  rintro aTe rfl
  try dsimp only
  refine jH ?_
  refine VD.to (fun _ _ h=>h) ?_
  refine VC.keep (ρ':=[(0,ptr cL 0),(3,ptr jC 0),(19,s_1.bD.val),(20,i64 ((s_1.bD.l.map cG.pl).length:Int)),(21,i64 O9),(5,ptr aU0 0)]) [0,3,19,20,21,5] rfl ?_
  refine Zq ?_
  refine l9 [(0,true),(1,true),(2,true),(3,true),(4,true),(5,false)] ?_
  refine Zw rfl (bB rfl) ?_
  refine Zw rfl (aF rfl) ?_
  refine Zw rfl (aB eR rfl) ?_
  refine Zw rfl (aB aB2 rfl) ?_
  refine Zw rfl (aL HR rfl rfl) ?_
  refine VD.one rfl ?_
  obtain ⟨aRo,aVO,hS⟩:=aO hS
  refine VL.bL (gB cL aTe yW.parents aVO) rfl (by decide) ?_
  rintro aTl rfl
  try dsimp only
  refine jH ?_
  refine VD.to (fun _ _ h=>h) ?_
  refine Zq ?_
  refine l9 [(0,true),(1,true),(2,true),(3,true),(4,true),(5,false),(6,false)] ?_
  refine Zw rfl (bB rfl) ?_
  refine Zw rfl (aF rfl) ?_
  refine Zw rfl (aB eR rfl) ?_
  refine Zw rfl (aB aWX rfl) ?_
  refine Zw rfl (aL fL rfl rfl) ?_
  refine VD.one rfl ?_
  refine VL.lit (α:=Int) (xs:=[.tmp 47]) (vs:=[i64 yW.time]) [yW.time] Tryz.underlying83 oS (by decide) rfl rfl rfl rfl (by decide) (fun _ _ _ _=>trivial) (by decide) (fun a3I aXF => ?_) (by decide)
  replace hS:=bW aXF hS
  refine jS [(2,ptr cL 0),(1,ptr cL 0)] (aI.cons rfl (aB eR rfl) (aI.cons rfl (aF rfl) aI.nil)) ?_
  refine VD.one rfl ?_
  obtain ⟨aCa,aF2,hS⟩:=aO hS
  refine VL.bL (gB cL aTl a3I aF2) rfl (by decide) ?_
  rintro aD3 rfl
  try dsimp only
  refine jH ?_
  refine VD.to (fun _ _ h=>h) ?_
  refine VC.keep (ρ':=[(0,ptr cL 0),(3,ptr jC 0),(19,s_1.bD.val),(20,i64 ((s_1.bD.l.map cG.pl).length:Int)),(21,i64 O9),(5,ptr aU0 0)]) [0,3,19,20,21,5] rfl ?_
  refine l9 [(0,true),(1,true),(2,true),(3,true),(4,true),(5,false),(6,false)] ?_
  refine Zw rfl (bB rfl) ?_
  refine Zw rfl (aF rfl) ?_
  refine Zw rfl (aB eR rfl) ?_
  refine Zw rfl (aB aWY rfl) ?_
  refine Zw rfl (aL cQ rfl rfl) ?_
  refine VD.one rfl ?_
  refine VL.lit (α:=aK) (xs:=[.tmp 54]) (vs:=[str yW.text]) [yW.text] Tryz.underlying39 xQ (by decide) rfl rfl rfl rfl (by decide) (fun _ _ _ _=>trivial) (by decide) (fun a3N aXM => ?_) (by decide)
  replace hS:=bW aXM hS
  refine jS [(2,ptr cL 0),(1,ptr cL 0)] (aI.cons rfl (aB eR rfl) (aI.cons rfl (aF rfl) aI.nil)) ?_
  refine VD.one rfl ?_
  obtain ⟨aCc,aVd,hS⟩:=aO hS
  refine VL.bL (j8 cL aD3 a3N aVd) rfl (by decide) ?_
  rintro aTv rfl
  try dsimp only
  refine jH ?_
  refine VD.to (fun _ _ h=>h) ?_
  refine VC.keep (ρ':=[(0,ptr cL 0),(3,ptr jC 0),(19,s_1.bD.val),(20,i64 ((s_1.bD.l.map cG.pl).length:Int)),(21,i64 O9)]) [0,3,19,20,21] rfl ?_
  refine Zr ?_
  obtain ⟨b57,hS⟩:=bU hS
  refine Zu (cR rfl rfl b57) (Zm ?_)
  refine VL.jU ((O9+1),aTv.fB) [0,3,19,20,21] (fun _ _ h=>h) (go2 hS hK1) rfl
 replace hS:=iJ hS hK1
 refine Zx ?_
 refine Zq (Zr (Zm (Zu (aB US rfl) (Zu (aB aL6 rfl) (Zu (aL zC rfl rfl) ?_)))))
 obtain ⟨aSH,aVl,hS⟩:=aO hS
 refine VL.bL (GR cL (⟨aLM⟩:eW) s_1.bS aVl) rfl (by decide) ?_
 rintro aUA rfl
 try dsimp only
 refine Zl ?_
 refine VC.keep (ρ':=[(0,ptr cL 0),(3,ptr jC 0)]) [0,3] rfl ?_
 refine Zq (Zr (Zm (Zu (aB US rfl) (Zu (aB aWW rfl) (Zu (aL zC rfl rfl) ?_)))))
 obtain ⟨aSL,aVo,hS⟩:=aO hS
 refine VL.bL (GR cL aUA s_1.bJ aVo) rfl (by decide) ?_
 rintro aUB rfl
 try dsimp only
 refine Zl ?_
 refine l9 [(0,true),(1,true),(2,true),(3,true),(4,true),(5,false),(6,false)] ?_
 refine Zw rfl (bB rfl) ?_
 refine Zw rfl (aF rfl) ?_
 refine Zw rfl (aB eR rfl) ?_
 refine Zw rfl (aB aB1 rfl) ?_
 refine Zw rfl (aL fL rfl rfl) ?_
 refine VD.one rfl ?_
 refine VL.lit (α:=Int) (xs:=[.tmp 72]) (vs:=[i64 s_1.time]) [s_1.time] Tryz.underlying83 oS (by decide) rfl rfl rfl rfl (by decide) (fun _ _ _ _=>trivial) (by decide) (fun a3S aXW => ?_) (by decide)
 replace hS:=bW aXW hS
 refine jS [(2,ptr cL 0),(1,ptr cL 0)] (aI.cons rfl (aB eR rfl) (aI.cons rfl (aF rfl) aI.nil)) ?_
 refine VD.one rfl ?_
 obtain ⟨aSP,aVv,hS⟩:=aO hS
 refine VL.bL (gB cL aUB a3S aVv) rfl (by decide) ?_
 rintro aUC rfl
 try dsimp only
 refine jH ?_
 cases hS
 exact VD.nil (pZ (.inl rfl) rfl ⟨aUC.fB⟩ rfl rfl (by (try dsimp only); exact fQ.out) (by (try dsimp only); exact iY.out))
theorem nZ (aA:Sv UInt8) {r:List UInt8} (hS:Sh.jK aA.l=some r) :
 Ct Tryz.prog 55 [aA.val] aA.ok (Ow.emp) (X:=Sv UInt8) (fun x=>x.val) (fun x=>r=x.l) (fun x=>Mo.tt) (fun x=>Sv.own x 5):=by
 refine Zo Tryz.func55 Tryz.ntmps55 fun c => ?_
 unfold Sh.jK at hS
 refine Zq (Zr (Zy ?_))
 refine Zq (Zq (Zr (Zm (Zu (IZ (s:=aA) Tryz.underlying35 rfl) ?_))))
 refine Zl ?_
 refine VC.slnil (s:=aA) rfl (fun h4 => ?_) ?_
 ·
  have hS:(some [])=some r:=by
    simp [lt,gd,h4] at hS ⊢
    try exact hS
  refine Zq (Zr (Zy ?_))
  refine VC.nU (⟨none,0,[]⟩:Sv UInt8) 5 ⟨rfl,rfl⟩ ?_
  cases hS
  exact VC.ret (Z1 ⟨none,0,[]⟩)
 refine Zk ?_
 refine Zq (Zr ?_)
 refine VL.aEE (α:=UInt8) Tryz.underlying35 a5M (by decide) (fun BX s6 zE => ?_)
 refine VL.nU BX 5 ⟨zE,s6⟩ ?_
 replace hS:=bW s6 hS
 refine Zm ?_
 obtain ⟨b7,hS⟩:=bU hS
 refine VL.app (s:=BX) (r:=aA) Tryz.underlying35 aFe (by decide) rfl Fo.out (wM b7) (wN b7 (by decide)) (by decide) (fun MB CY => ?_)
 replace hS:=bW CY hS
 refine Zy ?_
 cases hS
 exact VC.ret (Z1 MB)
theorem vG (aA:Sv UInt8) {r:List UInt8} (hS:Sh.mF aA.l=some r) :
 Ct Tryz.prog 54 [aA.val] aA.ok (Ow.emp) (X:=Sv UInt8) (fun x=>x.val) (fun x=>r=x.l) (fun x=>x.ok) (fun x=>Ow.emp):=by
 refine Zo Tryz.func54 Tryz.ntmps54 fun c => ?_
 unfold Sh.mF at hS
 refine Zq (Zr (Zy ?_))
 refine Zq (Zr (Zy ?_))
 refine Zu (eB (s:=aA) Tryz.underlying35 rfl) (Zm (Zu (eB (s:=aA) Tryz.underlying35 rfl) ?_))
 obtain ⟨b8,hS⟩:=bU hS
 refine VL.WG Tryz.underlying35 aLh rfl rfl rfl b8.1 (b8.2) (by decide) fun BY tU => ?_
 replace hS:=bW tU hS
 refine Zy ?_
 cases hS
 exact VC.ret (Z1 BY)
theorem JU (j9:Nat) (vA:eW) {r:List UInt8} (hS:Sh.CB vA.pl=some r) :
 Ct Tryz.prog 93 [ptr j9 0] Mo.tt (Ow.star (Sv.own vA.fB 5) (bE j9 [vA.fB.val] 242)) (X:=Sv UInt8) (fun x=>x.val) (fun x=>r=x.l) (fun x=>x.ok) (fun x=>Ow.star (bE j9 [vA.fB.val] 242) (Sv.own vA.fB 5)):=by
 refine Zo Tryz.func93 Tryz.ntmps93 fun c => ?_
 unfold Sh.CB at hS
 refine Zq (Zr (Zy ?_))
 refine Zq (Zr (Zm (Zu (aF rfl) (Zu (aB sE rfl) (Zu (aL qR rfl rfl) ?_)))))
 obtain ⟨jO,mD,hS⟩:=aO hS
 refine VL.aJF (nZ vA.fB mD) rfl (by decide) ?_
 rintro lJ rfl
 try dsimp only
 refine VL.shut lJ 5 (fun _ _ _ _=>trivial) ?_
 obtain ⟨lR,y9,hS⟩:=aO hS
 refine VL.dK (vG lJ y9) rfl (by decide) ?_
 rintro CL rfl
 try dsimp only
 refine Zy ?_
 cases hS
 exact VC.ret (Z1 CL)
theorem aDk (aA:cF) {r:List UInt8} (hS:Sh.OS aA.pl=some r) :
 Ct Tryz.prog 156 [.agg (aJ aA).toArray] (aA.bG.ok.and (aA.aY.ok.and (aA.bP.ok.and (aA.aP.ok.and (aA.aT.ok.and (aA.aQ.ok.and (aA.aU.ok.and (aA.bC.ok.and (aA.bD.ok.and (aA.bS.ok.and aA.bJ.ok)))))))))) (Ow.emp) (X:=Sv UInt8) (fun x=>x.val) (fun x=>r=x.l) (fun x=>x.ok) (fun x=>Ow.emp):=by
 refine Zo Tryz.func156 Tryz.ntmps156 fun c => ?_
 unfold Sh.OS at hS
 refine Zq (Zr ?_)
 refine kQ (aJ aA) fun jN => ?_
 refine Zy ?_
 refine Zq (Zr ?_)
 refine gV [.slice none 0 0] fun lI => ?_
 refine Zl ?_
 refine Zq (Zr (Zu (cJ cI rfl rfl) ?_))
 refine VL.nU (⟨none,0,[]⟩:Sv UInt8) 5 ⟨rfl,rfl⟩ ?_
 refine VL.SI lI (cs':=[(⟨none,0,[]⟩:Sv UInt8).val]) rfl ?_
 obtain ⟨uK,UK,hS⟩:=aO hS
 refine VL.bL (S3 lI (⟨(⟨none,0,[]⟩:Sv UInt8)⟩:eW) aA UK) rfl (by decide) ?_
 rintro eX rfl
 try dsimp only
 refine Zl ?_
 refine Zq (Zr (Zu (aB eR rfl) ?_))
 obtain ⟨y7,aAC,hS⟩:=aO hS
 refine VL.bL (JU lI eX aAC) rfl (by decide) ?_
 rintro aKV rfl
 try dsimp only
 refine Zy ?_
 cases hS
 exact VC.ret (Z1 aKV)
theorem aJN (b_0:Sv UInt8) {r:bT} (hS:Sh.aCy b_0.l=some r) :
 Ct Tryz.prog 98 [b_0.val] b_0.ok (Ow.emp) (X:=Nat×cX) (fun x=>ptr x.1 0) (fun x=>r=x.2.pl) (fun x=>(x.2.b.ok.and x.2.err.ok)) (fun x=>bE x.1 [x.2.b.val,i64 x.2.at_,x.2.err.val] 221):=by
 refine Zo Tryz.func98 Tryz.ntmps98 fun c => ?_
 unfold Sh.aCy at hS
 refine Zq (Zr (Zy ?_))
 refine Zq (Zr (Zm ?_))
 obtain ⟨a4j,a5B,hS⟩:=aO hS
 refine VL.bL (nZ b_0 a5B) rfl (by decide) ?_
 rintro X1 rfl
 try dsimp only
 refine Zu (fR (vs:=[(0,X1.val)]) (cs := #[X1.val,i64 0,.nilIface]) rfl (by kernel_rfl)) ?_
 refine kQ [X1.val,i64 0,.nilIface] fun CW => ?_
 refine Zy ?_
 refine VC.shut X1 5 (fun _ _ _ _=>trivial) ?_
 refine VC.SI CW (cs':=[X1.val,i64 0,(Er.nil).val]) rfl ?_
 cases hS
 exact VC.ret (Z1 (CW,⟨X1,0,(Er.nil)⟩))
end Go.Proofs.YtedhnpjkoeblnaaGreatDoor
end
