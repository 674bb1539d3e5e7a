/- Part of the proofs of: For every command it is told whether it may be and why not, and in words, and back, as far as its verb has it. -/
import Derived.Shelf.Strings.OnBuilder
import Derived.Shelf.LaysM
import Derived.Shelf.Strconv.Itoa3
import Derived.Shelf.Sort.Plain
import Derived.Shelf.Slices.CompactS
import Derived.Shelf.Slices.In.SortNone
import Derived.Test.YtpmhinamcndmeaaGreatDoorProg
import Derived.Test.YtpmhinamcndmeaaGreatDoorRows
import Derived.Test.YtpmhinamcndmeaaGreatDoorCA
set_option linter.unusedVariables false
set_option linter.unusedSimpArgs false
set_option linter.unusedSectionVars false
section
set_option linter.unusedVariables false
namespace Go.S.Sh
open Go
noncomputable def internal_stringslite_IndexByte (s_0 : Str) (c_1 : Int) : Option Int :=
 some (ixB s_0 c_1)
noncomputable def internal_stringslite_Index (s_0 : Str) (substr_1 : Str) : Option Int :=
 jn (fun (x16_1 : Bool) =>
 if x16_1 = true then (some 0)
 else (if (substr_1.length : Int) = 1 then ((at_ substr_1 0).bind (fun z29_3 =>
 (Sh.internal_stringslite_IndexByte s_0 (z29_3.toNat : Int)).bind (fun y30_4 =>
 some y30_4)))
 else (if (s_0.length : Int) ≤ (substr_1.length : Int) then (some (-1))
 else (none)))) (fun k2 => if (substr_1.length : Int) = 0 then (k2 true)
 else (k2 (decide (substr_1 = s_0))))
noncomputable def internal_stringslite_Cut (s_0 : Str) (sep_1 : Str) : Option (Str × Str × Bool) :=
 (Sh.internal_stringslite_Index s_0 sep_1).bind (fun y10_1 =>
 if 0 ≤ y10_1 then (gd ((0 : Int) ≤ y10_1 ∧ y10_1 ≤ (s_0.length : Int)) (
 lt (s_0.take y10_1.toNat) (fun y15_2 =>
 gd (I64 (y10_1 + (sep_1.length : Int))) (
 gd ((0 : Int) ≤ (y10_1 + (sep_1.length : Int)) ∧ (y10_1 + (sep_1.length : Int)) ≤ (s_0.length : Int)) (
 lt (s_0.drop (y10_1 + (sep_1.length : Int)).toNat) (fun y21_3 =>
 some (y15_2, y21_3, true)))))))
 else (some (s_0, [], false)))
noncomputable def strings_Cut (s_0 : Str) (sep_1 : Str) : Option (Str × Str × Bool) :=
 (Sh.internal_stringslite_Cut s_0 sep_1).bind (fun y9_1 =>
 some (y9_1.1, y9_1.2.1, y9_1.2.2))
noncomputable def unicode_utf8_RuneCountInString (s_0 : Str) : Option Int :=
 none
noncomputable def unicode_utf8_decodeRuneInStringSlow (s_0 : Str) : Option (Int × Int) :=
 if (s_0.length : Int) < 1 then (some (65533, 0))
 else ((at_ s_0 0).bind (fun z18_1 =>
 none))
noncomputable def unicode_utf8_DecodeRuneInString (s_0 : Str) : Option (Int × Int) :=
 jn (fun (x10_1 : Bool) =>
 if x10_1 = true then ((at_ s_0 0).bind (fun z12_4 =>
 some ((z12_4.toNat : Int), 1)))
 else ((Sh.unicode_utf8_decodeRuneInStringSlow s_0).bind (fun y16_5 =>
 some (y16_5.1, y16_5.2)))) (fun k2 => if s_0 = [] then (k2 false)
 else ((at_ s_0 0).bind (fun z8_3 =>
 k2 (decide ((z8_3.toNat : Int) < 128)))))
noncomputable def strings_explode (s_0 : Str) (n_1 : Int) : Option (List Str) :=
 (Sh.unicode_utf8_RuneCountInString s_0).bind (fun y11_1 =>
 jn (fun (n1_2 : Int) =>
 gd ((0 : Int) ≤ n1_2 ∧ n1_2 ≤ 4294967296) (
 lt (List.replicate n1_2.toNat []) (fun y21_7 =>
 iter (fun ((s0_8, a6_9, i7_10) : Str × List Str × Int) =>
 gd (I64 (n1_2 - 1)) (
 if i7_10 < (n1_2 - 1) then ((Sh.unicode_utf8_DecodeRuneInString s0_8).bind (fun y30_11 =>
 gd ((0 : Int) ≤ y30_11.2 ∧ y30_11.2 ≤ (s0_8.length : Int)) (
 lt (s0_8.take y30_11.2.toNat) (fun y37_12 =>
 (at_ a6_9 i7_10).bind (fun z38_13 =>
 lt (a6_9.set i7_10.toNat y37_12) (fun ys6_15 =>
 gd ((0 : Int) ≤ y30_11.2 ∧ y30_11.2 ≤ (s0_8.length : Int)) (
 lt (s0_8.drop y30_11.2.toNat) (fun y41_16 =>
 gd (I64 (i7_10 + 1)) (
 go (y41_16, ys6_15, (i7_10 + 1)))))))))))
 else (up (if 0 < n1_2 then (gd (I64 (n1_2 - 1)) (
 (at_ a6_9 (n1_2 - 1)).bind (fun z48_17 =>
 lt (a6_9.set (n1_2 - 1).toNat s0_8) (fun ys5_19 =>
 some ys5_19))))
 else (some a6_9))))) (s_0, y21_7, 0)))) (fun k3 => jn (fun (x18_4 : Bool) =>
 if x18_4 = true then (k3 y11_1)
 else (k3 n_1)) (fun k5 => if n_1 < 0 then (k5 true)
 else (k5 (decide (y11_1 < n_1))))))
noncomputable def strings_Index (s_0 : Str) (substr_1 : Str) : Option Int :=
 (Sh.internal_stringslite_Index s_0 substr_1).bind (fun y7_1 =>
 some y7_1)
noncomputable def strings_Count (s_0 : Str) (substr_1 : Str) : Option Int :=
 if (substr_1.length : Int) = 0 then ((Sh.unicode_utf8_RuneCountInString s_0).bind (fun y11_1 =>
 gd (I64 (y11_1 + 1)) (
 some (y11_1 + 1))))
 else (if (substr_1.length : Int) = 1 then ((at_ substr_1 0).bind (fun z18_2 =>
 some (cntB s_0 (z18_2.toNat : Int))))
 else (iter (fun ((s0_3, n5_4) : Str × Int) =>
 (Sh.strings_Index s0_3 substr_1).bind (fun y22_5 =>
 if y22_5 = (-1) then (up (some n5_4))
 else (gd (I64 (n5_4 + 1)) (
 gd (I64 (y22_5 + (substr_1.length : Int))) (
 gd ((0 : Int) ≤ (y22_5 + (substr_1.length : Int)) ∧ (y22_5 + (substr_1.length : Int)) ≤ (s0_3.length : Int)) (
 lt (s0_3.drop (y22_5 + (substr_1.length : Int)).toNat) (fun y33_6 =>
 go (y33_6, (n5_4 + 1))))))))) (s_0, 0)))
noncomputable def strings_genSplit (s_0 : Str) (sep_1 : Str) (sepSave_2 : Int) (n_3 : Int) : Option (List Str) :=
 if n_3 = 0 then (some [])
 else (if sep_1 = [] then ((Sh.strings_explode s_0 n_3).bind (fun y18_1 =>
 some y18_1))
 else (jn (fun (n3_2 : Int) =>
 gd (I64 ((s_0.length : Int) + 1)) (
 gd ((0 : Int) ≤ (min n3_2 ((s_0.length : Int) + 1)) ∧ (min n3_2 ((s_0.length : Int) + 1)) ≤ 4294967296) (
 lt (List.replicate (min n3_2 ((s_0.length : Int) + 1)).toNat []) (fun y31_6 =>
 gd (I64 ((min n3_2 ((s_0.length : Int) + 1)) - 1)) (
 jn (fun ((s0_7, a9_8, i10_9) : Str × List Str × Int) =>
 (at_ a9_8 i10_9).bind (fun z61_20 =>
 lt (a9_8.set i10_9.toNat s0_7) (fun ys4_22 =>
 gd (I64 (i10_9 + 1)) (
 gd ((0 : Int) ≤ (i10_9 + 1) ∧ (i10_9 + 1) ≤ (ys4_22.length : Int)) (
 lt (ys4_22.take (i10_9 + 1).toNat) (fun y65_24 =>
 some y65_24)))))) (fun k10 => iter (fun ((s0_11, a9_12, i10_13) : Str × List Str × Int) =>
 if i10_13 < ((min n3_2 ((s_0.length : Int) + 1)) - 1) then ((Sh.strings_Index s0_11 sep_1).bind (fun y39_14 =>
 if y39_14 < 0 then (up (k10 (s0_11, a9_12, i10_13)))
 else (gd (I64 (y39_14 + sepSave_2)) (
 gd ((0 : Int) ≤ (y39_14 + sepSave_2) ∧ (y39_14 + sepSave_2) ≤ (s0_11.length : Int)) (
 lt (s0_11.take (y39_14 + sepSave_2).toNat) (fun y48_15 =>
 (at_ a9_12 i10_13).bind (fun z49_16 =>
 lt (a9_12.set i10_13.toNat y48_15) (fun ys8_18 =>
 gd (I64 (y39_14 + (sep_1.length : Int))) (
 gd ((0 : Int) ≤ (y39_14 + (sep_1.length : Int)) ∧ (y39_14 + (sep_1.length : Int)) ≤ (s0_11.length : Int)) (
 lt (s0_11.drop (y39_14 + (sep_1.length : Int)).toNat) (fun y55_19 =>
 gd (I64 (i10_13 + 1)) (
 go (y55_19, ys8_18, (i10_13 + 1))))))))))))))
 else (up (k10 (s0_11, a9_12, i10_13)))) (s_0, y31_6, 0))))))) (fun k3 => if n_3 < 0 then ((Sh.strings_Count s_0 sep_1).bind (fun y23_4 =>
 gd (I64 (y23_4 + 1)) (
 k3 (y23_4 + 1))))
 else (k3 n_3))))
noncomputable def strings_Split (s_0 : Str) (sep_1 : Str) : Option (List Str) :=
 (Sh.strings_genSplit s_0 sep_1 0 (-1)).bind (fun y7_1 =>
 some y7_1)
noncomputable def cmd_first (w_0 : List Str) : Option Str :=
 if (w_0.length : Int) = 0 then (some [])
 else ((at_ w_0 0).bind (fun z7_1 =>
 some z7_1))
noncomputable def cmd_digit (s_0 : Str) : Option Bool :=
 if s_0 = [] then (some false)
 else ((at_ s_0 0).bind (fun z7_1 =>
 if 48 ≤ (z7_1.toNat : Int) then ((at_ s_0 0).bind (fun z12_2 =>
 some (decide ((z12_2.toNat : Int) ≤ 57))))
 else (some false)))
noncomputable def cmd_count (s_0 : Str) : Option (Int × Bool) :=
 jn (fun (x23_1 : Bool) =>
 if x23_1 = true then (some (0, false))
 else (gd (s_0.length ≤ 4294967296) (
 lt s_0 (fun y25_5 =>
 iter (fun ((n4_6, x27_7) : Int × Int) =>
 if x27_7 < (y25_5.length : Int) then ((at_ y25_5 x27_7).bind (fun z29_8 =>
 jn (fun (x36_9 : Bool) =>
 if x36_9 = true then (up (some (0, false)))
 else (gd (I64 (10 * n4_6)) (
 gd (0 ≤ (z29_8.toNat : Int) - 48 ∧ (z29_8.toNat : Int) - 48 ≤ 255) (
 gd (I64 ((10 * n4_6) + (IntKind.wrap .i64 ((z29_8.toNat : Int) - 48)))) (
 gd (I64 (x27_7 + 1)) (
 go (((10 * n4_6) + (IntKind.wrap .i64 ((z29_8.toNat : Int) - 48))), (x27_7 + 1)))))))) (fun k10 => if (z29_8.toNat : Int) < 48 then (k10 true)
 else (k10 (decide (57 < (z29_8.toNat : Int)))))))
 else (up (some (n4_6, (decide (n4_6 ≤ 1000000)))))) (0, 0))))) (fun k2 => if s_0 = [] then (k2 true)
 else (if 7 < (s_0.length : Int) then (k2 true)
 else (if 1 < (s_0.length : Int) then ((at_ s_0 0).bind (fun z20_3 =>
 k2 (decide ((z20_3.toNat : Int) = 48))))
 else (k2 false))))
noncomputable def cmd_words (c_0 : CmdCmdP) (w_1 : List Str) : Option (Bool × CmdCmdP) :=
 jn (fun ((w1_1, c4_2) : List Str × Bool) =>
 jn (fun ((want5_11, ok6_12, c1_13, c2_14) : Int × Bool × Str × Int) =>
 if ok6_12 = true then (some ((decide ((w1_1.length : Int) = want5_11)), ⟨c_0.verb, c1_13, c2_14, c_0.text, c4_2, c_0.todo⟩))
 else (some (false, ⟨c_0.verb, c1_13, c2_14, c_0.text, c4_2, c_0.todo⟩))) (fun k15 => jn (fun (_ : Unit) =>
 (Sh.cmd_first w1_1).bind (fun y120_32 =>
 (Sh.cmd_count y120_32).bind (fun y121_33 =>
 k15 (1, y121_33.2, c_0.name, y121_33.1)))) (fun k16 => jn (fun (_ : Unit) =>
 (Sh.cmd_first w1_1).bind (fun y93_27 =>
 jn (fun (x106_28 : Bool) =>
 if x106_28 = true then ((at_ w1_1 1).bind (fun z110_30 =>
 (Sh.cmd_count z110_30).bind (fun y112_31 =>
 k15 (2, y112_31.2, y93_27, y112_31.1))))
 else (k15 (2, false, y93_27, c_0.n))) (fun k29 => if (w1_1.length : Int) = 2 then (k29 (!decide (y93_27 = [])))
 else (k29 false)))) (fun k17 => jn (fun (_ : Unit) =>
 (Sh.cmd_first w1_1).bind (fun y70_22 =>
 (Sh.cmd_digit y70_22).bind (fun y71_23 =>
 if y71_23 = true then ((Sh.cmd_first w1_1).bind (fun y75_24 =>
 (Sh.cmd_count y75_24).bind (fun y76_25 =>
 k15 (1, y76_25.2, c_0.name, y76_25.1))))
 else ((Sh.cmd_first w1_1).bind (fun y83_26 =>
 k15 (1, (!decide (y83_26 = [])), y83_26, c_0.n)))))) (fun k18 => jn (fun (_ : Unit) =>
 (Sh.cmd_first w1_1).bind (fun y61_21 =>
 k15 (1, (!decide (y61_21 = [])), y61_21, c_0.n))) (fun k19 => if c_0.verb = [97, 100, 100] then (if (w1_1.length : Int) = 0 then (k15 (0, true, c_0.name, c_0.n))
 else (k19 ()))
 else (jn (fun (_ : Unit) =>
 if c_0.verb = [115, 119, 105, 116, 99, 104] then (k18 ())
 else (if c_0.verb = [114, 101, 115, 101, 116] then (k17 ())
 else (if c_0.verb = [112, 105, 99, 107] then (if c_0.verb = [112, 105, 99, 107] then (k16 ())
 else (k15 (0, true, c_0.name, c_0.n)))
 else (if c_0.verb = [114, 101, 118, 101, 114, 116] then (if c_0.verb = [114, 101, 118, 101, 114, 116] then (k16 ())
 else (k15 (0, true, c_0.name, c_0.n)))
 else (if c_0.verb = [112, 111, 112] then (if c_0.verb = [112, 111, 112] then (k16 ())
 else (k15 (0, true, c_0.name, c_0.n)))
 else (if c_0.verb = [97, 112, 112, 108, 121] then (if c_0.verb = [97, 112, 112, 108, 121] then (k16 ())
 else (k15 (0, true, c_0.name, c_0.n)))
 else (if c_0.verb = [115, 104, 101, 108, 118, 101] then (if c_0.verb = [115, 104, 101, 108, 118, 101] then (k16 ())
 else (k15 (0, true, c_0.name, c_0.n)))
 else (if c_0.verb = [114, 101, 98, 97, 115, 101] then (k16 ())
 else (k15 (0, true, c_0.name, c_0.n)))))))))) (fun k20 => if c_0.verb = [114, 109] then (if c_0.verb = [114, 109] then (k19 ())
 else (k20 ()))
 else (if c_0.verb = [98, 114, 97, 110, 99, 104] then (if c_0.verb = [98, 114, 97, 110, 99, 104] then (k19 ())
 else (k20 ()))
 else (if c_0.verb = [100, 101, 108, 101, 116, 101] then (if c_0.verb = [100, 101, 108, 101, 116, 101] then (k19 ())
 else (k20 ()))
 else (if c_0.verb = [109, 101, 114, 103, 101] then (k19 ())
 else (k20 ())))))))))))) (fun k3 => jn (fun (x11_4 : Bool) =>
 if x11_4 = true then (jn (fun (x25_6 : Bool) =>
 if x25_6 = true then (gd (I64 ((w_1.length : Int) - 1)) (
 gd ((0 : Int) ≤ ((w_1.length : Int) - 1) ∧ ((w_1.length : Int) - 1) ≤ (w_1.length : Int)) (
 lt (w_1.take ((w_1.length : Int) - 1).toNat) (fun y31_10 =>
 k3 (y31_10, true)))))
 else (k3 (w_1, c_0.force))) (fun k7 => if 1 < (w_1.length : Int) then (gd (I64 ((w_1.length : Int) - 1)) (
 (at_ w_1 ((w_1.length : Int) - 1)).bind (fun z22_8 =>
 k7 (decide (z22_8 = [45, 102])))))
 else (k7 false)))
 else (k3 (w_1, c_0.force))) (fun k5 => if c_0.verb = [114, 109] then (k5 (decide (c_0.verb = [114, 109])))
 else (k5 (decide (c_0.verb = [115, 119, 105, 116, 99, 104])))))
noncomputable def cmd_read (line_0 : Str) : Option (CmdCmdP × Bool) :=
 (Sh.strings_Cut line_0 [32]).bind (fun y12_2 =>
 jn (fun (x23_4 : Bool) =>
 if x23_4 = true then (if (!y12_2.2.2) = true then (some (⟨y12_2.1, [], 0, y12_2.2.1, false, []⟩, true))
 else (some (⟨y12_2.1, [], 0, y12_2.2.1, false, []⟩, (!decide (y12_2.2.1 = [])))))
 else (jn (fun (w8_6 : List Str) =>
 (Sh.cmd_words (⟨y12_2.1, [], 0, [], false, ([] : List TodoStep)⟩ : CmdCmdP) w8_6).bind (fun y37_9 =>
 some (⟨y37_9.2.verb, y37_9.2.name, y37_9.2.n, y37_9.2.text, y37_9.2.force, y37_9.2.todo⟩, y37_9.1))) (fun k7 => if y12_2.2.2 = true then ((Sh.strings_Split y12_2.2.1 [32]).bind (fun y35_8 =>
 k7 y35_8))
 else (k7 [])))) (fun k5 => if y12_2.1 = [99, 111, 109, 109, 105, 116] then (k5 true)
 else (k5 (decide (y12_2.1 = [115, 116, 97, 115, 104])))))
noncomputable def cmd_Verbs  : Option (List Str) :=
 lt [[97, 100, 100], [114, 109], [99, 111, 109, 109, 105, 116], [98, 114, 97, 110, 99, 104], [100, 101, 108, 101, 116, 101], [115, 119, 105, 116, 99, 104], [114, 101, 115, 101, 116], [109, 101, 114, 103, 101], [112, 105, 99, 107], [114, 101, 118, 101, 114, 116], [115, 116, 97, 115, 104], [112, 111, 112], [97, 112, 112, 108, 121], [115, 104, 101, 108, 118, 101], [114, 101, 98, 97, 115, 101], [99, 111, 110, 116, 105, 110, 117, 101], [115, 107, 105, 112], [97, 98, 111, 114, 116], [117, 110, 100, 111], [114, 101, 100, 111]] (fun y1_2 =>
 some y1_2)
noncomputable def slices_Index_string_string (s_0 : List Str) (v_1 : Str) : Option Int :=
 iter (fun (x8_1 : Int) =>
 if x8_1 < (s_0.length : Int) then ((at_ s_0 x8_1).bind (fun z14_2 =>
 if v_1 = z14_2 then (up (some x8_1))
 else (gd (I64 (x8_1 + 1)) (
 go (x8_1 + 1)))))
 else (up (some (-1)))) 0
noncomputable def cmd_place (verb_0 : Str) : Option Int :=
 (Sh.cmd_Verbs).bind (fun y3_1 =>
 (Sh.slices_Index_string_string y3_1 verb_0).bind (fun y5_2 =>
 some y5_2))
noncomputable def cmd_fault (c_0 : CmdCmdP) (err_1 : Err) : Option Err :=
 (Sh.cmd_place c_0.verb).bind (fun y7_2 =>
 some (Err.fault [99, 109, 100] y7_2 err_1))
noncomputable def strings_trimLeftByte (s_0 : Str) (c_1 : Int) : Option Str :=
 iter (fun (s0_1 : Str) =>
 if 0 < (s0_1.length : Int) then ((at_ s0_1 0).bind (fun z10_2 =>
 if (z10_2.toNat : Int) = c_1 then (gd ((0 : Int) ≤ 1 ∧ 1 ≤ (s0_1.length : Int)) (
 lt (s0_1.drop (1 : Int).toNat) (fun y15_3 =>
 go y15_3)))
 else (up (some s0_1))))
 else (up (some s0_1))) s_0
noncomputable def strings_TrimLeft (s_0 : Str) (cutset_1 : Str) : Option Str :=
 jn (fun (x12_1 : Bool) =>
 if x12_1 = true then (some s_0)
 else (jn (fun (x21_3 : Bool) =>
 if x21_3 = true then ((at_ cutset_1 0).bind (fun z24_6 =>
 (Sh.strings_trimLeftByte s_0 (z24_6.toNat : Int)).bind (fun y25_7 =>
 some y25_7)))
 else (none)) (fun k4 => if (cutset_1.length : Int) = 1 then ((at_ cutset_1 0).bind (fun z19_5 =>
 k4 (decide ((z19_5.toNat : Int) < 128))))
 else (k4 false)))) (fun k2 => if s_0 = [] then (k2 true)
 else (k2 (decide (cutset_1 = []))))
noncomputable def todo_cut (s_0 : Str) : Option (Str × Str) :=
 (Sh.strings_Index s_0 [32]).bind (fun y6_1 =>
 if y6_1 < 0 then (some (s_0, []))
 else (gd ((0 : Int) ≤ y6_1 ∧ y6_1 ≤ (s_0.length : Int)) (
 lt (s_0.take y6_1.toNat) (fun y12_2 =>
 gd ((0 : Int) ≤ y6_1 ∧ y6_1 ≤ (s_0.length : Int)) (
 lt (s_0.drop y6_1.toNat) (fun y15_3 =>
 (Sh.strings_TrimLeft y15_3 [32]).bind (fun y16_4 =>
 some (y12_2, y16_4))))))))
noncomputable def strings_trimRightByte (s_0 : Str) (c_1 : Int) : Option Str :=
 iter (fun (s0_1 : Str) =>
 if 0 < (s0_1.length : Int) then (gd (I64 ((s0_1.length : Int) - 1)) (
 (at_ s0_1 ((s0_1.length : Int) - 1)).bind (fun z13_2 =>
 if (z13_2.toNat : Int) = c_1 then (gd (I64 ((s0_1.length : Int) - 1)) (
 gd ((0 : Int) ≤ ((s0_1.length : Int) - 1) ∧ ((s0_1.length : Int) - 1) ≤ (s0_1.length : Int)) (
 lt (s0_1.take ((s0_1.length : Int) - 1).toNat) (fun y21_3 =>
 go y21_3))))
 else (up (some s0_1)))))
 else (up (some s0_1))) s_0
noncomputable def strings_Trim (s_0 : Str) (cutset_1 : Str) : Option Str :=
 jn (fun (x12_1 : Bool) =>
 if x12_1 = true then (some s_0)
 else (jn (fun (x21_3 : Bool) =>
 if x21_3 = true then ((at_ cutset_1 0).bind (fun z24_6 =>
 (Sh.strings_trimRightByte s_0 (z24_6.toNat : Int)).bind (fun y25_7 =>
 (at_ cutset_1 0).bind (fun z27_8 =>
 (Sh.strings_trimLeftByte y25_7 (z27_8.toNat : Int)).bind (fun y28_9 =>
 some y28_9)))))
 else (none)) (fun k4 => if (cutset_1.length : Int) = 1 then ((at_ cutset_1 0).bind (fun z19_5 =>
 k4 (decide ((z19_5.toNat : Int) < 128))))
 else (k4 false)))) (fun k2 => if s_0 = [] then (k2 true)
 else (k2 (decide (cutset_1 = []))))
noncomputable def todo_verb (s_0 : Str) : Option (Bool × Bool) :=
 jn (fun (_ : Unit) =>
 some (true, false)) (fun k1 => jn (fun (_ : Unit) =>
 some (true, true)) (fun k2 => if s_0 = [115, 113, 117, 97, 115, 104] then (k2 ())
 else (if s_0 = [102, 105, 120, 117, 112] then (k2 ())
 else (if s_0 = [112, 105, 99, 107] then (k1 ())
 else (if s_0 = [114, 101, 119, 111, 114, 100] then (k1 ())
 else (if s_0 = [101, 100, 105, 116] then (k1 ())
 else (if s_0 = [100, 114, 111, 112] then (k1 ())
 else (some (false, false)))))))))
noncomputable def todo_number (s_0 : Str) : Option (Int × Bool) :=
 jn (fun (x18_1 : Bool) =>
 if x18_1 = true then (some (0, false))
 else (gd (s_0.length ≤ 4294967296) (
 lt s_0 (fun y20_5 =>
 iter (fun ((n4_6, x22_7) : Int × Int) =>
 if x22_7 < (y20_5.length : Int) then ((at_ y20_5 x22_7).bind (fun z24_8 =>
 jn (fun (x31_9 : Bool) =>
 if x31_9 = true then (up (some (0, false)))
 else (gd (I64 (10 * n4_6)) (
 gd (0 ≤ (z24_8.toNat : Int) - 48 ∧ (z24_8.toNat : Int) - 48 ≤ 255) (
 gd (I64 ((10 * n4_6) + (IntKind.wrap .i64 ((z24_8.toNat : Int) - 48)))) (
 gd (I64 (x22_7 + 1)) (
 go (((10 * n4_6) + (IntKind.wrap .i64 ((z24_8.toNat : Int) - 48))), (x22_7 + 1)))))))) (fun k10 => if (z24_8.toNat : Int) < 48 then (k10 true)
 else (k10 (decide (57 < (z24_8.toNat : Int)))))))
 else (up (some (n4_6, (decide (n4_6 ≤ 1000000)))))) (0, 0))))) (fun k2 => if s_0 = [] then (k2 true)
 else (if 7 < (s_0.length : Int) then (k2 true)
 else ((at_ s_0 0).bind (fun z16_3 =>
 k2 (decide ((z16_3.toNat : Int) = 48))))))
noncomputable def todo_line (s_0 : Str) : Option (TodoStep × Int) :=
 (Sh.todo_cut s_0).bind (fun y15_2 =>
 (Sh.strings_Trim y15_2.2 [32]).bind (fun y19_3 =>
 if y19_3 = [] then (some (⟨[], 0, []⟩, 2))
 else ((Sh.todo_verb y15_2.1).bind (fun y24_4 =>
 if (!y24_4.1) = true then (some (⟨[], 0, []⟩, 5))
 else ((Sh.strings_Cut y15_2.2 [32]).bind (fun y32_5 =>
 (Sh.todo_number y32_5.1).bind (fun y38_6 =>
 if (!y38_6.2) = true then (some (⟨[], 0, []⟩, 1))
 else (jn (fun (text9_7 : Str) =>
 some (⟨y15_2.1, y38_6.1, text9_7⟩, 0)) (fun k8 => if y15_2.1 = [114, 101, 119, 111, 114, 100] then (jn (fun (x56_9 : Bool) =>
 if x56_9 = true then (some (⟨[], 0, []⟩, 2))
 else (if 256 < (y32_5.2.1.length : Int) then (some (⟨[], 0, []⟩, 4))
 else (k8 y32_5.2.1))) (fun k10 => if (!y32_5.2.2) = true then (k10 true)
 else (k10 (decide (y32_5.2.1 = [])))))
 else ((Sh.strings_Trim y32_5.2.1 [32]).bind (fun y46_11 =>
 if y46_11 = [] then (k8 [])
 else (some (⟨[], 0, []⟩, 2)))))))))))))
noncomputable def slices_Clip_todo_Step_todo_Step (s_0 : List TodoStep) : Option (List TodoStep) :=
 gd ((0 : Int) ≤ (s_0.length : Int) ∧ (s_0.length : Int) ≤ (s_0.length : Int)) (
 lt (s_0.take (s_0.length : Int).toNat) (fun y8_2 =>
 some y8_2))
noncomputable def todo_Parse (s_0 : Str) : Option (List TodoStep × Err) :=
 (Sh.strings_Split s_0 [10]).bind (fun y10_1 =>
 iter (fun ((out4_2, x12_3) : List TodoStep × Int) =>
 if x12_3 < (y10_1.length : Int) then ((at_ y10_1 x12_3).bind (fun z15_4 =>
 (Sh.strings_TrimLeft z15_4 [32]).bind (fun y18_5 =>
 if y18_5 = [] then (gd (I64 (x12_3 + 1)) (
 go (out4_2, (x12_3 + 1))))
 else ((at_ y18_5 0).bind (fun z23_6 =>
 if (z23_6.toNat : Int) = 35 then (gd (I64 (x12_3 + 1)) (
 go (out4_2, (x12_3 + 1))))
 else ((Sh.todo_line y18_5).bind (fun y28_7 =>
 if y28_7.2 = 0 then (if (out4_2.length : Int) = 32 then (up (some ([], (Err.fault [108, 105, 110, 101] 32 (Err.no 4)))))
 else (lt [⟨y28_7.1.verb, y28_7.1.commit, y28_7.1.text⟩] (fun y48_12 =>
 gd (out4_2.length + y48_12.length ≤ 4294967296) (
 lt (out4_2 ++ y48_12) (fun y49_14 =>
 gd (I64 (x12_3 + 1)) (
 go (y49_14, (x12_3 + 1))))))))
 else (up (some ([], (Err.fault [108, 105, 110, 101] x12_3 (Err.no y28_7.2))))))))))))
 else (up ((Sh.slices_Clip_todo_Step_todo_Step out4_2).bind (fun y52_15 =>
 some (y52_15, Err.nil))))) ([], 0))
noncomputable def path_good (c_0 : Int) : Option Bool :=
 jn (fun (_ : Unit) =>
 if 97 ≤ c_0 then (if c_0 ≤ 122 then (some true)
 else (if 48 ≤ c_0 then (some (decide (c_0 ≤ 57)))
 else (some false)))
 else (if 48 ≤ c_0 then (some (decide (c_0 ≤ 57)))
 else (some false))) (fun k1 => jn (fun (_ : Unit) =>
 some true) (fun k2 => if c_0 = 46 then (k2 ())
 else (if c_0 = 45 then (k2 ())
 else (if c_0 = 95 then (k2 ())
 else (k1 ())))))
noncomputable def path_part (s_0 : Str) : Option Bool :=
 jn (fun (x14_1 : Bool) =>
 if x14_1 = true then (some false)
 else (gd (s_0.length ≤ 4294967296) (
 lt s_0 (fun y16_4 =>
 iter (fun (x18_5 : Int) =>
 if x18_5 < (y16_4.length : Int) then ((at_ y16_4 x18_5).bind (fun z20_6 =>
 (Sh.path_good (z20_6.toNat : Int)).bind (fun y23_7 =>
 if (!y23_7) = true then (up (some false))
 else (gd (I64 (x18_5 + 1)) (
 go (x18_5 + 1))))))
 else (up (some true))) 0)))) (fun k2 => if s_0 = [] then (k2 true)
 else (if s_0 = [46] then (k2 true)
 else (k2 (decide (s_0 = [46, 46])))))
noncomputable def path_Check (p_0 : Str) : Option Int :=
 if 64 < (p_0.length : Int) then (some 4)
 else ((Sh.strings_Split p_0 [47]).bind (fun y9_1 =>
 iter (fun (x11_2 : Int) =>
 if x11_2 < (y9_1.length : Int) then ((at_ y9_1 x11_2).bind (fun z13_3 =>
 (Sh.path_part z13_3).bind (fun y16_4 =>
 if (!y16_4) = true then (up (some 5))
 else (gd (I64 (x11_2 + 1)) (
 go (x11_2 + 1))))))
 else (up (some 0))) 0))
noncomputable def names_Good (name_0 : Str) : Option Bool :=
 gd (name_0.length ≤ 4294967296) (
 lt name_0 (fun y6_2 =>
 iter (fun (x8_3 : Int) =>
 if x8_3 < (y6_2.length : Int) then ((at_ y6_2 x8_3).bind (fun z11_4 =>
 jn (fun (x34_5 : Bool) =>
 if x34_5 = true then (up (some false))
 else (gd (I64 (x8_3 + 1)) (
 go (x8_3 + 1)))) (fun k6 => if (z11_4.toNat : Int) < 97 then (if x8_3 = 0 then (k6 true)
 else (if (z11_4.toNat : Int) = 45 then (k6 false)
 else (if (z11_4.toNat : Int) < 48 then (k6 true)
 else (k6 (decide (57 < (z11_4.toNat : Int)))))))
 else (if 122 < (z11_4.toNat : Int) then (if x8_3 = 0 then (k6 true)
 else (if (z11_4.toNat : Int) = 45 then (k6 false)
 else (if (z11_4.toNat : Int) < 48 then (k6 true)
 else (k6 (decide (57 < (z11_4.toNat : Int)))))))
 else (k6 false)))))
 else (up (if 1 ≤ (name_0.length : Int) then (some (decide ((name_0.length : Int) ≤ 32)))
 else (some false)))) 0))
noncomputable def cmd_name (c_0 : CmdCmdP) : Option Int :=
 jn (fun (ok3_2 : Bool) =>
 if (!ok3_2) = true then (some 5)
 else (some 0)) (fun k3 => jn (fun (_ : Unit) =>
 if c_0.name = [115, 111, 102, 116] then (k3 true)
 else (if c_0.name = [109, 105, 120, 101, 100] then (k3 true)
 else (k3 (decide (c_0.name = [104, 97, 114, 100]))))) (fun k4 => jn (fun (_ : Unit) =>
 if c_0.name = [] then (k3 true)
 else ((Sh.names_Good c_0.name).bind (fun y33_11 =>
 k3 y33_11))) (fun k5 => jn (fun (_ : Unit) =>
 (Sh.names_Good c_0.name).bind (fun y26_10 =>
 k3 y26_10)) (fun k6 => jn (fun (_ : Unit) =>
 (Sh.path_Check c_0.name).bind (fun y23_9 =>
 some y23_9)) (fun k7 => if c_0.verb = [97, 100, 100] then (if c_0.name = [] then (some 0)
 else (k7 ()))
 else (if c_0.verb = [114, 109] then (k7 ())
 else (jn (fun (_ : Unit) =>
 if c_0.verb = [115, 119, 105, 116, 99, 104] then (k5 ())
 else (if c_0.verb = [114, 101, 115, 101, 116] then (k4 ())
 else (k3 true))) (fun k8 => if c_0.verb = [98, 114, 97, 110, 99, 104] then (if c_0.verb = [98, 114, 97, 110, 99, 104] then (k6 ())
 else (k8 ()))
 else (if c_0.verb = [100, 101, 108, 101, 116, 101] then (if c_0.verb = [100, 101, 108, 101, 116, 101] then (k6 ())
 else (k8 ()))
 else (if c_0.verb = [109, 101, 114, 103, 101] then (k6 ())
 else (k8 ())))))))))))
noncomputable def cmd_number (c_0 : CmdCmdP) : Option Int :=
 jn (fun (least3_2 : Int) =>
 if c_0.n < least3_2 then (some 1)
 else (some 0)) (fun k3 => jn (fun (_ : Unit) =>
 if c_0.verb = [115, 119, 105, 116, 99, 104] then (if c_0.name = [] then (k3 1)
 else (k3 c_0.n))
 else (if c_0.verb = [112, 105, 99, 107] then (if c_0.verb = [112, 105, 99, 107] then (k3 1)
 else (k3 c_0.n))
 else (if c_0.verb = [114, 101, 118, 101, 114, 116] then (if c_0.verb = [114, 101, 118, 101, 114, 116] then (k3 1)
 else (k3 c_0.n))
 else (if c_0.verb = [114, 101, 98, 97, 115, 101] then (if c_0.verb = [114, 101, 98, 97, 115, 101] then (k3 1)
 else (k3 c_0.n))
 else (if c_0.verb = [114, 101, 115, 101, 116] then (k3 1)
 else (k3 c_0.n)))))) (fun k4 => if c_0.verb = [112, 111, 112] then (if c_0.verb = [112, 111, 112] then (k3 0)
 else (k4 ()))
 else (if c_0.verb = [97, 112, 112, 108, 121] then (if c_0.verb = [97, 112, 112, 108, 121] then (k3 0)
 else (k4 ()))
 else (if c_0.verb = [115, 104, 101, 108, 118, 101] then (k3 0)
 else (k4 ())))))
noncomputable def strings_Contains (s_0 : Str) (substr_1 : Str) : Option Bool :=
 (Sh.strings_Index s_0 substr_1).bind (fun y7_1 =>
 some (decide (0 ≤ y7_1)))
noncomputable def cmd_text (s_0 : Str) (must_1 : Bool) : Option Int :=
 if 256 < (s_0.length : Int) then (some 4)
 else (jn (fun (x9_1 : Bool) =>
 if x9_1 = true then (some 1)
 else ((Sh.strings_Contains s_0 [10]).bind (fun y17_3 =>
 if y17_3 = true then (some 2)
 else (some 0)))) (fun k2 => if must_1 = true then (k2 (decide (s_0 = [])))
 else (k2 false)))
noncomputable def cmd_steps (l_0 : List TodoStep) : Option Int :=
 if 32 < (l_0.length : Int) then (some 4)
 else (iter (fun (x11_1 : Int) =>
 if x11_1 < (l_0.length : Int) then ((at_ l_0 x11_1).bind (fun z13_2 =>
 jn (fun (x17_4 : Bool) =>
 if x17_4 = true then (jn (fun (x31_6 : Bool) =>
 if x31_6 = true then (up (some 1))
 else (if z13_2.verb = [114, 101, 119, 111, 114, 100] then ((Sh.cmd_text z13_2.text true).bind (fun y37_8 =>
 if y37_8 = 0 then (gd (I64 (x11_1 + 1)) (
 go (x11_1 + 1)))
 else (up (some y37_8))))
 else (gd (I64 (x11_1 + 1)) (
 go (x11_1 + 1))))) (fun k7 => if z13_2.commit < 1 then (k7 true)
 else (k7 (decide (1000000 < z13_2.commit)))))
 else (up (some 5))) (fun k5 => if z13_2.verb = [112, 105, 99, 107] then (k5 (decide (z13_2.verb = [112, 105, 99, 107])))
 else (if z13_2.verb = [101, 100, 105, 116] then (k5 (decide (z13_2.verb = [101, 100, 105, 116])))
 else (if z13_2.verb = [115, 113, 117, 97, 115, 104] then (k5 (decide (z13_2.verb = [115, 113, 117, 97, 115, 104])))
 else (if z13_2.verb = [102, 105, 120, 117, 112] then (k5 (decide (z13_2.verb = [102, 105, 120, 117, 112])))
 else (if z13_2.verb = [100, 114, 111, 112] then (k5 (decide (z13_2.verb = [100, 114, 111, 112])))
 else (k5 (decide (z13_2.verb = [114, 101, 119, 111, 114, 100]))))))))))
 else (up (some 0))) 0)
noncomputable def cmd_more (c_0 : CmdCmdP) : Option Int :=
 jn (fun (x5_2 : Bool) =>
 if x5_2 = true then ((Sh.cmd_text c_0.text (decide (c_0.verb = [99, 111, 109, 109, 105, 116]))).bind (fun y13_4 =>
 some y13_4))
 else (if c_0.verb = [114, 101, 98, 97, 115, 101] then ((Sh.cmd_steps c_0.todo).bind (fun y18_5 =>
 some y18_5))
 else (some 0))) (fun k3 => if c_0.verb = [99, 111, 109, 109, 105, 116] then (k3 (decide (c_0.verb = [99, 111, 109, 109, 105, 116])))
 else (k3 (decide (c_0.verb = [115, 116, 97, 115, 104]))))
noncomputable def cmd_Check (c_0 : CmdCmdP) : Option Err :=
 (Sh.cmd_place c_0.verb).bind (fun y7_2 =>
 if y7_2 < 0 then ((Sh.cmd_fault c_0 (Err.no 5)).bind (fun y11_3 =>
 some y11_3))
 else ((Sh.cmd_name c_0).bind (fun y13_4 =>
 (Sh.cmd_number c_0).bind (fun y15_5 =>
 (Sh.cmd_more c_0).bind (fun y17_6 =>
 lt [y13_4, y15_5, y17_6] (fun y18_8 =>
 iter (fun (x20_9 : Int) =>
 if x20_9 < (y18_8.length : Int) then ((at_ y18_8 x20_9).bind (fun z22_10 =>
 if z22_10 = 0 then (gd (I64 (x20_9 + 1)) (
 go (x20_9 + 1)))
 else ((Sh.cmd_fault c_0 (Err.no z22_10)).bind (fun y29_11 =>
 up (some y29_11)))))
 else (up (some Err.nil))) 0))))))
noncomputable def cmd_Parse (s_0 : Str) : Option (CmdCmdP × Err) :=
 (Sh.strings_Cut s_0 [10]).bind (fun y14_2 =>
 (Sh.cmd_read y14_2.1).bind (fun y20_3 =>
 jn (fun (c5_5 : List TodoStep) =>
 (Sh.cmd_Check (⟨y20_3.1.verb, y20_3.1.name, y20_3.1.n, y20_3.1.text, y20_3.1.force, c5_5⟩ : CmdCmdP)).bind (fun y65_14 =>
 if y65_14.isNil = true then (some (⟨y20_3.1.verb, y20_3.1.name, y20_3.1.n, y20_3.1.text, y20_3.1.force, c5_5⟩, Err.nil))
 else (some (⟨[], [], 0, [], false, []⟩, y65_14)))) (fun k6 => (Sh.cmd_place y20_3.1.verb).bind (fun y26_7 =>
 if y26_7 < 0 then ((Sh.cmd_fault y20_3.1 (Err.no 5)).bind (fun y31_8 =>
 some (⟨[], [], 0, [], false, []⟩, y31_8)))
 else (jn (fun (x32_9 : Bool) =>
 if x32_9 = true then ((Sh.cmd_fault y20_3.1 (Err.no 2)).bind (fun y46_11 =>
 some (⟨[], [], 0, [], false, []⟩, y46_11)))
 else (if y20_3.1.verb = [114, 101, 98, 97, 115, 101] then ((Sh.todo_Parse y14_2.2.1).bind (fun y53_12 =>
 if y53_12.2.isNil = true then (k6 y53_12.1)
 else ((Sh.cmd_fault y20_3.1 y53_12.2).bind (fun y61_13 =>
 some (⟨[], [], 0, [], false, []⟩, y61_13)))))
 else (k6 y20_3.1.todo))) (fun k10 => if (!y20_3.2) = true then (k10 true)
 else (if y14_2.2.2 = true then (k10 (!decide (y20_3.1.verb = [114, 101, 98, 97, 115, 101])))
 else (k10 false))))))))
noncomputable def cmd_has (c_0 : CmdCmdP) : Option (Bool × Bool × Bool × Bool) :=
 jn (fun ((named2_2, numbered3_3, forced4_4, told5_5) : Bool × Bool × Bool × Bool) =>
 if forced4_4 = true then (some (named2_2, numbered3_3, c_0.force, told5_5))
 else (some (named2_2, numbered3_3, false, told5_5))) (fun k6 => jn (fun (_ : Unit) =>
 k6 (false, false, false, (!decide (c_0.text = [])))) (fun k7 => jn (fun (_ : Unit) =>
 k6 ((!decide (c_0.name = [])), true, false, false)) (fun k8 => jn (fun (forced4_9 : Bool) =>
 k6 ((!decide (c_0.name = [])), false, forced4_9, false)) (fun k10 => if c_0.verb = [115, 119, 105, 116, 99, 104] then (k6 ((!decide (c_0.name = [])), (decide (c_0.name = [])), true, false))
 else (if c_0.verb = [114, 109] then (k10 true)
 else (jn (fun (_ : Unit) =>
 if c_0.verb = [114, 101, 115, 101, 116] then (k8 ())
 else (jn (fun (_ : Unit) =>
 if c_0.verb = [99, 111, 109, 109, 105, 116] then (if c_0.verb = [99, 111, 109, 109, 105, 116] then (k7 ())
 else (k6 (false, false, false, false)))
 else (if c_0.verb = [115, 116, 97, 115, 104] then (k7 ())
 else (k6 (false, false, false, false)))) (fun k12 => if c_0.verb = [112, 105, 99, 107] then (if c_0.verb = [112, 105, 99, 107] then (k6 (false, true, false, false))
 else (k12 ()))
 else (if c_0.verb = [114, 101, 118, 101, 114, 116] then (if c_0.verb = [114, 101, 118, 101, 114, 116] then (k6 (false, true, false, false))
 else (k12 ()))
 else (if c_0.verb = [112, 111, 112] then (if c_0.verb = [112, 111, 112] then (k6 (false, true, false, false))
 else (k12 ()))
 else (if c_0.verb = [97, 112, 112, 108, 121] then (if c_0.verb = [97, 112, 112, 108, 121] then (k6 (false, true, false, false))
 else (k12 ()))
 else (if c_0.verb = [115, 104, 101, 108, 118, 101] then (if c_0.verb = [115, 104, 101, 108, 118, 101] then (k6 (false, true, false, false))
 else (k12 ()))
 else (if c_0.verb = [114, 101, 98, 97, 115, 101] then (k6 (false, true, false, false))
 else (k12 ()))))))))) (fun k11 => if c_0.verb = [97, 100, 100] then (if c_0.verb = [97, 100, 100] then (k10 false)
 else (k11 ()))
 else (if c_0.verb = [98, 114, 97, 110, 99, 104] then (if c_0.verb = [98, 114, 97, 110, 99, 104] then (k10 false)
 else (k11 ()))
 else (if c_0.verb = [100, 101, 108, 101, 116, 101] then (if c_0.verb = [100, 101, 108, 101, 116, 101] then (k10 false)
 else (k11 ()))
 else (if c_0.verb = [109, 101, 114, 103, 101] then (k10 false)
 else (k11 ())))))))))))
noncomputable def todo_Text (l_0 : List TodoStep) : Option Str :=
 iter (fun ((x8_2, acc_3) : Int × Str) =>
 if x8_2 < (l_0.length : Int) then ((at_ l_0 x8_2).bind (fun z10_4 =>
 gd (z10_4.verb.length + [32].length ≤ 9223372036854775807) (
 lt (z10_4.verb ++ [32]) (fun y14_6 =>
 gd (I64 z10_4.commit) (
 gd (y14_6.length + (itoaS z10_4.commit).length ≤ 9223372036854775807) (
 lt (y14_6 ++ (itoaS z10_4.commit)) (fun y18_7 =>
 gd (acc_3.length + y18_7.length ≤ 4294967296) (
 lt (acc_3 ++ y18_7) (fun acc19_8 =>
 if z10_4.verb = [114, 101, 119, 111, 114, 100] then (gd ([32].length + z10_4.text.length ≤ 9223372036854775807) (
 lt ([32] ++ z10_4.text) (fun y25_9 =>
 gd (acc19_8.length + y25_9.length ≤ 4294967296) (
 lt (acc19_8 ++ y25_9) (fun acc26_10 =>
 gd (acc26_10.length + [10].length ≤ 4294967296) (
 lt (acc26_10 ++ [10]) (fun acc27_11 =>
 gd (I64 (x8_2 + 1)) (
 go ((x8_2 + 1), acc27_11)))))))))
 else (gd (acc19_8.length + [10].length ≤ 4294967296) (
 lt (acc19_8 ++ [10]) (fun acc27_12 =>
 gd (I64 (x8_2 + 1)) (
 go ((x8_2 + 1), acc27_12))))))))))))))
 else (up (some acc_3))) (0, [])
noncomputable def cmd_Text (c_0 : CmdCmdP) : Option Str :=
 (Sh.cmd_has c_0).bind (fun y11_2 =>
 lt [c_0.verb] (fun y18_4 =>
 jn (fun (out7_5 : List Str) =>
 jn (fun (out7_11 : List Str) =>
 jn (fun (out7_17 : List Str) =>
 jn (fun (out7_23 : List Str) =>
 gd (out7_23.length ≤ 4294967296 ∧ (joinS out7_23 [32]).length ≤ 4294967296) (
 lt (joinS out7_23 [32]) (fun y43_29 =>
 if c_0.verb = [114, 101, 98, 97, 115, 101] then ((Sh.todo_Text c_0.todo).bind (fun y50_30 =>
 gd ([10].length + y50_30.length ≤ 9223372036854775807) (
 lt ([10] ++ y50_30) (fun y51_31 =>
 gd (y43_29.length + y51_31.length ≤ 9223372036854775807) (
 lt (y43_29 ++ y51_31) (fun y52_32 =>
 some y52_32))))))
 else (some y43_29)))) (fun k24 => if y11_2.2.2.2 = true then (lt [c_0.text] (fun y40_26 =>
 gd (out7_17.length + y40_26.length ≤ 4294967296) (
 lt (out7_17 ++ y40_26) (fun y41_28 =>
 k24 y41_28))))
 else (k24 out7_17))) (fun k18 => if y11_2.2.2.1 = true then (lt [[45, 102]] (fun y34_20 =>
 gd (out7_11.length + y34_20.length ≤ 4294967296) (
 lt (out7_11 ++ y34_20) (fun y35_22 =>
 k18 y35_22))))
 else (k18 out7_11))) (fun k12 => if y11_2.2.1 = true then (gd (I64 c_0.n) (
 lt [(itoaS c_0.n)] (fun y30_14 =>
 gd (out7_5.length + y30_14.length ≤ 4294967296) (
 lt (out7_5 ++ y30_14) (fun y31_16 =>
 k12 y31_16)))))
 else (k12 out7_5))) (fun k6 => if y11_2.1 = true then (lt [c_0.name] (fun y23_8 =>
 gd (y18_4.length + y23_8.length ≤ 4294967296) (
 lt (y18_4 ++ y23_8) (fun y24_10 =>
 k6 y24_10))))
 else (k6 y18_4))))
noncomputable def slices_Equal_todo_Step_todo_Step (s1_0 : List TodoStep) (s2_1 : List TodoStep) : Option Bool :=
 if (s1_0.length : Int) = (s2_1.length : Int) then (iter (fun (x13_1 : Int) =>
 if x13_1 < (s1_0.length : Int) then ((at_ s1_0 x13_1).bind (fun z18_2 =>
 (at_ s2_1 x13_1).bind (fun z22_3 =>
 if z18_2.verb = z22_3.verb ∧ z18_2.commit = z22_3.commit ∧ z18_2.text = z22_3.text then (gd (I64 (x13_1 + 1)) (
 go (x13_1 + 1)))
 else (up (some false)))))
 else (up (some true))) 0)
 else (some false)
noncomputable def cmd_Same (a_0 : CmdCmdP) (b_1 : CmdCmdP) : Option Bool :=
 if a_0.verb = b_1.verb then (if a_0.name = b_1.name then (if a_0.n = b_1.n then (if a_0.text = b_1.text then (if a_0.force = b_1.force then ((Sh.slices_Equal_todo_Step_todo_Step a_0.todo b_1.todo).bind (fun y43_3 =>
 some y43_3))
 else (some false))
 else (some false))
 else (some false))
 else (some false))
 else (some false)
noncomputable def rectolaw22_known  : Option Bool :=
 (Sh.cmd_Parse [114, 101, 115, 101, 116, 32, 104, 97, 114, 100, 32, 51]).bind (fun y11_1 =>
 (Sh.cmd_Parse [114, 101, 98, 97, 115, 101, 32, 50, 10, 112, 105, 99, 107, 32, 51, 10]).bind (fun y15_3 =>
 (Sh.cmd_Parse [106, 117, 109, 112]).bind (fun y19_5 =>
 (Sh.cmd_Parse [99, 111, 109, 109, 105, 116]).bind (fun y23_7 =>
 (Sh.cmd_Verbs).bind (fun y26_9 =>
 if y11_1.2.isNil = true then (if y15_3.2.isNil = true then (if y19_5.2.isNil = true then (some false)
 else (if y23_7.2.isNil = true then (some false)
 else (if y11_1.1.name = [104, 97, 114, 100] then (if y11_1.1.n = 3 then (if (y15_3.1.todo.length : Int) = 1 then ((Sh.cmd_Text y15_3.1).bind (fun y59_10 =>
 if y59_10 = [114, 101, 98, 97, 115, 101, 32, 50, 10, 112, 105, 99, 107, 32, 51, 10] then (if (y26_9.length : Int) = 20 then ((at_ y26_9 0).bind (fun z69_11 =>
 if z69_11 = [97, 100, 100] then ((Sh.cmd_Same y11_1.1 y11_1.1).bind (fun y76_12 =>
 if y76_12 = true then ((Sh.cmd_Check y11_1.1).bind (fun y80_13 =>
 some (decide (y80_13.isNil = true))))
 else (some false)))
 else (some false)))
 else (some false))
 else (some false)))
 else (some false))
 else (some false))
 else (some false))))
 else (some false))
 else (some false))))))
noncomputable def rectolaw22_Few (c_0 : CmdCmdP) : Option Bool :=
 jn (fun (x25_2 : Bool) =>
 if x25_2 = true then (some false)
 else (iter (fun (i3_4 : Int) =>
 if i3_4 < (c_0.todo.length : Int) then (jn (fun (x50_5 : Bool) =>
 if x50_5 = true then (up (some false))
 else (gd (I64 (i3_4 + 1)) (
 go (i3_4 + 1)))) (fun k6 => (at_ c_0.todo i3_4).bind (fun z36_7 =>
 if 400 < (z36_7.text.length : Int) then (k6 true)
 else ((at_ c_0.todo i3_4).bind (fun z45_8 =>
 k6 (decide (50 < (z45_8.verb.length : Int))))))))
 else (up (some true))) 0)) (fun k3 => if 50 < (c_0.verb.length : Int) then (k3 true)
 else (if 100 < (c_0.name.length : Int) then (k3 true)
 else (if 400 < (c_0.text.length : Int) then (k3 true)
 else (k3 (decide (40 < (c_0.todo.length : Int)))))))
noncomputable def rectolaw21_Of (l_0 : List TodoStep) : Option (List Rectoref17Step) :=
 iter (fun ((out3_1, i4_2) : List Rectoref17Step × Int) =>
 if i4_2 < (l_0.length : Int) then ((at_ l_0 i4_2).bind (fun z14_3 =>
 (at_ l_0 i4_2).bind (fun z19_4 =>
 (at_ l_0 i4_2).bind (fun z24_5 =>
 lt [⟨z14_3.verb, z19_4.commit, z24_5.text⟩] (fun y28_7 =>
 gd (out3_1.length + y28_7.length ≤ 4294967296) (
 lt (out3_1 ++ y28_7) (fun y29_9 =>
 gd (I64 (i4_2 + 1)) (
 go (y29_9, (i4_2 + 1))))))))))
 else (up (some out3_1))) ([], 0)
noncomputable def rectolaw22_Of (c_0 : CmdCmdP) : Option Rectoref17CmdP :=
 (Sh.rectolaw21_Of c_0.todo).bind (fun y15_3 =>
 some ⟨c_0.verb, c_0.name, c_0.n, c_0.text, c_0.force, y15_3⟩)
noncomputable def rectoref17_Verbs  : Option (List Str) :=
 lt [[97, 100, 100], [114, 109], [99, 111, 109, 109, 105, 116], [98, 114, 97, 110, 99, 104], [100, 101, 108, 101, 116, 101], [115, 119, 105, 116, 99, 104], [114, 101, 115, 101, 116], [109, 101, 114, 103, 101], [112, 105, 99, 107], [114, 101, 118, 101, 114, 116], [115, 116, 97, 115, 104], [112, 111, 112], [97, 112, 112, 108, 121], [115, 104, 101, 108, 118, 101], [114, 101, 98, 97, 115, 101], [99, 111, 110, 116, 105, 110, 117, 101], [115, 107, 105, 112], [97, 98, 111, 114, 116], [117, 110, 100, 111], [114, 101, 100, 111]] (fun y1_2 =>
 some y1_2)
noncomputable def rectoref17_Place (s_0 : Str) : Option Int :=
 (Sh.rectoref17_Verbs).bind (fun y5_1 =>
 iter (fun (i4_2 : Int) =>
 if i4_2 < (y5_1.length : Int) then ((at_ y5_1 i4_2).bind (fun z14_3 =>
 if z14_3 = s_0 then (up (some i4_2))
 else (gd (I64 (i4_2 + 1)) (
 go (i4_2 + 1)))))
 else (up (some (-1)))) 0)
noncomputable def rectoref3_At (word_0 : Str) (at_1 : Int) (e_2 : Int) : Option Rectoref3WrongP :=
 lt [⟨word_0, at_1⟩] (fun y10_3 =>
 some ⟨y10_3, e_2⟩)
noncomputable def rectoref1_Parts (p_0 : Str) : Option (List Str) :=
 if p_0 = [] then (some [])
 else (lt [[]] (fun y7_2 =>
 iter (fun ((out3_3, i4_4) : List Str × Int) =>
 if i4_4 < (p_0.length : Int) then (jn (fun (out3_5 : List Str) =>
 gd (I64 (i4_4 + 1)) (
 go (out3_5, (i4_4 + 1)))) (fun k6 => (at_ p_0 i4_4).bind (fun z16_7 =>
 if (z16_7.toNat : Int) = 47 then (lt [[]] (fun y19_9 =>
 gd (out3_3.length + y19_9.length ≤ 4294967296) (
 lt (out3_3 ++ y19_9) (fun y20_11 =>
 k6 y20_11))))
 else (gd (I64 ((out3_3.length : Int) - 1)) (
 gd (I64 ((out3_3.length : Int) - 1)) (
 (at_ out3_3 ((out3_3.length : Int) - 1)).bind (fun z29_12 =>
 gd (I64 (i4_4 + 1)) (
 gd ((0 : Int) ≤ i4_4 ∧ i4_4 ≤ (i4_4 + 1) ∧ (i4_4 + 1) ≤ (p_0.length : Int)) (
 lt ((p_0.drop i4_4.toNat).take ((i4_4 + 1).toNat - i4_4.toNat)) (fun y35_13 =>
 gd (z29_12.length + y35_13.length ≤ 9223372036854775807) (
 lt (z29_12 ++ y35_13) (fun y36_14 =>
 (at_ out3_3 ((out3_3.length : Int) - 1)).bind (fun z37_15 =>
 lt (out3_3.set ((out3_3.length : Int) - 1).toNat y36_14) (fun ys17_17 =>
 k6 ys17_17))))))))))))))
 else (up (some out3_3))) (y7_2, 0)))
noncomputable def rectoref1_good (c_0 : Int) : Option Bool :=
 if 97 ≤ c_0 then (if c_0 ≤ 122 then (some true)
 else (if 48 ≤ c_0 then (if c_0 ≤ 57 then (some true)
 else (if c_0 = 46 then (some true)
 else (if c_0 = 45 then (some true)
 else (some (decide (c_0 = 95))))))
 else (if c_0 = 46 then (some true)
 else (if c_0 = 45 then (some true)
 else (some (decide (c_0 = 95)))))))
 else (if 48 ≤ c_0 then (if c_0 ≤ 57 then (some true)
 else (if c_0 = 46 then (some true)
 else (if c_0 = 45 then (some true)
 else (some (decide (c_0 = 95))))))
 else (if c_0 = 46 then (some true)
 else (if c_0 = 45 then (some true)
 else (some (decide (c_0 = 95))))))
noncomputable def rectoref1_Check (p_0 : Str) : Option Int :=
 if 64 < (p_0.length : Int) then (some 4)
 else ((Sh.rectoref1_Parts p_0).bind (fun y10_1 =>
 if (y10_1.length : Int) = 0 then (some 5)
 else (iter (fun (i4_2 : Int) =>
 if i4_2 < (y10_1.length : Int) then (jn (fun (_ : Unit) =>
 gd (I64 (i4_2 + 1)) (
 go (i4_2 + 1))) (fun k3 => jn (fun (x38_4 : Bool) =>
 if x38_4 = true then (up (some 5))
 else (iter (fun (k5_9 : Int) =>
 (at_ y10_1 i4_2).bind (fun z42_10 =>
 if k5_9 < (z42_10.length : Int) then ((at_ y10_1 i4_2).bind (fun z50_11 =>
 (at_ z50_11 k5_9).bind (fun z53_12 =>
 (Sh.rectoref1_good (z53_12.toNat : Int)).bind (fun y54_13 =>
 if (!y54_13) = true then (up (up (some 5)))
 else (gd (I64 (k5_9 + 1)) (
 go (k5_9 + 1)))))))
 else (up (k3 ())))) 0)) (fun k5 => (at_ y10_1 i4_2).bind (fun z22_6 =>
 if z22_6 = [] then (k5 true)
 else ((at_ y10_1 i4_2).bind (fun z28_7 =>
 if z28_7 = [46] then (k5 true)
 else ((at_ y10_1 i4_2).bind (fun z35_8 =>
 k5 (decide (z35_8 = [46, 46]))))))))))
 else (up (some 0))) 0)))
noncomputable def rectoref17_Good (s_0 : Str) : Option Bool :=
 jn (fun (x21_1 : Bool) =>
 if x21_1 = true then (some false)
 else (iter (fun (i3_5 : Int) =>
 if i3_5 < (s_0.length : Int) then (jn (fun (x55_6 : Bool) =>
 if x55_6 = true then (up (some false))
 else (gd (I64 (i3_5 + 1)) (
 go (i3_5 + 1)))) (fun k7 => (at_ s_0 i3_5).bind (fun z30_8 =>
 if (z30_8.toNat : Int) < 97 then ((at_ s_0 i3_5).bind (fun z41_9 =>
 if (z41_9.toNat : Int) < 48 then ((at_ s_0 i3_5).bind (fun z53_10 =>
 k7 (!decide ((z53_10.toNat : Int) = 45))))
 else ((at_ s_0 i3_5).bind (fun z46_11 =>
 if 57 < (z46_11.toNat : Int) then ((at_ s_0 i3_5).bind (fun z53_12 =>
 k7 (!decide ((z53_12.toNat : Int) = 45))))
 else (k7 false)))))
 else ((at_ s_0 i3_5).bind (fun z35_13 =>
 if 122 < (z35_13.toNat : Int) then ((at_ s_0 i3_5).bind (fun z41_14 =>
 if (z41_14.toNat : Int) < 48 then ((at_ s_0 i3_5).bind (fun z53_15 =>
 k7 (!decide ((z53_15.toNat : Int) = 45))))
 else ((at_ s_0 i3_5).bind (fun z46_16 =>
 if 57 < (z46_16.toNat : Int) then ((at_ s_0 i3_5).bind (fun z53_17 =>
 k7 (!decide ((z53_17.toNat : Int) = 45))))
 else (k7 false)))))
 else (k7 false))))))
 else (up (some true))) 0)) (fun k2 => if (s_0.length : Int) < 1 then (k2 true)
 else (if 32 < (s_0.length : Int) then (k2 true)
 else ((at_ s_0 0).bind (fun z14_3 =>
 if (z14_3.toNat : Int) < 97 then (k2 true)
 else ((at_ s_0 0).bind (fun z19_4 =>
 k2 (decide (122 < (z19_4.toNat : Int)))))))))
noncomputable def rectoref17_name (c_0 : Rectoref17CmdP) : Option Int :=
 jn (fun (ok3_2 : Bool) =>
 if (!ok3_2) = true then (some 5)
 else (some 0)) (fun k3 => if c_0.verb = [97, 100, 100] then (if c_0.name = [] then (k3 true)
 else ((Sh.rectoref1_Check c_0.name).bind (fun y13_4 =>
 some y13_4)))
 else (if c_0.verb = [114, 109] then ((Sh.rectoref1_Check c_0.name).bind (fun y18_5 =>
 some y18_5))
 else (jn (fun (x19_6 : Bool) =>
 if x19_6 = true then ((Sh.rectoref17_Good c_0.name).bind (fun y25_8 =>
 k3 y25_8))
 else (if c_0.verb = [115, 119, 105, 116, 99, 104] then (if c_0.name = [] then (k3 true)
 else ((Sh.rectoref17_Good c_0.name).bind (fun y34_9 =>
 k3 y34_9)))
 else (if c_0.verb = [114, 101, 115, 101, 116] then (if c_0.name = [115, 111, 102, 116] then (k3 true)
 else (if c_0.name = [109, 105, 120, 101, 100] then (k3 true)
 else (k3 (decide (c_0.name = [104, 97, 114, 100])))))
 else (k3 true)))) (fun k7 => if c_0.verb = [98, 114, 97, 110, 99, 104] then (k7 (decide (c_0.verb = [98, 114, 97, 110, 99, 104])))
 else (if c_0.verb = [100, 101, 108, 101, 116, 101] then (k7 (decide (c_0.verb = [100, 101, 108, 101, 116, 101])))
 else (k7 (decide (c_0.verb = [109, 101, 114, 103, 101]))))))))
noncomputable def rectoref17_number (c_0 : Rectoref17CmdP) : Option Int :=
 jn (fun (least3_2 : Int) =>
 if c_0.n < least3_2 then (some 1)
 else (some 0)) (fun k3 => jn (fun (x6_4 : Bool) =>
 if x6_4 = true then (k3 0)
 else (jn (fun (x10_6 : Bool) =>
 if x10_6 = true then (k3 1)
 else (if c_0.verb = [115, 119, 105, 116, 99, 104] then (if c_0.name = [] then (k3 1)
 else (k3 (-9223372036854775808)))
 else (k3 (-9223372036854775808)))) (fun k7 => if c_0.verb = [112, 105, 99, 107] then (k7 (decide (c_0.verb = [112, 105, 99, 107])))
 else (if c_0.verb = [114, 101, 118, 101, 114, 116] then (k7 (decide (c_0.verb = [114, 101, 118, 101, 114, 116])))
 else (if c_0.verb = [114, 101, 98, 97, 115, 101] then (k7 (decide (c_0.verb = [114, 101, 98, 97, 115, 101])))
 else (k7 (decide (c_0.verb = [114, 101, 115, 101, 116])))))))) (fun k5 => if c_0.verb = [112, 111, 112] then (k5 (decide (c_0.verb = [112, 111, 112])))
 else (if c_0.verb = [97, 112, 112, 108, 121] then (k5 (decide (c_0.verb = [97, 112, 112, 108, 121])))
 else (k5 (decide (c_0.verb = [115, 104, 101, 108, 118, 101]))))))
noncomputable def rectoref17_Lines (s_0 : Str) : Option (List Str) :=
 lt [[]] (fun y5_2 =>
 iter (fun ((out3_3, i4_4) : List Str × Int) =>
 if i4_4 < (s_0.length : Int) then (jn (fun (out3_5 : List Str) =>
 gd (I64 (i4_4 + 1)) (
 go (out3_5, (i4_4 + 1)))) (fun k6 => (at_ s_0 i4_4).bind (fun z14_7 =>
 if (z14_7.toNat : Int) = 10 then (lt [[]] (fun y17_9 =>
 gd (out3_3.length + y17_9.length ≤ 4294967296) (
 lt (out3_3 ++ y17_9) (fun y18_11 =>
 k6 y18_11))))
 else (gd (I64 ((out3_3.length : Int) - 1)) (
 gd (I64 ((out3_3.length : Int) - 1)) (
 (at_ out3_3 ((out3_3.length : Int) - 1)).bind (fun z27_12 =>
 gd (I64 (i4_4 + 1)) (
 gd ((0 : Int) ≤ i4_4 ∧ i4_4 ≤ (i4_4 + 1) ∧ (i4_4 + 1) ≤ (s_0.length : Int)) (
 lt ((s_0.drop i4_4.toNat).take ((i4_4 + 1).toNat - i4_4.toNat)) (fun y33_13 =>
 gd (z27_12.length + y33_13.length ≤ 9223372036854775807) (
 lt (z27_12 ++ y33_13) (fun y34_14 =>
 (at_ out3_3 ((out3_3.length : Int) - 1)).bind (fun z35_15 =>
 lt (out3_3.set ((out3_3.length : Int) - 1).toNat y34_14) (fun ys17_17 =>
 k6 ys17_17))))))))))))))
 else (up (some out3_3))) (y5_2, 0))
noncomputable def rectoref17_line (s_0 : Str) : Option Bool :=
 (Sh.rectoref17_Lines s_0).bind (fun y4_1 =>
 some (decide (1 < (y4_1.length : Int))))
noncomputable def rectoref17_words (c_0 : Rectoref17CmdP) : Option Int :=
 jn (fun (x10_2 : Bool) =>
 if x10_2 = true then (some 0)
 else (if 256 < (c_0.text.length : Int) then (some 4)
 else (jn (fun (x16_4 : Bool) =>
 if x16_4 = true then (some 1)
 else ((Sh.rectoref17_line c_0.text).bind (fun y28_6 =>
 if y28_6 = true then (some 2)
 else (some 0)))) (fun k5 => if c_0.verb = [99, 111, 109, 109, 105, 116] then (k5 (decide (c_0.text = [])))
 else (k5 false))))) (fun k3 => if c_0.verb = [99, 111, 109, 109, 105, 116] then (k3 false)
 else (k3 (!decide (c_0.verb = [115, 116, 97, 115, 104]))))
noncomputable def rectoref17_Verb (s_0 : Str) : Option Int :=
 lt [[112, 105, 99, 107], [114, 101, 119, 111, 114, 100], [101, 100, 105, 116], [115, 113, 117, 97, 115, 104], [102, 105, 120, 117, 112], [100, 114, 111, 112]] (fun y5_2 =>
 iter (fun (i4_3 : Int) =>
 if i4_3 < (y5_2.length : Int) then ((at_ y5_2 i4_3).bind (fun z14_4 =>
 if z14_4 = s_0 then (up (some i4_3))
 else (gd (I64 (i4_3 + 1)) (
 go (i4_3 + 1)))))
 else (up (some (-1)))) 0)
noncomputable def rectoref17_steps (c_0 : Rectoref17CmdP) : Option Int :=
 if c_0.verb = [114, 101, 98, 97, 115, 101] then (if 32 < (c_0.todo.length : Int) then (some 4)
 else (iter (fun (i3_2 : Int) =>
 if i3_2 < (c_0.todo.length : Int) then (jn (fun (_ : Unit) =>
 gd (I64 (i3_2 + 1)) (
 go (i3_2 + 1))) (fun k3 => (at_ c_0.todo i3_2).bind (fun z22_4 =>
 (Sh.rectoref17_Verb z22_4.verb).bind (fun y27_6 =>
 if y27_6 < 0 then (up (some 5))
 else (jn (fun (x29_7 : Bool) =>
 if x29_7 = true then (up (some 1))
 else (if z22_4.verb = [114, 101, 119, 111, 114, 100] then (if 256 < (z22_4.text.length : Int) then (up (some 4))
 else (if z22_4.text = [] then (up (some 1))
 else ((Sh.rectoref17_line z22_4.text).bind (fun y54_9 =>
 if y54_9 = true then (up (some 2))
 else (k3 ())))))
 else (k3 ()))) (fun k8 => if z22_4.commit < 1 then (k8 true)
 else (k8 (decide (1000000 < z22_4.commit)))))))))
 else (up (some 0))) 0))
 else (some 0)
noncomputable def rectoref17_CheckCmd (c_0 : Rectoref17CmdP) : Option Rectoref3WrongP :=
 (Sh.rectoref17_Place c_0.verb).bind (fun y8_3 =>
 if y8_3 < 0 then ((Sh.rectoref3_At [99, 109, 100] y8_3 5).bind (fun y12_4 =>
 some ⟨y12_4.parts, y12_4.err⟩))
 else ((Sh.rectoref17_name (⟨c_0.verb, c_0.name, c_0.n, c_0.text, c_0.force, c_0.todo⟩ : Rectoref17CmdP)).bind (fun y14_5 =>
 (Sh.rectoref17_number (⟨c_0.verb, c_0.name, c_0.n, c_0.text, c_0.force, c_0.todo⟩ : Rectoref17CmdP)).bind (fun y16_6 =>
 (Sh.rectoref17_words (⟨c_0.verb, c_0.name, c_0.n, c_0.text, c_0.force, c_0.todo⟩ : Rectoref17CmdP)).bind (fun y18_7 =>
 (Sh.rectoref17_steps (⟨c_0.verb, c_0.name, c_0.n, c_0.text, c_0.force, c_0.todo⟩ : Rectoref17CmdP)).bind (fun y20_8 =>
 lt [y14_5, y16_6, y18_7, y20_8] (fun y21_10 =>
 iter (fun (i5_11 : Int) =>
 if i5_11 < 4 then ((at_ y21_10 i5_11).bind (fun z28_12 =>
 if z28_12 = 0 then (gd (I64 (i5_11 + 1)) (
 go (i5_11 + 1)))
 else ((at_ y21_10 i5_11).bind (fun z34_13 =>
 (Sh.rectoref3_At [99, 109, 100] y8_3 z34_13).bind (fun y36_14 =>
 up (some ⟨y36_14.parts, y36_14.err⟩))))))
 else (up (some ⟨[], 0⟩))) 0)))))))
noncomputable def api_Errno_Error (e_0 : Int) : Option Str :=
 if e_0 = 0 then (some [111, 107])
 else (if e_0 = 1 then (some [97, 114, 103])
 else (if e_0 = 2 then (some [102, 111, 114, 109])
 else (if e_0 = 3 then (some [115, 104, 111, 114, 116])
 else (if e_0 = 4 then (some [108, 111, 110, 103])
 else (if e_0 = 5 then (some [110, 97, 109, 101])
 else (if e_0 = 6 then (some [116, 119, 105, 99, 101])
 else (if e_0 = 7 then (some [115, 116, 97, 116, 101])
 else (if e_0 = 8 then (some [100, 105, 114, 116, 121])
 else (if e_0 = 9 then (some [99, 111, 110, 102, 108, 105, 99, 116])
 else (if e_0 = 10 then (some [115, 97, 109, 101])
 else (if e_0 = 11 then (some [119, 97, 121])
 else (if e_0 = 12 then (some [115, 117, 109])
 else (if e_0 = 13 then (some [100, 111, 119, 110])
 else (if e_0 = 14 then (some [113, 117, 111, 116, 97])
 else (some [101, 114, 114, 111, 114])))))))))))))))
noncomputable def api_Fault_Error (f_0 : ApiFaultP) (E : Option Str) : Option Str :=
 if f_0.err.isNil = true then (gd (f_0.part.length + [32].length ≤ 9223372036854775807) (
 lt (f_0.part ++ [32]) (fun y12_1 =>
 gd (I64 f_0.at_) (
 gd (y12_1.length + (itoaS f_0.at_).length ≤ 9223372036854775807) (
 lt (y12_1 ++ (itoaS f_0.at_)) (fun y18_2 =>
 some y18_2))))))
 else (gd (f_0.part.length + [32].length ≤ 9223372036854775807) (
 lt (f_0.part ++ [32]) (fun y23_3 =>
 gd (I64 f_0.at_) (
 gd (y23_3.length + (itoaS f_0.at_).length ≤ 9223372036854775807) (
 lt (y23_3 ++ (itoaS f_0.at_)) (fun y29_4 =>
 gd (y29_4.length + [58, 32].length ≤ 9223372036854775807) (
 lt (y29_4 ++ [58, 32]) (fun y30_5 =>
 (E).bind (fun y35_6 =>
 gd (y30_5.length + y35_6.length ≤ 9223372036854775807) (
 lt (y30_5 ++ y35_6) (fun y36_7 =>
 some y36_7)))))))))))
noncomputable def erText : Err → Option Str
  | .nil => none
  | .no n => Sh.api_Errno_Error n
  | .fault p a e => Sh.api_Fault_Error ⟨p, a, e⟩ (erText e)
noncomputable def rectoref3_Decimal_r (n_0 : Int) : Option Str :=
 if n_0 < 0 then (if n_0 = (-9223372036854775808) then (some [45, 57, 50, 50, 51, 51, 55, 50, 48, 51, 54, 56, 53, 52, 55, 55, 53, 56, 48, 56])
 else (gd (I64 (0 - n_0)) (
 none)))
 else (gd ((0 : Int) ≤ n_0 ∧ (10 : Int) ≠ 0) (
 gd (I64 (48 + (n_0 % 10))) (
 gd (0 ≤ (48 + (n_0 % 10)) ∧ (48 + (n_0 % 10)) ≤ 255) (
 gd ((0 : Int) ≤ (48 + (n_0 % 10)) ∧ (48 + (n_0 % 10)) ≤ 255) (
 lt (UInt8.ofNat (48 + (n_0 % 10)).toNat) (fun u16_2 =>
 lt [u16_2] (fun y16_3 =>
 iter (fun ((n0_4, s3_5) : Int × Str) =>
 if 10 ≤ n0_4 then (gd (((0 : Int) ≤ n0_4 ∧ (10 : Int) ≠ 0) ∧ I64 (n0_4 / 10)) (
 gd ((0 : Int) ≤ (n0_4 / 10) ∧ (10 : Int) ≠ 0) (
 gd (I64 (48 + ((n0_4 / 10) % 10))) (
 gd (0 ≤ (48 + ((n0_4 / 10) % 10)) ∧ (48 + ((n0_4 / 10) % 10)) ≤ 255) (
 gd ((0 : Int) ≤ (48 + ((n0_4 / 10) % 10)) ∧ (48 + ((n0_4 / 10) % 10)) ≤ 255) (
 lt (UInt8.ofNat (48 + ((n0_4 / 10) % 10)).toNat) (fun u26_7 =>
 lt [u26_7] (fun y26_8 =>
 gd (y26_8.length + s3_5.length ≤ 9223372036854775807) (
 lt (y26_8 ++ s3_5) (fun y29_9 =>
 go ((n0_4 / 10), y29_9)))))))))))
 else (up (some s3_5))) (n_0, y16_3))))))))
noncomputable def rectoref3_Decimal (n_0 : Int) : Option Str :=
 if n_0 < 0 then (if n_0 = (-9223372036854775808) then (some [45, 57, 50, 50, 51, 51, 55, 50, 48, 51, 54, 56, 53, 52, 55, 55, 53, 56, 48, 56])
 else (gd (I64 (0 - n_0)) (
 (Sh.rectoref3_Decimal_r (0 - n_0)).bind (fun y10_1 =>
 gd ([45].length + y10_1.length ≤ 9223372036854775807) (
 lt ([45] ++ y10_1) (fun y11_2 =>
 some y11_2))))))
 else (gd ((0 : Int) ≤ n_0 ∧ (10 : Int) ≠ 0) (
 gd (I64 (48 + (n_0 % 10))) (
 gd (0 ≤ (48 + (n_0 % 10)) ∧ (48 + (n_0 % 10)) ≤ 255) (
 gd ((0 : Int) ≤ (48 + (n_0 % 10)) ∧ (48 + (n_0 % 10)) ≤ 255) (
 lt (UInt8.ofNat (48 + (n_0 % 10)).toNat) (fun u16_4 =>
 lt [u16_4] (fun y16_5 =>
 iter (fun ((n0_6, s3_7) : Int × Str) =>
 if 10 ≤ n0_6 then (gd (((0 : Int) ≤ n0_6 ∧ (10 : Int) ≠ 0) ∧ I64 (n0_6 / 10)) (
 gd ((0 : Int) ≤ (n0_6 / 10) ∧ (10 : Int) ≠ 0) (
 gd (I64 (48 + ((n0_6 / 10) % 10))) (
 gd (0 ≤ (48 + ((n0_6 / 10) % 10)) ∧ (48 + ((n0_6 / 10) % 10)) ≤ 255) (
 gd ((0 : Int) ≤ (48 + ((n0_6 / 10) % 10)) ∧ (48 + ((n0_6 / 10) % 10)) ≤ 255) (
 lt (UInt8.ofNat (48 + ((n0_6 / 10) % 10)).toNat) (fun u26_9 =>
 lt [u26_9] (fun y26_10 =>
 gd (y26_10.length + s3_7.length ≤ 9223372036854775807) (
 lt (y26_10 ++ s3_7) (fun y29_11 =>
 go ((n0_6 / 10), y29_11)))))))))))
 else (up (some s3_7))) (n_0, y16_5))))))))
noncomputable def rectoref3_Word (e_0 : Int) : Option Str :=
 lt [[111, 107], [97, 114, 103], [102, 111, 114, 109], [115, 104, 111, 114, 116], [108, 111, 110, 103], [110, 97, 109, 101], [116, 119, 105, 99, 101], [115, 116, 97, 116, 101], [100, 105, 114, 116, 121], [99, 111, 110, 102, 108, 105, 99, 116], [115, 97, 109, 101], [119, 97, 121], [115, 117, 109], [100, 111, 119, 110], [113, 117, 111, 116, 97]] (fun y4_2 =>
 jn (fun (x12_3 : Bool) =>
 if x12_3 = true then (some [101, 114, 114, 111, 114])
 else ((at_ y4_2 e_0).bind (fun z15_5 =>
 some z15_5))) (fun k4 => if e_0 < 0 then (k4 true)
 else (k4 (decide ((y4_2.length : Int) ≤ e_0)))))
noncomputable def rectoref3_Words (w_0 : Rectoref3WrongP) : Option Str :=
 iter (fun ((s3_2, i4_3) : Str × Int) =>
 if i4_3 < (w_0.parts.length : Int) then ((at_ w_0.parts i4_3).bind (fun z16_4 =>
 gd (s3_2.length + z16_4.word.length ≤ 9223372036854775807) (
 lt (s3_2 ++ z16_4.word) (fun y19_5 =>
 gd (y19_5.length + [32].length ≤ 9223372036854775807) (
 lt (y19_5 ++ [32]) (fun y20_6 =>
 (at_ w_0.parts i4_3).bind (fun z24_7 =>
 (Sh.rectoref3_Decimal z24_7.at_).bind (fun y27_8 =>
 gd (y20_6.length + y27_8.length ≤ 9223372036854775807) (
 lt (y20_6 ++ y27_8) (fun y28_9 =>
 gd (y28_9.length + [58, 32].length ≤ 9223372036854775807) (
 lt (y28_9 ++ [58, 32]) (fun y29_10 =>
 gd (I64 (i4_3 + 1)) (
 go (y29_10, (i4_3 + 1)))))))))))))))
 else (up ((Sh.rectoref3_Word w_0.err).bind (fun y33_11 =>
 gd (s3_2.length + y33_11.length ≤ 9223372036854775807) (
 lt (s3_2 ++ y33_11) (fun y34_12 =>
 some y34_12)))))) ([], 0)
noncomputable def rectolaw2_Tells (err_0 : Err) (w_1 : Rectoref3WrongP) : Option Bool :=
 if w_1.err = 0 then (some (decide (err_0.isNil = true)))
 else (jn (fun (x27_2 : Bool) =>
 if x27_2 = true then (some false)
 else (if (w_1.parts.length : Int) = 0 then (some true)
 else ((match err_0 with
 | .fault ep7 ea7 ez7 => ((at_ w_1.parts 0).bind (fun z46_8 =>
 if ep7 = z46_8.word then ((at_ w_1.parts 0).bind (fun z57_9 =>
 some (decide (ea7 = z57_9.at_))))
 else (some false)))
 | _ => none)))) (fun k3 => if err_0.isNil = true then (k3 true)
 else ((Sh.erText err_0).bind (fun y15_4 =>
 (Sh.rectoref3_Words w_1).bind (fun y17_5 =>
 if y15_4 = y17_5 then (k3 (!decide (endNo err_0 = some w_1.err)))
 else (k3 true))))))
noncomputable def rectolaw1_texts (a_0 : List Str) (b_1 : List Str) : Option Bool :=
 if (a_0.length : Int) = (b_1.length : Int) then (iter (fun (i5_1 : Int) =>
 if i5_1 < (a_0.length : Int) then ((at_ a_0 i5_1).bind (fun z19_2 =>
 (at_ b_1 i5_1).bind (fun z23_3 =>
 if z19_2 = z23_3 then (gd (I64 (i5_1 + 1)) (
 go (i5_1 + 1)))
 else (up (some false)))))
 else (up (some true))) 0)
 else (some false)
noncomputable def rectolaw1_Texts (a_0 : List Str) (b_1 : List Str) : Option Bool :=
 (Sh.rectolaw1_texts a_0 b_1).bind (fun y7_1 =>
 some y7_1)
noncomputable def rectoref17_Text (l_0 : List Rectoref17Step) : Option Str :=
 iter (fun ((s3_1, i4_2) : Str × Int) =>
 if i4_2 < (l_0.length : Int) then ((at_ l_0 i4_2).bind (fun z14_3 =>
 gd (s3_1.length + z14_3.verb.length ≤ 9223372036854775807) (
 lt (s3_1 ++ z14_3.verb) (fun y17_4 =>
 gd (y17_4.length + [32].length ≤ 9223372036854775807) (
 lt (y17_4 ++ [32]) (fun y18_5 =>
 (at_ l_0 i4_2).bind (fun z21_6 =>
 (Sh.rectoref3_Decimal z21_6.commit).bind (fun y24_7 =>
 gd (y18_5.length + y24_7.length ≤ 9223372036854775807) (
 lt (y18_5 ++ y24_7) (fun y25_8 =>
 jn (fun (s3_9 : Str) =>
 gd (s3_9.length + [10].length ≤ 9223372036854775807) (
 lt (s3_9 ++ [10]) (fun y41_15 =>
 gd (I64 (i4_2 + 1)) (
 go (y41_15, (i4_2 + 1)))))) (fun k10 => (at_ l_0 i4_2).bind (fun z28_11 =>
 if z28_11.verb = [114, 101, 119, 111, 114, 100] then (gd (y25_8.length + [32].length ≤ 9223372036854775807) (
 lt (y25_8 ++ [32]) (fun y33_12 =>
 (at_ l_0 i4_2).bind (fun z36_13 =>
 gd (y33_12.length + z36_13.text.length ≤ 9223372036854775807) (
 lt (y33_12 ++ z36_13.text) (fun y39_14 =>
 k10 y39_14))))))
 else (k10 y25_8)))))))))))))
 else (up (some s3_1))) ([], 0)
noncomputable def rectoref17_Say (c_0 : Rectoref17CmdP) : Option Str :=
 jn (fun (s3_2 : Str) =>
 jn (fun (s3_8 : Str) =>
 jn (fun (s3_18 : Str) =>
 jn (fun (s3_23 : Str) =>
 if c_0.verb = [114, 101, 98, 97, 115, 101] then (gd (s3_23.length + [10].length ≤ 9223372036854775807) (
 lt (s3_23 ++ [10]) (fun y87_29 =>
 (Sh.rectoref17_Text c_0.todo).bind (fun y90_30 =>
 gd (y87_29.length + y90_30.length ≤ 9223372036854775807) (
 lt (y87_29 ++ y90_30) (fun y91_31 =>
 some y91_31))))))
 else (some s3_23)) (fun k24 => jn (fun (x77_25 : Bool) =>
 if x77_25 = true then (gd (s3_18.length + [32].length ≤ 9223372036854775807) (
 lt (s3_18 ++ [32]) (fun y79_27 =>
 gd (y79_27.length + c_0.text.length ≤ 9223372036854775807) (
 lt (y79_27 ++ c_0.text) (fun y82_28 =>
 k24 y82_28)))))
 else (k24 s3_18)) (fun k26 => if c_0.verb = [99, 111, 109, 109, 105, 116] then (k26 (!decide (c_0.text = [])))
 else (if c_0.verb = [115, 116, 97, 115, 104] then (k26 (!decide (c_0.text = [])))
 else (k26 false))))) (fun k19 => jn (fun (x62_20 : Bool) =>
 if x62_20 = true then (gd (s3_8.length + [32, 45, 102].length ≤ 9223372036854775807) (
 lt (s3_8 ++ [32, 45, 102]) (fun y64_22 =>
 k19 y64_22)))
 else (k19 s3_8)) (fun k21 => if c_0.force = true then (if c_0.verb = [114, 109] then (k21 true)
 else (k21 (decide (c_0.verb = [115, 119, 105, 116, 99, 104]))))
 else (k21 false)))) (fun k9 => jn (fun (x26_10 : Bool) =>
 if x26_10 = true then (gd (s3_2.length + [32].length ≤ 9223372036854775807) (
 lt (s3_2 ++ [32]) (fun y35_12 =>
 (Sh.rectoref3_Decimal c_0.n).bind (fun y38_13 =>
 gd (y35_12.length + y38_13.length ≤ 9223372036854775807) (
 lt (y35_12 ++ y38_13) (fun y39_14 =>
 k9 y39_14))))))
 else (if c_0.verb = [115, 119, 105, 116, 99, 104] then (if c_0.name = [] then (gd (s3_2.length + [32].length ≤ 9223372036854775807) (
 lt (s3_2 ++ [32]) (fun y46_15 =>
 (Sh.rectoref3_Decimal c_0.n).bind (fun y49_16 =>
 gd (y46_15.length + y49_16.length ≤ 9223372036854775807) (
 lt (y46_15 ++ y49_16) (fun y50_17 =>
 k9 y50_17))))))
 else (k9 s3_2))
 else (k9 s3_2))) (fun k11 => if c_0.verb = [114, 101, 115, 101, 116] then (k11 (decide (c_0.verb = [114, 101, 115, 101, 116])))
 else (if c_0.verb = [112, 105, 99, 107] then (k11 (decide (c_0.verb = [112, 105, 99, 107])))
 else (if c_0.verb = [114, 101, 118, 101, 114, 116] then (k11 (decide (c_0.verb = [114, 101, 118, 101, 114, 116])))
 else (if c_0.verb = [112, 111, 112] then (k11 (decide (c_0.verb = [112, 111, 112])))
 else (if c_0.verb = [97, 112, 112, 108, 121] then (k11 (decide (c_0.verb = [97, 112, 112, 108, 121])))
 else (if c_0.verb = [115, 104, 101, 108, 118, 101] then (k11 (decide (c_0.verb = [115, 104, 101, 108, 118, 101])))
 else (k11 (decide (c_0.verb = [114, 101, 98, 97, 115, 101]))))))))))) (fun k3 => jn (fun (x8_4 : Bool) =>
 if x8_4 = true then (if c_0.name = [] then (k3 c_0.verb)
 else (gd (c_0.verb.length + [32].length ≤ 9223372036854775807) (
 lt (c_0.verb ++ [32]) (fun y20_6 =>
 gd (y20_6.length + c_0.name.length ≤ 9223372036854775807) (
 lt (y20_6 ++ c_0.name) (fun y23_7 =>
 k3 y23_7))))))
 else (k3 c_0.verb)) (fun k5 => if c_0.verb = [97, 100, 100] then (k5 (decide (c_0.verb = [97, 100, 100])))
 else (if c_0.verb = [114, 109] then (k5 (decide (c_0.verb = [114, 109])))
 else (if c_0.verb = [98, 114, 97, 110, 99, 104] then (k5 (decide (c_0.verb = [98, 114, 97, 110, 99, 104])))
 else (if c_0.verb = [100, 101, 108, 101, 116, 101] then (k5 (decide (c_0.verb = [100, 101, 108, 101, 116, 101])))
 else (if c_0.verb = [115, 119, 105, 116, 99, 104] then (k5 (decide (c_0.verb = [115, 119, 105, 116, 99, 104])))
 else (if c_0.verb = [114, 101, 115, 101, 116] then (k5 (decide (c_0.verb = [114, 101, 115, 101, 116])))
 else (k5 (decide (c_0.verb = [109, 101, 114, 103, 101]))))))))))
noncomputable def rectoref17_cut (s_0 : Str) (b_1 : Int) : Option (Str × Str × Bool) :=
 iter (fun (i7_1 : Int) =>
 if i7_1 < (s_0.length : Int) then ((at_ s_0 i7_1).bind (fun z16_2 =>
 if (z16_2.toNat : Int) = b_1 then (gd ((0 : Int) ≤ i7_1 ∧ i7_1 ≤ (s_0.length : Int)) (
 lt (s_0.take i7_1.toNat) (fun y21_3 =>
 gd (I64 (i7_1 + 1)) (
 gd ((0 : Int) ≤ (i7_1 + 1) ∧ (i7_1 + 1) ≤ (s_0.length : Int)) (
 lt (s_0.drop (i7_1 + 1).toNat) (fun y25_4 =>
 up (some (y21_3, y25_4, true))))))))
 else (gd (I64 (i7_1 + 1)) (
 go (i7_1 + 1)))))
 else (up (some (s_0, [], false)))) 0
noncomputable def rectoref17_fields (s_0 : Str) : Option (List Str) :=
 iter (fun ((s0_1, out3_2, more4_3) : Str × List Str × Bool) =>
 if more4_3 = true then ((Sh.rectoref17_cut s0_1 32).bind (fun y11_4 =>
 lt [y11_4.1] (fun y17_6 =>
 gd (out3_2.length + y17_6.length ≤ 4294967296) (
 lt (out3_2 ++ y17_6) (fun y18_8 =>
 go (y11_4.2.1, y18_8, y11_4.2.2))))))
 else (up (some out3_2))) (s_0, [], true)
noncomputable def rectoref17_Number (s_0 : Str) : Option Int :=
 jn (fun (x22_1 : Bool) =>
 if x22_1 = true then (some (-1))
 else (iter (fun ((n3_4, i4_5) : Int × Int) =>
 if i4_5 < (s_0.length : Int) then (jn (fun (x38_6 : Bool) =>
 if x38_6 = true then (up (some (-1)))
 else (gd (I64 (10 * n3_4)) (
 (at_ s_0 i4_5).bind (fun z43_10 =>
 gd (0 ≤ (z43_10.toNat : Int) - 48 ∧ (z43_10.toNat : Int) - 48 ≤ 255) (
 gd (I64 ((10 * n3_4) + (IntKind.wrap .i64 ((z43_10.toNat : Int) - 48)))) (
 gd (I64 (i4_5 + 1)) (
 go (((10 * n3_4) + (IntKind.wrap .i64 ((z43_10.toNat : Int) - 48))), (i4_5 + 1))))))))) (fun k7 => (at_ s_0 i4_5).bind (fun z31_8 =>
 if (z31_8.toNat : Int) < 48 then (k7 true)
 else ((at_ s_0 i4_5).bind (fun z36_9 =>
 k7 (decide (57 < (z36_9.toNat : Int))))))))
 else (up (if 1000000 < n3_4 then (some (-1))
 else (some n3_4)))) (0, 0))) (fun k2 => if (s_0.length : Int) < 1 then (k2 true)
 else (if 7 < (s_0.length : Int) then (k2 true)
 else (if 1 < (s_0.length : Int) then ((at_ s_0 0).bind (fun z19_3 =>
 k2 (decide ((z19_3.toNat : Int) = 48))))
 else (k2 false))))
noncomputable def rectoref17_word (s_0 : Str) : Option (Str × Str) :=
 jn (fun (i4_1 : Int) =>
 jn (fun (k5_5 : Int) =>
 gd ((0 : Int) ≤ i4_1 ∧ i4_1 ≤ k5_5 ∧ k5_5 ≤ (s_0.length : Int)) (
 lt ((s_0.drop i4_1.toNat).take (k5_5.toNat - i4_1.toNat)) (fun y34_9 =>
 gd ((0 : Int) ≤ k5_5 ∧ k5_5 ≤ (s_0.length : Int)) (
 lt (s_0.drop k5_5.toNat) (fun y37_10 =>
 some (y34_9, y37_10)))))) (fun k6 => iter (fun (k5_7 : Int) =>
 if k5_7 < (s_0.length : Int) then ((at_ s_0 k5_7).bind (fun z26_8 =>
 if (z26_8.toNat : Int) = 32 then (up (k6 k5_7))
 else (gd (I64 (k5_7 + 1)) (
 go (k5_7 + 1)))))
 else (up (k6 k5_7))) i4_1)) (fun k2 => iter (fun (i4_3 : Int) =>
 if i4_3 < (s_0.length : Int) then ((at_ s_0 i4_3).bind (fun z13_4 =>
 if (z13_4.toNat : Int) = 32 then (gd (I64 (i4_3 + 1)) (
 go (i4_3 + 1)))
 else (up (k2 i4_3))))
 else (up (k2 i4_3))) 0)
noncomputable def rectoref17_blank (s_0 : Str) : Option Bool :=
 (Sh.rectoref17_word s_0).bind (fun y7_1 =>
 some (decide (y7_1.1 = [])))
noncomputable def rectoref17_step (s_0 : Str) : Option (Rectoref17Step × Int) :=
 (Sh.rectoref17_word s_0).bind (fun y11_2 =>
 (Sh.rectoref17_word y11_2.2).bind (fun y16_3 =>
 if y16_3.1 = [] then (some (⟨[], 0, []⟩, 2))
 else ((Sh.rectoref17_Verb y11_2.1).bind (fun y23_4 =>
 if y23_4 < 0 then (some (⟨[], 0, []⟩, 5))
 else ((Sh.rectoref17_Number y16_3.1).bind (fun y27_5 =>
 if y27_5 < 1 then (some (⟨[], 0, []⟩, 1))
 else (if y11_2.1 = [114, 101, 119, 111, 114, 100] then (if (y16_3.2.length : Int) < 2 then (some (⟨[], 0, []⟩, 2))
 else (gd (I64 ((y16_3.2.length : Int) - 1)) (
 if 256 < ((y16_3.2.length : Int) - 1) then (some (⟨[], 0, []⟩, 4))
 else (gd ((0 : Int) ≤ 1 ∧ 1 ≤ (y16_3.2.length : Int)) (
 lt (y16_3.2.drop (1 : Int).toNat) (fun y52_7 =>
 some (⟨y11_2.1, y27_5, y52_7⟩, 0)))))))
 else ((Sh.rectoref17_blank y16_3.2).bind (fun y34_6 =>
 if (!y34_6) = true then (some (⟨[], 0, []⟩, 2))
 else (some (⟨y11_2.1, y27_5, []⟩, 0)))))))))))
noncomputable def rectoref17_Parse (s_0 : Str) : Option (List Rectoref17Step × Rectoref3WrongP) :=
 (Sh.rectoref17_Lines s_0).bind (fun y12_2 =>
 iter (fun ((out5_3, i6_4) : List Rectoref17Step × Int) =>
 if i6_4 < (y12_2.length : Int) then (jn (fun (out5_5 : List Rectoref17Step) =>
 gd (I64 (i6_4 + 1)) (
 go (out5_5, (i6_4 + 1)))) (fun k6 => (at_ y12_2 i6_4).bind (fun z22_7 =>
 (Sh.rectoref17_word z22_7).bind (fun y24_8 =>
 if y24_8.1 = [] then (k6 out5_3)
 else ((at_ y24_8.1 0).bind (fun z31_9 =>
 if (z31_9.toNat : Int) = 35 then (k6 out5_3)
 else ((at_ y12_2 i6_4).bind (fun z37_10 =>
 (Sh.rectoref17_step z37_10).bind (fun y39_11 =>
 if y39_11.2 = 0 then (if (out5_3.length : Int) = 32 then ((Sh.rectoref3_At [108, 105, 110, 101] 32 4).bind (fun y50_14 =>
 up (some ([], ⟨y50_14.parts, y50_14.err⟩))))
 else (lt [⟨y39_11.1.verb, y39_11.1.commit, y39_11.1.text⟩] (fun y53_16 =>
 gd (out5_3.length + y53_16.length ≤ 4294967296) (
 lt (out5_3 ++ y53_16) (fun y54_18 =>
 k6 y54_18)))))
 else ((Sh.rectoref3_At [108, 105, 110, 101] i6_4 y39_11.2).bind (fun y46_13 =>
 up (some ([], ⟨y46_13.parts, y46_13.err⟩)))))))))))))
 else (up (some (out5_3, ⟨[], 0⟩)))) ([], 0))
noncomputable def rectoref3_In (word_0 : Str) (at_1 : Int) (w_2 : Rectoref3WrongP) : Option Rectoref3WrongP :=
 lt [⟨word_0, at_1⟩] (fun y10_4 =>
 gd (y10_4.length + w_2.parts.length ≤ 4294967296) (
 lt (y10_4 ++ w_2.parts) (fun y13_6 =>
 some ⟨y13_6, w_2.err⟩)))
noncomputable def rectoref17_Hear (s_0 : Str) : Option (Rectoref17CmdP × Rectoref3WrongP) :=
 (Sh.rectoref17_cut s_0 10).bind (fun y19_3 =>
 (Sh.rectoref17_cut y19_3.1 32).bind (fun y25_4 =>
 (Sh.rectoref17_Place y25_4.1).bind (fun y30_5 =>
 if y30_5 < 0 then ((Sh.rectoref3_At [99, 109, 100] y30_5 5).bind (fun y35_6 =>
 some (⟨[], [], 0, [], false, []⟩, ⟨y35_6.parts, y35_6.err⟩)))
 else ((Sh.rectoref3_At [99, 109, 100] y30_5 2).bind (fun y39_8 =>
 jn (fun (x44_10 : Bool) =>
 if x44_10 = true then (some (⟨[], [], 0, [], false, []⟩, ⟨y39_8.parts, y39_8.err⟩))
 else (jn (fun (w13_12 : List Str) =>
 jn (fun ((w13_15, c3_16, c4_17) : List Str × Str × Bool) =>
 jn (fun ((w13_30, c1_31, c2_32) : List Str × Str × Int) =>
 if 0 < (w13_30.length : Int) then (some (⟨[], [], 0, [], false, []⟩, ⟨y39_8.parts, y39_8.err⟩))
 else (jn (fun (c5_69 : List Rectoref17Step) =>
 (Sh.rectoref17_CheckCmd (⟨y25_4.1, c1_31, c2_32, c3_16, c4_17, c5_69⟩ : Rectoref17CmdP)).bind (fun y227_74 =>
 if y227_74.err = 0 then (some (⟨y25_4.1, c1_31, c2_32, c3_16, c4_17, c5_69⟩, ⟨y227_74.parts, y227_74.err⟩))
 else (some (⟨[], [], 0, [], false, []⟩, ⟨y227_74.parts, y227_74.err⟩)))) (fun k70 => if y25_4.1 = [114, 101, 98, 97, 115, 101] then ((Sh.rectoref17_Parse y19_3.2.1).bind (fun y214_71 =>
 if y214_71.2.err = 0 then (k70 y214_71.1)
 else ((Sh.rectoref3_In [99, 109, 100] y30_5 y214_71.2).bind (fun y223_73 =>
 some (⟨[], [], 0, [], false, []⟩, ⟨y223_73.parts, y223_73.err⟩)))))
 else (k70 ([] : List Rectoref17Step))))) (fun k33 => jn (fun (x85_34 : Bool) =>
 if x85_34 = true then (jn (fun (_ : Unit) =>
 jn (fun (x106_37 : Bool) =>
 if x106_37 = true then (some (⟨[], [], 0, [], false, []⟩, ⟨y39_8.parts, y39_8.err⟩))
 else ((at_ w13_15 0).bind (fun z110_40 =>
 k33 ([], z110_40, 0)))) (fun k38 => if (w13_15.length : Int) = 1 then ((at_ w13_15 0).bind (fun z103_39 =>
 k38 (decide (z103_39 = []))))
 else (k38 true))) (fun k36 => if y25_4.1 = [97, 100, 100] then (if (w13_15.length : Int) = 0 then (k33 (w13_15, [], 0))
 else (k36 ()))
 else (k36 ())))
 else (if y25_4.1 = [115, 119, 105, 116, 99, 104] then (jn (fun (x123_41 : Bool) =>
 if x123_41 = true then (some (⟨[], [], 0, [], false, []⟩, ⟨y39_8.parts, y39_8.err⟩))
 else (jn (fun (x137_44 : Bool) =>
 if x137_44 = true then ((at_ w13_15 0).bind (fun z139_50 =>
 (Sh.rectoref17_Number z139_50).bind (fun y141_51 =>
 if y141_51 < 0 then (some (⟨[], [], 0, [], false, []⟩, ⟨y39_8.parts, y39_8.err⟩))
 else (k33 ([], [], y141_51)))))
 else ((at_ w13_15 0).bind (fun z149_52 =>
 k33 ([], z149_52, 0)))) (fun k45 => (at_ w13_15 0).bind (fun z127_46 =>
 (at_ z127_46 0).bind (fun z129_47 =>
 if 48 ≤ (z129_47.toNat : Int) then ((at_ w13_15 0).bind (fun z133_48 =>
 (at_ z133_48 0).bind (fun z135_49 =>
 k45 (decide ((z135_49.toNat : Int) ≤ 57)))))
 else (k45 false)))))) (fun k42 => if (w13_15.length : Int) = 1 then ((at_ w13_15 0).bind (fun z120_43 =>
 k42 (decide (z120_43 = []))))
 else (k42 true)))
 else (if y25_4.1 = [114, 101, 115, 101, 116] then (jn (fun (x169_53 : Bool) =>
 if x169_53 = true then (some (⟨[], [], 0, [], false, []⟩, ⟨y39_8.parts, y39_8.err⟩))
 else ((at_ w13_15 0).bind (fun z173_58 =>
 (at_ w13_15 1).bind (fun z177_59 =>
 (Sh.rectoref17_Number z177_59).bind (fun y179_60 =>
 k33 ([], z173_58, y179_60)))))) (fun k54 => if (w13_15.length : Int) = 2 then ((at_ w13_15 0).bind (fun z159_55 =>
 if z159_55 = [] then (k54 true)
 else ((at_ w13_15 1).bind (fun z165_56 =>
 (Sh.rectoref17_Number z165_56).bind (fun y167_57 =>
 k54 (decide (y167_57 < 0)))))))
 else (k54 true)))
 else (jn (fun (x181_61 : Bool) =>
 if x181_61 = true then (jn (fun (x197_63 : Bool) =>
 if x197_63 = true then (some (⟨[], [], 0, [], false, []⟩, ⟨y39_8.parts, y39_8.err⟩))
 else ((at_ w13_15 0).bind (fun z201_67 =>
 (Sh.rectoref17_Number z201_67).bind (fun y203_68 =>
 k33 ([], [], y203_68))))) (fun k64 => if (w13_15.length : Int) = 1 then ((at_ w13_15 0).bind (fun z193_65 =>
 (Sh.rectoref17_Number z193_65).bind (fun y195_66 =>
 k64 (decide (y195_66 < 0)))))
 else (k64 true)))
 else (k33 (w13_15, [], 0))) (fun k62 => if y25_4.1 = [112, 105, 99, 107] then (k62 (decide (y25_4.1 = [112, 105, 99, 107])))
 else (if y25_4.1 = [114, 101, 118, 101, 114, 116] then (k62 (decide (y25_4.1 = [114, 101, 118, 101, 114, 116])))
 else (if y25_4.1 = [112, 111, 112] then (k62 (decide (y25_4.1 = [112, 111, 112])))
 else (if y25_4.1 = [97, 112, 112, 108, 121] then (k62 (decide (y25_4.1 = [97, 112, 112, 108, 121])))
 else (if y25_4.1 = [115, 104, 101, 108, 118, 101] then (k62 (decide (y25_4.1 = [115, 104, 101, 108, 118, 101])))
 else (k62 (decide (y25_4.1 = [114, 101, 98, 97, 115, 101])))))))))))) (fun k35 => if y25_4.1 = [97, 100, 100] then (k35 (decide (y25_4.1 = [97, 100, 100])))
 else (if y25_4.1 = [114, 109] then (k35 (decide (y25_4.1 = [114, 109])))
 else (if y25_4.1 = [98, 114, 97, 110, 99, 104] then (k35 (decide (y25_4.1 = [98, 114, 97, 110, 99, 104])))
 else (if y25_4.1 = [100, 101, 108, 101, 116, 101] then (k35 (decide (y25_4.1 = [100, 101, 108, 101, 116, 101])))
 else (k35 (decide (y25_4.1 = [109, 101, 114, 103, 101]))))))))) (fun k18 => jn (fun (x51_19 : Bool) =>
 if x51_19 = true then (jn (fun (x60_21 : Bool) =>
 if x60_21 = true then (some (⟨[], [], 0, [], false, []⟩, ⟨y39_8.parts, y39_8.err⟩))
 else (k18 ([], y25_4.2.1, false))) (fun k22 => if y25_4.2.2 = true then (k22 (decide (y25_4.2.1 = [])))
 else (k22 false)))
 else (jn (fun (x63_23 : Bool) =>
 if x63_23 = true then (jn (fun (x77_25 : Bool) =>
 if x77_25 = true then (gd (I64 ((w13_12.length : Int) - 1)) (
 gd ((0 : Int) ≤ ((w13_12.length : Int) - 1) ∧ ((w13_12.length : Int) - 1) ≤ (w13_12.length : Int)) (
 lt (w13_12.take ((w13_12.length : Int) - 1).toNat) (fun y83_29 =>
 k18 (y83_29, [], true)))))
 else (k18 (w13_12, [], false))) (fun k26 => if 1 < (w13_12.length : Int) then (gd (I64 ((w13_12.length : Int) - 1)) (
 (at_ w13_12 ((w13_12.length : Int) - 1)).bind (fun z74_27 =>
 k26 (decide (z74_27 = [45, 102])))))
 else (k26 false)))
 else (k18 (w13_12, [], false))) (fun k24 => if y25_4.1 = [114, 109] then (k24 (decide (y25_4.1 = [114, 109])))
 else (k24 (decide (y25_4.1 = [115, 119, 105, 116, 99, 104])))))) (fun k20 => if y25_4.1 = [99, 111, 109, 109, 105, 116] then (k20 (decide (y25_4.1 = [99, 111, 109, 109, 105, 116])))
 else (k20 (decide (y25_4.1 = [115, 116, 97, 115, 104])))))) (fun k13 => if y25_4.2.2 = true then ((Sh.rectoref17_fields y25_4.2.1).bind (fun y49_14 =>
 k13 y49_14))
 else (k13 [])))) (fun k11 => if y25_4.1 = [114, 101, 98, 97, 115, 101] then (k11 false)
 else (k11 y19_3.2.2)))))))
noncomputable def rectoref17_Same (a_0 : Rectoref17CmdP) (b_1 : Rectoref17CmdP) : Option Bool :=
 jn (fun (x47_3 : Bool) =>
 if x47_3 = true then (some false)
 else (iter (fun (i5_5 : Int) =>
 if i5_5 < (a_0.todo.length : Int) then ((at_ a_0.todo i5_5).bind (fun z58_6 =>
 (at_ b_1.todo i5_5).bind (fun z63_7 =>
 if z58_6.verb = z63_7.verb ∧ z58_6.commit = z63_7.commit ∧ z58_6.text = z63_7.text then (gd (I64 (i5_5 + 1)) (
 go (i5_5 + 1)))
 else (up (some false)))))
 else (up (some true))) 0)) (fun k4 => if a_0.verb = b_1.verb then (if a_0.name = b_1.name then (if a_0.n = b_1.n then (if a_0.text = b_1.text then (if a_0.force = b_1.force then (k4 (!decide ((a_0.todo.length : Int) = (b_1.todo.length : Int))))
 else (k4 true))
 else (k4 true))
 else (k4 true))
 else (k4 true))
 else (k4 true))
noncomputable def rectolaw22_CmdBack (c_0 : CmdCmdP) : Option Bool :=
 (Sh.rectolaw22_known).bind (fun y9_2 =>
 if (!y9_2) = true then (some false)
 else ((Sh.rectolaw22_Few (⟨c_0.verb, c_0.name, c_0.n, c_0.text, c_0.force, c_0.todo⟩ : CmdCmdP)).bind (fun y12_3 =>
 if (!y12_3) = true then (some true)
 else ((Sh.rectolaw22_Of (⟨c_0.verb, c_0.name, c_0.n, c_0.text, c_0.force, c_0.todo⟩ : CmdCmdP)).bind (fun y15_4 =>
 (Sh.rectoref17_CheckCmd (⟨y15_4.verb, y15_4.name, y15_4.n, y15_4.text, y15_4.force, y15_4.todo⟩ : Rectoref17CmdP)).bind (fun y16_5 =>
 jn (fun (x27_7 : Bool) =>
 if x27_7 = true then (some false)
 else (jn (fun (x35_14 : Bool) =>
 if x35_14 = true then (some true)
 else ((Sh.cmd_Text (⟨c_0.verb, c_0.name, c_0.n, c_0.text, c_0.force, c_0.todo⟩ : CmdCmdP)).bind (fun y37_16 =>
 (Sh.rectolaw22_Of (⟨c_0.verb, c_0.name, c_0.n, c_0.text, c_0.force, c_0.todo⟩ : CmdCmdP)).bind (fun y40_17 =>
 (Sh.rectoref17_Say (⟨y40_17.verb, y40_17.name, y40_17.n, y40_17.text, y40_17.force, y40_17.todo⟩ : Rectoref17CmdP)).bind (fun y41_18 =>
 if y37_16 = y41_18 then ((Sh.cmd_Parse y37_16).bind (fun y45_19 =>
 (Sh.rectoref17_Hear y37_16).bind (fun y50_21 =>
 (Sh.rectolaw2_Tells y45_19.2 y50_21.2).bind (fun y55_24 =>
 if y55_24 = true then ((Sh.rectolaw22_Of (⟨y45_19.1.verb, y45_19.1.name, y45_19.1.n, y45_19.1.text, y45_19.1.force, y45_19.1.todo⟩ : CmdCmdP)).bind (fun y58_25 =>
 (Sh.rectoref17_Same (⟨y58_25.verb, y58_25.name, y58_25.n, y58_25.text, y58_25.force, y58_25.todo⟩ : Rectoref17CmdP) (⟨y50_21.1.verb, y50_21.1.name, y50_21.1.n, y50_21.1.text, y50_21.1.force, y50_21.1.todo⟩ : Rectoref17CmdP)).bind (fun y60_26 =>
 if y60_26 = true then (if y50_21.2.err = 0 then ((Sh.cmd_Text (⟨y45_19.1.verb, y45_19.1.name, y45_19.1.n, y45_19.1.text, y45_19.1.force, y45_19.1.todo⟩ : CmdCmdP)).bind (fun y68_27 =>
 some (decide (y68_27 = y37_16))))
 else (some true))
 else (some false))))
 else (some false)))))
 else (some false)))))) (fun k15 => if y16_5.err = 0 then (k15 (decide (1000000 < c_0.n)))
 else (k15 true)))) (fun k8 => (Sh.cmd_Check (⟨c_0.verb, c_0.name, c_0.n, c_0.text, c_0.force, c_0.todo⟩ : CmdCmdP)).bind (fun y18_9 =>
 (Sh.rectolaw2_Tells y18_9 y16_5).bind (fun y20_10 =>
 if (!y20_10) = true then (k8 true)
 else ((Sh.cmd_Verbs).bind (fun y23_11 =>
 (Sh.rectoref17_Verbs).bind (fun y24_12 =>
 (Sh.rectolaw1_Texts y23_11 y24_12).bind (fun y25_13 =>
 k8 (!y25_13))))))))))))))
end Go.S.Sh
end

section
namespace Go.Proofs
open Go.Shelf
def Tryz.lays156_ren : Go.Shelf.Ren := ⟨fun | 156 => 122 | 165 => 202 | 166 => 203 | 169 => 204 | 240 => 262 | 241 => 263 | 276 => 312 | 277 => 313 | n => n, fun | 31 => 32 | 9 => 9 | 3 => 3 | 4 => 4 | 0 => 0 | 20 => 20 | 72 => 274 | 76 => 62 | 70 => 272 | 37 => 61 | 75 => 27 | 127 => 343 | 164 => 260 | 5 => 5 | 80 => 177 | n => n, fun | n => n⟩
theorem Tryz.lays156 : Go.Proofs.Lays.n156 Tryz.prog Tryz.lays156_ren := {
  mixed := by kernel_rfl
  f156 := Tryz.func122.trans (congrArg some (by kernel_rfl))
  f165 := Tryz.func202.trans (congrArg some (by kernel_rfl))
  f166 := Tryz.func203.trans (congrArg some (by kernel_rfl))
  f169 := Tryz.func204.trans (congrArg some (by kernel_rfl))
  f240 := Tryz.func262.trans (congrArg some (by kernel_rfl))
  f241 := Tryz.func263.trans (congrArg some (by kernel_rfl))
  f276 := Tryz.func312.trans (congrArg some (by kernel_rfl))
  f277 := Tryz.func313.trans (congrArg some (by kernel_rfl))
  t0 := Tryz.underlying0
  a0 := Tryz.isAgg0
  z0 := Tryz.sizeOf0
  v0 := Tryz.zeroValue0
  t3 := Tryz.underlying3
  a3 := Tryz.isAgg3
  z3 := Tryz.sizeOf3
  v3 := Tryz.zeroValue3
  t4 := Tryz.underlying4
  a4 := Tryz.isAgg4
  z4 := Tryz.sizeOf4
  v4 := Tryz.zeroValue4
  t9 := Tryz.underlying9
  a9 := Tryz.isAgg9
  z9 := Tryz.sizeOf9
  v9 := Tryz.zeroValue9
  t20 := Tryz.underlying20
  a20 := Tryz.isAgg20
  z20 := Tryz.sizeOf20
  v20 := Tryz.zeroValue20
  t31 := Tryz.underlying32
  a31 := Tryz.isAgg32
  z31 := Tryz.sizeOf32
  v31 := Tryz.zeroValue32
  t37 := Tryz.underlying61
  a37 := Tryz.isAgg61
  z37 := Tryz.sizeOf61
  v37 := Tryz.zeroValue61
  t70 := Tryz.underlying272
  a70 := Tryz.isAgg272
  z70 := Tryz.sizeOf272
  v70 := Tryz.zeroValue272
  t72 := Tryz.underlying274
  a72 := Tryz.isAgg274
  z72 := Tryz.sizeOf274
  v72 := Tryz.zeroValue274
  t75 := Tryz.underlying27
  a75 := Tryz.isAgg27
  z75 := Tryz.sizeOf27
  v75 := Tryz.zeroValue27
  t76 := Tryz.underlying62
  a76 := Tryz.isAgg62
  z76 := Tryz.sizeOf62
  v76 := Tryz.zeroValue62
  t127 := Tryz.underlying343
  a127 := Tryz.isAgg343
  z127 := Tryz.sizeOf343
  v127 := Tryz.zeroValue343
  t164 := Tryz.underlying260
  a164 := Tryz.isAgg260
  z164 := Tryz.sizeOf260
  v164 := Tryz.zeroValue260 }
theorem Tryz.Builder_Extra_156 : Builder.Extra Tryz.prog Tryz.lays156_ren := {
  sizeBuilder := by kernel_rfl
  liesBuilder := by kernel_rfl
  t5 := Tryz.underlying5
  a5 := Tryz.isAgg5
  z5 := Tryz.sizeOf5
  v5 := Tryz.zeroValue5
  infoByte := by kernel_rfl
  cellsByte := by kernel_rfl
  sizeByte := by kernel_rfl
  neB5 := by decide }
open Go.RowKit in
/-- No element: the empty string; the world is as it was. (Whatever the slice's address and capacity: a nil slice too.) (LAID: no walk: one application.) -/
theorem Tryz.strings_Join_none (a : Option Addr) (c : Nat) (sep : ByteArray) (w : World) :
    Calls Tryz.prog 122 #[.slice a 0 c, .string sep] w fun e w' => e = .returned (.string ⟨#[]⟩) ∧ w' = w := Any.strings_Join_none Tryz.lays156 Tryz.Builder_Extra_156 a c sep w
open Go.RowKit in
/-- strings.Join: "Join concatenates the elements of its first argument to create a single string. The separator string sep is placed between elements in the resulting string.": HOWEVER MANY ELEMENTS. Below the heap's end the world is as it was. (LAID: no walk: one application.) -/
theorem Tryz.strings_Join (bk o c : Nat) (xs : List ByteArray) (sep : ByteArray) (w : World) (hcells : ∀ (j : Nat) x, xs[j]? = some x → w.cell? ⟨bk, o + j, none⟩ = some (.string x)) (hbk : bk < w.heap.size) (hN : xs.length ≤ 140737488355328) (hcap : xs.length ≤ c) (hlen : (Lib.join (xs.map (·.data.toList)) sep.data.toList).length ≤ 140737488355328) :
    Calls Tryz.prog 122 #[.slice (some ⟨bk, o, none⟩) xs.length c, .string sep] w fun e w' => e = .returned (.string ⟨(Lib.join (xs.map (·.data.toList)) sep.data.toList).toArray⟩) ∧ Below w.heap.size w w' := Any.strings_Join Tryz.lays156 Tryz.Builder_Extra_156 bk o c xs sep w hcells hbk hN hcap hlen
def Tryz.laysM171_ren : Go.Shelf.Ren := ⟨fun | 171 => 121 | 243 => 201 | 246 => 261 | 283 => 308 | 284 => 309 | 285 => 310 | 286 => 311 | 129 => 235 | 317 => 352 | 318 => 353 | 319 => 354 | 320 => 355 | 337 => 378 | 338 => 379 | n => n, fun | 3 => 3 | 9 => 9 | 2 => 2 | 4 => 4 | 171 => 380 | 0 => 0 | 53 => 304 | 37 => 61 | 5 => 5 | 173 => 382 | 212 => 418 | 51 => 302 | 20 => 20 | 213 => 419 | 46 => 220 | 232 => 455 | 233 => 456 | n => n, fun | 17 => 2 | 18 => 5 | 19 => 6 | n => n⟩
theorem Tryz.laysM171 : Go.Proofs.LaysM.n171 Tryz.prog Tryz.laysM171_ren := {
  mixed := by kernel_rfl
  f129 := Tryz.func235.trans (congrArg some (by kernel_rfl))
  f171 := Tryz.func121.trans (congrArg some (by kernel_rfl))
  f243 := Tryz.func201.trans (congrArg some (by kernel_rfl))
  f246 := Tryz.func261.trans (congrArg some (by kernel_rfl))
  f283 := Tryz.func308.trans (congrArg some (by kernel_rfl))
  f284 := Tryz.func309.trans (congrArg some (by kernel_rfl))
  f285 := Tryz.func310.trans (congrArg some (by kernel_rfl))
  f286 := Tryz.func311.trans (congrArg some (by kernel_rfl))
  f317 := Tryz.func352.trans (congrArg some (by kernel_rfl))
  f318 := Tryz.func353.trans (congrArg some (by kernel_rfl))
  f319 := Tryz.func354.trans (congrArg some (by kernel_rfl))
  f320 := Tryz.func355.trans (congrArg some (by kernel_rfl))
  f337 := Tryz.func378.trans (congrArg some (by kernel_rfl))
  f338 := Tryz.func379.trans (congrArg some (by kernel_rfl))
  t0 := Tryz.underlying0
  a0 := Tryz.isAgg0
  z0 := Tryz.sizeOf0
  v0 := Tryz.zeroValue0
  t2 := Tryz.underlying2
  a2 := Tryz.isAgg2
  z2 := Tryz.sizeOf2
  v2 := Tryz.zeroValue2
  t3 := Tryz.underlying3
  a3 := Tryz.isAgg3
  z3 := Tryz.sizeOf3
  v3 := Tryz.zeroValue3
  t4 := Tryz.underlying4
  a4 := Tryz.isAgg4
  z4 := Tryz.sizeOf4
  v4 := Tryz.zeroValue4
  t5 := Tryz.underlying5
  a5 := Tryz.isAgg5
  z5 := Tryz.sizeOf5
  v5 := Tryz.zeroValue5
  t9 := Tryz.underlying9
  a9 := Tryz.isAgg9
  z9 := Tryz.sizeOf9
  v9 := Tryz.zeroValue9
  t20 := Tryz.underlying20
  a20 := Tryz.isAgg20
  z20 := Tryz.sizeOf20
  v20 := Tryz.zeroValue20
  t37 := Tryz.underlying61
  a37 := Tryz.isAgg61
  z37 := Tryz.sizeOf61
  v37 := Tryz.zeroValue61
  t46 := Tryz.underlying220
  a46 := Tryz.isAgg220
  z46 := Tryz.sizeOf220
  v46 := Tryz.zeroValue220
  t51 := Tryz.underlying302
  a51 := Tryz.isAgg302
  z51 := Tryz.sizeOf302
  v51 := Tryz.zeroValue302
  t53 := Tryz.underlying304
  a53 := Tryz.isAgg304
  z53 := Tryz.sizeOf304
  v53 := Tryz.zeroValue304
  t171 := Tryz.underlying380
  a171 := Tryz.isAgg380
  z171 := Tryz.sizeOf380
  v171 := Tryz.zeroValue380
  t173 := Tryz.underlying382
  a173 := Tryz.isAgg382
  z173 := Tryz.sizeOf382
  v173 := Tryz.zeroValue382
  t212 := Tryz.underlying418
  a212 := Tryz.isAgg418
  z212 := Tryz.sizeOf418
  v212 := Tryz.zeroValue418
  t213 := Tryz.underlying419
  a213 := Tryz.isAgg419
  z213 := Tryz.sizeOf419
  t232 := Tryz.underlying455
  a232 := Tryz.isAgg455
  z232 := Tryz.sizeOf455
  v232 := Tryz.zeroValue455
  t233 := Tryz.underlying456
  a233 := Tryz.isAgg456
  z233 := Tryz.sizeOf456
  v233 := Tryz.zeroValue456
  g17 := by kernel_rfl
  g18 := by kernel_rfl
  g19 := by kernel_rfl
  i0 := by kernel_rfl
  i2 := by kernel_rfl
  i3 := by kernel_rfl
  i4 := by kernel_rfl
  i5 := by kernel_rfl
  i9 := by kernel_rfl
  i20 := by kernel_rfl
  i37 := by kernel_rfl
  i46 := by kernel_rfl
  i51 := by kernel_rfl
  i53 := by kernel_rfl
  i171 := by kernel_rfl
  i173 := by kernel_rfl
  i212 := by kernel_rfl
  i232 := by kernel_rfl
  i233 := by kernel_rfl
  m17 := by kernel_rfl
  m18 := by kernel_rfl
  m19 := by kernel_rfl }
open Go.RowKit Go.Sort Go.Lib in
/-- strconv.Itoa: "Itoa is equivalent to FormatInt(int64(i), 10).": i's DECIMAL NUMERAL ('Lib.itoa': a '-' where i is negative, then the digits), FOR EVERY int. The world behind the call: the world before it, new blocks behind the heap (the library's 'var a [24]byte'), draws. (LAID: no walk: one application.) -/
theorem Tryz.strconv_Itoa (n : Int) (h0 : -9223372036854775808 ≤ n) (h1 : n ≤ 9223372036854775807) (w : World) (htab : Lib.TabIs Tryz.prog w "internal/strconv.uint64pow10" .u64 Lib.pow10Tab) :
    Calls Tryz.prog 121 #[.int .i64 n] w fun e w' => e = .returned (.string ⟨(Lib.itoa n).toArray⟩) ∧ ∃ k os, w' = grow (w.drewN k) os := Any.strconv_Itoa Tryz.laysM171 n h0 h1 w htab
def Tryz.lays190_ren : Go.Shelf.Ren := ⟨fun | 190 => 73 | 125 => 152 | 258 => 151 | 128 => 234 | 129 => 235 | 302 => 225 | 303 => 226 | 304 => 227 | 305 => 228 | 306 => 229 | 307 => 230 | 308 => 231 | 309 => 232 | 310 => 233 | 333 => 286 | 329 => 287 | 330 => 288 | 334 => 289 | 335 => 290 | 336 => 279 | 344 => 329 | n => n, fun | 31 => 32 | 9 => 9 | 3 => 3 | 46 => 220 | 0 => 0 | 51 => 302 | 53 => 304 | 4 => 4 | 183 => 296 | 182 => 295 | 131 => 136 | 5 => 5 | 218 => 358 | 222 => 362 | 228 => 392 | 229 => 393 | n => n, fun | n => n⟩
theorem Tryz.lays190 : Go.Proofs.Lays.n190 Tryz.prog Tryz.lays190_ren := {
  mixed := by kernel_rfl
  f125 := Tryz.func152.trans (congrArg some (by kernel_rfl))
  f128 := Tryz.func234.trans (congrArg some (by kernel_rfl))
  f129 := Tryz.func235.trans (congrArg some (by kernel_rfl))
  f190 := Tryz.func73.trans (congrArg some (by kernel_rfl))
  f258 := Tryz.func151.trans (congrArg some (by kernel_rfl))
  f302 := Tryz.func225.trans (congrArg some (by kernel_rfl))
  f303 := Tryz.func226.trans (congrArg some (by kernel_rfl))
  f304 := Tryz.func227.trans (congrArg some (by kernel_rfl))
  f305 := Tryz.func228.trans (congrArg some (by kernel_rfl))
  f306 := Tryz.func229.trans (congrArg some (by kernel_rfl))
  f307 := Tryz.func230.trans (congrArg some (by kernel_rfl))
  f308 := Tryz.func231.trans (congrArg some (by kernel_rfl))
  f309 := Tryz.func232.trans (congrArg some (by kernel_rfl))
  f310 := Tryz.func233.trans (congrArg some (by kernel_rfl))
  f329 := Tryz.func287.trans (congrArg some (by kernel_rfl))
  f330 := Tryz.func288.trans (congrArg some (by kernel_rfl))
  f333 := Tryz.func286.trans (congrArg some (by kernel_rfl))
  f334 := Tryz.func289.trans (congrArg some (by kernel_rfl))
  f335 := Tryz.func290.trans (congrArg some (by kernel_rfl))
  f336 := Tryz.func279.trans (congrArg some (by kernel_rfl))
  f344 := Tryz.func329.trans (congrArg some (by kernel_rfl))
  t0 := Tryz.underlying0
  a0 := Tryz.isAgg0
  z0 := Tryz.sizeOf0
  v0 := Tryz.zeroValue0
  t3 := Tryz.underlying3
  a3 := Tryz.isAgg3
  z3 := Tryz.sizeOf3
  v3 := Tryz.zeroValue3
  t4 := Tryz.underlying4
  a4 := Tryz.isAgg4
  z4 := Tryz.sizeOf4
  v4 := Tryz.zeroValue4
  t5 := Tryz.underlying5
  a5 := Tryz.isAgg5
  z5 := Tryz.sizeOf5
  v5 := Tryz.zeroValue5
  t9 := Tryz.underlying9
  a9 := Tryz.isAgg9
  z9 := Tryz.sizeOf9
  v9 := Tryz.zeroValue9
  t31 := Tryz.underlying32
  a31 := Tryz.isAgg32
  z31 := Tryz.sizeOf32
  v31 := Tryz.zeroValue32
  t46 := Tryz.underlying220
  a46 := Tryz.isAgg220
  z46 := Tryz.sizeOf220
  v46 := Tryz.zeroValue220
  t51 := Tryz.underlying302
  a51 := Tryz.isAgg302
  z51 := Tryz.sizeOf302
  v51 := Tryz.zeroValue302
  t53 := Tryz.underlying304
  a53 := Tryz.isAgg304
  z53 := Tryz.sizeOf304
  v53 := Tryz.zeroValue304
  t131 := Tryz.underlying136
  a131 := Tryz.isAgg136
  z131 := Tryz.sizeOf136
  v131 := Tryz.zeroValue136
  t182 := Tryz.underlying295
  a182 := Tryz.isAgg295
  z182 := Tryz.sizeOf295
  v182 := Tryz.zeroValue295
  t183 := Tryz.underlying296
  a183 := Tryz.isAgg296
  z183 := Tryz.sizeOf296
  v183 := Tryz.zeroValue296
  t218 := Tryz.underlying358
  a218 := Tryz.isAgg358
  z218 := Tryz.sizeOf358
  v218 := Tryz.zeroValue358
  t222 := Tryz.underlying362
  a222 := Tryz.isAgg362
  z222 := Tryz.sizeOf362
  v222 := Tryz.zeroValue362
  t228 := Tryz.underlying392
  a228 := Tryz.isAgg392
  z228 := Tryz.sizeOf392
  v228 := Tryz.zeroValue392
  t229 := Tryz.underlying393
  a229 := Tryz.isAgg393
  z229 := Tryz.sizeOf393
  v229 := Tryz.zeroValue393 }
open Go.Sort Go.RowKit in
theorem Tryz.slices_Sort_string (blk off cap : Nat) (ss : List (List UInt8)) (w : World) (hH : Holds encStr w blk off ss.toArray) (hblk : blk < w.heap.size) (hsz : ss.length < 4611686018427387904) :
    Calls Tryz.prog 73 #[.slice (some ⟨blk, off, none⟩) ss.length cap] w fun e w' =>
      e = .returned (.tuple #[]) ∧ ∃ n os, w' = grow (putRow encStr (Sort.ahead w n) blk off (ss.mergeSort fun x y => decide (x ≤ y)).toArray) os := Any.slices_Sort_string Tryz.lays190 blk off cap ss w hH hblk hsz
def Tryz.lays194_ren : Go.Shelf.Ren := ⟨fun | 194 => 75 | n => n, fun | 31 => 32 | 9 => 9 | 3 => 3 | 4 => 4 | 0 => 0 | n => n, fun | n => n⟩
theorem Tryz.lays194 : Go.Proofs.Lays.n194 Tryz.prog Tryz.lays194_ren := {
  mixed := by kernel_rfl
  f194 := Tryz.func75.trans (congrArg some (by kernel_rfl))
  t0 := Tryz.underlying0
  a0 := Tryz.isAgg0
  z0 := Tryz.sizeOf0
  v0 := Tryz.zeroValue0
  t3 := Tryz.underlying3
  a3 := Tryz.isAgg3
  z3 := Tryz.sizeOf3
  v3 := Tryz.zeroValue3
  t4 := Tryz.underlying4
  a4 := Tryz.isAgg4
  z4 := Tryz.sizeOf4
  v4 := Tryz.zeroValue4
  t9 := Tryz.underlying9
  a9 := Tryz.isAgg9
  z9 := Tryz.sizeOf9
  v9 := Tryz.zeroValue9
  t31 := Tryz.underlying32
  a31 := Tryz.isAgg32
  z31 := Tryz.sizeOf32
  v31 := Tryz.zeroValue32 }
open Go.RowKit Go.Lib Go.Sort in
/-- slices.Compact at []string, over an array: the library's two loops are walked. (LAID: no walk: one application.) -/
theorem Tryz.slices_Compact_string_arr (blk off cap : Nat) (d : Array (List UInt8)) (w : World) (hH : Holds encStr w blk off d) (hsz : d.size ≤ 9223372036854775807) (hcap : d.size ≤ cap) :
    Calls Tryz.prog 75 #[.slice (some ⟨blk, off, none⟩) d.size cap] w fun e w' => e = .returned (.slice (some ⟨blk, off, none⟩) (compactUpTo d d.size).length cap) ∧ ∃ q, w' = putRow encStr (Sort.ahead w q) blk off (compactUpTo d d.size ++ List.replicate (d.size - (compactUpTo d d.size).length) []).toArray := Any.slices_Compact_string_arr Tryz.lays194 blk off cap d w hH hsz hcap
open Go.RowKit Go.Lib Go.Sort in
/-- slices.Compact at []string: "Compact replaces consecutive runs of equal elements with a single copy. This is like the uniq command found on Unix. Compact modifies the contents of the slice s and returns the modified slice, which may have a smaller length. Compact zeroes the elements between the new length and the original length. The result preserves the nilness of s.": IT RETURNS THE SLICE CUT TO 'Lib.compact zs'; ITS CELLS HOLD 'Lib.compact zs', THEN ZERO VALUES up to the old length; all else is as it was, but for the count of draws. IN THE WORDS OF slices.Sort's CONTRACT ('Holds', 'putRow'): so the everyday 'slices.Sort(xs); xs = slices.Compact(xs)' goes from the one contract to the other. It asks 'zs.length ≤ cap' (every slice's: the reslicing 's[:k]' looks at it). Length 0, nil: '.._empty'. (LAID: no walk: one application.) -/
theorem Tryz.slices_Compact_string (blk off cap : Nat) (zs : List (List UInt8)) (w : World) (hH : Holds encStr w blk off zs.toArray) (hsz : zs.length ≤ 9223372036854775807) (hcap : zs.length ≤ cap) :
    Calls Tryz.prog 75 #[.slice (some ⟨blk, off, none⟩) zs.length cap] w fun e w' => e = .returned (.slice (some ⟨blk, off, none⟩) (Lib.compact zs).length cap) ∧ ∃ q, w' = putRow encStr (Sort.ahead w q) blk off (Lib.compact zs ++ List.replicate (zs.length - (Lib.compact zs).length) []).toArray := Any.slices_Compact_string Tryz.lays194 blk off cap zs w hH hsz hcap
open Go.RowKit Go.Lib Go.Sort in
/-- The same at a slice of length 0, a nil one too: it comes back as it is. (LAID: no walk: one application.) -/
theorem Tryz.slices_Compact_string_empty (a : Option Addr) (cap : Nat) (w : World) :
    Calls Tryz.prog 75 #[.slice a 0 cap] w fun e w' => e = .returned (.slice a 0 cap) ∧ w' = w := Any.slices_Compact_string_empty Tryz.lays194 a cap w
open Go.RowKit Go.Sort in
/-- .. and plain. (LAID: no walk: one application.) -/
theorem Tryz.slices_Sort_string_none (p : Option Addr) (cap : Nat) (w : World) :
    Calls Tryz.prog 73 #[.slice p 0 cap] w fun e w' => e = .returned (.tuple #[]) ∧ w' = w := Any.slices_Sort_string_none Tryz.lays190 p cap w
end Go.Proofs
end

section
namespace Go.V
open Go.RowKit
open Go.S hiding Str
instance : ErNo := ⟨105, 104⟩
@[reducible] def Gl : Mo := ((GBlk 2 (Lib.pow10Tab.map fun z => Value.int .u64 z).toArray).and (GBlk 0 #[.iface 328 (.agg #[.pointer (some ⟨7, 27, none⟩)])]))
instance : Dat FilesFile := ⟨3, fun x => [str x.path, i64 x.mode, str x.data], fun _ => rfl, fun _ u h => by simp only [List.mem_cons, List.not_mem_nil, or_false] at h; rcases h with rfl | rfl | rfl <;> first | rfl | exact Er.one _, fun _ => Mo.tt⟩
instance : Flat FilesFile := ⟨fun _ => rfl⟩
instance : Dat IndexEntry := ⟨6, fun x => [str x.path, i64 x.stage, i64 x.mode, str x.data, i64 x.time, i64 x.size], fun _ => rfl, fun _ u h => by simp only [List.mem_cons, List.not_mem_nil, or_false] at h; rcases h with rfl | rfl | rfl | rfl | rfl | rfl <;> first | rfl | exact Er.one _, fun _ => Mo.tt⟩
instance : Flat IndexEntry := ⟨fun _ => rfl⟩
instance : Dat TodoStep := ⟨3, fun x => [str x.verb, i64 x.commit, str x.text], fun _ => rfl, fun _ u h => by simp only [List.mem_cons, List.not_mem_nil, or_false] at h; rcases h with rfl | rfl | rfl <;> first | rfl | exact Er.one _, fun _ => Mo.tt⟩
instance : Flat TodoStep := ⟨fun _ => rfl⟩
structure CmdCmd where
  verb : Str
  name : Str
  n : Int
  text : Str
  force : Bool
  todo : Sv TodoStep
@[reducible] def CmdCmd.m (x : CmdCmd) : Mo := x.todo.ok
def CmdCmd.pl (x : CmdCmd) : CmdCmdP := ⟨x.verb, x.name, x.n, x.text, x.force, x.todo.l⟩
instance : Dat CmdCmd := ⟨6, fun x => [str x.verb, str x.name, i64 x.n, str x.text, .bool x.force, x.todo.val], fun _ => rfl, fun _ u h => by simp only [List.mem_cons, List.not_mem_nil, or_false] at h; rcases h with rfl | rfl | rfl | rfl | rfl | rfl <;> first | rfl | exact Er.one _, CmdCmd.m⟩
instance : Dat Rectoref17Step := ⟨3, fun x => [str x.verb, i64 x.commit, str x.text], fun _ => rfl, fun _ u h => by simp only [List.mem_cons, List.not_mem_nil, or_false] at h; rcases h with rfl | rfl | rfl <;> first | rfl | exact Er.one _, fun _ => Mo.tt⟩
instance : Flat Rectoref17Step := ⟨fun _ => rfl⟩
structure Rectoref17Cmd where
  verb : Str
  name : Str
  n : Int
  text : Str
  force : Bool
  todo : Sv Rectoref17Step
@[reducible] def Rectoref17Cmd.m (x : Rectoref17Cmd) : Mo := x.todo.ok
def Rectoref17Cmd.pl (x : Rectoref17Cmd) : Rectoref17CmdP := ⟨x.verb, x.name, x.n, x.text, x.force, x.todo.l⟩
instance : Dat Rectoref17Cmd := ⟨6, fun x => [str x.verb, str x.name, i64 x.n, str x.text, .bool x.force, x.todo.val], fun _ => rfl, fun _ u h => by simp only [List.mem_cons, List.not_mem_nil, or_false] at h; rcases h with rfl | rfl | rfl | rfl | rfl | rfl <;> first | rfl | exact Er.one _, Rectoref17Cmd.m⟩
instance : Dat Rectoref3Part := ⟨2, fun x => [str x.word, i64 x.at_], fun _ => rfl, fun _ u h => by simp only [List.mem_cons, List.not_mem_nil, or_false] at h; rcases h with rfl | rfl <;> first | rfl | exact Er.one _, fun _ => Mo.tt⟩
instance : Flat Rectoref3Part := ⟨fun _ => rfl⟩
structure Rectoref3Wrong where
  parts : Sv Rectoref3Part
  err : Int
@[reducible] def Rectoref3Wrong.m (x : Rectoref3Wrong) : Mo := x.parts.ok
def Rectoref3Wrong.pl (x : Rectoref3Wrong) : Rectoref3WrongP := ⟨x.parts.l, x.err⟩
instance : Dat Rectoref3Wrong := ⟨2, fun x => [x.parts.val, i64 x.err], fun _ => rfl, fun _ u h => by simp only [List.mem_cons, List.not_mem_nil, or_false] at h; rcases h with rfl | rfl <;> first | rfl | exact Er.one _, Rectoref3Wrong.m⟩
structure ApiFault where
  part : Str
  at_ : Int
  err : Er
@[reducible] def ApiFault.m (x : ApiFault) : Mo := x.err.ok
def ApiFault.pl (x : ApiFault) : ApiFaultP := ⟨x.part, x.at_, x.err.pl⟩
instance : Dat ApiFault := ⟨3, fun x => [str x.part, i64 x.at_, x.err.val], fun _ => rfl, fun _ u h => by simp only [List.mem_cons, List.not_mem_nil, or_false] at h; rcases h with rfl | rfl | rfl <;> first | rfl | exact Er.one _, ApiFault.m⟩
end Go.V
end

section
set_option linter.unusedVariables false
namespace Go.Proofs.YtpmhinamcndmeaaGreatDoor
set_option maxHeartbeats 4000000
set_option maxRecDepth 100000
open Go.RowKit Go.V
open Go.S hiding Str
theorem mixed : Tryz.prog.follows .mixedOrders = true := by kernel_rfl
theorem gszb : (Tryz.prog.info? 274).map (·.size) = some 2 := by kernel_rfl
theorem gappb : ((Tryz.prog.info? 5).map fun i => (i.size, i.bytes, i.zero)) = some (1, 1, some (.int .u8 0)) := by kernel_rfl
theorem gfa274_0 : FieldAt Tryz.prog 274 0 0 := fieldAt_sz (n := 0) (f := ⟨_, _, 0, _, _, _, _⟩) Tryz.underlying274 rfl (by kernel_rfl)
theorem gfa274_1 : FieldAt Tryz.prog 274 1 1 := fieldAt_sz (n := 0) (f := ⟨_, _, 1, _, _, _, _⟩) Tryz.underlying274 rfl (by kernel_rfl)
theorem gone272 : OneCell Tryz.prog 272 := oneCell_of Tryz.underlying272 rfl
theorem gone61 : OneCell Tryz.prog 61 := oneCell_of Tryz.underlying61 rfl
theorem gsz272 : (Tryz.prog.info? 272).map (·.size) = some 1 := by kernel_rfl
theorem gsz61 : (Tryz.prog.info? 61).map (·.size) = some 1 := by kernel_rfl
theorem gfa107_2 : FieldAt Tryz.prog 107 2 2 := fieldAt_sz (n := 0) (f := ⟨_, _, 2, _, _, _, _⟩) Tryz.underlying107 rfl (by kernel_rfl)
theorem gone27 : OneCell Tryz.prog 27 := oneCell_of Tryz.underlying27 rfl
theorem gsz86 : (Tryz.prog.info? 86).map (·.size) = some 6 := by kernel_rfl
theorem gfa86_3 : FieldAt Tryz.prog 86 3 3 := fieldAt_sz (n := 0) (f := ⟨_, _, 3, _, _, _, _⟩) Tryz.underlying86 rfl (by kernel_rfl)
theorem gsz9 : (Tryz.prog.info? 9).map (·.size) = some 1 := by kernel_rfl
theorem gagg86 : AggOf Tryz.prog 86 6 := aggOf_of Tryz.underlying86 rfl (by kernel_rfl)
theorem gmk9 : ((Tryz.prog.info? 9).map fun i => (i.size, i.bytes, i.zero.map fun z => z.cells.toList)) = some (1, 16, some [str []]) := by kernel_rfl
theorem gfa86_0 : FieldAt Tryz.prog 86 0 0 := fieldAt_sz (n := 0) (f := ⟨_, _, 0, _, _, _, _⟩) Tryz.underlying86 rfl (by kernel_rfl)
theorem gone9 : OneCell Tryz.prog 9 := oneCell_of Tryz.underlying9 rfl
theorem gfa86_4 : FieldAt Tryz.prog 86 4 4 := fieldAt_sz (n := 0) (f := ⟨_, _, 4, _, _, _, _⟩) Tryz.underlying86 rfl (by kernel_rfl)
theorem gsz4 : (Tryz.prog.info? 4).map (·.size) = some 1 := by kernel_rfl
theorem gfa86_1 : FieldAt Tryz.prog 86 1 1 := fieldAt_sz (n := 0) (f := ⟨_, _, 1, _, _, _, _⟩) Tryz.underlying86 rfl (by kernel_rfl)
theorem gsz5 : (Tryz.prog.info? 5).map (·.size) = some 1 := by kernel_rfl
theorem gone5 : OneCell Tryz.prog 5 := oneCell_of Tryz.underlying5 rfl
theorem gfa86_2 : FieldAt Tryz.prog 86 2 2 := fieldAt_sz (n := 0) (f := ⟨_, _, 2, _, _, _, _⟩) Tryz.underlying86 rfl (by kernel_rfl)
theorem gsz3 : (Tryz.prog.info? 3).map (·.size) = some 1 := by kernel_rfl
theorem glit9 : ((Tryz.prog.info? 9).map fun i => (i.size, i.zero.isSome)) = some (1, true) := by kernel_rfl
theorem gsz173 : (Tryz.prog.info? 173).map (·.size) = some 3 := by kernel_rfl
theorem gagg173 : AggOf Tryz.prog 173 3 := aggOf_of Tryz.underlying173 rfl (by kernel_rfl)
theorem glit173 : ((Tryz.prog.info? 173).map fun i => (i.size, i.zero.isSome)) = some (3, true) := by kernel_rfl
theorem gapp173 : ((Tryz.prog.info? 173).map fun i => (i.size, i.bytes, (i.zero.map fun z => z.cells.size))) = some (3, 40, some 3) := by kernel_rfl
theorem gfa86_5 : FieldAt Tryz.prog 86 5 5 := fieldAt_sz (n := 0) (f := ⟨_, _, 5, _, _, _, _⟩) Tryz.underlying86 rfl (by kernel_rfl)
theorem gsz84 : (Tryz.prog.info? 84).map (·.size) = some 1 := by kernel_rfl
theorem gone3 : OneCell Tryz.prog 3 := oneCell_of Tryz.underlying3 rfl
theorem gone84 : OneCell Tryz.prog 84 := oneCell_of Tryz.underlying84 rfl
theorem gfa173_0 : FieldAt Tryz.prog 173 0 0 := fieldAt_sz (n := 0) (f := ⟨_, _, 0, _, _, _, _⟩) Tryz.underlying173 rfl (by kernel_rfl)
theorem gfa173_1 : FieldAt Tryz.prog 173 1 1 := fieldAt_sz (n := 0) (f := ⟨_, _, 1, _, _, _, _⟩) Tryz.underlying173 rfl (by kernel_rfl)
theorem gfa173_2 : FieldAt Tryz.prog 173 2 2 := fieldAt_sz (n := 0) (f := ⟨_, _, 2, _, _, _, _⟩) Tryz.underlying173 rfl (by kernel_rfl)
theorem glit105 : ((Tryz.prog.info? 105).map fun i => (i.size, i.zero.isSome)) = some (1, true) := by kernel_rfl
theorem gsz105 : (Tryz.prog.info? 105).map (·.size) = some 1 := by kernel_rfl
theorem gone105 : OneCell Tryz.prog 105 := oneCell_of Tryz.underlying105 rfl
theorem gone4 : OneCell Tryz.prog 4 := oneCell_of Tryz.underlying4 rfl
theorem gapp9 : ((Tryz.prog.info? 9).map fun i => (i.size, i.bytes, (i.zero.map fun z => z.cells.size))) = some (1, 16, some 1) := by kernel_rfl
theorem geqs173 : ∀ (x0 : List UInt8) (x1 : Int) (x2 : List UInt8) (y0 : List UInt8) (y1 : Int) (y2 : List UInt8) (w : World), (Op.equalIn 10000 173 (.agg #[str x0, i64 x1, str x2]) (.agg #[str y0, i64 y1, str y2])).run Tryz.prog w = .ok (decide (x0 = y0 ∧ x1 = y1 ∧ x2 = y2)) w := by
 intro x0 x1 x2 y0 y1 y2 w
 have hS : Tryz.prog.underlying 173 = some (.struct (Tryz.prog.fieldsOf 173)) := by kernel_rfl
 rw [show (10000 : Nat) = 9999 + 1 from rfl, run_equalIn_agg w 9999 173 _ _ hS (by kernel_rfl)]
 simp only [Program.fieldsOf, Tryz.underlying173]
 go_simp
 by_cases h0 : x0 = y0 <;> by_cases h1 : x1 = y1 <;> by_cases h2 : x2 = y2 <;> simp [h0, h1, h2]
theorem geqg173 : Tryz.prog.eqGuardType Tryz.prog.depth 173 = false := by kernel_rfl
theorem glit204 : ((Tryz.prog.info? 204).map fun i => (i.size, i.zero.isSome)) = some (3, true) := by kernel_rfl
theorem gapp204 : ((Tryz.prog.info? 204).map fun i => (i.size, i.bytes, (i.zero.map fun z => z.cells.size))) = some (3, 40, some 3) := by kernel_rfl
theorem gsz91 : (Tryz.prog.info? 91).map (·.size) = some 6 := by kernel_rfl
theorem gagg91 : AggOf Tryz.prog 91 6 := aggOf_of Tryz.underlying91 rfl (by kernel_rfl)
theorem gfa91_0 : FieldAt Tryz.prog 91 0 0 := fieldAt_sz (n := 0) (f := ⟨_, _, 0, _, _, _, _⟩) Tryz.underlying91 rfl (by kernel_rfl)
theorem glit183 : ((Tryz.prog.info? 183).map fun i => (i.size, i.zero.isSome)) = some (2, true) := by kernel_rfl
theorem gsz77 : (Tryz.prog.info? 77).map (·.size) = some 2 := by kernel_rfl
theorem gagg77 : AggOf Tryz.prog 77 2 := aggOf_of Tryz.underlying77 rfl (by kernel_rfl)
theorem gfa91_1 : FieldAt Tryz.prog 91 1 1 := fieldAt_sz (n := 0) (f := ⟨_, _, 1, _, _, _, _⟩) Tryz.underlying91 rfl (by kernel_rfl)
theorem gfa91_2 : FieldAt Tryz.prog 91 2 2 := fieldAt_sz (n := 0) (f := ⟨_, _, 2, _, _, _, _⟩) Tryz.underlying91 rfl (by kernel_rfl)
theorem gfa91_3 : FieldAt Tryz.prog 91 3 3 := fieldAt_sz (n := 0) (f := ⟨_, _, 3, _, _, _, _⟩) Tryz.underlying91 rfl (by kernel_rfl)
theorem gfa91_5 : FieldAt Tryz.prog 91 5 5 := fieldAt_sz (n := 0) (f := ⟨_, _, 5, _, _, _, _⟩) Tryz.underlying91 rfl (by kernel_rfl)
theorem gone89 : OneCell Tryz.prog 89 := oneCell_of Tryz.underlying89 rfl
theorem gsz204 : (Tryz.prog.info? 204).map (·.size) = some 3 := by kernel_rfl
theorem gagg204 : AggOf Tryz.prog 204 3 := aggOf_of Tryz.underlying204 rfl (by kernel_rfl)
theorem gfa204_0 : FieldAt Tryz.prog 204 0 0 := fieldAt_sz (n := 0) (f := ⟨_, _, 0, _, _, _, _⟩) Tryz.underlying204 rfl (by kernel_rfl)
theorem gfa204_1 : FieldAt Tryz.prog 204 1 1 := fieldAt_sz (n := 0) (f := ⟨_, _, 1, _, _, _, _⟩) Tryz.underlying204 rfl (by kernel_rfl)
theorem gfa204_2 : FieldAt Tryz.prog 204 2 2 := fieldAt_sz (n := 0) (f := ⟨_, _, 2, _, _, _, _⟩) Tryz.underlying204 rfl (by kernel_rfl)
theorem glit3 : ((Tryz.prog.info? 3).map fun i => (i.size, i.zero.isSome)) = some (1, true) := by kernel_rfl
theorem gfa77_1 : FieldAt Tryz.prog 77 1 1 := fieldAt_sz (n := 0) (f := ⟨_, _, 1, _, _, _, _⟩) Tryz.underlying77 rfl (by kernel_rfl)
theorem gfa107_0 : FieldAt Tryz.prog 107 0 0 := fieldAt_sz (n := 0) (f := ⟨_, _, 0, _, _, _, _⟩) Tryz.underlying107 rfl (by kernel_rfl)
theorem gfa107_1 : FieldAt Tryz.prog 107 1 1 := fieldAt_sz (n := 0) (f := ⟨_, _, 1, _, _, _, _⟩) Tryz.underlying107 rfl (by kernel_rfl)
theorem gfa77_0 : FieldAt Tryz.prog 77 0 0 := fieldAt_sz (n := 0) (f := ⟨_, _, 0, _, _, _, _⟩) Tryz.underlying77 rfl (by kernel_rfl)
theorem gone75 : OneCell Tryz.prog 75 := oneCell_of Tryz.underlying75 rfl
theorem gsz183 : (Tryz.prog.info? 183).map (·.size) = some 2 := by kernel_rfl
theorem gfa183_0 : FieldAt Tryz.prog 183 0 0 := fieldAt_sz (n := 0) (f := ⟨_, _, 0, _, _, _, _⟩) Tryz.underlying183 rfl (by kernel_rfl)
theorem gfa183_1 : FieldAt Tryz.prog 183 1 1 := fieldAt_sz (n := 0) (f := ⟨_, _, 1, _, _, _, _⟩) Tryz.underlying183 rfl (by kernel_rfl)
theorem glit5 : ((Tryz.prog.info? 5).map fun i => (i.size, i.zero.isSome)) = some (1, true) := by kernel_rfl
theorem gone104 : OneCell Tryz.prog 104 := oneCell_of Tryz.underlying104 rfl
theorem gfa91_4 : FieldAt Tryz.prog 91 4 4 := fieldAt_sz (n := 0) (f := ⟨_, _, 4, _, _, _, _⟩) Tryz.underlying91 rfl (by kernel_rfl)
theorem gapp183 : ((Tryz.prog.info? 183).map fun i => (i.size, i.bytes, (i.zero.map fun z => z.cells.size))) = some (2, 24, some 2) := by kernel_rfl
theorem gsz89 : (Tryz.prog.info? 89).map (·.size) = some 1 := by kernel_rfl
theorem geqs204 : ∀ (x0 : List UInt8) (x1 : Int) (x2 : List UInt8) (y0 : List UInt8) (y1 : Int) (y2 : List UInt8) (w : World), (Op.equalIn 10000 204 (.agg #[str x0, i64 x1, str x2]) (.agg #[str y0, i64 y1, str y2])).run Tryz.prog w = .ok (decide (x0 = y0 ∧ x1 = y1 ∧ x2 = y2)) w := by
 intro x0 x1 x2 y0 y1 y2 w
 have hS : Tryz.prog.underlying 204 = some (.struct (Tryz.prog.fieldsOf 204)) := by kernel_rfl
 rw [show (10000 : Nat) = 9999 + 1 from rfl, run_equalIn_agg w 9999 204 _ _ hS (by kernel_rfl)]
 simp only [Program.fieldsOf, Tryz.underlying204]
 go_simp
 by_cases h0 : x0 = y0 <;> by_cases h1 : x1 = y1 <;> by_cases h2 : x2 = y2 <;> simp [h0, h1, h2]
theorem geqg204 : Tryz.prog.eqGuardType Tryz.prog.depth 204 = false := by kernel_rfl
theorem copyCheck_ct (b : Nat) (p u : Value) (hp : p = .pointer none ∨ p = ptr b 0) (hu : u.oneCell' = true) : Ct Tryz.prog 262 [ptr b 0] Mo.tt (Blk b [p, u] 274) (X := Unit) (fun _ => .tuple #[]) (fun _ => True) (fun _ => Mo.tt) (fun _ => Blk b [ptr b 0, u] 274) := by
 refine Ct.of Tryz.func262 rfl (by kernel_rfl) Tryz.ntmps262 (by simp) fun c => ?_
 rcases hp with rfl | rfl
 ·
  refine Zq (Zr ?_)
  refine Zm ?_
  refine VL.q (q_nilCheck rfl) (by decide) ?_
  refine VL.q (q_field gfa274_0 rfl) (by decide) ?_
  refine VL.q (q_fe gone272 rfl rfl) (by decide) ?_
  refine VL.q (q_peqn Tryz.underlying272 rfl) (by decide) ?_
  refine Zl ?_
  refine VC.cond_t rfl ?_
  refine Zr ?_
  refine Zm ?_
  refine Zm ?_
  refine VL.q (q_tou (n := 1) Tryz.underlying272 Tryz.underlying260 gszb rfl (by simp)) (by decide) ?_
  refine VL.q (q_noEscape Tryz.func312 rfl rfl (by kernel_rfl) (by kernel_rfl) rfl) (by decide) ?_
  refine VL.q (q_fromu (n := 2) (cs := [.pointer none, u]) Tryz.underlying260 Tryz.underlying272 gszb rfl (by kernel_rfl)) (by decide) ?_
  refine VL.q (q_nilCheck rfl) (by decide) ?_
  refine VL.q (q_field gfa274_0 rfl) (by decide) ?_
  refine VL.store (vc := [ptr b 0]) (cs' := [ptr b 0, u]) rfl rfl rfl gsz272 rfl rfl (Nat.le_of_ble_eq_true rfl) rfl ?_
  exact VL.nil (fin0 (.inl rfl) rfl () rfl trivial (fun _ _ => trivial) (by exact EntO.out))
 refine Zq (Zr ?_)
 refine Zm ?_
 refine VL.q (q_nilCheck rfl) (by decide) ?_
 refine VL.q (q_field gfa274_0 rfl) (by decide) ?_
 refine VL.q (q_fe gone272 rfl rfl) (by decide) ?_
 refine VL.q (q_peqn Tryz.underlying272 rfl) (by decide) ?_
 refine Zl ?_
 refine VC.cond_f rfl ?_
 refine Zq (Zr ?_)
 refine Zm ?_
 refine VL.q (q_nilCheck rfl) (by decide) ?_
 refine VL.q (q_field gfa274_0 rfl) (by decide) ?_
 refine VL.q (q_fe gone272 rfl rfl) (by decide) ?_
 refine Zm ?_
 refine VL.q (q_pne Tryz.underlying272 gszb rfl rfl) (by decide) ?_
 refine Zl ?_
 refine VC.cond_f rfl ?_
 exact VC.skip (fin0 (.inl rfl) rfl () rfl trivial (fun _ _ => trivial) (by exact EntO.out))
theorem writeString_ct (b : Nat) (l s : Str) (hb : l.length + s.length ≤ 4294967296) : Ct Tryz.prog 203 [ptr b 0, str s] Mo.tt (Bd 274 5 b l) (X := Unit) (fun _ => .tuple #[i64 s.length, .nilIface]) (fun _ => True) (fun _ => Mo.tt) (fun _ => Bd 274 5 b (l ++ s)) := by
 refine Ct.monoE (E1 := fun z => ∃ q : Value × Sv UInt8, ((q.1 = .pointer none ∨ q.1 = ptr b 0) ∧ q.2.l = l ∧ (q.2.c = 0 → q.2.a = none)) ∧ Ow.star (Blk b [q.1, q.2.val] 274) (q.2.own 5) z) (Ct.exE (entry_of Tryz.func203 rfl (by kernel_rfl)) ?_) (fun z ⟨p, q, h1, h2, h3, h4⟩ => ⟨(p, q), ⟨h1, h2, h3⟩, h4⟩)
 rintro ⟨p, q⟩ ⟨hp, hl, hc⟩
 dsimp only at hp hl hc ⊢
 refine Ct.of Tryz.func203 rfl (by kernel_rfl) Tryz.ntmps203 (by simp) fun c => ?_
 refine Zq (Zr ?_)
 refine Za ?_
 refine Za ?_
 refine Zl ?_
 refine Zq (Zr ?_)
 refine Zm ?_
 refine VL.callO (copyCheck_ct b p q.val hp rfl) rfl (by decide) ?_
 rintro _ _
 refine Zl ?_
 refine Zq (Zr ?_)
 refine Zm ?_
 refine Zm ?_
 refine VL.q (q_nilCheck rfl) (by decide) ?_
 refine VL.q (q_field gfa274_1 rfl) (by decide) ?_
 refine VL.q (q_fe gone61 rfl rfl) (by decide) ?_
 refine Zm ?_
 refine VL.appS (s := q) (r := s) Tryz.underlying61 Tryz.underlying9 gappb rfl Fo.out (by rw [hl]; exact hb) (by decide) fun q2 hq2 hc2 => ?_
 refine VL.q (q_nilCheck rfl) (by decide) ?_
 refine VL.q (q_field gfa274_1 rfl) (by decide) ?_
 refine VL.store (vc := [q2.val]) (cs' := [ptr b 0, q2.val]) rfl rfl rfl gsz61 rfl rfl (Nat.le_of_ble_eq_true rfl) rfl ?_
 refine Zl ?_
 refine Zq (Zr ?_)
 refine Zm ?_
 refine VL.q (q_slen Tryz.underlying9 rfl) (by decide) ?_
 refine Za ?_
 refine Za ?_
 refine Zl ?_
 exact VC.ret (fin2 (.inr rfl) rfl rfl rfl () rfl trivial (fun _ _ => trivial) (fun z hz => Bd.mk (p := ptr b 0) (s := q2) (.inr rfl) (by rw [hq2, hl]) (hc2 hc) ((EntO.out (E' := Ow.star (Blk b [ptr b 0, q2.val] 274) (q2.own 5))) z hz)))
theorem string_ct (b : Nat) (l : Str) : Ct Tryz.prog 204 [ptr b 0] Mo.tt (Bd 274 5 b l) (X := Unit) (fun _ => str l) (fun _ => True) (fun _ => Mo.tt) (fun _ => Ow.emp) := by
 refine Ct.monoE (E1 := fun z => ∃ q : Value × Sv UInt8, ((q.1 = .pointer none ∨ q.1 = ptr b 0) ∧ q.2.l = l ∧ (q.2.c = 0 → q.2.a = none)) ∧ Ow.star (Blk b [q.1, q.2.val] 274) (q.2.own 5) z) (Ct.exE (entry_of Tryz.func204 rfl (by kernel_rfl)) ?_) (fun z ⟨p, q, h1, h2, h3, h4⟩ => ⟨(p, q), ⟨h1, h2, h3⟩, h4⟩)
 rintro ⟨p, q⟩ ⟨hp, rfl, hc⟩
 dsimp only at hp hc ⊢
 refine Ct.of Tryz.func204 rfl (by kernel_rfl) Tryz.ntmps204 (by simp) fun c => ?_
 refine Zq (Zr ?_)
 refine Za ?_
 refine Zl ?_
 refine Zq ?_
 refine VC.draw [(0, true), (1, true), (2, true), (3, true), (4, true), (5, true), (6, true), (7, true), (8, true), (9, true), (10, false), (11, true)] mixed (by kernel_rfl) (by kernel_rfl) (by kernel_rfl) ?_
 refine VD.q rfl (q_move rfl) (by decide) ?_
 refine VD.q rfl (q_nilCheck rfl) (by decide) ?_
 refine VD.q rfl (q_field gfa274_1 rfl) (by decide) ?_
 refine VD.q rfl (q_fe gone61 rfl rfl) (by decide) ?_
 refine VD.q rfl (q_sdata (s := q) rfl hc) (by decide) ?_
 refine VD.q rfl (q_move rfl) (by decide) ?_
 refine VD.q rfl (q_nilCheck rfl) (by decide) ?_
 refine VD.q rfl (q_field gfa274_1 rfl) (by decide) ?_
 refine VD.q rfl (q_fe gone61 rfl rfl) (by decide) ?_
 refine VD.q rfl (q_ln (s := q) Tryz.underlying61 rfl) (by decide) ?_
 refine VD.one rfl ?_
 refine VL.ustr (s := q) (e := 5) rfl Fo.out (by decide) (fun w h z o l k m => St.ustr (e := 5) Tryz.underlying343 (by kernel_rfl) o l k m) ?_
 refine VL.back (D' := []) (by kernel_rfl) Pend.nil ?_
 refine VD.q rfl (q_assign rfl) (by decide) ?_
 refine VD.to (fun _ _ h => h) ?_
 exact Ze
theorem unwrap_ct (b : Nat) (p : Str) (a : Int) (e : Er) : Ct Tryz.prog 417 [ptr b 0] (Cells b 0 [str p, i64 a, e.val]) Ow.emp (X := Unit) (fun _ => e.val) (fun _ => True) (fun _ => Mo.tt) (fun _ => Ow.emp) := by
 refine Ct.of Tryz.func417 rfl (by kernel_rfl) Tryz.ntmps417 (by simp) fun c => ?_
 refine Zq (Zr ?_)
 refine Za ?_
 refine Zl ?_
 refine Zq (Zr ?_)
 refine Zm ?_
 refine VL.q (q_nilCheck rfl) (by decide) ?_
 refine VL.q (q_field gfa107_2 rfl) (by decide) ?_
 refine VL.q (q_fm gone27 rfl rfl) (by decide) ?_
 refine Za ?_
 refine Zl ?_
 exact Ze
theorem unwrap_me (v : Value) : Meth Tryz.prog (.iface 104 v) "Unwrap" 417 v := Meth.of fun w => by kernel_rfl
theorem errorsis_ct (z0 : Er) (n : Int) (h0 : z0.pl.isNil = false) : Ct Tryz.prog 193 [z0.val, .iface 105 (i64 n), .bool true] z0.ok Ow.emp (X := Unit) (fun _ => .bool (decide (endNo z0.pl = some n))) (fun _ => True) (fun _ => Mo.tt) (fun _ => Ow.emp) := by
 refine Ct.of Tryz.func193 rfl (by kernel_rfl) Tryz.ntmps193 (by simp) fun c => ?_
 refine Zq (Zr ?_)
 refine Za ?_
 refine Zl ?_
 refine Zb ?_
 refine VC.loopM (S := Er) (fun z => endNo z.pl = endNo z0.pl ∧ z.pl.isNil = false) (fun z => [(0, z.val), (1, .iface 105 (i64 n)), (2, .bool true)]) (fun z => z.ok) (fun _ => Ow.emp) Er.dep z0 [0, 1, 2] ⟨rfl, h0⟩ rfl (fun _ m => m) (fun _ e => e) ?_
 rintro z ⟨hz, hn⟩
 cases z with
 | nil => cases hn
 | no m =>
   refine Zb (Zq (Zq (Zr ?_)))
   refine Zm ?_
   refine Zm ?_
   refine Zg ?_
   refine Zg ?_
   refine VL.gy rfl rfl (q_eqno (a := m) (b := n) Tryz.underlying27 Tryz.underlying105 (by kernel_rfl) rfl rfl) (by decide) ?_
   refine Zt ?_
   refine Zl ?_
   have hz' : some m = endNo z0.pl := hz
   refine VC.cond_dec rfl (fun h => ?_) (fun h => ?_)
   · refine VC.seq ?_
     refine Zr ?_
     refine Za ?_
     refine Zl ?_
     exact VC.ret (fin1 (.inr rfl) rfl rfl () (congrArg Value.bool (by rw [← hz', h]; simp)) trivial (fun _ _ => trivial) (fun _ _ => trivial))
   refine Zk ?_
   refine Zq (Zq (Zr ?_))
   refine Zm ?_
   refine VL.q (q_ta rfl fun w => run_typeAssert_lacksB (z := .nilIface) Tryz.underlying330 (by kernel_rfl) (by kernel_rfl) _ _ w) (by decide) ?_
   refine Zm ?_
   refine VL.q (q_extract rfl rfl) (by decide) ?_
   refine VL.q (q_extract rfl rfl) (by decide) ?_
   refine Za ?_
   refine Za ?_
   refine Zl ?_
   refine Zq (Zr ?_)
   refine Zm ?_
   refine Zm ?_
   refine Zn ?_
   refine Zn ?_
   refine Zn ?_
   refine Zf ?_
   refine Zl ?_
   refine VC.cond_f rfl ?_
   refine Zk ?_
   refine Zq (Zr ?_)
   refine Zm ?_
   refine Zl ?_
   refine Zb (Zq (Zr ?_))
   refine VL.q (q_ta rfl fun w => run_typeAssert_lacksB (z := .nilIface) Tryz.underlying333 (by kernel_rfl) (by kernel_rfl) _ _ w) (by decide) ?_
   refine VL.q (q_extract rfl rfl) (by decide) ?_
   refine VL.q (q_extract rfl rfl) (by decide) ?_
   refine Zl ?_
   refine VC.cond_f rfl ?_
   refine Zq (Zr ?_)
   refine VL.q (q_ta rfl fun w => run_typeAssert_lacksB (z := .nilIface) Tryz.underlying334 (by kernel_rfl) (by kernel_rfl) _ _ w) (by decide) ?_
   refine VL.q (q_extract rfl rfl) (by decide) ?_
   refine VL.q (q_extract rfl rfl) (by decide) ?_
   refine Zl ?_
   refine VC.cond_f rfl ?_
   refine Zq (Zr ?_)
   refine Za ?_
   refine Zl ?_
   refine Zq (Zr ?_)
   refine Za ?_
   refine Zl ?_
   exact VC.ret (fin1 (.inr rfl) rfl rfl () (congrArg Value.bool (by rw [← hz']; exact (decide_eq_false fun q => h (Option.some.inj q)).symm)) trivial (fun _ _ => trivial) (fun _ _ => trivial))
 | fault b p a e =>
   refine VC.addM (Cells b 0 [str p, i64 a, e.val]) (fun _ m => m.1) ?_
   refine VC.addM e.ok (fun _ m => m.2.2) ?_
   refine Zb (Zq (Zq (Zr ?_)))
   refine Zm ?_
   refine Zm ?_
   refine Zg ?_
   refine Zg ?_
   refine VL.gy rfl rfl (q_eqdt (t1 := 104) (t2 := 105) (a := ptr b 0) (b := i64 n) Tryz.underlying27 (by decide) rfl rfl) (by decide) ?_
   refine Zt ?_
   refine Zl ?_
   have hz' : endNo e.pl = endNo z0.pl := hz
   refine VC.cond_f rfl ?_
   refine Zk ?_
   refine Zq (Zq (Zr ?_))
   refine Zm ?_
   refine VL.q (q_ta rfl fun w => run_typeAssert_lacksB (z := .nilIface) Tryz.underlying330 (by kernel_rfl) (by kernel_rfl) _ _ w) (by decide) ?_
   refine Zm ?_
   refine VL.q (q_extract rfl rfl) (by decide) ?_
   refine VL.q (q_extract rfl rfl) (by decide) ?_
   refine Za ?_
   refine Za ?_
   refine Zl ?_
   refine Zq (Zr ?_)
   refine Zm ?_
   refine Zm ?_
   refine Zn ?_
   refine Zn ?_
   refine Zn ?_
   refine Zf ?_
   refine Zl ?_
   refine VC.cond_f rfl ?_
   refine Zk ?_
   refine Zq (Zr ?_)
   refine Zm ?_
   refine Zl ?_
   refine Zb (Zq (Zr ?_))
   refine VL.q (q_ta rfl fun w => run_typeAssert_hasB Tryz.underlying333 (by kernel_rfl) _ _ w) (by decide) ?_
   refine VL.q (q_extract rfl rfl) (by decide) ?_
   refine VL.q (q_extract rfl rfl) (by decide) ?_
   refine Zl ?_
   refine VC.cond_t rfl ?_
   refine Zq (Zr ?_)
   refine Za ?_
   refine Zl ?_
   refine Zq (Zr ?_)
   refine Zm ?_
   refine VL.q (q_inv rfl (unwrap_me (ptr b 0)) (unwrap_ct b p a e) (fun _ _ => rfl)) (by decide) ?_
   refine Za ?_
   refine Zl ?_
   refine Zq (Zr ?_)
   refine Zm ?_
   refine VL.q (q_ereq Tryz.underlying27 (z := e) rfl) (by decide) ?_
   refine Zl ?_
   refine VC.cond_dec rfl (fun h => ?_) (fun h => ?_)
   · refine VC.seq ?_
     refine Zr ?_
     refine Za ?_
     refine Zl ?_
     exact VC.ret (fin1 (.inr rfl) rfl rfl () (congrArg Value.bool (by
       rw [← hz']
       cases e with
       | nil => rfl
       | no m => cases h
       | fault _ _ _ _ => cases h)) trivial (fun _ _ => trivial) (fun _ _ => trivial))
   · exact VC.skip_any e [0, 1, 2] (fun _ _ h => h) ⟨⟨hz', by simpa using h⟩, Nat.lt_succ_self _⟩ rfl (fun _ m => m.1) (fun _ e => e)
theorem typeof_no (v : Value) (w : World) : (Extern.ReflectliteType.typeOf #[.iface 105 v]).run Tryz.prog w = .ok (.iface 328 (.agg #[.pointer (some ⟨7, 105, none⟩)])) w := by kernel_rfl
theorem comp_no (w : World) : (Extern.ReflectliteType.method (fun t => do Extern.Rtype.noPackHeld "Comparable" t; pure (.bool (← typeInfo t).comparable)) #[.agg #[.pointer (some ⟨7, 105, none⟩)]]).run Tryz.prog w = .ok (.bool true) w := by kernel_rfl
theorem comp_me (v : Value) : Meth Tryz.prog (.iface 328 v) "Comparable" 425 v := Meth.of fun w => by kernel_rfl
theorem is_ct (z0 : Er) (n : Int) : Ct Tryz.prog 112 [z0.val, .iface 105 (i64 n)] z0.ok Ow.emp (X := Unit) (fun _ => .bool (decide (endNo z0.pl = some n))) (fun _ => True) (fun _ => Mo.tt) (fun _ => Ow.emp) := by
 refine Ct.of Tryz.func112 rfl (by kernel_rfl) Tryz.ntmps112 (by simp) fun c => ?_
 have fin : z0.pl.isNil = false → ∀ Q : Exit → Act → World → Prop, Q = bodyPost Tryz.prog Tryz.f112 (fun en w' => ∃ r, en = .returned r ∧ Post (X := Unit) (fun _ => .bool (decide (endNo z0.pl = some n))) (fun _ => True) (fun _ => Mo.tt) (fun _ => Ow.emp) c r w') → True := fun _ _ _ => trivial
 refine Zq (Zr ?_)
 refine Za ?_
 refine Zl ?_
 refine Zq (Zq (Zr ?_))
 refine Zm ?_
 by_cases hn : z0 = .nil
 ·
  subst hn
  refine VL.q (q_nileq Tryz.underlying27 rfl) (by decide) ?_
  refine Zm ?_
  refine Zn ?_
  refine Zn ?_
  refine Zt ?_
  refine Zl ?_
  refine VC.cond_t rfl ?_
  refine Zq (Zr ?_)
  refine Zm ?_
  refine Zm ?_
  refine VL.q (q_eqnl (T := 105) (u := i64 n) Tryz.underlying27 rfl rfl) (by decide) ?_
  refine Za ?_
  refine Zl ?_
  exact Ze
 have hn' : z0.pl.isNil = false := by
   cases z0 with
   | nil => exact absurd rfl hn
   | no m => rfl
   | fault _ _ _ _ => rfl
 refine VL.q (v := .bool false) (by
   cases z0 with
   | nil => exact absurd rfl hn
   | no m => exact q_ifeq Tryz.underlying27 rfl
   | fault _ _ _ _ => exact q_ifeq Tryz.underlying27 rfl) (by decide) ?_
 refine Zm ?_
 refine Zg ?_
 refine VL.gy rfl rfl (q_ifeq Tryz.underlying27 rfl) (by decide) ?_
 refine Zf ?_
 refine Zl ?_
 refine VC.cond_f rfl ?_
 refine Zk ?_
 refine Zq (Zr ?_)
 refine Zm ?_
 refine VL.q (q_extern Tryz.func192 rfl rfl (by kernel_rfl) (by kernel_rfl) rfl (typeof_no _)) (by decide) ?_
 refine VL.q (q_invX rfl (comp_me _) Tryz.func425 rfl rfl (by kernel_rfl) (by kernel_rfl) comp_no) (by decide) ?_
 refine Za ?_
 refine Zl ?_
 refine Zq (Zr ?_)
 refine Zm ?_
 refine Zm ?_
 refine Zm ?_
 refine VL.q (q_call (errorsis_ct z0 n hn') rfl (fun _ _ => rfl)) (by decide) ?_
 refine Za ?_
 refine Zl ?_
 exact Ze
open Go.Extern.Stop Go.Stop Go.Extern Go.RowKit in
section
end
namespace As
open Go.Extern Go.Extern.Stop
theorem as_valueOf (t : Addr) (w : World) : (ReflectliteValue.unpack (.iface 181 (.pointer (some t)))).run Tryz.prog w
    = .ok (.agg #[.pointer (some ⟨7, 181, none⟩), .pointer (some ⟨w.heap.size, 0, none⟩), .int .u64 150]) (w.alloc (.cells #[.pointer (some t)] 181)) := by kernel_rfl
theorem as_type (a : Addr) (w : World) : (ReflectliteValue.methodAny (ReflectliteValue.valueError "reflectlite.Value.Type" 0) (fun t _ _ _ => ReflectliteType.toType t) #[.agg #[.pointer (some ⟨7, 181, none⟩), .pointer (some a), .int .u64 150]]).run Tryz.prog w
    = .ok (.iface 328 (.agg #[.pointer (some ⟨7, 181, none⟩)])) w := by kernel_rfl
theorem as_mKind (h : Value) (w : World) : (Go.method 592 328 (.agg #[h]) "Kind").run Tryz.prog w = .ok (413, h) w := by kernel_rfl
theorem as_kind1 (w : World) : ((ReflectliteType.abiMethod fun t => (fun a : Nat => Value.int IntKind.u8 (a : Int)) <$> Rtype.kind t) #[.pointer (some ⟨7, 181, none⟩)]).run Tryz.prog w = .ok (.int .u8 22) w := by kernel_rfl
theorem as_kind2 (w : World) : ((ReflectliteType.abiMethod fun t => (fun a : Nat => Value.int IntKind.u8 (a : Int)) <$> Rtype.kind t) #[.pointer (some ⟨7, 104, none⟩)]).run Tryz.prog w = .ok (.int .u8 22) w := by kernel_rfl
theorem as_rlm (z : Sem Value) (f : TypeId → Addr → Nat → Nat → Sem Value) (v : Value) :
    ReflectliteValue.method z f #[v] = (do match ← ReflectliteValue.parts v with | none => z | some (t, a, fl) => f t a fl (fl % 32)) := rfl
theorem as_parts1 (a : Addr) (w : World) : (ReflectliteValue.parts (.agg #[.pointer (some ⟨7, 181, none⟩), .pointer (some a), .int .u64 150])).run Tryz.prog w = .ok (some (181, a, 150)) w := by kernel_rfl
theorem as_isNil (a p : Addr) (W : World) (ha : W.cell? a = some (.pointer (some p))) :
 (ReflectliteValue.method (ReflectliteValue.valueError "reflectlite.Value.IsNil" 0) ReflectliteValue.isNil #[.agg #[.pointer (some ⟨7, 181, none⟩), .pointer (some a), .int .u64 150]]).run Tryz.prog W = .ok (.bool false) W := by
 rw [as_rlm]
 simp only [Sem.run_bind, as_parts1, Result.andThen]
 simp [ReflectliteValue.isNil, loadVar, isAgg, underlying, Tryz.underlying181, ha, Result.andThen]
theorem as_mElem (h : Value) (w : World) : (Go.method 592 328 (.agg #[h]) "Elem").run Tryz.prog w = .ok (426, .agg #[h]) w := by kernel_rfl
theorem as_mImpl (h : Value) (w : World) : (Go.method 592 328 (.agg #[h]) "Implements").run Tryz.prog w = .ok (427, .agg #[h]) w := by kernel_rfl
theorem as_mAssn (h : Value) (w : World) : (Go.method 592 328 (.agg #[h]) "AssignableTo").run Tryz.prog w = .ok (424, .agg #[h]) w := by kernel_rfl
theorem as_elem1 (w : World) : (ReflectliteType.method ReflectliteType.elem #[.agg #[.pointer (some ⟨7, 181, none⟩)]]).run Tryz.prog w = .ok (.iface 328 (.agg #[.pointer (some ⟨7, 104, none⟩)])) w := by kernel_rfl
theorem as_impl2 (w : World) : (ReflectliteType.relation "Implements" ReflectliteType.implements_ #[.agg #[.pointer (some ⟨7, 104, none⟩)], .iface 328 (.agg #[.pointer (some ⟨7, 27, none⟩)])]).run Tryz.prog w = .ok (.bool true) w := by kernel_rfl
theorem as_typeOf2 (v : Value) (w : World) : (ReflectliteType.typeOf #[.iface 104 v]).run Tryz.prog w = .ok (.iface 328 (.agg #[.pointer (some ⟨7, 104, none⟩)])) w := by kernel_rfl
theorem as_assn2 (w : World) : (ReflectliteType.relation "AssignableTo" ReflectliteType.assignableTo #[.agg #[.pointer (some ⟨7, 104, none⟩)], .iface 328 (.agg #[.pointer (some ⟨7, 104, none⟩)])]).run Tryz.prog w = .ok (.bool true) w := by kernel_rfl
theorem as_valueOf2 (e : Addr) (w : World) : (ReflectliteValue.unpack (.iface 104 (.pointer (some e)))).run Tryz.prog w
    = .ok (.agg #[.pointer (some ⟨7, 104, none⟩), .pointer (some ⟨w.heap.size, 0, none⟩), .int .u64 150]) (w.alloc (.cells #[.pointer (some e)] 104)) := by kernel_rfl
theorem as_elemOf1 (w : World) : (Rtype.elem? 181).run Tryz.prog w = .ok (some 104) w := by kernel_rfl
theorem as_mk2 (p : Addr) (w : World) : (ReflectliteValue.mk 104 p ReflectliteValue.flagAddr).run Tryz.prog w = .ok (.agg #[.pointer (some ⟨7, 104, none⟩), .pointer (some p), .int .u64 406]) w := by kernel_rfl
theorem as_elemV1 (a p : Addr) (W : World) (ha : W.cell? a = some (.pointer (some p))) :
 (ReflectliteValue.method (ReflectliteValue.valueError "reflectlite.Value.Elem" 0) ReflectliteValue.elem #[.agg #[.pointer (some ⟨7, 181, none⟩), .pointer (some a), .int .u64 150]]).run Tryz.prog W
 = .ok (.agg #[.pointer (some ⟨7, 104, none⟩), .pointer (some p), .int .u64 406]) W := by
 rw [as_rlm]
 simp only [Sem.run_bind, as_parts1, Result.andThen]
 simp [ReflectliteValue.elem, loadVar, isAgg, underlying, Tryz.underlying181, ha, Result.andThen, as_elemOf1, as_mk2]
theorem as_rls (v x : Value) : ReflectliteValue.set #[v, x] = (do
    let (some (dst, a, fl), some (src, b, _)) := (← ReflectliteValue.parts v, ← ReflectliteValue.parts x)
      | unsupported (.noEntry "extern/(internal/reflectlite.Value).Set.zeroValue")
    if fl / ReflectliteValue.flagAddr % 2 == 0 then unsupported (.noEntry "extern/(internal/reflectlite.Value).Set.unaddressable")
    let val ← loadVar src b
    if ← Rtype.directlyAssignable dst src then storeVar dst a val
    else if ← Rtype.implements dst src then
      if (← Rtype.kind src) == 20 then
        match val with
        | .nilIface => unsupported (.noEntry "extern/reflectlite: a nil value of one interface type handed on as a value of another")
        | _ => storeVar dst a val
      else storeVar dst a (.iface src val)
    else panicString ("reflectlite.Set: value of type " ++ (← Rtype.spelt src) ++ " is not assignable to type " ++ (← Rtype.spelt dst))
    pure (.tuple #[])) := rfl
theorem as_parts2a (a : Addr) (w : World) : (ReflectliteValue.parts (.agg #[.pointer (some ⟨7, 104, none⟩), .pointer (some a), .int .u64 406])).run Tryz.prog w = .ok (some (104, a, 406)) w := by kernel_rfl
theorem as_parts2 (a : Addr) (w : World) : (ReflectliteValue.parts (.agg #[.pointer (some ⟨7, 104, none⟩), .pointer (some a), .int .u64 150])).run Tryz.prog w = .ok (some (104, a, 150)) w := by kernel_rfl
theorem as_direct2 (w : World) : (Rtype.directlyAssignable 104 104).run Tryz.prog w = .ok true w := by kernel_rfl
theorem as_set2 (ta b e : Addr) (old : Value) (W : World) (hb : W.cell? b = some (.pointer (some e))) (ht : W.cell? ta = some old) (hf : W.frozen? ta = false) :
 (ReflectliteValue.set #[.agg #[.pointer (some ⟨7, 104, none⟩), .pointer (some ta), .int .u64 406], .agg #[.pointer (some ⟨7, 104, none⟩), .pointer (some b), .int .u64 150]]).run Tryz.prog W
 = .ok (.tuple #[]) (W.setCell ta (.pointer (some e))) := by
 rw [as_rls]
 simp only [Sem.run_bind, as_parts2a, as_parts2, Result.andThen]
 simp [ReflectliteValue.flagAddr, loadVar, isAgg, underlying, Tryz.underlying104, hb, Result.andThen, as_direct2, storeVar, Value.cells, storeCells, Addr.add]
 rw [run_store Tryz.prog W ta _ _ (by rfl)]
 simp [ht, hf]
theorem as_hit (e t : Addr) (old : Value) (w : World) (hg : w.cell? ⟨0, 0, none⟩ = some (.iface 328 (.agg #[.pointer (some ⟨7, 27, none⟩)]))) (ht0 : w.cell? t = some old) (hf0 : w.frozen? t = false) :
 Calls Tryz.prog 113 #[.iface 104 (.pointer (some e)), .iface 181 (.pointer (some t))] w fun ev w' => ev = .returned (.bool true) ∧ w' = ((((w.alloc (.cells #[.pointer (some t)] 181)).alloc (.cells #[.pointer (some ⟨7, 181, none⟩), .pointer (some ⟨w.heap.size, 0, none⟩), .int .u64 150] 263)).alloc (.cells #[.pointer (some ⟨7, 181, none⟩), .pointer (some ⟨w.heap.size, 0, none⟩), .int .u64 150] 263)).alloc (.cells #[.pointer (some e)] 104)).setCell t (.pointer (some e)) := by
 have h6 := @run_callFunc_extern Tryz.prog 194 _ (fun args => ReflectliteValue.unpack (args.getD 0 (.tuple #[]))) Tryz.func194 (by kernel_rfl) (by kernel_rfl) (by kernel_rfl) (by kernel_rfl)
 have h7 := @run_callFunc_extern Tryz.prog 195 _ (ReflectliteValue.methodAny (ReflectliteValue.valueError "reflectlite.Value.Type" 0) (fun t _ _ _ => ReflectliteType.toType t)) Tryz.func195 (by kernel_rfl) (by kernel_rfl) (by kernel_rfl) (by kernel_rfl)
 have h8 := @run_callFunc_extern Tryz.prog 196 _ (ReflectliteValue.method (ReflectliteValue.valueError "reflectlite.Value.IsNil" 0) ReflectliteValue.isNil) Tryz.func196 (by kernel_rfl) (by kernel_rfl) (by kernel_rfl) (by kernel_rfl)
 have h27 := @run_callFunc_extern Tryz.prog 413 _ (ReflectliteType.abiMethod fun t => do pure (.int .u8 (← Rtype.kind t))) Tryz.func413 (by kernel_rfl) (by kernel_rfl) (by kernel_rfl) (by kernel_rfl)
 have h37 := @run_callFunc_extern Tryz.prog 426 _ (ReflectliteType.method ReflectliteType.elem) Tryz.func426 (by kernel_rfl) (by kernel_rfl) (by kernel_rfl) (by kernel_rfl)
 have h38 := @run_callFunc_extern Tryz.prog 427 _ (ReflectliteType.relation "Implements" ReflectliteType.implements_) Tryz.func427 (by kernel_rfl) (by kernel_rfl) (by kernel_rfl) (by kernel_rfl)
 have h10 := @run_callFunc_extern Tryz.prog 192 _ ReflectliteType.typeOf Tryz.func192 (by kernel_rfl) (by kernel_rfl) (by kernel_rfl) (by kernel_rfl)
 have h35 := @run_callFunc_extern Tryz.prog 424 _ (ReflectliteType.relation "AssignableTo" ReflectliteType.assignableTo) Tryz.func424 (by kernel_rfl) (by kernel_rfl) (by kernel_rfl) (by kernel_rfl)
 have h11 := @run_callFunc_extern Tryz.prog 258 _ (ReflectliteValue.method (ReflectliteValue.valueError "reflectlite.Value.Elem" 0) ReflectliteValue.elem) Tryz.func258 (by kernel_rfl) (by kernel_rfl) (by kernel_rfl) (by kernel_rfl)
 have h12 := @run_callFunc_extern Tryz.prog 259 _ ReflectliteValue.set Tryz.func259 (by kernel_rfl) (by kernel_rfl) (by kernel_rfl) (by kernel_rfl)
 have tO := as_typeOf2
 have mA := as_mAssn
 have a25 := as_assn2
 have v25 := as_valueOf2
 have f6 := as_valueOf
 have f7 := as_type
 have mK := as_mKind
 have mE := as_mElem
 have mI := as_mImpl
 have k27 := as_kind1
 have k25 := as_kind2
 have e27 := as_elem1
 have i25 := as_impl2
 have n8 := as_isNil ⟨w.heap.size, 0, none⟩ t ((w.alloc (.cells #[.pointer (some t)] 181)).alloc (.cells #[.pointer (some ⟨7, 181, none⟩), .pointer (some ⟨w.heap.size, 0, none⟩), .int .u64 150] 263)) (by simp)
 have hlt : 0 < w.heap.size := by
   rcases Nat.lt_or_ge 0 w.heap.size with h | h
   · exact h
   · simp [World.cell?, Array.getElem?_eq_none h] at hg
 have hg2 : ((w.alloc (.cells #[.pointer (some t)] 181)).alloc (.cells #[.pointer (some ⟨7, 181, none⟩), .pointer (some ⟨w.heap.size, 0, none⟩), .int .u64 150] 263)).cell? ⟨0, 0, none⟩ = some (.iface 328 (.agg #[.pointer (some ⟨7, 27, none⟩)])) := by
   rw [World.cell?_alloc_lt _ _ ⟨0, 0, none⟩ (by first | (simp; done) | (simp; omega)), World.cell?_alloc_lt _ _ ⟨0, 0, none⟩ hlt]; exact hg
 have htl : t.block < w.heap.size := by
   rcases Nat.lt_or_ge t.block w.heap.size with h | h
   · exact h
   · simp [World.cell?, Array.getElem?_eq_none h] at ht0
 have el := as_elemV1 ⟨w.heap.size, 0, none⟩ t (((w.alloc (.cells #[.pointer (some t)] 181)).alloc (.cells #[.pointer (some ⟨7, 181, none⟩), .pointer (some ⟨w.heap.size, 0, none⟩), .int .u64 150] 263)).alloc (.cells #[.pointer (some ⟨7, 181, none⟩), .pointer (some ⟨w.heap.size, 0, none⟩), .int .u64 150] 263)) (by rw [World.cell?_alloc_lt _ _ ⟨w.heap.size, 0, none⟩ (by simp; omega)]; simp)
 have st := as_set2 t ⟨w.heap.size + 1 + 1 + 1, 0, none⟩ e old ((((w.alloc (.cells #[.pointer (some t)] 181)).alloc (.cells #[.pointer (some ⟨7, 181, none⟩), .pointer (some ⟨w.heap.size, 0, none⟩), .int .u64 150] 263)).alloc (.cells #[.pointer (some ⟨7, 181, none⟩), .pointer (some ⟨w.heap.size, 0, none⟩), .int .u64 150] 263)).alloc (.cells #[.pointer (some e)] 104))
   (by rw [World.cell?_alloc_at _ _ _ _ (by simp)]; rfl)
   (by rw [World.cell?_alloc_lt _ _ t (by simp; omega), World.cell?_alloc_lt _ _ t (by simp; omega), World.cell?_alloc_lt _ _ t (by simp; omega), World.cell?_alloc_lt _ _ t htl]; exact ht0)
   (by rw [World.frozen?_alloc_old _ _ t (by simp; omega), World.frozen?_alloc_old _ _ t (by simp; omega), World.frozen?_alloc_old _ _ t (by simp; omega), World.frozen?_alloc_old _ _ t (Nat.ne_of_lt htl)]; exact hf0)
 go_enter Tryz.func113, Tryz.ntmps113
 go_wp2
 refine wp_loop_rounds 1 ?_
 rw [rounds_succ]
 go_wp2
 go_ret
 exact ⟨rfl, rfl⟩
theorem as_ct (b t : Nat) : Ct Tryz.prog 113 [.iface 104 (ptr b 0), .iface 181 (ptr t 0)] (GBlk 0 #[.iface 328 (.agg #[.pointer (some ⟨7, 27, none⟩)])]) (Blk t [.pointer none] 104) (X := Unit) (fun _ => .bool true) (fun _ => True) (fun _ => Mo.tt) (fun _ => Blk t [ptr b 0] 104) :=
  ⟨entry_of Tryz.func113 rfl (by kernel_rfl), fun w hp z m ee d l k => by
    have hb : w.heap[t]? = some (.cells #[.pointer none] 104 (0, 0)) := k _ _ ee
    obtain ⟨t1, f1, m1⟩ := m
    have hg : w.heap[0]? = some (.cells #[.iface 328 (.agg #[.pointer (some ⟨7, 27, none⟩)])] t1 f1) := l _ _ m1
    have htl := (Array.getElem?_eq_some_iff.1 hb).1
    refine (as_hit ⟨b, 0, none⟩ ⟨t, 0, none⟩ (.pointer none) w (by simp [World.cell?, hg]) (by simp [World.cell?, hb]) (by simp [World.frozen?, hb])).mono fun en w' ⟨h1, h2⟩ => ⟨_, h1, (), rfl, trivial, ?_⟩
    have hgr : Gr w ((((w.alloc (.cells #[.pointer (some ⟨t, 0, none⟩)] 181)).alloc (.cells #[.pointer (some ⟨7, 181, none⟩), .pointer (some ⟨w.heap.size, 0, none⟩), .int .u64 150] 263)).alloc (.cells #[.pointer (some ⟨7, 181, none⟩), .pointer (some ⟨w.heap.size, 0, none⟩), .int .u64 150] 263)).alloc (.cells #[.pointer (some ⟨b, 0, none⟩)] 104)) := (((Gr.alloc w _).trans (Gr.alloc _ _)).trans (Gr.alloc _ _)).trans (Gr.alloc _ _)
    exact St.turned hb (show z t = _ from ee) d l hgr h2⟩
end As
theorem internal_stringslite_IndexByte_ct (s_0 : Str) (c_1 : Int) {r : Int} (hS : Sh.internal_stringslite_IndexByte s_0 c_1 = some r) :
 Ct Tryz.prog 314 [str s_0, .int .u8 c_1] Mo.tt (Ow.emp) (X := Unit) (fun _ => i64 r) (fun _ => True) (fun _ => Mo.tt) (fun _ => Ow.emp) := by
 refine Ct.of Tryz.func314 rfl (by kernel_rfl) Tryz.ntmps314 (by simp) fun c => ?_
 unfold Sh.internal_stringslite_IndexByte at hS
 refine Zq (Zr ?_)
 refine Za ?_
 refine Zl ?_
 refine Zq (Zr ?_)
 refine Zm ?_
 refine Zm ?_
 refine VL.q (q_extern Tryz.func356 rfl rfl (by kernel_rfl) (by kernel_rfl) rfl (fun w => x_ixS s_0 c_1 w)) (by decide) ?_
 refine Za ?_
 refine Zl ?_
 cases hS
 exact Ze
theorem internal_stringslite_Index_ct (s_0 : Str) (substr_1 : Str) {r : Int} (hS : Sh.internal_stringslite_Index s_0 substr_1 = some r) :
 Ct Tryz.prog 264 [str s_0, str substr_1] Mo.tt (Ow.emp) (X := Unit) (fun _ => i64 r) (fun _ => True) (fun _ => Mo.tt) (fun _ => Ow.emp) := by
 refine Ct.of Tryz.func264 rfl (by kernel_rfl) Tryz.ntmps264 (by simp) fun c => ?_
 unfold Sh.internal_stringslite_Index at hS
 refine Zq (Zr ?_)
 refine Za ?_
 refine Zl ?_
 refine Zq (Zr ?_)
 refine Zm ?_
 refine VL.q (q_slen Tryz.underlying9 rfl) (by decide) ?_
 refine Za ?_
 refine Zl ?_
 refine Zq (Zb ?_)
 refine VC.cutJ (S := Bool) (fun (x16_1 : Bool) => x16_1) (fun (x16_1 : Bool) => [(0, str s_0), (1, str substr_1), (5, i64 (substr_1.length : Int)), (16, .bool x16_1)]) (fun (x16_1 : Bool) => Mo.tt) (fun (x16_1 : Bool) => Ow.emp) hS ?_ ?_
 ·
  clear hS
  intro k2 hS
  refine Zr ?_
  refine Zm ?_
  refine VL.q (q_eql rfl rfl) (by decide) ?_
  refine Zm ?_
  refine VL.split_dec 19 rfl (fun h19 => ?_) (fun h19 => ?_)
  ·
   replace hS := it_t h19 hS
   refine Zn ?_
   refine Zn ?_
   refine Zn ?_
   refine Zt ?_
   refine Za ?_
   refine VL.mt true [0, 1, 5, 16] (fun _ _ h => h) hS rfl
  replace hS := it_f h19 hS
  refine Zg ?_
  refine Zg ?_
  refine VL.gy rfl rfl (q_seq rfl rfl) (by decide) ?_
  refine Zf ?_
  refine Za ?_
  refine VL.mt (decide (substr_1 = s_0)) [0, 1, 5, 16] (fun _ _ h => h) hS rfl
 clear hS
 rintro x16_1 hS
 show VC _ _ _ _ _ [(0, str s_0), (1, str substr_1), (5, i64 (substr_1.length : Int)), (16, .bool x16_1)] (Mo.and Mo.tt _) (Ow.emp)
 refine VC.cond rfl (fun h16 => ?_) (fun h16 => ?_)
 ·
  replace hS := it_t h16 hS
  refine Zq (Zr ?_)
  refine Za ?_
  refine Zl ?_
  cases hS
  exact Ze
 replace hS := it_b h16 hS
 refine Zq (Zr ?_)
 refine Zm ?_
 refine VL.q (q_eql rfl rfl) (by decide) ?_
 refine Za ?_
 refine Zl ?_
 refine VC.cond_dec rfl (fun h24 => ?_) (fun h24 => ?_)
 ·
  replace hS := it_t h24 hS
  refine Zq (Zr ?_)
  refine Zm ?_
  refine Zm ?_
  obtain ⟨z29_3, nz29_3, hz29_3, hS⟩ := at_s hS
  refine VL.q (q_sidx Tryz.underlying9 rfl rfl nz29_3 hz29_3) (by decide) ?_
  obtain ⟨y30_4, ey30_4, hS⟩ := bd_s hS
  refine VL.q (q_call (internal_stringslite_IndexByte_ct s_0 (z29_3.toNat : Int) ey30_4) rfl (fun _ _ => rfl)) (by decide) ?_
  refine Za ?_
  refine Zl ?_
  refine VC.keep [4] rfl ?_
  cases hS
  exact Ze
 replace hS := it_f h24 hS
 refine Zq (Zr ?_)
 refine Zm ?_
 refine Zm ?_
 refine VL.q (q_slen Tryz.underlying9 rfl) (by decide) ?_
 refine VL.q (q_geq rfl rfl) (by decide) ?_
 refine Za ?_
 refine Zl ?_
 refine VC.keep [0, 1, 5, 31] rfl ?_
 refine VC.cond_dec rfl (fun h31 => ?_) (fun h31 => ?_)
 ·
  replace hS := it_t h31 hS
  refine Zq (Zr ?_)
  refine Za ?_
  refine Zl ?_
  cases hS
  exact Ze
 replace hS := it_f h31 hS
 refine Zq (Zr ?_)
 refine Zm ?_
 cases hS
theorem internal_stringslite_Cut_ct (s_0 : Str) (sep_1 : Str) {r : Str × Str × Bool} (hS : Sh.internal_stringslite_Cut s_0 sep_1 = some r) :
 Ct Tryz.prog 205 [str s_0, str sep_1] Mo.tt (Ow.emp) (X := Unit) (fun _ => .tuple #[str r.1, str r.2.1, .bool r.2.2]) (fun _ => True) (fun _ => Mo.tt) (fun _ => Ow.emp) := by
 refine Ct.of Tryz.func205 rfl (by kernel_rfl) Tryz.ntmps205 (by simp) fun c => ?_
 unfold Sh.internal_stringslite_Cut at hS
 refine Zq (Zr ?_)
 refine Za ?_
 refine Za ?_
 refine Za ?_
 refine Zl ?_
 refine Zq (Zq (Zr ?_))
 refine Zm ?_
 refine Zm ?_
 obtain ⟨y10_1, ey10_1, hS⟩ := bd_s hS
 refine VL.q (q_call (internal_stringslite_Index_ct s_0 sep_1 ey10_1) rfl (fun _ _ => rfl)) (by decide) ?_
 refine Za ?_
 refine Zl ?_
 refine Zq (Zr ?_)
 refine Zm ?_
 refine VL.q (q_geq rfl rfl) (by decide) ?_
 refine Zl ?_
 refine VC.keep [0, 1, 7, 12] rfl ?_
 refine VC.cond_dec rfl (fun h12 => ?_) (fun h12 => ?_)
 ·
  replace hS := it_t h12 hS
  refine Zq ?_
  refine VC.draw ((List.range 12).map fun k => (k, true)) mixed (by kernel_rfl) (by kernel_rfl) (by kernel_rfl) ?_
  refine VD.q rfl (q_move rfl) (by decide) ?_
  refine VD.q rfl (q_move rfl) (by decide) ?_
  obtain ⟨b15, hS⟩ := gd_s hS
  obtain ⟨y15_2, ey15_2, hS⟩ := lt_s hS
  refine VD.q rfl (q_stoE Tryz.underlying9 rfl rfl b15.1 b15.2 ey15_2) (by decide) ?_
  refine VD.q rfl (q_move rfl) (by decide) ?_
  refine VD.q rfl (q_move rfl) (by decide) ?_
  refine VD.q rfl (q_move rfl) (by decide) ?_
  refine VD.q rfl (q_slen Tryz.underlying9 rfl) (by decide) ?_
  obtain ⟨b20, hS⟩ := gd_s hS
  refine VD.q rfl (q_add rfl rfl b20) (by decide) ?_
  obtain ⟨b21, hS⟩ := gd_s hS
  obtain ⟨y21_3, ey21_3, hS⟩ := lt_s hS
  refine VD.q rfl (q_sfromE Tryz.underlying9 rfl rfl b21.1 b21.2 ey21_3) (by decide) ?_
  refine VD.q rfl (q_assign rfl) (by decide) ?_
  refine VD.q rfl (q_assign rfl) (by decide) ?_
  refine VD.q rfl (q_assign rfl) (by decide) ?_
  refine VD.to (fun _ _ h => h) ?_
  refine VC.keep [4, 5, 6] rfl ?_
  cases hS
  exact VC.ret (fin3 (.inr rfl) rfl rfl rfl rfl () rfl trivial (fun _ _ => trivial) (fun _ _ => trivial))
 replace hS := it_f h12 hS
 refine Zk ?_
 refine Zq (Zr ?_)
 refine Zm ?_
 refine Za ?_
 refine Za ?_
 refine Za ?_
 refine Zl ?_
 cases hS
 exact VC.ret (fin3 (.inr rfl) rfl rfl rfl rfl () rfl trivial (fun _ _ => trivial) (fun _ _ => trivial))
theorem strings_Cut_ct (s_0 : Str) (sep_1 : Str) {r : Str × Str × Bool} (hS : Sh.strings_Cut s_0 sep_1 = some r) :
 Ct Tryz.prog 126 [str s_0, str sep_1] Mo.tt (Ow.emp) (X := Unit) (fun _ => .tuple #[str r.1, str r.2.1, .bool r.2.2]) (fun _ => True) (fun _ => Mo.tt) (fun _ => Ow.emp) := by
 refine Ct.of Tryz.func126 rfl (by kernel_rfl) Tryz.ntmps126 (by simp) fun c => ?_
 unfold Sh.strings_Cut at hS
 refine Zq (Zr ?_)
 refine Za ?_
 refine Za ?_
 refine Za ?_
 refine Zl ?_
 refine Zq (Zr ?_)
 refine Zm ?_
 refine Zm ?_
 obtain ⟨y9_1, ey9_1, hS⟩ := bd_s hS
 refine VL.q (q_call (internal_stringslite_Cut_ct s_0 sep_1 ey9_1) rfl (fun _ _ => rfl)) (by decide) ?_
 refine VL.q (q_extract rfl rfl) (by decide) ?_
 refine VL.q (q_extract rfl rfl) (by decide) ?_
 refine VL.q (q_extract rfl rfl) (by decide) ?_
 refine Za ?_
 refine Za ?_
 refine Za ?_
 refine Zl ?_
 refine VC.keep [4, 5, 6] rfl ?_
 cases hS
 exact VC.ret (fin3 (.inr rfl) rfl rfl rfl rfl () rfl trivial (fun _ _ => trivial) (fun _ _ => trivial))
theorem unicode_utf8_RuneCountInString_ct (s_0 : Str) {r : Int} (hS : Sh.unicode_utf8_RuneCountInString s_0 = some r) :
 Ct Tryz.prog 358 [str s_0] Mo.tt (Ow.emp) (X := Unit) (fun _ => i64 r) (fun _ => True) (fun _ => Mo.tt) (fun _ => Ow.emp) := by
 refine Ct.of Tryz.func358 rfl (by kernel_rfl) Tryz.ntmps358 (by simp) fun c => ?_
 unfold Sh.unicode_utf8_RuneCountInString at hS
 refine Zq (Zr ?_)
 refine Za ?_
 refine Zl ?_
 refine Zq (Zq (Zr ?_))
 refine Zm ?_
 cases hS
theorem unicode_utf8_decodeRuneInStringSlow_ct (s_0 : Str) {r : Int × Int} (hS : Sh.unicode_utf8_decodeRuneInStringSlow s_0 = some r) :
 Ct Tryz.prog 360 [str s_0] Mo.tt (Ow.emp) (X := Unit) (fun _ => .tuple #[.int .i32 r.1, i64 r.2]) (fun _ => True) (fun _ => Mo.tt) (fun _ => Ow.emp) := by
 refine Ct.of Tryz.func360 rfl (by kernel_rfl) Tryz.ntmps360 (by simp) fun c => ?_
 unfold Sh.unicode_utf8_decodeRuneInStringSlow at hS
 refine Zq (Zr ?_)
 refine Za ?_
 refine Za ?_
 refine Zl ?_
 refine Zq (Zr ?_)
 refine Zm ?_
 refine VL.q (q_slen Tryz.underlying9 rfl) (by decide) ?_
 refine Za ?_
 refine Zl ?_
 refine Zq (Zq (Zr ?_))
 refine Zm ?_
 refine VL.q (q_lss rfl rfl) (by decide) ?_
 refine Zl ?_
 refine VC.cond_dec rfl (fun h16 => ?_) (fun h16 => ?_)
 ·
  replace hS := it_t h16 hS
  refine Zq (Zr ?_)
  refine Za ?_
  refine Za ?_
  refine Zl ?_
  cases hS
  exact VC.ret (fin2 (.inr rfl) rfl rfl rfl () rfl trivial (fun _ _ => trivial) (fun _ _ => trivial))
 replace hS := it_f h16 hS
 refine Zk ?_
 refine Zq (Zr ?_)
 refine Zm ?_
 obtain ⟨z18_1, nz18_1, hz18_1, hS⟩ := at_s hS
 refine VL.q (q_sidx Tryz.underlying9 rfl rfl nz18_1 hz18_1) (by decide) ?_
 refine Za ?_
 refine Zl ?_
 refine VC.keep [0, 4, 5] rfl ?_
 refine Zq (Zr ?_)
 refine Zm ?_
 cases hS
theorem unicode_utf8_DecodeRuneInString_ct (s_0 : Str) {r : Int × Int} (hS : Sh.unicode_utf8_DecodeRuneInString s_0 = some r) :
 Ct Tryz.prog 321 [str s_0] Mo.tt (Ow.emp) (X := Unit) (fun _ => .tuple #[.int .i32 r.1, i64 r.2]) (fun _ => True) (fun _ => Mo.tt) (fun _ => Ow.emp) := by
 refine Ct.of Tryz.func321 rfl (by kernel_rfl) Tryz.ntmps321 (by simp) fun c => ?_
 unfold Sh.unicode_utf8_DecodeRuneInString at hS
 refine Zq (Zr ?_)
 refine Za ?_
 refine Za ?_
 refine Zl ?_
 refine Zq ?_
 refine VC.cutJ (S := Bool) (fun (x10_1 : Bool) => x10_1) (fun (x10_1 : Bool) => [(0, str s_0), (10, .bool x10_1)]) (fun (x10_1 : Bool) => Mo.tt) (fun (x10_1 : Bool) => Ow.emp) hS ?_ ?_
 ·
  clear hS
  intro k2 hS
  refine Zr ?_
  refine Zm ?_
  refine VL.q (q_sne rfl rfl) (by decide) ?_
  refine Zm ?_
  refine VL.split_ndec 6 rfl (fun h6 => ?_) (fun h6 => ?_)
  ·
   replace hS := it_f h6 hS
   refine Zg ?_
   obtain ⟨z8_3, nz8_3, hz8_3, hS⟩ := at_s hS
   refine VL.gy rfl rfl (q_sidx Tryz.underlying9 rfl rfl nz8_3 hz8_3) (by decide) ?_
   refine VL.gy rfl rfl (q_lss rfl rfl) (by decide) ?_
   refine Zt ?_
   refine VL.mt (decide ((z8_3.toNat : Int) < 128)) [0, 10] (fun _ _ h => h) hS rfl
  replace hS := it_t h6 hS
  refine Zn ?_
  refine Zn ?_
  refine Zn ?_
  refine Zf ?_
  refine VL.mt false [0, 10] (fun _ _ h => h) hS rfl
 clear hS
 rintro x10_1 hS
 show VC _ _ _ _ _ [(0, str s_0), (10, .bool x10_1)] (Mo.and Mo.tt _) (Ow.emp)
 refine VC.cond rfl (fun h10 => ?_) (fun h10 => ?_)
 ·
  replace hS := it_t h10 hS
  refine Zq (Zr ?_)
  refine Zm ?_
  obtain ⟨z12_4, nz12_4, hz12_4, hS⟩ := at_s hS
  refine VL.q (q_sidx Tryz.underlying9 rfl rfl nz12_4 hz12_4) (by decide) ?_
  refine VL.q (q_conv Tryz.underlying5 Tryz.underlying21 rfl (wr_i32 z12_4)) (by decide) ?_
  refine Za ?_
  refine Za ?_
  refine Zl ?_
  cases hS
  exact VC.ret (fin2 (.inr rfl) rfl rfl rfl () rfl trivial (fun _ _ => trivial) (fun _ _ => trivial))
 replace hS := it_b h10 hS
 refine Zr ?_
 refine Zm ?_
 obtain ⟨y16_5, ey16_5, hS⟩ := bd_s hS
 refine VL.q (q_call (unicode_utf8_decodeRuneInStringSlow_ct s_0 ey16_5) rfl (fun _ _ => rfl)) (by decide) ?_
 refine Zm ?_
 refine VL.q (q_extract rfl rfl) (by decide) ?_
 refine VL.q (q_extract rfl rfl) (by decide) ?_
 refine Za ?_
 refine Za ?_
 refine Zl ?_
 cases hS
 exact VC.ret (fin2 (.inr rfl) rfl rfl rfl () rfl trivial (fun _ _ => trivial) (fun _ _ => trivial))
theorem strings_explode_ct (s_0 : Str) (n_1 : Int) {r : List Str} (hS : Sh.strings_explode s_0 n_1 = some r) :
 Ct Tryz.prog 318 [str s_0, i64 n_1] Mo.tt (Ow.emp) (X := Sv Str) (fun x => x.val) (fun x => r = x.l) (fun x => Mo.tt) (fun x => Sv.own x 9) := by
 refine Ct.of Tryz.func318 rfl (by kernel_rfl) Tryz.ntmps318 (by simp) fun c => ?_
 unfold Sh.strings_explode at hS
 refine Zq (Zr ?_)
 refine Za ?_
 refine Zl ?_
 refine Zq (Zr ?_)
 refine Zm ?_
 obtain ⟨y11_1, ey11_1, hS⟩ := bd_s hS
 refine VL.q (q_call (unicode_utf8_RuneCountInString_ct s_0 ey11_1) rfl (fun _ _ => rfl)) (by decide) ?_
 refine Za ?_
 refine Zl ?_
 refine VC.cutJ (S := Int) (fun (n1_2 : Int) => n1_2) (fun (n1_2 : Int) => [(0, str s_0), (1, i64 n1_2)]) (fun (n1_2 : Int) => Mo.tt) (fun (n1_2 : Int) => Ow.emp) hS ?_ ?_
 ·
  clear hS
  intro k3 hS
  refine VC.cutJ (S := Bool) (fun (x18_4 : Bool) => x18_4) (fun (x18_4 : Bool) => [(0, str s_0), (1, i64 n_1), (5, i64 y11_1), (18, .bool x18_4)]) (fun (x18_4 : Bool) => Mo.tt) (fun (x18_4 : Bool) => Ow.emp) hS ?_ ?_
  ·
   clear hS
   intro k5 hS
   refine Zr ?_
   refine Zm ?_
   refine VL.q (q_lss rfl rfl) (by decide) ?_
   refine Zm ?_
   refine VL.split_dec 14 rfl (fun h14 => ?_) (fun h14 => ?_)
   ·
    replace hS := it_t h14 hS
    refine Zn ?_
    refine Zn ?_
    refine Zn ?_
    refine Zt ?_
    refine VL.mt true [0, 1, 5, 18] (fun _ _ h => h) hS rfl
   replace hS := it_f h14 hS
   refine Zg ?_
   refine Zg ?_
   refine VL.gy rfl rfl (q_gtr rfl rfl) (by decide) ?_
   refine Zf ?_
   refine VL.mt (decide (y11_1 < n_1)) [0, 1, 5, 18] (fun _ _ h => h) hS rfl
  clear hS
  rintro x18_4 hS
  show VC _ _ _ _ _ [(0, str s_0), (1, i64 n_1), (5, i64 y11_1), (18, .bool x18_4)] (Mo.and Mo.tt _) (Ow.emp)
  refine VC.cond rfl (fun h18 => ?_) (fun h18 => ?_)
  ·
   replace hS := it_t h18 hS
   refine Zr ?_
   refine Zm ?_
   refine Za ?_
   refine VL.mt y11_1 [0, 1] (fun _ _ h => h) hS rfl
  replace hS := it_b h18 hS
  refine VC.skip_mt n_1 [0, 1] (fun _ _ h => h) hS rfl
 clear hS
 rintro n1_2 hS
 show VC _ _ _ _ _ [(0, str s_0), (1, i64 n1_2)] (Mo.and Mo.tt _) (Ow.emp)
 refine Zq (Zr ?_)
 refine Zm ?_
 obtain ⟨b21, hS⟩ := gd_s hS
 refine VL.make (α := Str) (z := []) Tryz.underlying32 gmk9 (by decide) rfl rfl b21.1 (Int.le_refl _) (by omega) (by omega) (by decide) (fun s21_6 hs21_6 => ?_)
 replace hS := lt_to hs21_6 hS
 refine Za ?_
 refine Zl ?_
 refine Zq (Zq (Zr ?_))
 refine Za ?_
 refine Zl ?_
 refine Zb ?_
 refine VC.iter (S := Str × Sv Str × Int) (fun sg => (sg.1, sg.2.1.l, sg.2.2)) (fun sg => [(0, str sg.1), (1, i64 n1_2), (6, sg.2.1.val), (7, i64 sg.2.2)]) (fun sg => Mo.tt) (fun sg => Ow.star (Sv.own sg.2.1 9) (Ow.emp)) (s_0, s21_6, 0) [0, 1, 6, 7] hS rfl ?_
 clear hS
 rintro ⟨s0_8, a6_9, i7_10⟩ m1 y1 hS hK1
 show VC _ _ _ _ _ [(0, str s0_8), (1, i64 n1_2), (6, a6_9.val), (7, i64 i7_10)] (Mo.and Mo.tt _) (Ow.star (Sv.own a6_9 9) (Ow.emp))
 refine Zq (Zq (Zr ?_))
 refine Zm ?_
 refine Zm ?_
 obtain ⟨b24, hS⟩ := gd_s hS
 refine VL.q (q_sub rfl rfl b24) (by decide) ?_
 refine VL.q (q_lss rfl rfl) (by decide) ?_
 refine Zl ?_
 refine VC.cond_dec rfl (fun h25 => ?_) (fun h25 => ?_)
 ·
  replace hS := it_t h25 hS
  refine Zk ?_
  refine Zq (Zb (Zq (Zr ?_)))
  refine Zm ?_
  obtain ⟨y30_11, ey30_11, hS⟩ := bd_s hS
  refine VL.q (q_call (unicode_utf8_DecodeRuneInString_ct s0_8 ey30_11) rfl (fun _ _ => rfl)) (by decide) ?_
  refine Zm ?_
  refine VL.q (q_extract rfl rfl) (by decide) ?_
  refine VL.q (q_extract rfl rfl) (by decide) ?_
  refine Za ?_
  refine Za ?_
  refine Zl ?_
  refine VC.keep [0, 1, 6, 7, 9] rfl ?_
  refine Zq (Zr ?_)
  refine Zm ?_
  refine Zm ?_
  refine Zm ?_
  refine Zm ?_
  obtain ⟨b37, hS⟩ := gd_s hS
  obtain ⟨y37_12, ey37_12, hS⟩ := lt_s hS
  refine VL.q (q_stoE Tryz.underlying9 rfl rfl b37.1 b37.2 ey37_12) (by decide) ?_
  obtain ⟨z38_13, nz38_13, hz38_13, hS⟩ := at_s hS
  refine VL.q (q_ixo (s := a6_9) Tryz.underlying32 gsz9 rfl rfl nz38_13 (lt_of_get nz38_13 hz38_13)) (by decide) ?_
  refine VL.storeE (s := a6_9) (T := 9) (j := 0) (vc := [str y37_12]) (y37_12 : Str) (by decide) rfl rfl hz38_13 rfl gsz9 rfl rfl (Nat.le_of_ble_eq_true rfl) rfl (fun w14 hw14 haw14 hcw14 hvw14 hbw14 how14 => ?_)
  rw [← hvw14]
  replace hS := lt_to hw14 hS
  refine Zl ?_
  refine Zr ?_
  refine Zm ?_
  refine Zm ?_
  obtain ⟨b41, hS⟩ := gd_s hS
  obtain ⟨y41_16, ey41_16, hS⟩ := lt_s hS
  refine VL.q (q_sfromE Tryz.underlying9 rfl rfl b41.1 b41.2 ey41_16) (by decide) ?_
  refine Za ?_
  refine Zl ?_
  refine VC.keep [0, 1, 6, 7] rfl ?_
  refine Zr ?_
  refine Zm ?_
  obtain ⟨b27, hS⟩ := gd_s hS
  refine VL.q (q_add rfl rfl b27) (by decide) ?_
  refine Za ?_
  refine VL.rnd (y41_16, w14, (i7_10 + 1)) [0, 1, 6, 7] (fun _ _ h => h) (go2 hS hK1) rfl
 replace hS := it_f h25 hS
 replace hS := up2 hS hK1
 refine Zx ?_
 refine Zq (Zq (Zr ?_))
 refine Zm ?_
 refine VL.q (q_gtr rfl rfl) (by decide) ?_
 refine Zl ?_
 refine VC.cond_dec rfl (fun h43 => ?_) (fun h43 => ?_)
 ·
  replace hS := it_t h43 hS
  refine Zr ?_
  refine Zm ?_
  refine Zm ?_
  obtain ⟨b46, hS⟩ := gd_s hS
  refine VL.q (q_sub rfl rfl b46) (by decide) ?_
  refine Zm ?_
  obtain ⟨z48_17, nz48_17, hz48_17, hS⟩ := at_s hS
  refine VL.q (q_ixo (s := a6_9) Tryz.underlying32 gsz9 rfl rfl nz48_17 (lt_of_get nz48_17 hz48_17)) (by decide) ?_
  refine VL.storeE (s := a6_9) (T := 9) (j := 0) (vc := [str s0_8]) (s0_8 : Str) (by decide) rfl rfl hz48_17 rfl gsz9 rfl rfl (Nat.le_of_ble_eq_true rfl) rfl (fun w18 hw18 haw18 hcw18 hvw18 hbw18 how18 => ?_)
  rw [← hvw18]
  replace hS := lt_to hw18 hS
  refine Zl ?_
  refine VC.keep [6] rfl ?_
  refine Zq (Zr ?_)
  refine Zm ?_
  refine Za ?_
  refine Zl ?_
  cases hS
  exact VC.ret (fin1 (.inr rfl) rfl rfl w18 rfl rfl (by (try dsimp only); exact InM.out) (by (try dsimp only); exact EntO.out))
 replace hS := it_f h43 hS
 refine Zk ?_
 refine Zq (Zr ?_)
 refine Zm ?_
 refine Za ?_
 refine Zl ?_
 refine VC.keep [4] rfl ?_
 cases hS
 exact VC.ret (fin1 (.inr rfl) rfl rfl a6_9 rfl rfl (by (try dsimp only); exact InM.out) (by (try dsimp only); exact EntO.out))
theorem strings_Index_ct (s_0 : Str) (substr_1 : Str) {r : Int} (hS : Sh.strings_Index s_0 substr_1 = some r) :
 Ct Tryz.prog 307 [str s_0, str substr_1] Mo.tt (Ow.emp) (X := Unit) (fun _ => i64 r) (fun _ => True) (fun _ => Mo.tt) (fun _ => Ow.emp) := by
 refine Ct.of Tryz.func307 rfl (by kernel_rfl) Tryz.ntmps307 (by simp) fun c => ?_
 unfold Sh.strings_Index at hS
 refine Zq (Zr ?_)
 refine Za ?_
 refine Zl ?_
 refine Zq (Zr ?_)
 refine Zm ?_
 refine Zm ?_
 obtain ⟨y7_1, ey7_1, hS⟩ := bd_s hS
 refine VL.q (q_call (internal_stringslite_Index_ct s_0 substr_1 ey7_1) rfl (fun _ _ => rfl)) (by decide) ?_
 refine Za ?_
 refine Zl ?_
 cases hS
 exact Ze
theorem strings_Count_ct (s_0 : Str) (substr_1 : Str) {r : Int} (hS : Sh.strings_Count s_0 substr_1 = some r) :
 Ct Tryz.prog 319 [str s_0, str substr_1] Mo.tt (Ow.emp) (X := Unit) (fun _ => i64 r) (fun _ => True) (fun _ => Mo.tt) (fun _ => Ow.emp) := by
 refine Ct.of Tryz.func319 rfl (by kernel_rfl) Tryz.ntmps319 (by simp) fun c => ?_
 unfold Sh.strings_Count at hS
 refine Zq (Zr ?_)
 refine Za ?_
 refine Zl ?_
 refine Zq (Zq (Zr ?_))
 refine Zm ?_
 refine VL.q (q_slen Tryz.underlying9 rfl) (by decide) ?_
 refine VL.q (q_eql rfl rfl) (by decide) ?_
 refine Zl ?_
 refine VC.cond_dec rfl (fun h9 => ?_) (fun h9 => ?_)
 ·
  replace hS := it_t h9 hS
  refine Zq (Zr ?_)
  refine Zm ?_
  obtain ⟨y11_1, ey11_1, hS⟩ := bd_s hS
  refine VL.q (q_call (unicode_utf8_RuneCountInString_ct s_0 ey11_1) rfl (fun _ _ => rfl)) (by decide) ?_
  obtain ⟨b12, hS⟩ := gd_s hS
  refine VL.q (q_add rfl rfl b12) (by decide) ?_
  refine Za ?_
  refine Zl ?_
  cases hS
  exact Ze
 replace hS := it_f h9 hS
 refine Zk ?_
 refine Zq (Zq (Zr ?_))
 refine Zm ?_
 refine VL.q (q_slen Tryz.underlying9 rfl) (by decide) ?_
 refine VL.q (q_eql rfl rfl) (by decide) ?_
 refine Zl ?_
 refine VC.cond_dec rfl (fun h15 => ?_) (fun h15 => ?_)
 ·
  replace hS := it_t h15 hS
  refine Zq (Zr ?_)
  refine Zm ?_
  refine Zm ?_
  obtain ⟨z18_2, nz18_2, hz18_2, hS⟩ := at_s hS
  refine VL.q (q_sidx Tryz.underlying9 rfl rfl nz18_2 hz18_2) (by decide) ?_
  refine VL.q (q_extern Tryz.func359 rfl rfl (by kernel_rfl) (by kernel_rfl) rfl (fun w => x_cntS s_0 (z18_2.toNat : Int) w)) (by decide) ?_
  refine Za ?_
  refine Zl ?_
  refine VC.keep [4] rfl ?_
  cases hS
  exact Ze
 replace hS := it_f h15 hS
 refine Zk ?_
 refine Zq (Zr ?_)
 refine Za ?_
 refine Zl ?_
 refine Zb ?_
 refine VC.iter (S := Str × Int) (fun sg => (sg.1, sg.2)) (fun sg => [(0, str sg.1), (1, str substr_1), (5, i64 sg.2)]) (fun sg => Mo.tt) (fun sg => Ow.emp) (s_0, 0) [0, 1, 5] hS rfl ?_
 clear hS
 rintro ⟨s0_3, n5_4⟩ m1 y1 hS hK1
 show VC _ _ _ _ _ [(0, str s0_3), (1, str substr_1), (5, i64 n5_4)] (Mo.and Mo.tt _) (Ow.emp)
 refine Zb (Zq (Zr ?_))
 refine Zm ?_
 refine Zm ?_
 obtain ⟨y22_5, ey22_5, hS⟩ := bd_s hS
 refine VL.q (q_call (strings_Index_ct s0_3 substr_1 ey22_5) rfl (fun _ _ => rfl)) (by decide) ?_
 refine Za ?_
 refine Zl ?_
 refine Zq (Zq (Zr ?_))
 refine Zm ?_
 refine VL.q (q_eql rfl rfl) (by decide) ?_
 refine Zl ?_
 refine VC.cond_dec rfl (fun h24 => ?_) (fun h24 => ?_)
 ·
  replace hS := it_t h24 hS
  refine Zq (Zr ?_)
  refine Zm ?_
  refine Za ?_
  refine Zl ?_
  refine VC.keep [4] rfl ?_
  replace hS := up2 hS hK1
  cases hS
  exact Ze
 replace hS := it_f h24 hS
 refine Zk ?_
 refine Zq (Zr ?_)
 refine Zm ?_
 obtain ⟨b27, hS⟩ := gd_s hS
 refine VL.q (q_add rfl rfl b27) (by decide) ?_
 refine Za ?_
 refine Zl ?_
 refine VC.keep [0, 1, 5, 6] rfl ?_
 refine Zr ?_
 refine Zm ?_
 refine Zm ?_
 refine Zm ?_
 refine VL.q (q_slen Tryz.underlying9 rfl) (by decide) ?_
 obtain ⟨b32, hS⟩ := gd_s hS
 refine VL.q (q_add rfl rfl b32) (by decide) ?_
 obtain ⟨b33, hS⟩ := gd_s hS
 obtain ⟨y33_6, ey33_6, hS⟩ := lt_s hS
 refine VL.q (q_sfromE Tryz.underlying9 rfl rfl b33.1 b33.2 ey33_6) (by decide) ?_
 refine Za ?_
 refine VL.rnd (y33_6, (n5_4 + 1)) [0, 1, 5] (fun _ _ h => h) (go2 hS hK1) rfl
theorem strings_genSplit_ct (s_0 : Str) (sep_1 : Str) (sepSave_2 : Int) (n_3 : Int) {r : List Str} (hS : Sh.strings_genSplit s_0 sep_1 sepSave_2 n_3 = some r) :
 Ct Tryz.prog 265 [str s_0, str sep_1, i64 sepSave_2, i64 n_3] Mo.tt (Ow.emp) (X := Sv Str) (fun x => x.val) (fun x => r = x.l) (fun x => x.ok) (fun x => Ow.emp) := by
 refine Ct.of Tryz.func265 rfl (by kernel_rfl) Tryz.ntmps265 (by simp) fun c => ?_
 unfold Sh.strings_genSplit at hS
 refine Zq (Zr ?_)
 refine Za ?_
 refine Zl ?_
 refine Zq (Zq (Zr ?_))
 refine Zm ?_
 refine VL.q (q_eql rfl rfl) (by decide) ?_
 refine Zl ?_
 refine VC.cond_dec rfl (fun h13 => ?_) (fun h13 => ?_)
 ·
  replace hS := it_t h13 hS
  refine Zq (Zr ?_)
  refine Za ?_
  refine Zl ?_
  cases hS
  exact VC.ret (fin1 (.inr rfl) rfl rfl ⟨none, 0, []⟩ rfl rfl (by (try dsimp only); exact InM.out) (fun _ _ => trivial))
 replace hS := it_f h13 hS
 refine Zk ?_
 refine Zq (Zq (Zr ?_))
 refine Zm ?_
 refine Zs ?_
 refine Zl ?_
 refine VC.cond_dec rfl (fun h15 => ?_) (fun h15 => ?_)
 ·
  replace hS := it_t h15 hS
  refine Zq (Zr ?_)
  refine Zm ?_
  refine Zm ?_
  obtain ⟨y18_1, ey18_1, hS⟩ := bd_s hS
  refine VL.callO (strings_explode_ct s_0 n_3 ey18_1) rfl (by decide) ?_
  rintro q18_1_0 rfl
  try dsimp only
  refine Za ?_
  refine Zl ?_
  refine VC.keep [8] rfl ?_
  refine VC.shut q18_1_0 9 (fun _ _ _ _ => trivial) ?_
  cases hS
  exact VC.ret (fin1 (.inr rfl) rfl rfl q18_1_0 rfl rfl (by (try dsimp only); exact InM.out) (fun _ _ => trivial))
 replace hS := it_f h15 hS
 refine Zk ?_
 refine VC.cutJ (S := Int) (fun (n3_2 : Int) => n3_2) (fun (n3_2 : Int) => [(0, str s_0), (1, str sep_1), (2, i64 sepSave_2), (3, i64 n3_2)]) (fun (n3_2 : Int) => Mo.tt) (fun (n3_2 : Int) => Ow.emp) hS ?_ ?_
 ·
  clear hS
  intro k3 hS
  refine Zq (Zr ?_)
  refine Zm ?_
  refine VL.q (q_lss rfl rfl) (by decide) ?_
  refine Zl ?_
  refine VC.cond_dec rfl (fun h20 => ?_) (fun h20 => ?_)
  ·
   replace hS := it_t h20 hS
   refine Zr ?_
   refine Zm ?_
   refine Zm ?_
   obtain ⟨y23_4, ey23_4, hS⟩ := bd_s hS
   refine VL.q (q_call (strings_Count_ct s_0 sep_1 ey23_4) rfl (fun _ _ => rfl)) (by decide) ?_
   obtain ⟨b24, hS⟩ := gd_s hS
   refine VL.q (q_add rfl rfl b24) (by decide) ?_
   refine Za ?_
   refine VL.mt (y23_4 + 1) [0, 1, 2, 3] (fun _ _ h => h) hS rfl
  replace hS := it_f h20 hS
  refine VC.skip_mt n_3 [0, 1, 2, 3] (fun _ _ h => h) hS rfl
 clear hS
 rintro n3_2 hS
 show VC _ _ _ _ _ [(0, str s_0), (1, str sep_1), (2, i64 sepSave_2), (3, i64 n3_2)] (Mo.and Mo.tt _) (Ow.emp)
 refine Zq (Zr ?_)
 refine Zm ?_
 refine Zm ?_
 refine VL.q (q_slen Tryz.underlying9 rfl) (by decide) ?_
 obtain ⟨b28, hS⟩ := gd_s hS
 refine VL.q (q_add rfl rfl b28) (by decide) ?_
 refine VL.q (q_min rfl) (by decide) ?_
 refine Za ?_
 refine Zl ?_
 refine Zq (Zr ?_)
 refine Zm ?_
 obtain ⟨b31, hS⟩ := gd_s hS
 refine VL.make (α := Str) (z := []) Tryz.underlying32 gmk9 (by decide) rfl rfl b31.1 (Int.le_refl _) (by omega) (by omega) (by decide) (fun s31_5 hs31_5 => ?_)
 replace hS := lt_to hs31_5 hS
 refine Za ?_
 refine Zl ?_
 refine VC.keep [0, 1, 2, 3, 9] rfl ?_
 refine Zq (Zr ?_)
 refine Zm ?_
 obtain ⟨b33, hS⟩ := gd_s hS
 refine VL.q (q_sub rfl rfl b33) (by decide) ?_
 refine Za ?_
 refine Zl ?_
 refine Zq (Zr ?_)
 refine Za ?_
 refine Zl ?_
 refine VC.cutJ (S := Str × Sv Str × Int) (fun sg => (sg.1, sg.2.1.l, sg.2.2)) (fun sg => [(0, str sg.1), (9, sg.2.1.val), (10, i64 sg.2.2)]) (fun sg => Mo.tt) (fun sg => Ow.star (Sv.own sg.2.1 9) (Ow.emp)) hS ?_ ?_
 ·
  clear hS
  intro k10 hS
  refine Zb ?_
  refine VC.iter (S := Str × Sv Str × Int) (fun sg => (sg.1, sg.2.1.l, sg.2.2)) (fun sg => [(0, str sg.1), (1, str sep_1), (2, i64 sepSave_2), (3, i64 ((min n3_2 ((s_0.length : Int) + 1)) - 1)), (9, sg.2.1.val), (10, i64 sg.2.2)]) (fun sg => Mo.tt) (fun sg => Ow.star (Sv.own sg.2.1 9) (Ow.emp)) (s_0, s31_5, 0) [0, 1, 2, 3, 9, 10] hS rfl ?_
  clear hS
  rintro ⟨s0_11, a9_12, i10_13⟩ m1 y1 hS hK1
  show VC _ _ _ _ _ [(0, str s0_11), (1, str sep_1), (2, i64 sepSave_2), (3, i64 ((min n3_2 ((s_0.length : Int) + 1)) - 1)), (9, a9_12.val), (10, i64 i10_13)] (Mo.and Mo.tt _) (Ow.star (Sv.own a9_12 9) (Ow.emp))
  refine Zq (Zq (Zr ?_))
  refine Zm ?_
  refine Zm ?_
  refine VL.q (q_lss rfl rfl) (by decide) ?_
  refine Zl ?_
  refine VC.cond_dec rfl (fun h36 => ?_) (fun h36 => ?_)
  ·
   replace hS := it_t h36 hS
   refine Zk ?_
   refine Zb (Zq (Zr ?_))
   refine Zm ?_
   refine Zm ?_
   obtain ⟨y39_14, ey39_14, hS⟩ := bd_s hS
   refine VL.q (q_call (strings_Index_ct s0_11 sep_1 ey39_14) rfl (fun _ _ => rfl)) (by decide) ?_
   refine Za ?_
   refine Zl ?_
   refine Zq (Zq (Zr ?_))
   refine Zm ?_
   refine VL.q (q_lss rfl rfl) (by decide) ?_
   refine Zl ?_
   refine VC.keep [0, 1, 2, 3, 9, 10, 11, 41] rfl ?_
   refine VC.cond_dec rfl (fun h41 => ?_) (fun h41 => ?_)
   ·
    replace hS := it_t h41 hS
    replace hS := up2 hS hK1
    refine VC.exit_mt (s0_11, a9_12, i10_13) [0, 9, 10] (fun _ _ h => h) hS rfl
   replace hS := it_f h41 hS
   refine Zk ?_
   refine Zq (Zr ?_)
   refine Zm ?_
   refine Zm ?_
   refine Zm ?_
   refine Zm ?_
   refine Zm ?_
   obtain ⟨b47, hS⟩ := gd_s hS
   refine VL.q (q_add rfl rfl b47) (by decide) ?_
   obtain ⟨b48, hS⟩ := gd_s hS
   obtain ⟨y48_15, ey48_15, hS⟩ := lt_s hS
   refine VL.q (q_stoE Tryz.underlying9 rfl rfl b48.1 b48.2 ey48_15) (by decide) ?_
   obtain ⟨z49_16, nz49_16, hz49_16, hS⟩ := at_s hS
   refine VL.q (q_ixo (s := a9_12) Tryz.underlying32 gsz9 rfl rfl nz49_16 (lt_of_get nz49_16 hz49_16)) (by decide) ?_
   refine VL.storeE (s := a9_12) (T := 9) (j := 0) (vc := [str y48_15]) (y48_15 : Str) (by decide) rfl rfl hz49_16 rfl gsz9 rfl rfl (Nat.le_of_ble_eq_true rfl) rfl (fun w17 hw17 haw17 hcw17 hvw17 hbw17 how17 => ?_)
   rw [← hvw17]
   replace hS := lt_to hw17 hS
   refine Zl ?_
   refine VC.keep [0, 1, 2, 3, 9, 10, 11] rfl ?_
   refine Zq (Zr ?_)
   refine Zm ?_
   refine Zm ?_
   refine Zm ?_
   refine VL.q (q_slen Tryz.underlying9 rfl) (by decide) ?_
   obtain ⟨b54, hS⟩ := gd_s hS
   refine VL.q (q_add rfl rfl b54) (by decide) ?_
   obtain ⟨b55, hS⟩ := gd_s hS
   obtain ⟨y55_19, ey55_19, hS⟩ := lt_s hS
   refine VL.q (q_sfromE Tryz.underlying9 rfl rfl b55.1 b55.2 ey55_19) (by decide) ?_
   refine Za ?_
   refine Zl ?_
   refine VC.keep [0, 1, 2, 3, 9, 10] rfl ?_
   refine Zr ?_
   refine Zm ?_
   obtain ⟨b57, hS⟩ := gd_s hS
   refine VL.q (q_add rfl rfl b57) (by decide) ?_
   refine Za ?_
   refine VL.rnd (y55_19, w17, (i10_13 + 1)) [0, 1, 2, 3, 9, 10] (fun _ _ h => h) (go2 hS hK1) rfl
  replace hS := it_f h36 hS
  replace hS := up2 hS hK1
  refine VC.exit_mt (s0_11, a9_12, i10_13) [0, 9, 10] (fun _ _ h => h) hS rfl
 clear hS
 rintro ⟨s0_7, a9_8, i10_9⟩ hS
 show VC _ _ _ _ _ [(0, str s0_7), (9, a9_8.val), (10, i64 i10_9)] (Mo.and Mo.tt _) (Ow.star (Sv.own a9_8 9) (Ow.emp))
 refine Zq (Zr ?_)
 refine Zm ?_
 refine Zm ?_
 refine Zm ?_
 obtain ⟨z61_20, nz61_20, hz61_20, hS⟩ := at_s hS
 refine VL.q (q_ixo (s := a9_8) Tryz.underlying32 gsz9 rfl rfl nz61_20 (lt_of_get nz61_20 hz61_20)) (by decide) ?_
 refine VL.storeE (s := a9_8) (T := 9) (j := 0) (vc := [str s0_7]) (s0_7 : Str) (by decide) rfl rfl hz61_20 rfl gsz9 rfl rfl (Nat.le_of_ble_eq_true rfl) rfl (fun w21 hw21 haw21 hcw21 hvw21 hbw21 how21 => ?_)
 rw [← hvw21]
 replace hS := lt_to hw21 hS
 refine Zl ?_
 refine Zq (Zr ?_)
 refine Zm ?_
 refine Zm ?_
 obtain ⟨b64, hS⟩ := gd_s hS
 refine VL.q (q_add rfl rfl b64) (by decide) ?_
 refine VL.shut w21 9 (fun _ _ _ _ => trivial) ?_
 obtain ⟨b65, hS⟩ := gd_s hS
 refine VL.sto Tryz.underlying32 gsz9 rfl rfl b65.1 (b65.2) (by decide) fun s65_23 hs65_23 => ?_
 replace hS := lt_to hs65_23 hS
 refine Za ?_
 refine Zl ?_
 refine VC.keep [8] rfl ?_
 cases hS
 exact VC.ret (fin1 (.inr rfl) rfl rfl s65_23 rfl rfl (by (try dsimp only); exact InM.out) (fun _ _ => trivial))
theorem strings_Split_ct (s_0 : Str) (sep_1 : Str) {r : List Str} (hS : Sh.strings_Split s_0 sep_1 = some r) :
 Ct Tryz.prog 206 [str s_0, str sep_1] Mo.tt (Ow.emp) (X := Sv Str) (fun x => x.val) (fun x => r = x.l) (fun x => x.ok) (fun x => Ow.emp) := by
 refine Ct.of Tryz.func206 rfl (by kernel_rfl) Tryz.ntmps206 (by simp) fun c => ?_
 unfold Sh.strings_Split at hS
 refine Zq (Zr ?_)
 refine Za ?_
 refine Zl ?_
 refine Zq (Zr ?_)
 refine Zm ?_
 refine Zm ?_
 obtain ⟨y7_1, ey7_1, hS⟩ := bd_s hS
 refine VL.callF (strings_genSplit_ct s_0 sep_1 0 (-1) ey7_1) rfl (by decide) ?_
 rintro q7_1_0 rfl
 try dsimp only
 refine Za ?_
 refine Zl ?_
 cases hS
 exact VC.ret (fin1 (.inr rfl) rfl rfl q7_1_0 rfl rfl (by (try dsimp only); exact InM.out) (fun _ _ => trivial))
theorem cmd_first_ct (w_0 : Sv Str) {r : Str} (hS : Sh.cmd_first w_0.l = some r) :
 Ct Tryz.prog 266 [w_0.val] w_0.ok (Ow.emp) (X := Unit) (fun _ => str r) (fun _ => True) (fun _ => Mo.tt) (fun _ => Ow.emp) := by
 refine Ct.of Tryz.func266 rfl (by kernel_rfl) Tryz.ntmps266 (by simp) fun c => ?_
 unfold Sh.cmd_first at hS
 refine Zq (Zr ?_)
 refine Za ?_
 refine Zl ?_
 refine Zq (Zq (Zr ?_))
 refine Zm ?_
 refine VL.q (q_ln (s := w_0) Tryz.underlying32 rfl) (by decide) ?_
 refine VL.q (q_eql rfl rfl) (by decide) ?_
 refine Zl ?_
 refine VC.cond_dec rfl (fun h5 => ?_) (fun h5 => ?_)
 ·
  replace hS := it_t h5 hS
  refine Zq (Zr ?_)
  refine Za ?_
  refine Zl ?_
  cases hS
  exact Ze
 replace hS := it_f h5 hS
 refine Zk ?_
 refine Zq (Zr ?_)
 refine Zm ?_
 obtain ⟨z7_1, nz7_1, hz7_1, hS⟩ := at_s hS
 refine VL.q (q_ixm (s := w_0) Tryz.underlying32 gsz9 rfl rfl nz7_1 (lt_of_get nz7_1 hz7_1)) (by decide) ?_
 refine VL.q (q_el (s := w_0) gone9 rfl hz7_1 rfl) (by decide) ?_
 refine Za ?_
 refine Zl ?_
 cases hS
 exact Ze
theorem cmd_digit_ct (s_0 : Str) {r : Bool} (hS : Sh.cmd_digit s_0 = some r) :
 Ct Tryz.prog 267 [str s_0] Mo.tt (Ow.emp) (X := Unit) (fun _ => .bool r) (fun _ => True) (fun _ => Mo.tt) (fun _ => Ow.emp) := by
 refine Ct.of Tryz.func267 rfl (by kernel_rfl) Tryz.ntmps267 (by simp) fun c => ?_
 unfold Sh.cmd_digit at hS
 refine Zq (Zr ?_)
 refine Za ?_
 refine Zl ?_
 refine Zq (Zr ?_)
 refine Zm ?_
 refine VL.q (q_sne rfl rfl) (by decide) ?_
 refine Zm ?_
 refine VL.split_ndec 5 rfl (fun h5 => ?_) (fun h5 => ?_)
 ·
  replace hS := it_f h5 hS
  refine Zg ?_
  obtain ⟨z7_1, nz7_1, hz7_1, hS⟩ := at_s hS
  refine VL.gy rfl rfl (q_sidx Tryz.underlying9 rfl rfl nz7_1 hz7_1) (by decide) ?_
  refine VL.gy rfl rfl (q_geq rfl rfl) (by decide) ?_
  refine Zt ?_
  refine Zm ?_
  refine VL.split_dec 10 rfl (fun h10 => ?_) (fun h10 => ?_)
  ·
   replace hS := it_t h10 hS
   refine Zg ?_
   obtain ⟨z12_2, nz12_2, hz12_2, hS⟩ := at_s hS
   refine VL.gy rfl rfl (q_sidx Tryz.underlying9 rfl rfl nz12_2 hz12_2) (by decide) ?_
   refine VL.gy rfl rfl (q_leq rfl rfl) (by decide) ?_
   refine Zt ?_
   refine Za ?_
   refine Zl ?_
   refine VC.keep [2] rfl ?_
   cases hS
   exact Ze
  replace hS := it_f h10 hS
  refine Zn ?_
  refine Zn ?_
  refine Zn ?_
  refine Zf ?_
  refine Za ?_
  refine Zl ?_
  refine VC.keep [2] rfl ?_
  cases hS
  exact Ze
 replace hS := it_t h5 hS
 refine Zn ?_
 refine Zn ?_
 refine Zn ?_
 refine Zf ?_
 refine Zm ?_
 refine Zn ?_
 refine Zn ?_
 refine Zn ?_
 refine Zf ?_
 refine Za ?_
 refine Zl ?_
 refine VC.keep [2] rfl ?_
 cases hS
 exact Ze
theorem cmd_count_ct (s_0 : Str) {r : Int × Bool} (hS : Sh.cmd_count s_0 = some r) :
 Ct Tryz.prog 268 [str s_0] Mo.tt (Ow.emp) (X := Unit) (fun _ => .tuple #[i64 r.1, .bool r.2]) (fun _ => True) (fun _ => Mo.tt) (fun _ => Ow.emp) := by
 refine Ct.of Tryz.func268 rfl (by kernel_rfl) Tryz.ntmps268 (by simp) fun c => ?_
 unfold Sh.cmd_count at hS
 refine Zq (Zr ?_)
 refine Za ?_
 refine Za ?_
 refine Zl ?_
 refine Zq ?_
 refine VC.cutJ (S := Bool) (fun (x23_1 : Bool) => x23_1) (fun (x23_1 : Bool) => [(0, str s_0), (23, .bool x23_1)]) (fun (x23_1 : Bool) => Mo.tt) (fun (x23_1 : Bool) => Ow.emp) hS ?_ ?_
 ·
  clear hS
  intro k2 hS
  refine Zr ?_
  refine Zm ?_
  refine Zs ?_
  refine Zm ?_
  refine VL.split_dec 9 rfl (fun h9 => ?_) (fun h9 => ?_)
  ·
   replace hS := it_t h9 hS
   refine Zn ?_
   refine Zn ?_
   refine Zn ?_
   refine Zt ?_
   refine Zm ?_
   refine Zn ?_
   refine Zn ?_
   refine Zn ?_
   refine Zn ?_
   refine VL.gu rfl rfl (by decide) ?_
   refine VL.gu rfl rfl (by decide) ?_
   refine VL.gu rfl rfl (by decide) ?_
   refine Zn ?_
   refine Zt ?_
   refine VL.mt true [0, 23] (fun _ _ h => h) hS rfl
  replace hS := it_f h9 hS
  refine Zg ?_
  refine VL.gy rfl rfl (q_slen Tryz.underlying9 rfl) (by decide) ?_
  refine VL.gy rfl rfl (q_gtr rfl rfl) (by decide) ?_
  refine Zf ?_
  refine Zm ?_
  refine VL.split_dec 14 rfl (fun h14 => ?_) (fun h14 => ?_)
  ·
   replace hS := it_t h14 hS
   refine Zn ?_
   refine Zn ?_
   refine Zn ?_
   refine Zn ?_
   refine VL.gu rfl rfl (by decide) ?_
   refine VL.gu rfl rfl (by decide) ?_
   refine VL.gu rfl rfl (by decide) ?_
   refine Zn ?_
   refine Zt ?_
   refine VL.mt true [0, 23] (fun _ _ h => h) hS rfl
  replace hS := it_f h14 hS
  refine Zg ?_
  refine VL.gy rfl rfl (q_slen Tryz.underlying9 rfl) (by decide) ?_
  refine VL.gy rfl rfl (q_gtr rfl rfl) (by decide) ?_
  refine Zg ?_
  refine VL.split_dec 18 rfl (fun h18 => ?_) (fun h18 => ?_)
  ·
   replace hS := it_t h18 hS
   refine Zg ?_
   obtain ⟨z20_3, nz20_3, hz20_3, hS⟩ := at_s hS
   refine VL.gy rfl rfl (q_sidx Tryz.underlying9 rfl rfl nz20_3 hz20_3) (by decide) ?_
   refine VL.gy rfl rfl (q_eql rfl rfl) (by decide) ?_
   refine VL.gy rfl rfl (q_pick_t rfl rfl) (by decide) ?_
   refine Zf ?_
   refine VL.mt (decide ((z20_3.toNat : Int) = 48)) [0, 23] (fun _ _ h => h) hS rfl
  replace hS := it_f h18 hS
  refine Zn ?_
  refine Zn ?_
  refine Zn ?_
  refine VL.gy rfl rfl (q_pick_f rfl rfl) (by decide) ?_
  refine Zf ?_
  refine VL.mt false [0, 23] (fun _ _ h => h) hS rfl
 clear hS
 rintro x23_1 hS
 show VC _ _ _ _ _ [(0, str s_0), (23, .bool x23_1)] (Mo.and Mo.tt _) (Ow.emp)
 refine VC.cond rfl (fun h23 => ?_) (fun h23 => ?_)
 ·
  replace hS := it_t h23 hS
  refine Zq (Zr ?_)
  refine Za ?_
  refine Za ?_
  refine Zl ?_
  cases hS
  exact VC.ret (fin2 (.inr rfl) rfl rfl rfl () rfl trivial (fun _ _ => trivial) (fun _ _ => trivial))
 replace hS := it_b h23 hS
 refine Zk ?_
 refine Zq (Zr ?_)
 refine Za ?_
 refine Zl ?_
 refine Zq (Zq (Zr ?_))
 refine Zm ?_
 obtain ⟨b25, hS⟩ := gd_s hS
 refine VL.s2b Tryz.underlying9 Tryz.underlying61 Tryz.underlying5 rfl b25 (by decide) fun s25_4 hs25_4 => ?_
 replace hS := lt_to hs25_4 hS
 refine VL.q (q_ln (s := s25_4) Tryz.underlying61 rfl) (by decide) ?_
 refine Zm ?_
 refine Zl ?_
 refine Zb ?_
 refine VC.iter (S := Int × Int) (fun sg => (sg.1, sg.2)) (fun sg => [(4, i64 sg.1), (25, s25_4.val), (26, i64 (s25_4.l.length : Int)), (27, i64 sg.2)]) (fun sg => Mo.tt) (fun sg => Ow.emp) (0, 0) [4, 25, 26, 27] hS rfl ?_
 clear hS
 rintro ⟨n4_6, x27_7⟩ m1 y1 hS hK1
 show VC _ _ _ _ _ [(4, i64 n4_6), (25, s25_4.val), (26, i64 (s25_4.l.length : Int)), (27, i64 x27_7)] (Mo.and Mo.tt _) (Ow.emp)
 refine Zq (Zr ?_)
 refine VL.q (q_lss rfl rfl) (by decide) ?_
 refine Zl ?_
 refine Zq ?_
 refine VC.cond_dec rfl (fun h28 => ?_) (fun h28 => ?_)
 ·
  replace hS := it_t h28 hS
  refine Zk ?_
  refine Zq (Zb (Zq (Zr ?_)))
  obtain ⟨z29_8, nz29_8, hz29_8, hS⟩ := at_s hS
  refine VL.q (q_ixm (s := s25_4) Tryz.underlying61 gsz5 rfl rfl nz29_8 (lt_of_get nz29_8 hz29_8)) (by decide) ?_
  refine VL.q (q_el (s := s25_4) gone5 rfl hz29_8 rfl) (by decide) ?_
  refine Za ?_
  refine Zl ?_
  refine Zq ?_
  refine VC.cutJ (S := Bool) (fun (x36_9 : Bool) => x36_9) (fun (x36_9 : Bool) => [(4, i64 n4_6), (6, .int .u8 (z29_8.toNat : Int)), (25, s25_4.val), (26, i64 (s25_4.l.length : Int)), (27, i64 x27_7), (36, .bool x36_9)]) (fun (x36_9 : Bool) => Mo.tt) (fun (x36_9 : Bool) => Ow.emp) hS ?_ ?_
  ·
   clear hS
   intro k10 hS
   refine Zr ?_
   refine Zm ?_
   refine VL.q (q_lss rfl rfl) (by decide) ?_
   refine Zm ?_
   refine VL.split_dec 33 rfl (fun h33 => ?_) (fun h33 => ?_)
   ·
    replace hS := it_t h33 hS
    refine Zn ?_
    refine Zn ?_
    refine Zt ?_
    refine VL.mt true [4, 6, 25, 26, 27, 36] (fun _ _ h => h) hS rfl
   replace hS := it_f h33 hS
   refine Zg ?_
   refine VL.gy rfl rfl (q_gtr rfl rfl) (by decide) ?_
   refine Zf ?_
   refine VL.mt (decide (57 < (z29_8.toNat : Int))) [4, 6, 25, 26, 27, 36] (fun _ _ h => h) hS rfl
  clear hS
  rintro x36_9 hS
  show VC _ _ _ _ _ [(4, i64 n4_6), (6, .int .u8 (z29_8.toNat : Int)), (25, s25_4.val), (26, i64 (s25_4.l.length : Int)), (27, i64 x27_7), (36, .bool x36_9)] (Mo.and Mo.tt _) (Ow.emp)
  refine VC.cond rfl (fun h36 => ?_) (fun h36 => ?_)
  ·
   replace hS := it_t h36 hS
   refine Zq (Zr ?_)
   refine Za ?_
   refine Za ?_
   refine Zl ?_
   replace hS := up2 hS hK1
   cases hS
   exact VC.ret (fin2 (.inr rfl) rfl rfl rfl () rfl trivial (fun _ _ => trivial) (fun _ _ => trivial))
  replace hS := it_b h36 hS
  refine Zk ?_
  refine Zr ?_
  refine Zm ?_
  obtain ⟨b38, hS⟩ := gd_s hS
  refine VL.q (q_mul rfl rfl b38) (by decide) ?_
  refine Zm ?_
  obtain ⟨b40, hS⟩ := gd_s hS
  refine VL.q (q_subW rfl rfl (wu8_in b40)) (by decide) ?_
  refine VL.q (q_convW Tryz.underlying5 Tryz.underlying3 rfl) (by decide) ?_
  obtain ⟨b42, hS⟩ := gd_s hS
  refine VL.q (q_add rfl rfl b42) (by decide) ?_
  refine Za ?_
  refine Zl ?_
  refine VC.keep [4, 25, 26, 27] rfl ?_
  refine Zr ?_
  obtain ⟨b43, hS⟩ := gd_s hS
  refine VL.q (q_add rfl rfl b43) (by decide) ?_
  refine Zm ?_
  refine VL.rnd (((10 * n4_6) + (IntKind.wrap .i64 ((z29_8.toNat : Int) - 48))), (x27_7 + 1)) [4, 25, 26, 27] (fun _ _ h => h) (go2 hS hK1) rfl
 replace hS := it_f h28 hS
 replace hS := up2 hS hK1
 refine Zx ?_
 refine Zq (Zr ?_)
 refine Zm ?_
 refine Zm ?_
 refine VL.q (q_leq rfl rfl) (by decide) ?_
 refine Za ?_
 refine Za ?_
 refine Zl ?_
 cases hS
 exact VC.ret (fin2 (.inr rfl) rfl rfl rfl () rfl trivial (fun _ _ => trivial) (fun _ _ => trivial))
theorem cmd_words_ct (c_0_b : Nat) (c_0 : CmdCmd) (w_1 : Sv Str) {r : Bool × CmdCmdP} (hS : Sh.cmd_words c_0.pl w_1.l = some r) :
 Ct Tryz.prog 207 [ptr c_0_b 0, w_1.val] (c_0.todo.ok.and w_1.ok) (Blk c_0_b [str c_0.verb, str c_0.name, i64 c_0.n, str c_0.text, .bool c_0.force, c_0.todo.val] 86) (X := Bool × CmdCmd) (fun x => .bool x.1) (fun x => r = (x.1, x.2.pl)) (fun x => x.2.todo.ok) (fun x => Blk c_0_b [str x.2.verb, str x.2.name, i64 x.2.n, str x.2.text, .bool x.2.force, x.2.todo.val] 86) := by
 refine Ct.of Tryz.func207 rfl (by kernel_rfl) Tryz.ntmps207 (by simp) fun c => ?_
 unfold Sh.cmd_words at hS
 refine Zq (Zr ?_)
 refine Za ?_
 refine Zl ?_
 refine Zq (Zr ?_)
 refine Za ?_
 refine Za ?_
 refine Zl ?_
 refine VC.cutJ (S := Sv Str × Bool) (fun sg => (sg.1.l, sg.2)) (fun sg => [(0, ptr c_0_b 0), (1, sg.1.val), (5, i64 0), (6, .bool true)]) (fun sg => sg.1.ok) (fun sg => Ow.star (Blk c_0_b [str c_0.verb, str c_0.name, i64 c_0.n, str c_0.text, .bool sg.2, c_0.todo.val] 86) (Ow.emp)) hS ?_ ?_
 ·
  clear hS
  intro k3 hS
  refine Zq (Zr ?_)
  refine Zm ?_
  refine VL.q (q_nilCheck rfl) (by decide) ?_
  refine VL.q (q_field gfa86_0 rfl) (by decide) ?_
  refine VL.q (q_fe gone9 rfl rfl) (by decide) ?_
  refine Zl ?_
  refine Zb ?_
  refine VC.cutJ (S := Bool) (fun (x11_4 : Bool) => x11_4) (fun (x11_4 : Bool) => [(0, ptr c_0_b 0), (1, w_1.val), (5, i64 0), (6, .bool true), (11, .bool x11_4)]) (fun (x11_4 : Bool) => Mo.tt) (fun (x11_4 : Bool) => Ow.star (Blk c_0_b [str c_0.verb, str c_0.name, i64 c_0.n, str c_0.text, .bool c_0.force, c_0.todo.val] 86) (Ow.emp)) hS ?_ ?_
  ·
   clear hS
   intro k5 hS
   refine Zq (Zr ?_)
   refine Zs ?_
   refine Za ?_
   refine Zl ?_
   refine VC.cond_dec rfl (fun h11 => ?_) (fun h11 => ?_)
   ·
    replace hS := it_t h11 hS
    refine VC.skip_mt (decide (c_0.verb = [114, 109])) [0, 1, 5, 6, 11] (fun _ _ h => h) hS rfl
   replace hS := it_f h11 hS
   refine Zr ?_
   refine Zs ?_
   refine Za ?_
   refine VL.mt (decide (c_0.verb = [115, 119, 105, 116, 99, 104])) [0, 1, 5, 6, 11] (fun _ _ h => h) hS rfl
  clear hS
  rintro x11_4 hS
  show VC _ _ _ _ _ [(0, ptr c_0_b 0), (1, w_1.val), (5, i64 0), (6, .bool true), (11, .bool x11_4)] (Mo.and Mo.tt _) (Ow.star (Blk c_0_b [str c_0.verb, str c_0.name, i64 c_0.n, str c_0.text, .bool c_0.force, c_0.todo.val] 86) (Ow.emp))
  refine VC.cond rfl (fun h11 => ?_) (fun h11 => ?_)
  ·
   replace hS := it_t h11 hS
   refine VC.cutJ (S := Bool) (fun (x25_6 : Bool) => x25_6) (fun (x25_6 : Bool) => [(0, ptr c_0_b 0), (1, w_1.val), (5, i64 0), (6, .bool true), (25, .bool x25_6)]) (fun (x25_6 : Bool) => Mo.tt) (fun (x25_6 : Bool) => Ow.star (Blk c_0_b [str c_0.verb, str c_0.name, i64 c_0.n, str c_0.text, .bool c_0.force, c_0.todo.val] 86) (Ow.emp)) hS ?_ ?_
   ·
    clear hS
    intro k7 hS
    refine Zr ?_
    refine Zm ?_
    refine VL.q (q_ln (s := w_1) Tryz.underlying32 rfl) (by decide) ?_
    refine VL.q (q_gtr rfl rfl) (by decide) ?_
    refine Zm ?_
    refine VL.split_dec 17 rfl (fun h17 => ?_) (fun h17 => ?_)
    ·
     replace hS := it_t h17 hS
     refine Zg ?_
     refine Zg ?_
     refine VL.gy rfl rfl (q_ln (s := w_1) Tryz.underlying32 rfl) (by decide) ?_
     obtain ⟨b21, hS⟩ := gd_s hS
     refine VL.gy rfl rfl (q_sub rfl rfl b21) (by decide) ?_
     obtain ⟨z22_8, nz22_8, hz22_8, hS⟩ := at_s hS
     refine VL.gy rfl rfl (q_ixm (s := w_1) Tryz.underlying32 gsz9 rfl rfl nz22_8 (lt_of_get nz22_8 hz22_8)) (by decide) ?_
     refine VL.gy rfl rfl (q_el (s := w_1) gone9 rfl hz22_8 rfl) (by decide) ?_
     refine VL.gy rfl rfl (q_seq rfl rfl) (by decide) ?_
     refine Zt ?_
     refine VL.mt (decide (z22_8 = [45, 102])) [0, 1, 5, 6, 25] (fun _ _ h => h) hS rfl
    replace hS := it_f h17 hS
    refine Zn ?_
    refine Zn ?_
    refine Zn ?_
    refine Zn ?_
    refine Zn ?_
    refine Zn ?_
    refine Zn ?_
    refine Zf ?_
    refine VL.mt false [0, 1, 5, 6, 25] (fun _ _ h => h) hS rfl
   clear hS
   rintro x25_6 hS
   show VC _ _ _ _ _ [(0, ptr c_0_b 0), (1, w_1.val), (5, i64 0), (6, .bool true), (25, .bool x25_6)] (Mo.and Mo.tt _) (Ow.star (Blk c_0_b [str c_0.verb, str c_0.name, i64 c_0.n, str c_0.text, .bool c_0.force, c_0.todo.val] 86) (Ow.emp))
   refine VC.cond rfl (fun h25 => ?_) (fun h25 => ?_)
   ·
    replace hS := it_t h25 hS
    refine VC.draw [(0, true), (1, true), (2, true), (3, true), (4, true), (5, true), (6, true), (7, true), (8, false), (9, true)] mixed (by kernel_rfl) (by kernel_rfl) (by kernel_rfl) ?_
    refine VD.q rfl (q_move rfl) (by decide) ?_
    refine VD.q rfl (q_move rfl) (by decide) ?_
    refine VD.q rfl (q_move rfl) (by decide) ?_
    refine VD.q rfl (q_ln (s := w_1) Tryz.underlying32 rfl) (by decide) ?_
    obtain ⟨b30, hS⟩ := gd_s hS
    refine VD.q rfl (q_sub rfl rfl b30) (by decide) ?_
    obtain ⟨b31, hS⟩ := gd_s hS
    refine VD.stoK rfl Tryz.underlying32 gsz9 rfl rfl b31.1 (b31.2) (by decide) fun s31_9 hs31_9 Qs31_9 => ?_
    replace hS := lt_to hs31_9 hS
    refine VD.q rfl (q_nilCheck rfl) (by decide) ?_
    refine VD.q rfl (q_field gfa86_4 rfl) (by decide) ?_
    refine VD.one rfl ?_
    refine VL.store (vc := [.bool true]) (cs' := [str c_0.verb, str c_0.name, i64 c_0.n, str c_0.text, .bool true, c_0.todo.val]) rfl rfl rfl gsz4 rfl rfl (Nat.le_of_ble_eq_true rfl) rfl ?_
    refine VL.back (D' := [(5, s31_9.val), (4, i64 ((w_1.l.length : Int) - 1)), (3, i64 (w_1.l.length : Int))]) (by kernel_rfl) (Pend.cons rfl ((Qs31_9 rfl rfl)) (Pend.cons rfl (q_sub rfl rfl b30) (Pend.cons rfl (q_ln (s := w_1) Tryz.underlying32 rfl) (Pend.nil)))) ?_
    refine VD.q rfl (q_assign rfl) (by decide) ?_
    refine VD.mt (s31_9, true) [0, 1, 5, 6] (fun _ _ h => h) hS rfl
   replace hS := it_b h25 hS
   refine VC.skip_mt (w_1, c_0.force) [0, 1, 5, 6] (fun _ _ h => h) hS rfl
  replace hS := it_b h11 hS
  refine VC.skip_mt (w_1, c_0.force) [0, 1, 5, 6] (fun _ _ h => h) hS rfl
 clear hS
 rintro ⟨w1_1, c4_2⟩ hS
 show VC _ _ _ _ _ [(0, ptr c_0_b 0), (1, w1_1.val), (5, i64 0), (6, .bool true)] (Mo.and w1_1.ok _) (Ow.star (Blk c_0_b [str c_0.verb, str c_0.name, i64 c_0.n, str c_0.text, .bool c4_2, c_0.todo.val] 86) (Ow.emp))
 refine VC.cutJ (S := Int × Bool × Str × Int) (fun sg => (sg.1, sg.2.1, sg.2.2.1, sg.2.2.2)) (fun sg => [(1, w1_1.val), (5, i64 sg.1), (6, .bool sg.2.1)]) (fun sg => Mo.tt) (fun sg => Ow.star (Blk c_0_b [str c_0.verb, str sg.2.2.1, i64 sg.2.2.2, str c_0.text, .bool c4_2, c_0.todo.val] 86) (Ow.emp)) hS ?_ ?_
 ·
  clear hS
  intro k15 hS
  refine Zq (Zr ?_)
  refine Zm ?_
  refine VL.q (q_nilCheck rfl) (by decide) ?_
  refine VL.q (q_field gfa86_0 rfl) (by decide) ?_
  refine VL.q (q_fe gone9 rfl rfl) (by decide) ?_
  refine Zl ?_
  refine Zb ?_
  refine VC.cutJ (S := Unit) (fun (_ : Unit) => ()) (fun (_ : Unit) => [(0, ptr c_0_b 0), (1, w1_1.val)]) (fun (_ : Unit) => Mo.tt) (fun (_ : Unit) => Ow.star (Blk c_0_b [str c_0.verb, str c_0.name, i64 c_0.n, str c_0.text, .bool c4_2, c_0.todo.val] 86) (Ow.emp)) hS ?_ ?_
  ·
   clear hS
   intro k16 hS
   refine Zb ?_
   refine VC.cutJ (S := Unit) (fun (_ : Unit) => ()) (fun (_ : Unit) => [(0, ptr c_0_b 0), (1, w1_1.val)]) (fun (_ : Unit) => Mo.tt) (fun (_ : Unit) => Ow.star (Blk c_0_b [str c_0.verb, str c_0.name, i64 c_0.n, str c_0.text, .bool c4_2, c_0.todo.val] 86) (Ow.emp)) hS ?_ ?_
   ·
    clear hS
    intro k17 hS
    refine Zb ?_
    refine VC.cutJ (S := Unit) (fun (_ : Unit) => ()) (fun (_ : Unit) => [(0, ptr c_0_b 0), (1, w1_1.val)]) (fun (_ : Unit) => Mo.tt) (fun (_ : Unit) => Ow.star (Blk c_0_b [str c_0.verb, str c_0.name, i64 c_0.n, str c_0.text, .bool c4_2, c_0.todo.val] 86) (Ow.emp)) hS ?_ ?_
    ·
     clear hS
     intro k18 hS
     refine Zb ?_
     refine VC.cutJ (S := Unit) (fun (_ : Unit) => ()) (fun (_ : Unit) => [(0, ptr c_0_b 0), (1, w1_1.val)]) (fun (_ : Unit) => Mo.tt) (fun (_ : Unit) => Ow.star (Blk c_0_b [str c_0.verb, str c_0.name, i64 c_0.n, str c_0.text, .bool c4_2, c_0.todo.val] 86) (Ow.emp)) hS ?_ ?_
     ·
      clear hS
      intro k19 hS
      refine Zb (Zq (Zb (Zq (Zq (Zq (Zr ?_))))))
      refine Zs ?_
      refine Za ?_
      refine Zl ?_
      refine VC.cond_dec rfl (fun h38 => ?_) (fun h38 => ?_)
      ·
       replace hS := it_t h38 hS
       refine Zx ?_
       refine Zq (Zr ?_)
       refine Zm ?_
       refine VL.q (q_ln (s := w1_1) Tryz.underlying32 rfl) (by decide) ?_
       refine VL.q (q_eql rfl rfl) (by decide) ?_
       refine Zl ?_
       refine VC.keep [0, 1, 5, 6, 58] rfl ?_
       refine VC.cond_dec rfl (fun h58 => ?_) (fun h58 => ?_)
       ·
        replace hS := it_t h58 hS
        refine VC.exit_mt (0, true, c_0.name, c_0.n) [1, 5, 6] (fun _ _ h => h) hS rfl
       replace hS := it_f h58 hS
       refine VC.skip_mt () [0, 1] (fun _ _ h => h) hS rfl
      replace hS := it_f h38 hS
      refine Zk ?_
      refine VC.cutJ (S := Unit) (fun (_ : Unit) => ()) (fun (_ : Unit) => [(0, ptr c_0_b 0), (1, w1_1.val), (5, i64 0), (6, .bool true), (37, str c_0.verb)]) (fun (_ : Unit) => Mo.tt) (fun (_ : Unit) => Ow.star (Blk c_0_b [str c_0.verb, str c_0.name, i64 c_0.n, str c_0.text, .bool c4_2, c_0.todo.val] 86) (Ow.emp)) hS ?_ ?_
      ·
       clear hS
       intro k20 hS
       refine Zq (Zq (Zr ?_))
       refine Zs ?_
       refine Za ?_
       refine Zl ?_
       refine VC.cond_dec rfl (fun h40 => ?_) (fun h40 => ?_)
       ·
        replace hS := it_t h40 hS
        refine Zk ?_
        refine VC.cond_dec rfl (fun h40 => ?_) (fun h40 => ?_)
        ·
         replace hS := it_t h40 hS
         refine VC.exit_mt () [0, 1] (fun _ _ h => h) hS rfl
        replace hS := it_f h40 hS
        refine VC.skip_mt () [0, 1, 5, 6, 37] (fun _ _ h => h) hS rfl
       replace hS := it_f h40 hS
       refine Zq (Zr ?_)
       refine Zs ?_
       refine Za ?_
       refine Zl ?_
       refine VC.keep [0, 1, 5, 6, 37, 40] rfl ?_
       refine VC.cond_dec rfl (fun h40 => ?_) (fun h40 => ?_)
       ·
        replace hS := it_t h40 hS
        refine Zk ?_
        refine VC.cond_dec rfl (fun h40 => ?_) (fun h40 => ?_)
        ·
         replace hS := it_t h40 hS
         refine VC.exit_mt () [0, 1] (fun _ _ h => h) hS rfl
        replace hS := it_f h40 hS
        refine VC.skip_mt () [0, 1, 5, 6, 37] (fun _ _ h => h) hS rfl
       replace hS := it_f h40 hS
       refine Zq (Zr ?_)
       refine Zs ?_
       refine Za ?_
       refine Zl ?_
       refine VC.cond_dec rfl (fun h40 => ?_) (fun h40 => ?_)
       ·
        replace hS := it_t h40 hS
        refine Zk ?_
        refine VC.cond_dec rfl (fun h40 => ?_) (fun h40 => ?_)
        ·
         replace hS := it_t h40 hS
         refine VC.exit_mt () [0, 1] (fun _ _ h => h) hS rfl
        replace hS := it_f h40 hS
        refine VC.skip_mt () [0, 1, 5, 6, 37] (fun _ _ h => h) hS rfl
       replace hS := it_f h40 hS
       refine Zr ?_
       refine Zs ?_
       refine Za ?_
       refine Zl ?_
       refine VC.cond_dec rfl (fun h40 => ?_) (fun h40 => ?_)
       ·
        replace hS := it_t h40 hS
        refine VC.exit_mt () [0, 1] (fun _ _ h => h) hS rfl
       replace hS := it_f h40 hS
       refine VC.skip_mt () [0, 1, 5, 6, 37] (fun _ _ h => h) hS rfl
      clear hS
      rintro _ hS
      show VC _ _ _ _ _ [(0, ptr c_0_b 0), (1, w1_1.val), (5, i64 0), (6, .bool true), (37, str c_0.verb)] (Mo.and Mo.tt _) (Ow.star (Blk c_0_b [str c_0.verb, str c_0.name, i64 c_0.n, str c_0.text, .bool c4_2, c_0.todo.val] 86) (Ow.emp))
      refine Zq (Zq (Zr ?_))
      refine Zs ?_
      refine Za ?_
      refine Zl ?_
      refine VC.cond_dec rfl (fun h45 => ?_) (fun h45 => ?_)
      ·
       replace hS := it_t h45 hS
       refine VC.exit_mt () [0, 1] (fun _ _ h => h) hS rfl
      replace hS := it_f h45 hS
      refine Zk ?_
      refine Zq (Zq (Zr ?_))
      refine Zs ?_
      refine Za ?_
      refine Zl ?_
      refine VC.cond_dec rfl (fun h47 => ?_) (fun h47 => ?_)
      ·
       replace hS := it_t h47 hS
       refine VC.exit_mt () [0, 1] (fun _ _ h => h) hS rfl
      replace hS := it_f h47 hS
      refine Zk ?_
      refine Zq (Zq (Zr ?_))
      refine Zs ?_
      refine Za ?_
      refine Zl ?_
      refine VC.cond_dec rfl (fun h49 => ?_) (fun h49 => ?_)
      ·
       replace hS := it_t h49 hS
       refine Zk ?_
       refine VC.cond_dec rfl (fun h49 => ?_) (fun h49 => ?_)
       ·
        replace hS := it_t h49 hS
        refine VC.exit_mt () [0, 1] (fun _ _ h => h) hS rfl
       replace hS := it_f h49 hS
       refine Zk ?_
       refine VC.keep [1, 5, 6] rfl ?_
       refine VC.exit_mt (0, true, c_0.name, c_0.n) [1, 5, 6] (fun _ _ h => h) hS rfl
      replace hS := it_f h49 hS
      refine Zq (Zr ?_)
      refine Zs ?_
      refine Za ?_
      refine Zl ?_
      refine VC.cond_dec rfl (fun h49 => ?_) (fun h49 => ?_)
      ·
       replace hS := it_t h49 hS
       refine Zk ?_
       refine VC.keep [0, 1, 5, 6, 49] rfl ?_
       refine VC.cond_dec rfl (fun h49 => ?_) (fun h49 => ?_)
       ·
        replace hS := it_t h49 hS
        refine VC.exit_mt () [0, 1] (fun _ _ h => h) hS rfl
       replace hS := it_f h49 hS
       refine Zk ?_
       refine VC.exit_mt (0, true, c_0.name, c_0.n) [1, 5, 6] (fun _ _ h => h) hS rfl
      replace hS := it_f h49 hS
      refine Zq (Zr ?_)
      refine Zs ?_
      refine Za ?_
      refine Zl ?_
      refine VC.keep [0, 1, 5, 6, 37, 49] rfl ?_
      refine VC.cond_dec rfl (fun h49 => ?_) (fun h49 => ?_)
      ·
       replace hS := it_t h49 hS
       refine Zk ?_
       refine VC.cond_dec rfl (fun h49 => ?_) (fun h49 => ?_)
       ·
        replace hS := it_t h49 hS
        refine VC.exit_mt () [0, 1] (fun _ _ h => h) hS rfl
       replace hS := it_f h49 hS
       refine Zk ?_
       refine VC.exit_mt (0, true, c_0.name, c_0.n) [1, 5, 6] (fun _ _ h => h) hS rfl
      replace hS := it_f h49 hS
      refine Zq (Zr ?_)
      refine Zs ?_
      refine Za ?_
      refine Zl ?_
      refine VC.cond_dec rfl (fun h49 => ?_) (fun h49 => ?_)
      ·
       replace hS := it_t h49 hS
       refine Zk ?_
       refine VC.cond_dec rfl (fun h49 => ?_) (fun h49 => ?_)
       ·
        replace hS := it_t h49 hS
        refine VC.exit_mt () [0, 1] (fun _ _ h => h) hS rfl
       replace hS := it_f h49 hS
       refine Zk ?_
       refine VC.exit_mt (0, true, c_0.name, c_0.n) [1, 5, 6] (fun _ _ h => h) hS rfl
      replace hS := it_f h49 hS
      refine Zq (Zr ?_)
      refine Zs ?_
      refine Za ?_
      refine Zl ?_
      refine VC.cond_dec rfl (fun h49 => ?_) (fun h49 => ?_)
      ·
       replace hS := it_t h49 hS
       refine Zk ?_
       refine VC.cond_dec rfl (fun h49 => ?_) (fun h49 => ?_)
       ·
        replace hS := it_t h49 hS
        refine VC.exit_mt () [0, 1] (fun _ _ h => h) hS rfl
       replace hS := it_f h49 hS
       refine Zk ?_
       refine VC.exit_mt (0, true, c_0.name, c_0.n) [1, 5, 6] (fun _ _ h => h) hS rfl
      replace hS := it_f h49 hS
      refine Zr ?_
      refine Zs ?_
      refine Za ?_
      refine Zl ?_
      refine VC.cond_dec rfl (fun h49 => ?_) (fun h49 => ?_)
      ·
       replace hS := it_t h49 hS
       refine VC.exit_mt () [0, 1] (fun _ _ h => h) hS rfl
      replace hS := it_f h49 hS
      refine Zk ?_
      refine VC.exit_mt (0, true, c_0.name, c_0.n) [1, 5, 6] (fun _ _ h => h) hS rfl
     clear hS
     rintro _ hS
     show VC _ _ _ _ _ [(0, ptr c_0_b 0), (1, w1_1.val)] (Mo.and Mo.tt _) (Ow.star (Blk c_0_b [str c_0.verb, str c_0.name, i64 c_0.n, str c_0.text, .bool c4_2, c_0.todo.val] 86) (Ow.emp))
     refine Zq (Zq (Zr ?_))
     refine Za ?_
     refine Zl ?_
     refine Zq (Zr ?_)
     refine Zm ?_
     refine Zm ?_
     obtain ⟨y61_21, ey61_21, hS⟩ := bd_s hS
     refine VL.q (q_call (cmd_first_ct w1_1 ey61_21) rfl (fun _ _ => rfl)) (by decide) ?_
     refine VL.q (q_nilCheck rfl) (by decide) ?_
     refine VL.q (q_field gfa86_1 rfl) (by decide) ?_
     refine VL.store (vc := [str y61_21]) (cs' := [str c_0.verb, str y61_21, i64 c_0.n, str c_0.text, .bool c4_2, c_0.todo.val]) rfl rfl rfl gsz9 rfl rfl (Nat.le_of_ble_eq_true rfl) rfl ?_
     refine Zl ?_
     refine Zr ?_
     refine Zm ?_
     refine VL.q (q_nilCheck rfl) (by decide) ?_
     refine VL.q (q_field gfa86_1 rfl) (by decide) ?_
     refine VL.q (q_fe gone9 rfl rfl) (by decide) ?_
     refine VL.q (q_sne rfl rfl) (by decide) ?_
     refine Za ?_
     refine Zl ?_
     refine VC.keep [1, 5, 6] rfl ?_
     refine VC.exit_mt (1, (!decide (y61_21 = [])), y61_21, c_0.n) [1, 5, 6] (fun _ _ h => h) hS rfl
    clear hS
    rintro _ hS
    show VC _ _ _ _ _ [(0, ptr c_0_b 0), (1, w1_1.val)] (Mo.and Mo.tt _) (Ow.star (Blk c_0_b [str c_0.verb, str c_0.name, i64 c_0.n, str c_0.text, .bool c4_2, c_0.todo.val] 86) (Ow.emp))
    refine Zq (Zq (Zr ?_))
    refine Za ?_
    refine Zl ?_
    refine Zq (Zr ?_)
    refine Zm ?_
    obtain ⟨y70_22, ey70_22, hS⟩ := bd_s hS
    refine VL.q (q_call (cmd_first_ct w1_1 ey70_22) rfl (fun _ _ => rfl)) (by decide) ?_
    obtain ⟨y71_23, ey71_23, hS⟩ := bd_s hS
    refine VL.q (q_call (cmd_digit_ct y70_22 ey71_23) rfl (fun _ _ => rfl)) (by decide) ?_
    refine Zl ?_
    refine VC.cond rfl (fun h71 => ?_) (fun h71 => ?_)
    ·
     replace hS := it_t h71 hS
     refine Zr ?_
     refine Zm ?_
     refine Zm ?_
     obtain ⟨y75_24, ey75_24, hS⟩ := bd_s hS
     refine VL.q (q_call (cmd_first_ct w1_1 ey75_24) rfl (fun _ _ => rfl)) (by decide) ?_
     obtain ⟨y76_25, ey76_25, hS⟩ := bd_s hS
     refine VL.q (q_call (cmd_count_ct y75_24 ey76_25) rfl (fun _ _ => rfl)) (by decide) ?_
     refine Zm ?_
     refine VL.q (q_extract rfl rfl) (by decide) ?_
     refine VL.q (q_extract rfl rfl) (by decide) ?_
     refine VL.q (q_nilCheck rfl) (by decide) ?_
     refine VL.q (q_field gfa86_2 rfl) (by decide) ?_
     refine VL.store (vc := [i64 y76_25.1]) (cs' := [str c_0.verb, str c_0.name, i64 y76_25.1, str c_0.text, .bool c4_2, c_0.todo.val]) rfl rfl rfl gsz3 rfl rfl (Nat.le_of_ble_eq_true rfl) rfl ?_
     refine Za ?_
     refine Zl ?_
     refine VC.keep [1, 5, 6] rfl ?_
     refine VC.exit_mt (1, y76_25.2, c_0.name, y76_25.1) [1, 5, 6] (fun _ _ h => h) hS rfl
    replace hS := it_b h71 hS
    refine Zq (Zr ?_)
    refine Zm ?_
    refine Zm ?_
    obtain ⟨y83_26, ey83_26, hS⟩ := bd_s hS
    refine VL.q (q_call (cmd_first_ct w1_1 ey83_26) rfl (fun _ _ => rfl)) (by decide) ?_
    refine VL.q (q_nilCheck rfl) (by decide) ?_
    refine VL.q (q_field gfa86_1 rfl) (by decide) ?_
    refine VL.store (vc := [str y83_26]) (cs' := [str c_0.verb, str y83_26, i64 c_0.n, str c_0.text, .bool c4_2, c_0.todo.val]) rfl rfl rfl gsz9 rfl rfl (Nat.le_of_ble_eq_true rfl) rfl ?_
    refine Zl ?_
    refine VC.keep [0, 1, 5] rfl ?_
    refine Zr ?_
    refine Zm ?_
    refine VL.q (q_nilCheck rfl) (by decide) ?_
    refine VL.q (q_field gfa86_1 rfl) (by decide) ?_
    refine VL.q (q_fe gone9 rfl rfl) (by decide) ?_
    refine VL.q (q_sne rfl rfl) (by decide) ?_
    refine Za ?_
    refine Zl ?_
    refine VC.exit_mt (1, (!decide (y83_26 = [])), y83_26, c_0.n) [1, 5, 6] (fun _ _ h => h) hS rfl
   clear hS
   rintro _ hS
   show VC _ _ _ _ _ [(0, ptr c_0_b 0), (1, w1_1.val)] (Mo.and Mo.tt _) (Ow.star (Blk c_0_b [str c_0.verb, str c_0.name, i64 c_0.n, str c_0.text, .bool c4_2, c_0.todo.val] 86) (Ow.emp))
   refine Zq (Zq (Zr ?_))
   refine Za ?_
   refine Zl ?_
   refine Zq (Zr ?_)
   refine Zm ?_
   refine Zm ?_
   obtain ⟨y93_27, ey93_27, hS⟩ := bd_s hS
   refine VL.q (q_call (cmd_first_ct w1_1 ey93_27) rfl (fun _ _ => rfl)) (by decide) ?_
   refine VL.q (q_nilCheck rfl) (by decide) ?_
   refine VL.q (q_field gfa86_1 rfl) (by decide) ?_
   refine VL.store (vc := [str y93_27]) (cs' := [str c_0.verb, str y93_27, i64 c_0.n, str c_0.text, .bool c4_2, c_0.todo.val]) rfl rfl rfl gsz9 rfl rfl (Nat.le_of_ble_eq_true rfl) rfl ?_
   refine Zl ?_
   refine VC.cutJ (S := Bool) (fun (x106_28 : Bool) => x106_28) (fun (x106_28 : Bool) => [(0, ptr c_0_b 0), (1, w1_1.val), (5, i64 2), (106, .bool x106_28)]) (fun (x106_28 : Bool) => Mo.tt) (fun (x106_28 : Bool) => Ow.star (Blk c_0_b [str c_0.verb, str y93_27, i64 c_0.n, str c_0.text, .bool c4_2, c_0.todo.val] 86) (Ow.emp)) hS ?_ ?_
   ·
    clear hS
    intro k29 hS
    refine Zr ?_
    refine Zm ?_
    refine VL.q (q_ln (s := w1_1) Tryz.underlying32 rfl) (by decide) ?_
    refine Zm ?_
    refine VL.q (q_eql rfl rfl) (by decide) ?_
    refine Zm ?_
    refine VL.split_dec 100 rfl (fun h100 => ?_) (fun h100 => ?_)
    ·
     replace hS := it_t h100 hS
     refine Zg ?_
     refine VL.gy rfl rfl (q_nilCheck rfl) (by decide) ?_
     refine VL.gy rfl rfl (q_field gfa86_1 rfl) (by decide) ?_
     refine VL.gy rfl rfl (q_fe gone9 rfl rfl) (by decide) ?_
     refine VL.gy rfl rfl (q_sne rfl rfl) (by decide) ?_
     refine Zt ?_
     refine VL.mt (!decide (y93_27 = [])) [0, 1, 5, 106] (fun _ _ h => h) hS rfl
    replace hS := it_f h100 hS
    refine Zn ?_
    refine Zn ?_
    refine Zn ?_
    refine Zn ?_
    refine Zn ?_
    refine Zf ?_
    refine VL.mt false [0, 1, 5, 106] (fun _ _ h => h) hS rfl
   clear hS
   rintro x106_28 hS
   show VC _ _ _ _ _ [(0, ptr c_0_b 0), (1, w1_1.val), (5, i64 2), (106, .bool x106_28)] (Mo.and Mo.tt _) (Ow.star (Blk c_0_b [str c_0.verb, str y93_27, i64 c_0.n, str c_0.text, .bool c4_2, c_0.todo.val] 86) (Ow.emp))
   refine VC.cond rfl (fun h106 => ?_) (fun h106 => ?_)
   ·
    replace hS := it_t h106 hS
    refine Zr ?_
    refine Zm ?_
    refine Zm ?_
    obtain ⟨z110_30, nz110_30, hz110_30, hS⟩ := at_s hS
    refine VL.q (q_ixm (s := w1_1) Tryz.underlying32 gsz9 rfl rfl nz110_30 (lt_of_get nz110_30 hz110_30)) (by decide) ?_
    refine VL.q (q_el (s := w1_1) gone9 rfl hz110_30 rfl) (by decide) ?_
    obtain ⟨y112_31, ey112_31, hS⟩ := bd_s hS
    refine VL.q (q_call (cmd_count_ct z110_30 ey112_31) rfl (fun _ _ => rfl)) (by decide) ?_
    refine Zm ?_
    refine VL.q (q_extract rfl rfl) (by decide) ?_
    refine VL.q (q_extract rfl rfl) (by decide) ?_
    refine VL.q (q_nilCheck rfl) (by decide) ?_
    refine VL.q (q_field gfa86_2 rfl) (by decide) ?_
    refine VL.store (vc := [i64 y112_31.1]) (cs' := [str c_0.verb, str y93_27, i64 y112_31.1, str c_0.text, .bool c4_2, c_0.todo.val]) rfl rfl rfl gsz3 rfl rfl (Nat.le_of_ble_eq_true rfl) rfl ?_
    refine Za ?_
    refine Zl ?_
    refine VC.keep [1, 5, 6] rfl ?_
    refine VC.exit_mt (2, y112_31.2, y93_27, y112_31.1) [1, 5, 6] (fun _ _ h => h) hS rfl
   replace hS := it_b h106 hS
   refine Zr ?_
   refine Za ?_
   refine Zl ?_
   refine VC.exit_mt (2, false, y93_27, c_0.n) [1, 5, 6] (fun _ _ h => h) hS rfl
  clear hS
  rintro _ hS
  show VC _ _ _ _ _ [(0, ptr c_0_b 0), (1, w1_1.val)] (Mo.and Mo.tt _) (Ow.star (Blk c_0_b [str c_0.verb, str c_0.name, i64 c_0.n, str c_0.text, .bool c4_2, c_0.todo.val] 86) (Ow.emp))
  refine Zq (Zq (Zr ?_))
  refine Za ?_
  refine Zl ?_
  refine Zr ?_
  refine Zm ?_
  refine Zm ?_
  obtain ⟨y120_32, ey120_32, hS⟩ := bd_s hS
  refine VL.q (q_call (cmd_first_ct w1_1 ey120_32) rfl (fun _ _ => rfl)) (by decide) ?_
  obtain ⟨y121_33, ey121_33, hS⟩ := bd_s hS
  refine VL.q (q_call (cmd_count_ct y120_32 ey121_33) rfl (fun _ _ => rfl)) (by decide) ?_
  refine Zm ?_
  refine VL.q (q_extract rfl rfl) (by decide) ?_
  refine VL.q (q_extract rfl rfl) (by decide) ?_
  refine VL.q (q_nilCheck rfl) (by decide) ?_
  refine VL.q (q_field gfa86_2 rfl) (by decide) ?_
  refine VL.store (vc := [i64 y121_33.1]) (cs' := [str c_0.verb, str c_0.name, i64 y121_33.1, str c_0.text, .bool c4_2, c_0.todo.val]) rfl rfl rfl gsz3 rfl rfl (Nat.le_of_ble_eq_true rfl) rfl ?_
  refine Za ?_
  refine Zl ?_
  refine VC.keep [1, 5, 6] rfl ?_
  refine VC.exit_mt (1, y121_33.2, c_0.name, y121_33.1) [1, 5, 6] (fun _ _ h => h) hS rfl
 clear hS
 rintro ⟨want5_11, ok6_12, c1_13, c2_14⟩ hS
 show VC _ _ _ _ _ [(1, w1_1.val), (5, i64 want5_11), (6, .bool ok6_12)] (Mo.and Mo.tt _) (Ow.star (Blk c_0_b [str c_0.verb, str c1_13, i64 c2_14, str c_0.text, .bool c4_2, c_0.todo.val] 86) (Ow.emp))
 refine Zq (Zr ?_)
 refine Zm ?_
 refine Zm ?_
 refine VL.split 127 rfl (fun h127 => ?_) (fun h127 => ?_)
 ·
  replace hS := it_t h127 hS
  refine Zg ?_
  refine VL.gy rfl rfl (q_ln (s := w1_1) Tryz.underlying32 rfl) (by decide) ?_
  refine Zg ?_
  refine VL.gy rfl rfl (q_eql rfl rfl) (by decide) ?_
  refine Zt ?_
  refine Za ?_
  refine Zl ?_
  refine VC.keep [4] rfl ?_
  cases hS
  exact VC.ret (fin1 (.inr rfl) rfl rfl ((decide ((w1_1.l.length : Int) = want5_11)), ⟨c_0.verb, c1_13, c2_14, c_0.text, c4_2, c_0.todo⟩) rfl rfl (by (try dsimp only); exact InM.out) (by (try dsimp only); exact EntO.out))
 replace hS := it_b h127 hS
 refine Zn ?_
 refine Zn ?_
 refine Zn ?_
 refine Zn ?_
 refine Zf ?_
 refine Za ?_
 refine Zl ?_
 refine VC.keep [4] rfl ?_
 cases hS
 exact VC.ret (fin1 (.inr rfl) rfl rfl (false, ⟨c_0.verb, c1_13, c2_14, c_0.text, c4_2, c_0.todo⟩) rfl rfl (by (try dsimp only); exact InM.out) (by (try dsimp only); exact EntO.out))
theorem cmd_read_ct (line_0 : Str) {r : CmdCmdP × Bool} (hS : Sh.cmd_read line_0 = some r) :
 Ct Tryz.prog 127 [str line_0] Mo.tt (Ow.emp) (X := CmdCmd × Bool) (fun x => .tuple #[.agg (Dat.enc x.1).toArray, .bool x.2]) (fun x => r = (x.1.pl, x.2)) (fun x => x.1.m) (fun x => Ow.emp) := by
 refine Ct.of Tryz.func127 rfl (by kernel_rfl) Tryz.ntmps127 (by simp) fun c => ?_
 unfold Sh.cmd_read at hS
 refine Zq (Zr ?_)
 refine VL.alloc (cs := [str [], str [], i64 0, str [], .bool false, .slice none 0 0]) (by kernel_rfl) (by decide) fun b2_1 => ?_
 refine Za ?_
 refine Zl ?_
 refine Zq (Zr ?_)
 refine Zm ?_
 obtain ⟨y12_2, ey12_2, hS⟩ := bd_s hS
 refine VL.q (q_call (strings_Cut_ct line_0 [32] ey12_2) rfl (fun _ _ => rfl)) (by decide) ?_
 refine Zm ?_
 refine VL.q (q_extract rfl rfl) (by decide) ?_
 refine VL.q (q_extract rfl rfl) (by decide) ?_
 refine VL.q (q_extract rfl rfl) (by decide) ?_
 refine Za ?_
 refine Za ?_
 refine Za ?_
 refine Zl ?_
 refine VC.keep [2, 4, 5, 6] rfl ?_
 refine Zq (Zr ?_)
 refine Zm ?_
 refine VL.q (q_build (vs := [(0, str y12_2.1)]) (cs := #[str y12_2.1, str [], i64 0, str [], .bool false, .slice none 0 0]) rfl (by kernel_rfl)) (by decide) ?_
 refine VL.alloc (cs := [str [], str [], i64 0, str [], .bool false, .slice none 0 0]) (by kernel_rfl) (by decide) fun b7_3 => ?_
 refine VL.store (vc := [str y12_2.1, str [], i64 0, str [], .bool false, .slice none 0 0]) (cs' := [str y12_2.1, str [], i64 0, str [], .bool false, .slice none 0 0]) rfl rfl rfl gsz86 rfl rfl (Nat.le_of_ble_eq_true rfl) rfl ?_
 refine Zl ?_
 refine Zq ?_
 refine VC.cutJ (S := Bool) (fun (x23_4 : Bool) => x23_4) (fun (x23_4 : Bool) => [(2, ptr b2_1 0), (5, str y12_2.2.1), (6, .bool y12_2.2.2), (7, ptr b7_3 0), (23, .bool x23_4)]) (fun (x23_4 : Bool) => Mo.tt) (fun (x23_4 : Bool) => Ow.star (Blk b7_3 [str y12_2.1, str [], i64 0, str [], .bool false, .slice none 0 0] 86) (Ow.star (Blk b2_1 [str [], str [], i64 0, str [], .bool false, .slice none 0 0] 86) (Ow.emp))) hS ?_ ?_
 ·
  clear hS
  intro k5 hS
  refine Zr ?_
  refine Zm ?_
  refine Zs ?_
  refine Zm ?_
  refine VL.split_dec 20 rfl (fun h20 => ?_) (fun h20 => ?_)
  ·
   replace hS := it_t h20 hS
   refine Zn ?_
   refine Zn ?_
   refine Zt ?_
   refine VL.mt true [2, 5, 6, 7, 23] (fun _ _ h => h) hS rfl
  replace hS := it_f h20 hS
  refine Zg ?_
  refine VL.gy rfl rfl (q_seq rfl rfl) (by decide) ?_
  refine Zf ?_
  refine VL.mt (decide (y12_2.1 = [115, 116, 97, 115, 104])) [2, 5, 6, 7, 23] (fun _ _ h => h) hS rfl
 clear hS
 rintro x23_4 hS
 show VC _ _ _ _ _ [(2, ptr b2_1 0), (5, str y12_2.2.1), (6, .bool y12_2.2.2), (7, ptr b7_3 0), (23, .bool x23_4)] (Mo.and Mo.tt _) (Ow.star (Blk b7_3 [str y12_2.1, str [], i64 0, str [], .bool false, .slice none 0 0] 86) (Ow.star (Blk b2_1 [str [], str [], i64 0, str [], .bool false, .slice none 0 0] 86) (Ow.emp)))
 refine VC.cond rfl (fun h23 => ?_) (fun h23 => ?_)
 ·
  replace hS := it_t h23 hS
  refine Zq (Zr ?_)
  refine Zm ?_
  refine VL.q (q_field gfa86_3 rfl) (by decide) ?_
  refine VL.store (vc := [str y12_2.2.1]) (cs' := [str y12_2.1, str [], i64 0, str y12_2.2.1, .bool false, .slice none 0 0]) rfl rfl rfl gsz9 rfl rfl (Nat.le_of_ble_eq_true rfl) rfl ?_
  refine Zl ?_
  refine Zq (Zr ?_)
  refine VL.q (q_fes gagg86 rfl rfl) (by decide) ?_
  refine Zm ?_
  refine VL.q (q_not rfl) (by decide) ?_
  refine Zm ?_
  refine VL.split 29 rfl (fun h29 => ?_) (fun h29 => ?_)
  ·
   replace hS := it_t h29 hS
   refine Zn ?_
   refine Zn ?_
   refine Zt ?_
   refine VL.store (vc := [str y12_2.1, str [], i64 0, str y12_2.2.1, .bool false, .slice none 0 0]) (cs' := [str y12_2.1, str [], i64 0, str y12_2.2.1, .bool false, .slice none 0 0]) rfl rfl rfl gsz86 rfl rfl (Nat.le_of_ble_eq_true rfl) rfl ?_
   refine Za ?_
   refine Zl ?_
   refine VC.keep [2, 3] rfl ?_
   cases hS
   exact VC.ret (finG (vs := [.agg #[str y12_2.1, str [], i64 0, str y12_2.2.1, .bool false, .slice none 0 0], .bool true]) (.inr rfl) rfl (RVs.cell gagg86 rfl rfl Rd.blk (RVs.tmp rfl (RVs.nil))) (⟨y12_2.1, [], 0, y12_2.2.1, false, ⟨none, 0, []⟩⟩, true) rfl rfl (by (try dsimp only); exact InM.out) (fun _ _ => trivial))
  replace hS := it_b h29 hS
  refine Zg ?_
  refine VL.gy rfl rfl (q_sne rfl rfl) (by decide) ?_
  refine Zf ?_
  refine VL.store (vc := [str y12_2.1, str [], i64 0, str y12_2.2.1, .bool false, .slice none 0 0]) (cs' := [str y12_2.1, str [], i64 0, str y12_2.2.1, .bool false, .slice none 0 0]) rfl rfl rfl gsz86 rfl rfl (Nat.le_of_ble_eq_true rfl) rfl ?_
  refine Za ?_
  refine Zl ?_
  refine VC.keep [2, 3] rfl ?_
  cases hS
  exact VC.ret (finG (vs := [.agg #[str y12_2.1, str [], i64 0, str y12_2.2.1, .bool false, .slice none 0 0], .bool (!decide (y12_2.2.1 = []))]) (.inr rfl) rfl (RVs.cell gagg86 rfl rfl Rd.blk (RVs.tmp rfl (RVs.nil))) (⟨y12_2.1, [], 0, y12_2.2.1, false, ⟨none, 0, []⟩⟩, (!decide (y12_2.2.1 = []))) rfl rfl (by (try dsimp only); exact InM.out) (fun _ _ => trivial))
 replace hS := it_b h23 hS
 refine Zk ?_
 refine Zq (Zr ?_)
 refine Za ?_
 refine Zl ?_
 refine VC.cutJ (S := Sv Str) (fun (w8_6 : Sv Str) => w8_6.l) (fun (w8_6 : Sv Str) => [(2, ptr b2_1 0), (7, ptr b7_3 0), (8, w8_6.val)]) (fun (w8_6 : Sv Str) => w8_6.ok) (fun (w8_6 : Sv Str) => Ow.star (Blk b7_3 [str y12_2.1, str [], i64 0, str [], .bool false, .slice none 0 0] 86) (Ow.star (Blk b2_1 [str [], str [], i64 0, str [], .bool false, .slice none 0 0] 86) (Ow.emp))) hS ?_ ?_
 ·
  clear hS
  intro k7 hS
  refine Zq (Zr ?_)
  refine Zm ?_
  refine Zl ?_
  refine VC.cond rfl (fun h33 => ?_) (fun h33 => ?_)
  ·
   replace hS := it_t h33 hS
   refine Zr ?_
   refine Zm ?_
   obtain ⟨y35_8, ey35_8, hS⟩ := bd_s hS
   refine VL.callF (strings_Split_ct y12_2.2.1 [32] ey35_8) rfl (by decide) ?_
   rintro q35_8_0 rfl
   try dsimp only
   refine Za ?_
   refine VL.mt q35_8_0 [2, 7, 8] (fun _ _ h => h) hS rfl
  replace hS := it_b h33 hS
  refine VC.skip_mt ⟨none, 0, []⟩ [2, 7, 8] (fun _ _ h => h) hS rfl
 clear hS
 rintro w8_6 hS
 show VC _ _ _ _ _ [(2, ptr b2_1 0), (7, ptr b7_3 0), (8, w8_6.val)] (Mo.and w8_6.ok _) (Ow.star (Blk b7_3 [str y12_2.1, str [], i64 0, str [], .bool false, .slice none 0 0] 86) (Ow.star (Blk b2_1 [str [], str [], i64 0, str [], .bool false, .slice none 0 0] 86) (Ow.emp)))
 refine Zq (Zr ?_)
 refine Zm ?_
 refine VL.reB b7_3 (cs' := [str y12_2.1, str [], i64 0, str [], .bool false, (⟨none, 0, []⟩ : Sv TodoStep).val]) rfl ?_
 obtain ⟨y37_9, ey37_9, hS⟩ := bd_s hS
 refine VL.callO (cmd_words_ct b7_3 (⟨y12_2.1, [], 0, [], false, (⟨none, 0, []⟩ : Sv TodoStep)⟩ : CmdCmd) w8_6 ey37_9) rfl (by decide) ?_
 rintro ⟨q37_9_0, q37_9_1⟩ rfl
 try dsimp only
 refine Za ?_
 refine Zl ?_
 refine Zq (Zr ?_)
 refine VL.q (q_fes gagg86 rfl rfl) (by decide) ?_
 refine Zm ?_
 refine VL.store (vc := [str q37_9_1.verb, str q37_9_1.name, i64 q37_9_1.n, str q37_9_1.text, .bool q37_9_1.force, q37_9_1.todo.val]) (cs' := [str q37_9_1.verb, str q37_9_1.name, i64 q37_9_1.n, str q37_9_1.text, .bool q37_9_1.force, q37_9_1.todo.val]) rfl rfl rfl gsz86 rfl rfl (Nat.le_of_ble_eq_true rfl) rfl ?_
 refine Za ?_
 refine Zl ?_
 cases hS
 exact VC.ret (finG (vs := [.agg #[str q37_9_1.verb, str q37_9_1.name, i64 q37_9_1.n, str q37_9_1.text, .bool q37_9_1.force, q37_9_1.todo.val], .bool q37_9_0]) (.inr rfl) rfl (RVs.cell gagg86 rfl rfl Rd.blk (RVs.tmp rfl (RVs.nil))) (⟨q37_9_1.verb, q37_9_1.name, q37_9_1.n, q37_9_1.text, q37_9_1.force, q37_9_1.todo⟩, q37_9_0) rfl rfl (by (try dsimp only); exact InM.out) (fun _ _ => trivial))
theorem cmd_Verbs_ct  {r : List Str} (hS : Sh.cmd_Verbs = some r) :
 Ct Tryz.prog 45 [] Mo.tt (Ow.emp) (X := Sv Str) (fun x => x.val) (fun x => r = x.l) (fun x => x.ok) (fun x => Ow.emp) := by
 refine Ct.of Tryz.func45 rfl (by kernel_rfl) Tryz.ntmps45 (by simp) fun c => ?_
 unfold Sh.cmd_Verbs at hS
 refine Zq (Zr ?_)
 refine Za ?_
 refine Zl ?_
 refine Zq (Zr ?_)
 refine VL.lit (α := Str) (xs := [.const (str [97, 100, 100]), .const (str [114, 109]), .const (str [99, 111, 109, 109, 105, 116]), .const (str [98, 114, 97, 110, 99, 104]), .const (str [100, 101, 108, 101, 116, 101]), .const (str [115, 119, 105, 116, 99, 104]), .const (str [114, 101, 115, 101, 116]), .const (str [109, 101, 114, 103, 101]), .const (str [112, 105, 99, 107]), .const (str [114, 101, 118, 101, 114, 116]), .const (str [115, 116, 97, 115, 104]), .const (str [112, 111, 112]), .const (str [97, 112, 112, 108, 121]), .const (str [115, 104, 101, 108, 118, 101]), .const (str [114, 101, 98, 97, 115, 101]), .const (str [99, 111, 110, 116, 105, 110, 117, 101]), .const (str [115, 107, 105, 112]), .const (str [97, 98, 111, 114, 116]), .const (str [117, 110, 100, 111]), .const (str [114, 101, 100, 111])]) (vs := [str [97, 100, 100], str [114, 109], str [99, 111, 109, 109, 105, 116], str [98, 114, 97, 110, 99, 104], str [100, 101, 108, 101, 116, 101], str [115, 119, 105, 116, 99, 104], str [114, 101, 115, 101, 116], str [109, 101, 114, 103, 101], str [112, 105, 99, 107], str [114, 101, 118, 101, 114, 116], str [115, 116, 97, 115, 104], str [112, 111, 112], str [97, 112, 112, 108, 121], str [115, 104, 101, 108, 118, 101], str [114, 101, 98, 97, 115, 101], str [99, 111, 110, 116, 105, 110, 117, 101], str [115, 107, 105, 112], str [97, 98, 111, 114, 116], str [117, 110, 100, 111], str [114, 101, 100, 111]]) [[97, 100, 100], [114, 109], [99, 111, 109, 109, 105, 116], [98, 114, 97, 110, 99, 104], [100, 101, 108, 101, 116, 101], [115, 119, 105, 116, 99, 104], [114, 101, 115, 101, 116], [109, 101, 114, 103, 101], [112, 105, 99, 107], [114, 101, 118, 101, 114, 116], [115, 116, 97, 115, 104], [112, 111, 112], [97, 112, 112, 108, 121], [115, 104, 101, 108, 118, 101], [114, 101, 98, 97, 115, 101], [99, 111, 110, 116, 105, 110, 117, 101], [115, 107, 105, 112], [97, 98, 111, 114, 116], [117, 110, 100, 111], [114, 101, 100, 111]] Tryz.underlying32 glit9 (by decide) rfl rfl rfl rfl (by decide) (fun _ _ _ _ => trivial) (by decide) (fun s1_1 hs1_1 => ?_) (by decide)
 replace hS := lt_to hs1_1 hS
 refine Za ?_
 refine Zl ?_
 cases hS
 exact VC.ret (fin1 (.inr rfl) rfl rfl s1_1 rfl rfl (by (try dsimp only); exact InM.out) (fun _ _ => trivial))
theorem slices_Index_string_string_ct (s_0 : Sv Str) (v_1 : Str) {r : Int} (hS : Sh.slices_Index_string_string s_0.l v_1 = some r) :
 Ct Tryz.prog 148 [s_0.val, str v_1] s_0.ok (Ow.emp) (X := Unit) (fun _ => i64 r) (fun _ => True) (fun _ => Mo.tt) (fun _ => Ow.emp) := by
 refine Ct.of Tryz.func148 rfl (by kernel_rfl) Tryz.ntmps148 (by simp) fun c => ?_
 unfold Sh.slices_Index_string_string at hS
 refine Zq (Zr ?_)
 refine Za ?_
 refine Zl ?_
 refine Zq (Zq (Zr ?_))
 refine Zm ?_
 refine VL.q (q_ln (s := s_0) Tryz.underlying32 rfl) (by decide) ?_
 refine Zm ?_
 refine Zl ?_
 refine Zb ?_
 refine VC.iter (S := Int) (fun (x8_1 : Int) => x8_1) (fun (x8_1 : Int) => [(0, s_0.val), (1, str v_1), (7, i64 (s_0.l.length : Int)), (8, i64 x8_1)]) (fun (x8_1 : Int) => Mo.tt) (fun (x8_1 : Int) => Ow.emp) 0 [0, 1, 7, 8] hS rfl ?_
 clear hS
 rintro x8_1 m1 y1 hS hK1
 show VC _ _ _ _ _ [(0, s_0.val), (1, str v_1), (7, i64 (s_0.l.length : Int)), (8, i64 x8_1)] (Mo.and Mo.tt _) (Ow.emp)
 refine Zq (Zr ?_)
 refine VL.q (q_lss rfl rfl) (by decide) ?_
 refine Zl ?_
 refine Zq ?_
 refine VC.cond_dec rfl (fun h9 => ?_) (fun h9 => ?_)
 ·
  replace hS := it_t h9 hS
  refine Zk ?_
  refine Zq (Zb (Zq (Zr ?_)))
  refine Zm ?_
  refine Za ?_
  refine Zl ?_
  refine Zq (Zr ?_)
  refine Zm ?_
  refine Zm ?_
  refine Zm ?_
  obtain ⟨z14_2, nz14_2, hz14_2, hS⟩ := at_s hS
  refine VL.q (q_ixm (s := s_0) Tryz.underlying32 gsz9 rfl rfl nz14_2 (lt_of_get nz14_2 hz14_2)) (by decide) ?_
  refine VL.q (q_el (s := s_0) gone9 rfl hz14_2 rfl) (by decide) ?_
  refine Zs ?_
  refine Zl ?_
  refine VC.keep [0, 1, 7, 8, 5, 16] rfl ?_
  refine VC.cond_dec rfl (fun h16 => ?_) (fun h16 => ?_)
  ·
   replace hS := it_t h16 hS
   refine Zq (Zr ?_)
   refine Zm ?_
   refine Za ?_
   refine Zl ?_
   replace hS := up2 hS hK1
   cases hS
   exact Ze
  replace hS := it_f h16 hS
  refine Zk ?_
  refine Zr ?_
  obtain ⟨b18, hS⟩ := gd_s hS
  refine VL.q (q_add rfl rfl b18) (by decide) ?_
  refine Zm ?_
  refine VL.rnd (x8_1 + 1) [0, 1, 7, 8] (fun _ _ h => h) (go2 hS hK1) rfl
 replace hS := it_f h9 hS
 replace hS := up2 hS hK1
 refine Zx ?_
 refine Zq (Zr ?_)
 refine Za ?_
 refine Zl ?_
 cases hS
 exact Ze
theorem cmd_place_ct (verb_0 : Str) {r : Int} (hS : Sh.cmd_place verb_0 = some r) :
 Ct Tryz.prog 114 [str verb_0] Mo.tt (Ow.emp) (X := Unit) (fun _ => i64 r) (fun _ => True) (fun _ => Mo.tt) (fun _ => Ow.emp) := by
 refine Ct.of Tryz.func114 rfl (by kernel_rfl) Tryz.ntmps114 (by simp) fun c => ?_
 unfold Sh.cmd_place at hS
 refine Zq (Zr ?_)
 refine Za ?_
 refine Zl ?_
 refine Zq (Zr ?_)
 obtain ⟨y3_1, ey3_1, hS⟩ := bd_s hS
 refine VL.callF (cmd_Verbs_ct ey3_1) rfl (by decide) ?_
 rintro q3_1_0 rfl
 try dsimp only
 refine Zm ?_
 obtain ⟨y5_2, ey5_2, hS⟩ := bd_s hS
 refine VL.q (q_call (slices_Index_string_string_ct q3_1_0 verb_0 ey5_2) rfl (fun _ _ => rfl)) (by decide) ?_
 refine Za ?_
 refine Zl ?_
 cases hS
 exact Ze
theorem cmd_fault_ct (c_0 : CmdCmd) (err_1 : Er) {r : Err} (hS : Sh.cmd_fault c_0.pl err_1.pl = some r) :
 Ct Tryz.prog 115 [.agg #[str c_0.verb, str c_0.name, i64 c_0.n, str c_0.text, .bool c_0.force, c_0.todo.val], err_1.val] (c_0.todo.ok.and err_1.ok) (Ow.emp) (X := Er) (fun x => x.val) (fun x => r = x.pl) (fun x => x.ok) (fun x => Ow.emp) := by
 refine Ct.of Tryz.func115 rfl (by kernel_rfl) Tryz.ntmps115 (by simp) fun c => ?_
 unfold Sh.cmd_fault at hS
 refine Zq (Zr ?_)
 refine VL.box (cs := [str c_0.verb, str c_0.name, i64 c_0.n, str c_0.text, .bool c_0.force, c_0.todo.val]) rfl rfl (by decide) fun b2_1 => ?_
 refine Za ?_
 refine Zl ?_
 refine Zq (Zr ?_)
 refine VL.q (q_field gfa86_0 rfl) (by decide) ?_
 refine VL.q (q_fe gone9 rfl rfl) (by decide) ?_
 obtain ⟨y7_2, ey7_2, hS⟩ := bd_s hS
 refine VL.q (q_call (cmd_place_ct c_0.verb ey7_2) rfl (fun _ _ => rfl)) (by decide) ?_
 refine Zm ?_
 refine VL.q (q_build (vs := [(0, str [99, 109, 100]), (1, i64 y7_2), (2, err_1.val)]) (cs := #[str [99, 109, 100], i64 y7_2, err_1.val]) rfl (by generalize err_1 = z0; cases z0 <;> kernel_rfl)) (by decide) ?_
 refine VL.box (cs := [str [99, 109, 100], i64 y7_2, err_1.val]) rfl rfl (by decide) fun b10_3 => ?_
 refine VL.shutB b10_3 ?_
 refine VL.q (q_mkif Tryz.underlying104 (fun _ h => by cases h) rfl) (by decide) ?_
 refine Za ?_
 refine Zl ?_
 refine VC.keep [4] rfl ?_
 cases hS
 exact VC.ret (fin1 (.inr rfl) rfl rfl (Er.fault b10_3 [99, 109, 100] y7_2 err_1) rfl rfl (by (try dsimp only); exact InM.out) (fun _ _ => trivial))
theorem strings_trimLeftByte_ct (s_0 : Str) (c_1 : Int) {r : Str} (hS : Sh.strings_trimLeftByte s_0 c_1 = some r) :
 Ct Tryz.prog 269 [str s_0, .int .u8 c_1] Mo.tt (Ow.emp) (X := Unit) (fun _ => str r) (fun _ => True) (fun _ => Mo.tt) (fun _ => Ow.emp) := by
 refine Ct.of Tryz.func269 rfl (by kernel_rfl) Tryz.ntmps269 (by simp) fun c => ?_
 unfold Sh.strings_trimLeftByte at hS
 refine Zq (Zr ?_)
 refine Za ?_
 refine Zl ?_
 refine Zq (Zb ?_)
 refine VC.iter (S := Str) (fun (s0_1 : Str) => s0_1) (fun (s0_1 : Str) => [(0, str s0_1), (1, .int .u8 c_1)]) (fun (s0_1 : Str) => Mo.tt) (fun (s0_1 : Str) => Ow.emp) s_0 [0, 1] hS rfl ?_
 clear hS
 rintro s0_1 m1 y1 hS hK1
 show VC _ _ _ _ _ [(0, str s0_1), (1, .int .u8 c_1)] (Mo.and Mo.tt _) (Ow.emp)
 refine Zq (Zq (Zr ?_))
 refine Zm ?_
 refine VL.q (q_slen Tryz.underlying9 rfl) (by decide) ?_
 refine VL.q (q_gtr rfl rfl) (by decide) ?_
 refine Zm ?_
 refine VL.split_dec 8 rfl (fun h8 => ?_) (fun h8 => ?_)
 ·
  replace hS := it_t h8 hS
  refine Zg ?_
  obtain ⟨z10_2, nz10_2, hz10_2, hS⟩ := at_s hS
  refine VL.gy rfl rfl (q_sidx Tryz.underlying9 rfl rfl nz10_2 hz10_2) (by decide) ?_
  refine Zg ?_
  refine VL.gy rfl rfl (q_eql rfl rfl) (by decide) ?_
  refine Zt ?_
  refine Zl ?_
  refine VC.keep [0, 1, 13] rfl ?_
  refine VC.cond_dec rfl (fun h13 => ?_) (fun h13 => ?_)
  ·
   replace hS := it_t h13 hS
   refine Zk ?_
   refine Zb (Zr ?_)
   refine Zm ?_
   obtain ⟨b15, hS⟩ := gd_s hS
   obtain ⟨y15_3, ey15_3, hS⟩ := lt_s hS
   refine VL.q (q_sfromE Tryz.underlying9 rfl rfl b15.1 b15.2 ey15_3) (by decide) ?_
   refine Za ?_
   refine VL.rnd y15_3 [0, 1] (fun _ _ h => h) (go2 hS hK1) rfl
  replace hS := it_f h13 hS
  replace hS := up2 hS hK1
  refine Zx ?_
  refine Zq (Zr ?_)
  refine Zm ?_
  refine Za ?_
  refine Zl ?_
  cases hS
  exact Ze
 replace hS := it_f h8 hS
 refine Zn ?_
 refine Zn ?_
 refine Zn ?_
 refine Zn ?_
 refine Zf ?_
 refine Zl ?_
 refine VC.keep [0, 1, 13] rfl ?_
 refine VC.cond_f rfl ?_
 replace hS := up2 hS hK1
 refine Zx ?_
 refine Zq (Zr ?_)
 refine Zm ?_
 refine Za ?_
 refine Zl ?_
 cases hS
 exact Ze
theorem strings_TrimLeft_ct (s_0 : Str) (cutset_1 : Str) {r : Str} (hS : Sh.strings_TrimLeft s_0 cutset_1 = some r) :
 Ct Tryz.prog 208 [str s_0, str cutset_1] Mo.tt (Ow.emp) (X := Unit) (fun _ => str r) (fun _ => True) (fun _ => Mo.tt) (fun _ => Ow.emp) := by
 refine Ct.of Tryz.func208 rfl (by kernel_rfl) Tryz.ntmps208 (by simp) fun c => ?_
 unfold Sh.strings_TrimLeft at hS
 refine Zq (Zr ?_)
 refine Za ?_
 refine Zl ?_
 refine Zq ?_
 refine VC.cutJ (S := Bool) (fun (x12_1 : Bool) => x12_1) (fun (x12_1 : Bool) => [(0, str s_0), (1, str cutset_1), (12, .bool x12_1)]) (fun (x12_1 : Bool) => Mo.tt) (fun (x12_1 : Bool) => Ow.emp) hS ?_ ?_
 ·
  clear hS
  intro k2 hS
  refine Zr ?_
  refine Zm ?_
  refine Zs ?_
  refine Zm ?_
  refine VL.split_dec 9 rfl (fun h9 => ?_) (fun h9 => ?_)
  ·
   replace hS := it_t h9 hS
   refine Zn ?_
   refine Zn ?_
   refine Zt ?_
   refine VL.mt true [0, 1, 12] (fun _ _ h => h) hS rfl
  replace hS := it_f h9 hS
  refine Zg ?_
  refine VL.gy rfl rfl (q_seq rfl rfl) (by decide) ?_
  refine Zf ?_
  refine VL.mt (decide (cutset_1 = [])) [0, 1, 12] (fun _ _ h => h) hS rfl
 clear hS
 rintro x12_1 hS
 show VC _ _ _ _ _ [(0, str s_0), (1, str cutset_1), (12, .bool x12_1)] (Mo.and Mo.tt _) (Ow.emp)
 refine VC.cond rfl (fun h12 => ?_) (fun h12 => ?_)
 ·
  replace hS := it_t h12 hS
  refine Zq (Zr ?_)
  refine Zm ?_
  refine Za ?_
  refine Zl ?_
  cases hS
  exact Ze
 replace hS := it_b h12 hS
 refine Zk ?_
 refine Zq ?_
 refine VC.cutJ (S := Bool) (fun (x21_3 : Bool) => x21_3) (fun (x21_3 : Bool) => [(0, str s_0), (1, str cutset_1), (21, .bool x21_3)]) (fun (x21_3 : Bool) => Mo.tt) (fun (x21_3 : Bool) => Ow.emp) hS ?_ ?_
 ·
  clear hS
  intro k4 hS
  refine Zr ?_
  refine Zm ?_
  refine VL.q (q_slen Tryz.underlying9 rfl) (by decide) ?_
  refine VL.q (q_eql rfl rfl) (by decide) ?_
  refine Zm ?_
  refine VL.split_dec 17 rfl (fun h17 => ?_) (fun h17 => ?_)
  ·
   replace hS := it_t h17 hS
   refine Zg ?_
   obtain ⟨z19_5, nz19_5, hz19_5, hS⟩ := at_s hS
   refine VL.gy rfl rfl (q_sidx Tryz.underlying9 rfl rfl nz19_5 hz19_5) (by decide) ?_
   refine VL.gy rfl rfl (q_lss rfl rfl) (by decide) ?_
   refine Zt ?_
   refine VL.mt (decide ((z19_5.toNat : Int) < 128)) [0, 1, 21] (fun _ _ h => h) hS rfl
  replace hS := it_f h17 hS
  refine Zn ?_
  refine Zn ?_
  refine Zn ?_
  refine Zf ?_
  refine VL.mt false [0, 1, 21] (fun _ _ h => h) hS rfl
 clear hS
 rintro x21_3 hS
 show VC _ _ _ _ _ [(0, str s_0), (1, str cutset_1), (21, .bool x21_3)] (Mo.and Mo.tt _) (Ow.emp)
 refine VC.cond rfl (fun h21 => ?_) (fun h21 => ?_)
 ·
  replace hS := it_t h21 hS
  refine Zq (Zr ?_)
  refine Zm ?_
  refine Zm ?_
  obtain ⟨z24_6, nz24_6, hz24_6, hS⟩ := at_s hS
  refine VL.q (q_sidx Tryz.underlying9 rfl rfl nz24_6 hz24_6) (by decide) ?_
  obtain ⟨y25_7, ey25_7, hS⟩ := bd_s hS
  refine VL.q (q_call (strings_trimLeftByte_ct s_0 (z24_6.toNat : Int) ey25_7) rfl (fun _ _ => rfl)) (by decide) ?_
  refine Za ?_
  refine Zl ?_
  cases hS
  exact Ze
 replace hS := it_b h21 hS
 refine Zk ?_
 refine Zq (Zq (Zr ?_))
 refine Zm ?_
 cases hS
theorem todo_cut_ct (s_0 : Str) {r : Str × Str} (hS : Sh.todo_cut s_0 = some r) :
 Ct Tryz.prog 273 [str s_0] Mo.tt (Ow.emp) (X := Unit) (fun _ => .tuple #[str r.1, str r.2]) (fun _ => True) (fun _ => Mo.tt) (fun _ => Ow.emp) := by
 refine Ct.of Tryz.func273 rfl (by kernel_rfl) Tryz.ntmps273 (by simp) fun c => ?_
 unfold Sh.todo_cut at hS
 refine Zq (Zr ?_)
 refine Za ?_
 refine Za ?_
 refine Zl ?_
 refine Zq (Zr ?_)
 refine Zm ?_
 obtain ⟨y6_1, ey6_1, hS⟩ := bd_s hS
 refine VL.q (q_call (strings_Index_ct s_0 [32] ey6_1) rfl (fun _ _ => rfl)) (by decide) ?_
 refine Za ?_
 refine Zl ?_
 refine Zq (Zq (Zr ?_))
 refine Zm ?_
 refine VL.q (q_lss rfl rfl) (by decide) ?_
 refine Zl ?_
 refine VC.cond_dec rfl (fun h8 => ?_) (fun h8 => ?_)
 ·
  replace hS := it_t h8 hS
  refine Zq (Zr ?_)
  refine Zm ?_
  refine Za ?_
  refine Za ?_
  refine Zl ?_
  cases hS
  exact VC.ret (fin2 (.inr rfl) rfl rfl rfl () rfl trivial (fun _ _ => trivial) (fun _ _ => trivial))
 replace hS := it_f h8 hS
 refine Zk ?_
 refine Zq ?_
 refine VC.draw ((List.range 9).map fun k => (k, true)) mixed (by kernel_rfl) (by kernel_rfl) (by kernel_rfl) ?_
 refine VD.q rfl (q_move rfl) (by decide) ?_
 refine VD.q rfl (q_move rfl) (by decide) ?_
 obtain ⟨b12, hS⟩ := gd_s hS
 obtain ⟨y12_2, ey12_2, hS⟩ := lt_s hS
 refine VD.q rfl (q_stoE Tryz.underlying9 rfl rfl b12.1 b12.2 ey12_2) (by decide) ?_
 refine VD.q rfl (q_move rfl) (by decide) ?_
 refine VD.q rfl (q_move rfl) (by decide) ?_
 obtain ⟨b15, hS⟩ := gd_s hS
 obtain ⟨y15_3, ey15_3, hS⟩ := lt_s hS
 refine VD.q rfl (q_sfromE Tryz.underlying9 rfl rfl b15.1 b15.2 ey15_3) (by decide) ?_
 obtain ⟨y16_4, ey16_4, hS⟩ := bd_s hS
 refine VD.q rfl (q_call (strings_TrimLeft_ct y15_3 [32] ey16_4) rfl (fun _ _ => rfl)) (by decide) ?_
 refine VD.q rfl (q_assign rfl) (by decide) ?_
 refine VD.q rfl (q_assign rfl) (by decide) ?_
 refine VD.to (fun _ _ h => h) ?_
 refine VC.keep [2, 3] rfl ?_
 cases hS
 exact VC.ret (fin2 (.inr rfl) rfl rfl rfl () rfl trivial (fun _ _ => trivial) (fun _ _ => trivial))
theorem strings_trimRightByte_ct (s_0 : Str) (c_1 : Int) {r : Str} (hS : Sh.strings_trimRightByte s_0 c_1 = some r) :
 Ct Tryz.prog 323 [str s_0, .int .u8 c_1] Mo.tt (Ow.emp) (X := Unit) (fun _ => str r) (fun _ => True) (fun _ => Mo.tt) (fun _ => Ow.emp) := by
 refine Ct.of Tryz.func323 rfl (by kernel_rfl) Tryz.ntmps323 (by simp) fun c => ?_
 unfold Sh.strings_trimRightByte at hS
 refine Zq (Zr ?_)
 refine Za ?_
 refine Zl ?_
 refine Zq (Zb ?_)
 refine VC.iter (S := Str) (fun (s0_1 : Str) => s0_1) (fun (s0_1 : Str) => [(0, str s0_1), (1, .int .u8 c_1)]) (fun (s0_1 : Str) => Mo.tt) (fun (s0_1 : Str) => Ow.emp) s_0 [0, 1] hS rfl ?_
 clear hS
 rintro s0_1 m1 y1 hS hK1
 show VC _ _ _ _ _ [(0, str s0_1), (1, .int .u8 c_1)] (Mo.and Mo.tt _) (Ow.emp)
 refine Zq (Zq (Zr ?_))
 refine Zm ?_
 refine VL.q (q_slen Tryz.underlying9 rfl) (by decide) ?_
 refine VL.q (q_gtr rfl rfl) (by decide) ?_
 refine Zm ?_
 refine VL.split_dec 8 rfl (fun h8 => ?_) (fun h8 => ?_)
 ·
  replace hS := it_t h8 hS
  refine Zg ?_
  refine Zg ?_
  refine VL.gy rfl rfl (q_slen Tryz.underlying9 rfl) (by decide) ?_
  obtain ⟨b12, hS⟩ := gd_s hS
  refine VL.gy rfl rfl (q_sub rfl rfl b12) (by decide) ?_
  obtain ⟨z13_2, nz13_2, hz13_2, hS⟩ := at_s hS
  refine VL.gy rfl rfl (q_sidx Tryz.underlying9 rfl rfl nz13_2 hz13_2) (by decide) ?_
  refine Zg ?_
  refine VL.gy rfl rfl (q_eql rfl rfl) (by decide) ?_
  refine Zt ?_
  refine Zl ?_
  refine VC.keep [0, 1, 16] rfl ?_
  refine VC.cond_dec rfl (fun h16 => ?_) (fun h16 => ?_)
  ·
   replace hS := it_t h16 hS
   refine Zk ?_
   refine Zb (Zr ?_)
   refine Zm ?_
   refine Zm ?_
   refine VL.q (q_slen Tryz.underlying9 rfl) (by decide) ?_
   obtain ⟨b20, hS⟩ := gd_s hS
   refine VL.q (q_sub rfl rfl b20) (by decide) ?_
   obtain ⟨b21, hS⟩ := gd_s hS
   obtain ⟨y21_3, ey21_3, hS⟩ := lt_s hS
   refine VL.q (q_stoE Tryz.underlying9 rfl rfl b21.1 b21.2 ey21_3) (by decide) ?_
   refine Za ?_
   refine VL.rnd y21_3 [0, 1] (fun _ _ h => h) (go2 hS hK1) rfl
  replace hS := it_f h16 hS
  replace hS := up2 hS hK1
  refine Zx ?_
  refine Zq (Zr ?_)
  refine Zm ?_
  refine Za ?_
  refine Zl ?_
  cases hS
  exact Ze
 replace hS := it_f h8 hS
 refine Zn ?_
 refine Zn ?_
 refine Zn ?_
 refine Zn ?_
 refine Zn ?_
 refine Zn ?_
 refine Zn ?_
 refine Zf ?_
 refine Zl ?_
 refine VC.keep [0, 1, 16] rfl ?_
 refine VC.cond_f rfl ?_
 replace hS := up2 hS hK1
 refine Zx ?_
 refine Zq (Zr ?_)
 refine Zm ?_
 refine Za ?_
 refine Zl ?_
 cases hS
 exact Ze
theorem strings_Trim_ct (s_0 : Str) (cutset_1 : Str) {r : Str} (hS : Sh.strings_Trim s_0 cutset_1 = some r) :
 Ct Tryz.prog 274 [str s_0, str cutset_1] Mo.tt (Ow.emp) (X := Unit) (fun _ => str r) (fun _ => True) (fun _ => Mo.tt) (fun _ => Ow.emp) := by
 refine Ct.of Tryz.func274 rfl (by kernel_rfl) Tryz.ntmps274 (by simp) fun c => ?_
 unfold Sh.strings_Trim at hS
 refine Zq (Zr ?_)
 refine Za ?_
 refine Zl ?_
 refine Zq ?_
 refine VC.cutJ (S := Bool) (fun (x12_1 : Bool) => x12_1) (fun (x12_1 : Bool) => [(0, str s_0), (1, str cutset_1), (12, .bool x12_1)]) (fun (x12_1 : Bool) => Mo.tt) (fun (x12_1 : Bool) => Ow.emp) hS ?_ ?_
 ·
  clear hS
  intro k2 hS
  refine Zr ?_
  refine Zm ?_
  refine Zs ?_
  refine Zm ?_
  refine VL.split_dec 9 rfl (fun h9 => ?_) (fun h9 => ?_)
  ·
   replace hS := it_t h9 hS
   refine Zn ?_
   refine Zn ?_
   refine Zt ?_
   refine VL.mt true [0, 1, 12] (fun _ _ h => h) hS rfl
  replace hS := it_f h9 hS
  refine Zg ?_
  refine VL.gy rfl rfl (q_seq rfl rfl) (by decide) ?_
  refine Zf ?_
  refine VL.mt (decide (cutset_1 = [])) [0, 1, 12] (fun _ _ h => h) hS rfl
 clear hS
 rintro x12_1 hS
 show VC _ _ _ _ _ [(0, str s_0), (1, str cutset_1), (12, .bool x12_1)] (Mo.and Mo.tt _) (Ow.emp)
 refine VC.cond rfl (fun h12 => ?_) (fun h12 => ?_)
 ·
  replace hS := it_t h12 hS
  refine Zq (Zr ?_)
  refine Zm ?_
  refine Za ?_
  refine Zl ?_
  cases hS
  exact Ze
 replace hS := it_b h12 hS
 refine Zk ?_
 refine Zq ?_
 refine VC.cutJ (S := Bool) (fun (x21_3 : Bool) => x21_3) (fun (x21_3 : Bool) => [(0, str s_0), (1, str cutset_1), (21, .bool x21_3)]) (fun (x21_3 : Bool) => Mo.tt) (fun (x21_3 : Bool) => Ow.emp) hS ?_ ?_
 ·
  clear hS
  intro k4 hS
  refine Zr ?_
  refine Zm ?_
  refine VL.q (q_slen Tryz.underlying9 rfl) (by decide) ?_
  refine VL.q (q_eql rfl rfl) (by decide) ?_
  refine Zm ?_
  refine VL.split_dec 17 rfl (fun h17 => ?_) (fun h17 => ?_)
  ·
   replace hS := it_t h17 hS
   refine Zg ?_
   obtain ⟨z19_5, nz19_5, hz19_5, hS⟩ := at_s hS
   refine VL.gy rfl rfl (q_sidx Tryz.underlying9 rfl rfl nz19_5 hz19_5) (by decide) ?_
   refine VL.gy rfl rfl (q_lss rfl rfl) (by decide) ?_
   refine Zt ?_
   refine VL.mt (decide ((z19_5.toNat : Int) < 128)) [0, 1, 21] (fun _ _ h => h) hS rfl
  replace hS := it_f h17 hS
  refine Zn ?_
  refine Zn ?_
  refine Zn ?_
  refine Zf ?_
  refine VL.mt false [0, 1, 21] (fun _ _ h => h) hS rfl
 clear hS
 rintro x21_3 hS
 show VC _ _ _ _ _ [(0, str s_0), (1, str cutset_1), (21, .bool x21_3)] (Mo.and Mo.tt _) (Ow.emp)
 refine VC.cond rfl (fun h21 => ?_) (fun h21 => ?_)
 ·
  replace hS := it_t h21 hS
  refine Zq ?_
  refine VC.draw ((List.range 8).map fun k => (k, true)) mixed (by kernel_rfl) (by kernel_rfl) (by kernel_rfl) ?_
  refine VD.q rfl (q_move rfl) (by decide) ?_
  refine VD.q rfl (q_move rfl) (by decide) ?_
  obtain ⟨z24_6, nz24_6, hz24_6, hS⟩ := at_s hS
  refine VD.q rfl (q_sidx Tryz.underlying9 rfl rfl nz24_6 hz24_6) (by decide) ?_
  obtain ⟨y25_7, ey25_7, hS⟩ := bd_s hS
  refine VD.q rfl (q_call (strings_trimRightByte_ct s_0 (z24_6.toNat : Int) ey25_7) rfl (fun _ _ => rfl)) (by decide) ?_
  refine VD.q rfl (q_move rfl) (by decide) ?_
  obtain ⟨z27_8, nz27_8, hz27_8, hS⟩ := at_s hS
  refine VD.q rfl (q_sidx Tryz.underlying9 rfl rfl nz27_8 hz27_8) (by decide) ?_
  obtain ⟨y28_9, ey28_9, hS⟩ := bd_s hS
  refine VD.q rfl (q_call (strings_trimLeftByte_ct y25_7 (z27_8.toNat : Int) ey28_9) rfl (fun _ _ => rfl)) (by decide) ?_
  refine VD.q rfl (q_assign rfl) (by decide) ?_
  refine VD.to (fun _ _ h => h) ?_
  refine VC.keep [4] rfl ?_
  cases hS
  exact Ze
 replace hS := it_b h21 hS
 refine Zk ?_
 refine Zq (Zq (Zr ?_))
 refine Zm ?_
 cases hS
theorem todo_verb_ct (s_0 : Str) {r : Bool × Bool} (hS : Sh.todo_verb s_0 = some r) :
 Ct Tryz.prog 275 [str s_0] Mo.tt (Ow.emp) (X := Unit) (fun _ => .tuple #[.bool r.1, .bool r.2]) (fun _ => True) (fun _ => Mo.tt) (fun _ => Ow.emp) := by
 refine Ct.of Tryz.func275 rfl (by kernel_rfl) Tryz.ntmps275 (by simp) fun c => ?_
 unfold Sh.todo_verb at hS
 refine Zq (Zr ?_)
 refine Za ?_
 refine Za ?_
 refine Zl ?_
 refine Zq (Zq (Zr ?_))
 refine Zm ?_
 refine Zl ?_
 refine Zb ?_
 refine VC.cutJ (S := Unit) (fun (_ : Unit) => ()) (fun (_ : Unit) => []) (fun (_ : Unit) => Mo.tt) (fun (_ : Unit) => Ow.emp) hS ?_ ?_
 ·
  clear hS
  intro k1 hS
  refine Zb (Zb (Zb (Zb ?_)))
  refine VC.cutJ (S := Unit) (fun (_ : Unit) => ()) (fun (_ : Unit) => []) (fun (_ : Unit) => Mo.tt) (fun (_ : Unit) => Ow.emp) hS ?_ ?_
  ·
   clear hS
   intro k2 hS
   refine Zb (Zb (Zq (Zq (Zq (Zr ?_)))))
   refine Zs ?_
   refine Za ?_
   refine Zl ?_
   refine VC.cond_dec rfl (fun h5 => ?_) (fun h5 => ?_)
   ·
    replace hS := it_t h5 hS
    refine VC.exit_mt () [] (fun _ _ h => h) hS rfl
   replace hS := it_f h5 hS
   refine Zk ?_
   refine Zq (Zq (Zr ?_))
   refine Zs ?_
   refine Za ?_
   refine Zl ?_
   refine VC.cond_dec rfl (fun h7 => ?_) (fun h7 => ?_)
   ·
    replace hS := it_t h7 hS
    refine VC.exit_mt () [] (fun _ _ h => h) hS rfl
   replace hS := it_f h7 hS
   refine Zk ?_
   refine Zq (Zq (Zr ?_))
   refine Zs ?_
   refine Za ?_
   refine Zl ?_
   refine VC.cond_dec rfl (fun h9 => ?_) (fun h9 => ?_)
   ·
    replace hS := it_t h9 hS
    refine VC.exit_mt () [] (fun _ _ h => h) hS rfl
   replace hS := it_f h9 hS
   refine Zk ?_
   refine Zq (Zq (Zr ?_))
   refine Zs ?_
   refine Za ?_
   refine Zl ?_
   refine VC.keep [4, 11] rfl ?_
   refine VC.cond_dec rfl (fun h11 => ?_) (fun h11 => ?_)
   ·
    replace hS := it_t h11 hS
    refine VC.exit_mt () [] (fun _ _ h => h) hS rfl
   replace hS := it_f h11 hS
   refine Zk ?_
   refine Zq (Zq (Zr ?_))
   refine Zs ?_
   refine Za ?_
   refine Zl ?_
   refine VC.cond_dec rfl (fun h13 => ?_) (fun h13 => ?_)
   ·
    replace hS := it_t h13 hS
    refine VC.exit_mt () [] (fun _ _ h => h) hS rfl
   replace hS := it_f h13 hS
   refine Zk ?_
   refine Zq (Zr ?_)
   refine Zs ?_
   refine Za ?_
   refine Zl ?_
   refine VC.cond_dec rfl (fun h15 => ?_) (fun h15 => ?_)
   ·
    replace hS := it_t h15 hS
    refine VC.exit_mt () [] (fun _ _ h => h) hS rfl
   replace hS := it_f h15 hS
   refine Zk ?_
   refine Zx ?_
   refine Zq (Zr ?_)
   refine Za ?_
   refine Za ?_
   refine Zl ?_
   cases hS
   exact VC.ret (fin2 (.inr rfl) rfl rfl rfl () rfl trivial (fun _ _ => trivial) (fun _ _ => trivial))
  clear hS
  rintro _ hS
  show VC _ _ _ _ _ [] (Mo.and Mo.tt _) (Ow.emp)
  refine Zq (Zq (Zr ?_))
  refine Za ?_
  refine Za ?_
  refine Zl ?_
  cases hS
  exact VC.ret (fin2 (.inr rfl) rfl rfl rfl () rfl trivial (fun _ _ => trivial) (fun _ _ => trivial))
 clear hS
 rintro _ hS
 show VC _ _ _ _ _ [] (Mo.and Mo.tt _) (Ow.emp)
 refine Zq (Zq (Zr ?_))
 refine Za ?_
 refine Za ?_
 refine Zl ?_
 cases hS
 exact VC.ret (fin2 (.inr rfl) rfl rfl rfl () rfl trivial (fun _ _ => trivial) (fun _ _ => trivial))
theorem todo_number_ct (s_0 : Str) {r : Int × Bool} (hS : Sh.todo_number s_0 = some r) :
 Ct Tryz.prog 276 [str s_0] Mo.tt (Ow.emp) (X := Unit) (fun _ => .tuple #[i64 r.1, .bool r.2]) (fun _ => True) (fun _ => Mo.tt) (fun _ => Ow.emp) := by
 refine Ct.of Tryz.func276 rfl (by kernel_rfl) Tryz.ntmps276 (by simp) fun c => ?_
 unfold Sh.todo_number at hS
 refine Zq (Zr ?_)
 refine Za ?_
 refine Za ?_
 refine Zl ?_
 refine Zq ?_
 refine VC.cutJ (S := Bool) (fun (x18_1 : Bool) => x18_1) (fun (x18_1 : Bool) => [(0, str s_0), (18, .bool x18_1)]) (fun (x18_1 : Bool) => Mo.tt) (fun (x18_1 : Bool) => Ow.emp) hS ?_ ?_
 ·
  clear hS
  intro k2 hS
  refine Zr ?_
  refine Zm ?_
  refine Zs ?_
  refine Zm ?_
  refine VL.split_dec 9 rfl (fun h9 => ?_) (fun h9 => ?_)
  ·
   replace hS := it_t h9 hS
   refine Zn ?_
   refine Zn ?_
   refine Zn ?_
   refine Zt ?_
   refine Zm ?_
   refine Zn ?_
   refine Zn ?_
   refine Zn ?_
   refine Zt ?_
   refine VL.mt true [0, 18] (fun _ _ h => h) hS rfl
  replace hS := it_f h9 hS
  refine Zg ?_
  refine VL.gy rfl rfl (q_slen Tryz.underlying9 rfl) (by decide) ?_
  refine VL.gy rfl rfl (q_gtr rfl rfl) (by decide) ?_
  refine Zf ?_
  refine Zm ?_
  refine VL.split_dec 14 rfl (fun h14 => ?_) (fun h14 => ?_)
  ·
   replace hS := it_t h14 hS
   refine Zn ?_
   refine Zn ?_
   refine Zn ?_
   refine Zt ?_
   refine VL.mt true [0, 18] (fun _ _ h => h) hS rfl
  replace hS := it_f h14 hS
  refine Zg ?_
  obtain ⟨z16_3, nz16_3, hz16_3, hS⟩ := at_s hS
  refine VL.gy rfl rfl (q_sidx Tryz.underlying9 rfl rfl nz16_3 hz16_3) (by decide) ?_
  refine VL.gy rfl rfl (q_eql rfl rfl) (by decide) ?_
  refine Zf ?_
  refine VL.mt (decide ((z16_3.toNat : Int) = 48)) [0, 18] (fun _ _ h => h) hS rfl
 clear hS
 rintro x18_1 hS
 show VC _ _ _ _ _ [(0, str s_0), (18, .bool x18_1)] (Mo.and Mo.tt _) (Ow.emp)
 refine VC.cond rfl (fun h18 => ?_) (fun h18 => ?_)
 ·
  replace hS := it_t h18 hS
  refine Zq (Zr ?_)
  refine Za ?_
  refine Za ?_
  refine Zl ?_
  cases hS
  exact VC.ret (fin2 (.inr rfl) rfl rfl rfl () rfl trivial (fun _ _ => trivial) (fun _ _ => trivial))
 replace hS := it_b h18 hS
 refine Zk ?_
 refine Zq (Zr ?_)
 refine Za ?_
 refine Zl ?_
 refine Zq (Zq (Zr ?_))
 refine Zm ?_
 obtain ⟨b20, hS⟩ := gd_s hS
 refine VL.s2b Tryz.underlying9 Tryz.underlying61 Tryz.underlying5 rfl b20 (by decide) fun s20_4 hs20_4 => ?_
 replace hS := lt_to hs20_4 hS
 refine VL.q (q_ln (s := s20_4) Tryz.underlying61 rfl) (by decide) ?_
 refine Zm ?_
 refine Zl ?_
 refine Zb ?_
 refine VC.iter (S := Int × Int) (fun sg => (sg.1, sg.2)) (fun sg => [(4, i64 sg.1), (20, s20_4.val), (21, i64 (s20_4.l.length : Int)), (22, i64 sg.2)]) (fun sg => Mo.tt) (fun sg => Ow.emp) (0, 0) [4, 20, 21, 22] hS rfl ?_
 clear hS
 rintro ⟨n4_6, x22_7⟩ m1 y1 hS hK1
 show VC _ _ _ _ _ [(4, i64 n4_6), (20, s20_4.val), (21, i64 (s20_4.l.length : Int)), (22, i64 x22_7)] (Mo.and Mo.tt _) (Ow.emp)
 refine Zq (Zr ?_)
 refine VL.q (q_lss rfl rfl) (by decide) ?_
 refine Zl ?_
 refine Zq ?_
 refine VC.cond_dec rfl (fun h23 => ?_) (fun h23 => ?_)
 ·
  replace hS := it_t h23 hS
  refine Zk ?_
  refine Zq (Zb (Zq (Zr ?_)))
  obtain ⟨z24_8, nz24_8, hz24_8, hS⟩ := at_s hS
  refine VL.q (q_ixm (s := s20_4) Tryz.underlying61 gsz5 rfl rfl nz24_8 (lt_of_get nz24_8 hz24_8)) (by decide) ?_
  refine VL.q (q_el (s := s20_4) gone5 rfl hz24_8 rfl) (by decide) ?_
  refine Za ?_
  refine Zl ?_
  refine Zq ?_
  refine VC.cutJ (S := Bool) (fun (x31_9 : Bool) => x31_9) (fun (x31_9 : Bool) => [(4, i64 n4_6), (6, .int .u8 (z24_8.toNat : Int)), (20, s20_4.val), (21, i64 (s20_4.l.length : Int)), (22, i64 x22_7), (31, .bool x31_9)]) (fun (x31_9 : Bool) => Mo.tt) (fun (x31_9 : Bool) => Ow.emp) hS ?_ ?_
  ·
   clear hS
   intro k10 hS
   refine Zr ?_
   refine Zm ?_
   refine VL.q (q_lss rfl rfl) (by decide) ?_
   refine Zm ?_
   refine VL.split_dec 28 rfl (fun h28 => ?_) (fun h28 => ?_)
   ·
    replace hS := it_t h28 hS
    refine Zn ?_
    refine Zn ?_
    refine Zt ?_
    refine VL.mt true [4, 6, 20, 21, 22, 31] (fun _ _ h => h) hS rfl
   replace hS := it_f h28 hS
   refine Zg ?_
   refine VL.gy rfl rfl (q_gtr rfl rfl) (by decide) ?_
   refine Zf ?_
   refine VL.mt (decide (57 < (z24_8.toNat : Int))) [4, 6, 20, 21, 22, 31] (fun _ _ h => h) hS rfl
  clear hS
  rintro x31_9 hS
  show VC _ _ _ _ _ [(4, i64 n4_6), (6, .int .u8 (z24_8.toNat : Int)), (20, s20_4.val), (21, i64 (s20_4.l.length : Int)), (22, i64 x22_7), (31, .bool x31_9)] (Mo.and Mo.tt _) (Ow.emp)
  refine VC.cond rfl (fun h31 => ?_) (fun h31 => ?_)
  ·
   replace hS := it_t h31 hS
   refine Zq (Zr ?_)
   refine Za ?_
   refine Za ?_
   refine Zl ?_
   replace hS := up2 hS hK1
   cases hS
   exact VC.ret (fin2 (.inr rfl) rfl rfl rfl () rfl trivial (fun _ _ => trivial) (fun _ _ => trivial))
  replace hS := it_b h31 hS
  refine Zk ?_
  refine Zr ?_
  refine Zm ?_
  obtain ⟨b33, hS⟩ := gd_s hS
  refine VL.q (q_mul rfl rfl b33) (by decide) ?_
  refine Zm ?_
  obtain ⟨b35, hS⟩ := gd_s hS
  refine VL.q (q_subW rfl rfl (wu8_in b35)) (by decide) ?_
  refine VL.q (q_convW Tryz.underlying5 Tryz.underlying3 rfl) (by decide) ?_
  obtain ⟨b37, hS⟩ := gd_s hS
  refine VL.q (q_add rfl rfl b37) (by decide) ?_
  refine Za ?_
  refine Zl ?_
  refine VC.keep [4, 20, 21, 22] rfl ?_
  refine Zr ?_
  obtain ⟨b38, hS⟩ := gd_s hS
  refine VL.q (q_add rfl rfl b38) (by decide) ?_
  refine Zm ?_
  refine VL.rnd (((10 * n4_6) + (IntKind.wrap .i64 ((z24_8.toNat : Int) - 48))), (x22_7 + 1)) [4, 20, 21, 22] (fun _ _ h => h) (go2 hS hK1) rfl
 replace hS := it_f h23 hS
 replace hS := up2 hS hK1
 refine Zx ?_
 refine Zq (Zr ?_)
 refine Zm ?_
 refine Zm ?_
 refine VL.q (q_leq rfl rfl) (by decide) ?_
 refine Za ?_
 refine Za ?_
 refine Zl ?_
 cases hS
 exact VC.ret (fin2 (.inr rfl) rfl rfl rfl () rfl trivial (fun _ _ => trivial) (fun _ _ => trivial))
theorem todo_line_ct (s_0 : Str) {r : TodoStep × Int} (hS : Sh.todo_line s_0 = some r) :
 Ct Tryz.prog 209 [str s_0] Mo.tt (Ow.emp) (X := Unit) (fun _ => .tuple #[.agg #[str r.1.verb, i64 r.1.commit, str r.1.text], i64 r.2]) (fun _ => True) (fun _ => Mo.tt) (fun _ => Ow.emp) := by
 refine Ct.of Tryz.func209 rfl (by kernel_rfl) Tryz.ntmps209 (by simp) fun c => ?_
 unfold Sh.todo_line at hS
 refine Zq (Zr ?_)
 refine VL.alloc (cs := [str [], i64 0, str []]) (by kernel_rfl) (by decide) fun b2_1 => ?_
 refine Za ?_
 refine Zl ?_
 refine Zq (Zr ?_)
 refine Zm ?_
 obtain ⟨y15_2, ey15_2, hS⟩ := bd_s hS
 refine VL.q (q_call (todo_cut_ct s_0 ey15_2) rfl (fun _ _ => rfl)) (by decide) ?_
 refine Zm ?_
 refine VL.q (q_extract rfl rfl) (by decide) ?_
 refine VL.q (q_extract rfl rfl) (by decide) ?_
 refine Za ?_
 refine Za ?_
 refine Zl ?_
 refine Zq (Zq (Zr ?_))
 refine Zm ?_
 obtain ⟨y19_3, ey19_3, hS⟩ := bd_s hS
 refine VL.q (q_call (strings_Trim_ct y15_2.2 [32] ey19_3) rfl (fun _ _ => rfl)) (by decide) ?_
 refine Zs ?_
 refine Zl ?_
 refine VC.keep [2, 4, 5, 20] rfl ?_
 refine VC.cond_dec rfl (fun h20 => ?_) (fun h20 => ?_)
 ·
  replace hS := it_t h20 hS
  refine Zq (Zr ?_)
  refine VL.q (q_build (vs := []) (cs := #[str [], i64 0, str []]) rfl (by kernel_rfl)) (by decide) ?_
  refine VL.store (vc := [str [], i64 0, str []]) (cs' := [str [], i64 0, str []]) rfl rfl rfl gsz173 rfl rfl (Nat.le_of_ble_eq_true rfl) rfl ?_
  refine Za ?_
  refine Zl ?_
  cases hS
  exact VC.ret (finG (vs := [.agg #[str [], i64 0, str []], i64 2]) (.inr rfl) rfl (RVs.cell gagg173 rfl rfl Rd.blk (RVs.tmp rfl (RVs.nil))) () rfl trivial (by (try dsimp only); exact InM.out) (fun _ _ => trivial))
 replace hS := it_f h20 hS
 refine Zk ?_
 refine Zq (Zq (Zr ?_))
 refine Zm ?_
 obtain ⟨y24_4, ey24_4, hS⟩ := bd_s hS
 refine VL.q (q_call (todo_verb_ct y15_2.1 ey24_4) rfl (fun _ _ => rfl)) (by decide) ?_
 refine Zm ?_
 refine VL.q (q_extract rfl rfl) (by decide) ?_
 refine VL.q (q_extract rfl rfl) (by decide) ?_
 refine Za ?_
 refine Za ?_
 refine Zl ?_
 refine VC.keep [2, 4, 5, 6] rfl ?_
 refine Zq (Zr ?_)
 refine Zm ?_
 refine VL.q (q_not rfl) (by decide) ?_
 refine Zl ?_
 refine VC.cond rfl (fun h28 => ?_) (fun h28 => ?_)
 ·
  replace hS := it_t h28 hS
  refine Zq (Zr ?_)
  refine VL.q (q_build (vs := []) (cs := #[str [], i64 0, str []]) rfl (by kernel_rfl)) (by decide) ?_
  refine VL.store (vc := [str [], i64 0, str []]) (cs' := [str [], i64 0, str []]) rfl rfl rfl gsz173 rfl rfl (Nat.le_of_ble_eq_true rfl) rfl ?_
  refine Za ?_
  refine Zl ?_
  cases hS
  exact VC.ret (finG (vs := [.agg #[str [], i64 0, str []], i64 5]) (.inr rfl) rfl (RVs.cell gagg173 rfl rfl Rd.blk (RVs.tmp rfl (RVs.nil))) () rfl trivial (by (try dsimp only); exact InM.out) (fun _ _ => trivial))
 replace hS := it_b h28 hS
 refine Zk ?_
 refine Zq (Zr ?_)
 refine Zm ?_
 obtain ⟨y32_5, ey32_5, hS⟩ := bd_s hS
 refine VL.q (q_call (strings_Cut_ct y15_2.2 [32] ey32_5) rfl (fun _ _ => rfl)) (by decide) ?_
 refine Zm ?_
 refine VL.q (q_extract rfl rfl) (by decide) ?_
 refine VL.q (q_extract rfl rfl) (by decide) ?_
 refine VL.q (q_extract rfl rfl) (by decide) ?_
 refine Za ?_
 refine Za ?_
 refine Za ?_
 refine Zl ?_
 refine VC.keep [2, 4, 8, 9, 10] rfl ?_
 refine Zq (Zr ?_)
 refine Zm ?_
 obtain ⟨y38_6, ey38_6, hS⟩ := bd_s hS
 refine VL.q (q_call (todo_number_ct y32_5.1 ey38_6) rfl (fun _ _ => rfl)) (by decide) ?_
 refine Zm ?_
 refine VL.q (q_extract rfl rfl) (by decide) ?_
 refine VL.q (q_extract rfl rfl) (by decide) ?_
 refine Za ?_
 refine Za ?_
 refine Zl ?_
 refine Zq (Zq (Zr ?_))
 refine Zm ?_
 refine VL.q (q_not rfl) (by decide) ?_
 refine Zl ?_
 refine VC.keep [2, 4, 9, 10, 11, 42] rfl ?_
 refine VC.cond rfl (fun h42 => ?_) (fun h42 => ?_)
 ·
  replace hS := it_t h42 hS
  refine Zq (Zr ?_)
  refine VL.q (q_build (vs := []) (cs := #[str [], i64 0, str []]) rfl (by kernel_rfl)) (by decide) ?_
  refine VL.store (vc := [str [], i64 0, str []]) (cs' := [str [], i64 0, str []]) rfl rfl rfl gsz173 rfl rfl (Nat.le_of_ble_eq_true rfl) rfl ?_
  refine Za ?_
  refine Zl ?_
  cases hS
  exact VC.ret (finG (vs := [.agg #[str [], i64 0, str []], i64 1]) (.inr rfl) rfl (RVs.cell gagg173 rfl rfl Rd.blk (RVs.tmp rfl (RVs.nil))) () rfl trivial (by (try dsimp only); exact InM.out) (fun _ _ => trivial))
 replace hS := it_b h42 hS
 refine Zk ?_
 refine VC.cutJ (S := Str) (fun (text9_7 : Str) => text9_7) (fun (text9_7 : Str) => [(2, ptr b2_1 0), (4, str y15_2.1), (9, str text9_7), (11, i64 y38_6.1)]) (fun (text9_7 : Str) => Mo.tt) (fun (text9_7 : Str) => Ow.star (Blk b2_1 [str [], i64 0, str []] 173) (Ow.emp)) hS ?_ ?_
 ·
  clear hS
  intro k8 hS
  refine Zq (Zr ?_)
  refine Zm ?_
  refine Zl ?_
  refine Zb (Zq (Zr ?_))
  refine Zs ?_
  refine Za ?_
  refine Zl ?_
  refine VC.cond_dec rfl (fun h49 => ?_) (fun h49 => ?_)
  ·
   replace hS := it_t h49 hS
   refine Zq ?_
   refine VC.cutJ (S := Bool) (fun (x56_9 : Bool) => x56_9) (fun (x56_9 : Bool) => [(2, ptr b2_1 0), (4, str y15_2.1), (9, str y32_5.2.1), (11, i64 y38_6.1), (56, .bool x56_9)]) (fun (x56_9 : Bool) => Mo.tt) (fun (x56_9 : Bool) => Ow.star (Blk b2_1 [str [], i64 0, str []] 173) (Ow.emp)) hS ?_ ?_
   ·
    clear hS
    intro k10 hS
    refine Zr ?_
    refine Zm ?_
    refine VL.q (q_not rfl) (by decide) ?_
    refine Zm ?_
    refine VL.split 53 rfl (fun h53 => ?_) (fun h53 => ?_)
    ·
     replace hS := it_t h53 hS
     refine Zn ?_
     refine Zn ?_
     refine Zt ?_
     refine VL.mt true [2, 4, 9, 11, 56] (fun _ _ h => h) hS rfl
    replace hS := it_b h53 hS
    refine Zg ?_
    refine VL.gy rfl rfl (q_seq rfl rfl) (by decide) ?_
    refine Zf ?_
    refine VL.mt (decide (y32_5.2.1 = [])) [2, 4, 9, 11, 56] (fun _ _ h => h) hS rfl
   clear hS
   rintro x56_9 hS
   show VC _ _ _ _ _ [(2, ptr b2_1 0), (4, str y15_2.1), (9, str y32_5.2.1), (11, i64 y38_6.1), (56, .bool x56_9)] (Mo.and Mo.tt _) (Ow.star (Blk b2_1 [str [], i64 0, str []] 173) (Ow.emp))
   refine VC.cond rfl (fun h56 => ?_) (fun h56 => ?_)
   ·
    replace hS := it_t h56 hS
    refine Zq (Zr ?_)
    refine VL.q (q_build (vs := []) (cs := #[str [], i64 0, str []]) rfl (by kernel_rfl)) (by decide) ?_
    refine VL.store (vc := [str [], i64 0, str []]) (cs' := [str [], i64 0, str []]) rfl rfl rfl gsz173 rfl rfl (Nat.le_of_ble_eq_true rfl) rfl ?_
    refine Za ?_
    refine Zl ?_
    cases hS
    exact VC.ret (finG (vs := [.agg #[str [], i64 0, str []], i64 2]) (.inr rfl) rfl (RVs.cell gagg173 rfl rfl Rd.blk (RVs.tmp rfl (RVs.nil))) () rfl trivial (by (try dsimp only); exact InM.out) (fun _ _ => trivial))
   replace hS := it_b h56 hS
   refine Zk ?_
   refine Zq (Zr ?_)
   refine Zm ?_
   refine VL.q (q_slen Tryz.underlying9 rfl) (by decide) ?_
   refine VL.q (q_gtr rfl rfl) (by decide) ?_
   refine Zl ?_
   refine VC.cond_dec rfl (fun h60 => ?_) (fun h60 => ?_)
   ·
    replace hS := it_t h60 hS
    refine Zq (Zr ?_)
    refine VL.q (q_build (vs := []) (cs := #[str [], i64 0, str []]) rfl (by kernel_rfl)) (by decide) ?_
    refine VL.store (vc := [str [], i64 0, str []]) (cs' := [str [], i64 0, str []]) rfl rfl rfl gsz173 rfl rfl (Nat.le_of_ble_eq_true rfl) rfl ?_
    refine Za ?_
    refine Zl ?_
    cases hS
    exact VC.ret (finG (vs := [.agg #[str [], i64 0, str []], i64 4]) (.inr rfl) rfl (RVs.cell gagg173 rfl rfl Rd.blk (RVs.tmp rfl (RVs.nil))) () rfl trivial (by (try dsimp only); exact InM.out) (fun _ _ => trivial))
   replace hS := it_f h60 hS
   refine VC.skip_mt y32_5.2.1 [2, 4, 9, 11] (fun _ _ h => h) hS rfl
  replace hS := it_f h49 hS
  refine Zq (Zq (Zr ?_))
  refine Zm ?_
  obtain ⟨y46_11, ey46_11, hS⟩ := bd_s hS
  refine VL.q (q_call (strings_Trim_ct y32_5.2.1 [32] ey46_11) rfl (fun _ _ => rfl)) (by decide) ?_
  refine VL.q (q_sne rfl rfl) (by decide) ?_
  refine Zl ?_
  refine VC.keep [2, 4, 11, 47] rfl ?_
  refine VC.cond_ndec rfl (fun h47 => ?_) (fun h47 => ?_)
  ·
   replace hS := it_f h47 hS
   refine Zq (Zr ?_)
   refine VL.q (q_build (vs := []) (cs := #[str [], i64 0, str []]) rfl (by kernel_rfl)) (by decide) ?_
   refine VL.store (vc := [str [], i64 0, str []]) (cs' := [str [], i64 0, str []]) rfl rfl rfl gsz173 rfl rfl (Nat.le_of_ble_eq_true rfl) rfl ?_
   refine Za ?_
   refine Zl ?_
   cases hS
   exact VC.ret (finG (vs := [.agg #[str [], i64 0, str []], i64 2]) (.inr rfl) rfl (RVs.cell gagg173 rfl rfl Rd.blk (RVs.tmp rfl (RVs.nil))) () rfl trivial (by (try dsimp only); exact InM.out) (fun _ _ => trivial))
  replace hS := it_t h47 hS
  refine Zk ?_
  refine Zr ?_
  refine Za ?_
  refine VL.mt [] [2, 4, 9, 11] (fun _ _ h => h) hS rfl
 clear hS
 rintro text9_7 hS
 show VC _ _ _ _ _ [(2, ptr b2_1 0), (4, str y15_2.1), (9, str text9_7), (11, i64 y38_6.1)] (Mo.and Mo.tt _) (Ow.star (Blk b2_1 [str [], i64 0, str []] 173) (Ow.emp))
 refine Zq (Zr ?_)
 refine Zm ?_
 refine Zm ?_
 refine Zm ?_
 refine VL.q (q_build (vs := [(0, str y15_2.1), (1, i64 y38_6.1), (2, str text9_7)]) (cs := #[str y15_2.1, i64 y38_6.1, str text9_7]) rfl (by kernel_rfl)) (by decide) ?_
 refine VL.store (vc := [str y15_2.1, i64 y38_6.1, str text9_7]) (cs' := [str y15_2.1, i64 y38_6.1, str text9_7]) rfl rfl rfl gsz173 rfl rfl (Nat.le_of_ble_eq_true rfl) rfl ?_
 refine Za ?_
 refine Zl ?_
 cases hS
 exact VC.ret (finG (vs := [.agg #[str y15_2.1, i64 y38_6.1, str text9_7], i64 0]) (.inr rfl) rfl (RVs.cell gagg173 rfl rfl Rd.blk (RVs.tmp rfl (RVs.nil))) () rfl trivial (by (try dsimp only); exact InM.out) (fun _ _ => trivial))
theorem slices_Clip_todo_Step_todo_Step_ct (s_0 : Sv TodoStep) {r : List TodoStep} (hS : Sh.slices_Clip_todo_Step_todo_Step s_0.l = some r) :
 Ct Tryz.prog 210 [s_0.val] s_0.ok (Ow.emp) (X := Sv TodoStep) (fun x => x.val) (fun x => r = x.l) (fun x => x.ok) (fun x => Ow.emp) := by
 refine Ct.of Tryz.func210 rfl (by kernel_rfl) Tryz.ntmps210 (by simp) fun c => ?_
 unfold Sh.slices_Clip_todo_Step_todo_Step at hS
 refine Zq (Zr ?_)
 refine Za ?_
 refine Zl ?_
 refine Zq (Zr ?_)
 refine Zm ?_
 refine Zm ?_
 refine VL.q (q_ln (s := s_0) Tryz.underlying84 rfl) (by decide) ?_
 refine Zm ?_
 refine VL.q (q_ln (s := s_0) Tryz.underlying84 rfl) (by decide) ?_
 obtain ⟨b8, hS⟩ := gd_s hS
 refine VL.stom Tryz.underlying84 gsz173 rfl rfl rfl b8.1 (b8.2) (by decide) fun s8_1 hs8_1 => ?_
 replace hS := lt_to hs8_1 hS
 refine Za ?_
 refine Zl ?_
 cases hS
 exact VC.ret (fin1 (.inr rfl) rfl rfl s8_1 rfl rfl (by (try dsimp only); exact InM.out) (fun _ _ => trivial))
theorem todo_Parse_ct (s_0 : Str) {r : List TodoStep × Err} (hS : Sh.todo_Parse s_0 = some r) :
 Ct Tryz.prog 128 [str s_0] Mo.tt (Ow.emp) (X := Sv TodoStep × Er) (fun x => .tuple #[x.1.val, x.2.val]) (fun x => r = (x.1.l, x.2.pl)) (fun x => (x.1.ok.and x.2.ok)) (fun x => Ow.emp) := by
 refine Ct.of Tryz.func128 rfl (by kernel_rfl) Tryz.ntmps128 (by simp) fun c => ?_
 unfold Sh.todo_Parse at hS
 refine Zq (Zr ?_)
 refine Za ?_
 refine Za ?_
 refine Zl ?_
 refine Zq (Zr ?_)
 refine Za ?_
 refine Zl ?_
 refine Zq (Zq (Zr ?_))
 refine Zm ?_
 obtain ⟨y10_1, ey10_1, hS⟩ := bd_s hS
 refine VL.callF (strings_Split_ct s_0 [10] ey10_1) rfl (by decide) ?_
 rintro q10_1_0 rfl
 try dsimp only
 refine VL.q (q_ln (s := q10_1_0) Tryz.underlying32 rfl) (by decide) ?_
 refine Zm ?_
 refine Zl ?_
 refine Zb ?_
 refine VC.nilO (⟨none, 0, []⟩ : Sv TodoStep) 173 ⟨rfl, rfl⟩ ?_
 refine VC.iter (S := Sv TodoStep × Int) (fun sg => (sg.1.l, sg.2)) (fun sg => [(4, sg.1.val), (10, q10_1_0.val), (11, i64 (q10_1_0.l.length : Int)), (12, i64 sg.2)]) (fun sg => Mo.tt) (fun sg => Ow.star (Sv.own sg.1 173) (Ow.emp)) (⟨none, 0, []⟩, 0) [4, 10, 11, 12] hS rfl ?_
 clear hS
 rintro ⟨out4_2, x12_3⟩ m1 y1 hS hK1
 show VC _ _ _ _ _ [(4, out4_2.val), (10, q10_1_0.val), (11, i64 (q10_1_0.l.length : Int)), (12, i64 x12_3)] (Mo.and Mo.tt _) (Ow.star (Sv.own out4_2 173) (Ow.emp))
 refine Zq (Zr ?_)
 refine VL.q (q_lss rfl rfl) (by decide) ?_
 refine Zl ?_
 refine Zq ?_
 refine VC.cond_dec rfl (fun h13 => ?_) (fun h13 => ?_)
 ·
  replace hS := it_t h13 hS
  refine Zk ?_
  refine Zq (Zb (Zq (Zr ?_)))
  refine Zm ?_
  obtain ⟨z15_4, nz15_4, hz15_4, hS⟩ := at_s hS
  refine VL.q (q_ixm (s := q10_1_0) Tryz.underlying32 gsz9 rfl rfl nz15_4 (lt_of_get nz15_4 hz15_4)) (by decide) ?_
  refine VL.q (q_el (s := q10_1_0) gone9 rfl hz15_4 rfl) (by decide) ?_
  refine Za ?_
  refine Za ?_
  refine Zl ?_
  refine Zq (Zr ?_)
  refine Zm ?_
  obtain ⟨y18_5, ey18_5, hS⟩ := bd_s hS
  refine VL.q (q_call (strings_TrimLeft_ct z15_4 [32] ey18_5) rfl (fun _ _ => rfl)) (by decide) ?_
  refine Za ?_
  refine Zl ?_
  refine Zq (Zq (Zr ?_))
  refine Zm ?_
  refine Zs ?_
  refine Zm ?_
  refine VL.split_dec 21 rfl (fun h21 => ?_) (fun h21 => ?_)
  ·
   replace hS := it_t h21 hS
   refine Zn ?_
   refine Zn ?_
   refine Zn ?_
   refine Zt ?_
   refine Zl ?_
   refine VC.keep [4, 10, 11, 12, 5, 6, 25] rfl ?_
   refine VC.cond_t rfl ?_
   refine Zx ?_
   refine Zr ?_
   obtain ⟨b50, hS⟩ := gd_s hS
   refine VL.q (q_add rfl rfl b50) (by decide) ?_
   refine Zm ?_
   refine VL.rnd (out4_2, (x12_3 + 1)) [4, 10, 11, 12] (fun _ _ h => h) (go2 hS hK1) rfl
  replace hS := it_f h21 hS
  refine Zg ?_
  obtain ⟨z23_6, nz23_6, hz23_6, hS⟩ := at_s hS
  refine VL.gy rfl rfl (q_sidx Tryz.underlying9 rfl rfl nz23_6 hz23_6) (by decide) ?_
  refine VL.gy rfl rfl (q_eql rfl rfl) (by decide) ?_
  refine Zf ?_
  refine Zl ?_
  refine VC.keep [4, 10, 11, 12, 5, 6, 25] rfl ?_
  refine VC.cond_dec rfl (fun h25 => ?_) (fun h25 => ?_)
  ·
   replace hS := it_t h25 hS
   refine Zx ?_
   refine Zr ?_
   obtain ⟨b50, hS⟩ := gd_s hS
   refine VL.q (q_add rfl rfl b50) (by decide) ?_
   refine Zm ?_
   refine VL.rnd (out4_2, (x12_3 + 1)) [4, 10, 11, 12] (fun _ _ h => h) (go2 hS hK1) rfl
  replace hS := it_f h25 hS
  refine Zk ?_
  refine Zq (Zr ?_)
  refine Zm ?_
  obtain ⟨y28_7, ey28_7, hS⟩ := bd_s hS
  refine VL.q (q_call (todo_line_ct y18_5 ey28_7) rfl (fun _ _ => rfl)) (by decide) ?_
  refine Zm ?_
  refine VL.q (q_extract rfl rfl) (by decide) ?_
  refine VL.q (q_extract rfl rfl) (by decide) ?_
  refine VL.alloc (cs := [str [], i64 0, str []]) (by kernel_rfl) (by decide) fun b7_8 => ?_
  refine VL.store (vc := [str y28_7.1.verb, i64 y28_7.1.commit, str y28_7.1.text]) (cs' := [str y28_7.1.verb, i64 y28_7.1.commit, str y28_7.1.text]) rfl rfl rfl gsz173 rfl rfl (Nat.le_of_ble_eq_true rfl) rfl ?_
  refine Za ?_
  refine Zl ?_
  refine VC.keep [4, 10, 11, 12, 5, 7, 8] rfl ?_
  refine Zq (Zq (Zr ?_))
  refine Zm ?_
  refine VL.q (q_neq rfl rfl) (by decide) ?_
  refine Zl ?_
  refine VC.cond_ndec rfl (fun h32 => ?_) (fun h32 => ?_)
  ·
   replace hS := it_f h32 hS
   refine Zq (Zr ?_)
   refine Zm ?_
   refine Zm ?_
   refine VL.q (q_mkif Tryz.underlying105 (fun _ h => by cases h) rfl) (by decide) ?_
   refine VL.q (q_build (vs := [(0, str [108, 105, 110, 101]), (1, i64 x12_3), (2, (Er.no y28_7.2).val)]) (cs := #[str [108, 105, 110, 101], i64 x12_3, (Er.no y28_7.2).val]) rfl (by kernel_rfl)) (by decide) ?_
   refine VL.box (cs := [str [108, 105, 110, 101], i64 x12_3, (Er.no y28_7.2).val]) rfl rfl (by decide) fun b37_9 => ?_
   refine VL.shutB b37_9 ?_
   refine VL.q (q_mkif Tryz.underlying104 (fun _ h => by cases h) rfl) (by decide) ?_
   refine Za ?_
   refine Za ?_
   refine Zl ?_
   refine VC.keep [2, 3] rfl ?_
   replace hS := up2 hS hK1
   cases hS
   exact VC.ret (fin2 (.inr rfl) rfl rfl rfl (⟨none, 0, []⟩, (Er.fault b37_9 [108, 105, 110, 101] x12_3 (Er.no y28_7.2))) rfl rfl (by (try dsimp only); exact InM.out) (fun _ _ => trivial))
  replace hS := it_t h32 hS
  refine Zk ?_
  refine Zq (Zq (Zr ?_))
  refine Zm ?_
  refine VL.q (q_ln (s := out4_2) Tryz.underlying84 rfl) (by decide) ?_
  refine VL.q (q_eql rfl rfl) (by decide) ?_
  refine Zl ?_
  refine VC.cond_dec rfl (fun h41 => ?_) (fun h41 => ?_)
  ·
   replace hS := it_t h41 hS
   refine Zq (Zr ?_)
   refine VL.q (q_mkif Tryz.underlying105 (fun _ h => by cases h) rfl) (by decide) ?_
   refine VL.q (q_build (vs := [(0, str [108, 105, 110, 101]), (1, i64 32), (2, (Er.no 4).val)]) (cs := #[str [108, 105, 110, 101], i64 32, (Er.no 4).val]) rfl (by kernel_rfl)) (by decide) ?_
   refine VL.box (cs := [str [108, 105, 110, 101], i64 32, (Er.no 4).val]) rfl rfl (by decide) fun b44_10 => ?_
   refine VL.shutB b44_10 ?_
   refine VL.q (q_mkif Tryz.underlying104 (fun _ h => by cases h) rfl) (by decide) ?_
   refine Za ?_
   refine Za ?_
   refine Zl ?_
   refine VC.keep [2, 3] rfl ?_
   replace hS := up2 hS hK1
   cases hS
   exact VC.ret (fin2 (.inr rfl) rfl rfl rfl (⟨none, 0, []⟩, (Er.fault b44_10 [108, 105, 110, 101] 32 (Er.no 4))) rfl rfl (by (try dsimp only); exact InM.out) (fun _ _ => trivial))
  replace hS := it_f h41 hS
  refine Zk ?_
  refine VC.keep [4, 10, 11, 12, 7] rfl ?_
  refine Zr ?_
  refine Zm ?_
  refine VL.q (q_fes gagg173 rfl rfl) (by decide) ?_
  refine VL.lit (α := TodoStep) (xs := [.tmp 47]) (vs := [.agg #[str y28_7.1.verb, i64 y28_7.1.commit, str y28_7.1.text]]) [⟨y28_7.1.verb, y28_7.1.commit, y28_7.1.text⟩] Tryz.underlying84 glit173 (by decide) rfl rfl rfl rfl (by decide) (fun _ _ _ _ => trivial) (by decide) (fun s48_11 hs48_11 => ?_) (by decide)
  replace hS := lt_to hs48_11 hS
  obtain ⟨b49, hS⟩ := gd_s hS
  refine VL.app (s := out4_2) (r := s48_11) Tryz.underlying84 gapp173 (by decide) rfl Fo.out (ap1 b49) (ap2 b49 (by decide)) (by decide) (fun s49_13 hs49_13 => ?_)
  replace hS := lt_to hs49_13 hS
  refine Za ?_
  refine Zl ?_
  refine Zr ?_
  obtain ⟨b50, hS⟩ := gd_s hS
  refine VL.q (q_add rfl rfl b50) (by decide) ?_
  refine Zm ?_
  refine VL.rnd (s49_13, (x12_3 + 1)) [4, 10, 11, 12] (fun _ _ h => h) (go2 hS hK1) rfl
 replace hS := it_f h13 hS
 replace hS := up2 hS hK1
 refine Zx ?_
 refine Zq (Zr ?_)
 refine Zm ?_
 refine VL.shut out4_2 173 (fun _ _ _ _ => trivial) ?_
 obtain ⟨y52_15, ey52_15, hS⟩ := bd_s hS
 refine VL.callF (slices_Clip_todo_Step_todo_Step_ct out4_2 ey52_15) rfl (by decide) ?_
 rintro q52_15_0 rfl
 try dsimp only
 refine Za ?_
 refine Za ?_
 refine Zl ?_
 cases hS
 exact VC.ret (fin2 (.inr rfl) rfl rfl rfl (q52_15_0, .nil) rfl rfl (by (try dsimp only); exact InM.out) (fun _ _ => trivial))
theorem path_good_ct (c_0 : Int) {r : Bool} (hS : Sh.path_good c_0 = some r) :
 Ct Tryz.prog 278 [.int .u8 c_0] Mo.tt (Ow.emp) (X := Unit) (fun _ => .bool r) (fun _ => True) (fun _ => Mo.tt) (fun _ => Ow.emp) := by
 refine Ct.of Tryz.func278 rfl (by kernel_rfl) Tryz.ntmps278 (by simp) fun c => ?_
 unfold Sh.path_good at hS
 refine Zq (Zr ?_)
 refine Za ?_
 refine Zl ?_
 refine VC.cutJ (S := Unit) (fun (_ : Unit) => ()) (fun (_ : Unit) => [(0, .int .u8 c_0)]) (fun (_ : Unit) => Mo.tt) (fun (_ : Unit) => Ow.emp) hS ?_ ?_
 ·
  clear hS
  intro k1 hS
  refine Zq (Zr ?_)
  refine Zm ?_
  refine Zl ?_
  refine Zb ?_
  refine VC.cutJ (S := Unit) (fun (_ : Unit) => ()) (fun (_ : Unit) => []) (fun (_ : Unit) => Mo.tt) (fun (_ : Unit) => Ow.emp) hS ?_ ?_
  ·
   clear hS
   intro k2 hS
   refine Zb (Zb (Zb (Zq (Zq (Zq (Zr ?_))))))
   refine VL.q (q_eql rfl rfl) (by decide) ?_
   refine Za ?_
   refine Zl ?_
   refine VC.cond_dec rfl (fun h4 => ?_) (fun h4 => ?_)
   ·
    replace hS := it_t h4 hS
    refine VC.exit_mt () [] (fun _ _ h => h) hS rfl
   replace hS := it_f h4 hS
   refine Zk ?_
   refine Zq (Zq (Zr ?_))
   refine VL.q (q_eql rfl rfl) (by decide) ?_
   refine Za ?_
   refine Zl ?_
   refine VC.cond_dec rfl (fun h6 => ?_) (fun h6 => ?_)
   ·
    replace hS := it_t h6 hS
    refine VC.exit_mt () [] (fun _ _ h => h) hS rfl
   replace hS := it_f h6 hS
   refine Zk ?_
   refine Zq (Zr ?_)
   refine VL.q (q_eql rfl rfl) (by decide) ?_
   refine Za ?_
   refine Zl ?_
   refine VC.cond_dec rfl (fun h8 => ?_) (fun h8 => ?_)
   ·
    replace hS := it_t h8 hS
    refine VC.exit_mt () [] (fun _ _ h => h) hS rfl
   replace hS := it_f h8 hS
   refine Zk ?_
   refine VC.exit_mt () [0] (fun _ _ h => h) hS rfl
  clear hS
  rintro _ hS
  show VC _ _ _ _ _ [] (Mo.and Mo.tt _) (Ow.emp)
  refine Zq (Zq (Zr ?_))
  refine Za ?_
  refine Zl ?_
  cases hS
  exact Ze
 clear hS
 rintro _ hS
 show VC _ _ _ _ _ [(0, .int .u8 c_0)] (Mo.and Mo.tt _) (Ow.emp)
 refine Zq (Zr ?_)
 refine Zm ?_
 refine VL.q (q_geq rfl rfl) (by decide) ?_
 refine Zm ?_
 refine VL.split_dec 12 rfl (fun h12 => ?_) (fun h12 => ?_)
 ·
  replace hS := it_t h12 hS
  refine Zg ?_
  refine VL.gy rfl rfl (q_leq rfl rfl) (by decide) ?_
  refine Zt ?_
  refine Zm ?_
  refine VL.split_dec 16 rfl (fun h16 => ?_) (fun h16 => ?_)
  ·
   replace hS := it_t h16 hS
   refine Zn ?_
   refine Zn ?_
   refine Zn ?_
   refine VL.gu rfl rfl (by decide) ?_
   refine VL.gu rfl rfl (by decide) ?_
   refine Zn ?_
   refine Zt ?_
   refine Za ?_
   refine Zl ?_
   refine VC.keep [2] rfl ?_
   cases hS
   exact Ze
  replace hS := it_f h16 hS
  refine Zg ?_
  refine VL.gy rfl rfl (q_geq rfl rfl) (by decide) ?_
  refine Zg ?_
  refine VL.split_dec 19 rfl (fun h19 => ?_) (fun h19 => ?_)
  ·
   replace hS := it_t h19 hS
   refine Zg ?_
   refine VL.gy rfl rfl (q_leq rfl rfl) (by decide) ?_
   refine VL.gy rfl rfl (q_pick_t rfl rfl) (by decide) ?_
   refine Zf ?_
   refine Za ?_
   refine Zl ?_
   refine VC.keep [2] rfl ?_
   cases hS
   exact Ze
  replace hS := it_f h19 hS
  refine Zn ?_
  refine Zn ?_
  refine VL.gy rfl rfl (q_pick_f rfl rfl) (by decide) ?_
  refine Zf ?_
  refine Za ?_
  refine Zl ?_
  refine VC.keep [2] rfl ?_
  cases hS
  exact Ze
 replace hS := it_f h12 hS
 refine Zn ?_
 refine Zn ?_
 refine Zf ?_
 refine Zm ?_
 refine Zg ?_
 refine VL.gy rfl rfl (q_geq rfl rfl) (by decide) ?_
 refine Zg ?_
 refine VL.split_dec 19 rfl (fun h19 => ?_) (fun h19 => ?_)
 ·
  replace hS := it_t h19 hS
  refine Zg ?_
  refine VL.gy rfl rfl (q_leq rfl rfl) (by decide) ?_
  refine VL.gy rfl rfl (q_pick_t rfl rfl) (by decide) ?_
  refine Zf ?_
  refine Za ?_
  refine Zl ?_
  refine VC.keep [2] rfl ?_
  cases hS
  exact Ze
 replace hS := it_f h19 hS
 refine Zn ?_
 refine Zn ?_
 refine VL.gy rfl rfl (q_pick_f rfl rfl) (by decide) ?_
 refine Zf ?_
 refine Za ?_
 refine Zl ?_
 refine VC.keep [2] rfl ?_
 cases hS
 exact Ze
theorem path_part_ct (s_0 : Str) {r : Bool} (hS : Sh.path_part s_0 = some r) :
 Ct Tryz.prog 214 [str s_0] Mo.tt (Ow.emp) (X := Unit) (fun _ => .bool r) (fun _ => True) (fun _ => Mo.tt) (fun _ => Ow.emp) := by
 refine Ct.of Tryz.func214 rfl (by kernel_rfl) Tryz.ntmps214 (by simp) fun c => ?_
 unfold Sh.path_part at hS
 refine Zq (Zr ?_)
 refine Za ?_
 refine Zl ?_
 refine Zq ?_
 refine VC.cutJ (S := Bool) (fun (x14_1 : Bool) => x14_1) (fun (x14_1 : Bool) => [(0, str s_0), (14, .bool x14_1)]) (fun (x14_1 : Bool) => Mo.tt) (fun (x14_1 : Bool) => Ow.emp) hS ?_ ?_
 ·
  clear hS
  intro k2 hS
  refine Zr ?_
  refine Zm ?_
  refine Zs ?_
  refine Zm ?_
  refine VL.split_dec 7 rfl (fun h7 => ?_) (fun h7 => ?_)
  ·
   replace hS := it_t h7 hS
   refine Zn ?_
   refine Zn ?_
   refine Zt ?_
   refine Zm ?_
   refine Zn ?_
   refine Zn ?_
   refine Zt ?_
   refine VL.mt true [0, 14] (fun _ _ h => h) hS rfl
  replace hS := it_f h7 hS
  refine Zg ?_
  refine VL.gy rfl rfl (q_seq rfl rfl) (by decide) ?_
  refine Zf ?_
  refine Zm ?_
  refine VL.split_dec 11 rfl (fun h11 => ?_) (fun h11 => ?_)
  ·
   replace hS := it_t h11 hS
   refine Zn ?_
   refine Zn ?_
   refine Zt ?_
   refine VL.mt true [0, 14] (fun _ _ h => h) hS rfl
  replace hS := it_f h11 hS
  refine Zg ?_
  refine VL.gy rfl rfl (q_seq rfl rfl) (by decide) ?_
  refine Zf ?_
  refine VL.mt (decide (s_0 = [46, 46])) [0, 14] (fun _ _ h => h) hS rfl
 clear hS
 rintro x14_1 hS
 show VC _ _ _ _ _ [(0, str s_0), (14, .bool x14_1)] (Mo.and Mo.tt _) (Ow.emp)
 refine VC.cond rfl (fun h14 => ?_) (fun h14 => ?_)
 ·
  replace hS := it_t h14 hS
  refine Zq (Zr ?_)
  refine Za ?_
  refine Zl ?_
  cases hS
  exact Ze
 replace hS := it_b h14 hS
 refine Zk ?_
 refine Zq (Zq (Zr ?_))
 refine Zm ?_
 obtain ⟨b16, hS⟩ := gd_s hS
 refine VL.s2b Tryz.underlying9 Tryz.underlying61 Tryz.underlying5 rfl b16 (by decide) fun s16_3 hs16_3 => ?_
 replace hS := lt_to hs16_3 hS
 refine VL.q (q_ln (s := s16_3) Tryz.underlying61 rfl) (by decide) ?_
 refine Zm ?_
 refine Zl ?_
 refine Zb ?_
 refine VC.iter (S := Int) (fun (x18_5 : Int) => x18_5) (fun (x18_5 : Int) => [(16, s16_3.val), (17, i64 (s16_3.l.length : Int)), (18, i64 x18_5)]) (fun (x18_5 : Int) => Mo.tt) (fun (x18_5 : Int) => Ow.emp) 0 [16, 17, 18] hS rfl ?_
 clear hS
 rintro x18_5 m1 y1 hS hK1
 show VC _ _ _ _ _ [(16, s16_3.val), (17, i64 (s16_3.l.length : Int)), (18, i64 x18_5)] (Mo.and Mo.tt _) (Ow.emp)
 refine Zq (Zr ?_)
 refine VL.q (q_lss rfl rfl) (by decide) ?_
 refine Zl ?_
 refine Zq ?_
 refine VC.cond_dec rfl (fun h19 => ?_) (fun h19 => ?_)
 ·
  replace hS := it_t h19 hS
  refine Zk ?_
  refine Zq (Zb (Zq (Zr ?_)))
  obtain ⟨z20_6, nz20_6, hz20_6, hS⟩ := at_s hS
  refine VL.q (q_ixm (s := s16_3) Tryz.underlying61 gsz5 rfl rfl nz20_6 (lt_of_get nz20_6 hz20_6)) (by decide) ?_
  refine VL.q (q_el (s := s16_3) gone5 rfl hz20_6 rfl) (by decide) ?_
  refine Za ?_
  refine Zl ?_
  refine Zq (Zr ?_)
  refine Zm ?_
  obtain ⟨y23_7, ey23_7, hS⟩ := bd_s hS
  refine VL.q (q_call (path_good_ct (z20_6.toNat : Int) ey23_7) rfl (fun _ _ => rfl)) (by decide) ?_
  refine VL.q (q_not rfl) (by decide) ?_
  refine Zl ?_
  refine VC.cond rfl (fun h24 => ?_) (fun h24 => ?_)
  ·
   replace hS := it_t h24 hS
   refine Zq (Zr ?_)
   refine Za ?_
   refine Zl ?_
   refine VC.keep [2] rfl ?_
   replace hS := up2 hS hK1
   cases hS
   exact Ze
  replace hS := it_b h24 hS
  refine Zk ?_
  refine Zr ?_
  obtain ⟨b25, hS⟩ := gd_s hS
  refine VL.q (q_add rfl rfl b25) (by decide) ?_
  refine Zm ?_
  refine VL.rnd (x18_5 + 1) [16, 17, 18] (fun _ _ h => h) (go2 hS hK1) rfl
 replace hS := it_f h19 hS
 replace hS := up2 hS hK1
 refine Zx ?_
 refine Zq (Zr ?_)
 refine Za ?_
 refine Zl ?_
 cases hS
 exact Ze
theorem path_Check_ct (p_0 : Str) {r : Int} (hS : Sh.path_Check p_0 = some r) :
 Ct Tryz.prog 134 [str p_0] Mo.tt (Ow.emp) (X := Unit) (fun _ => i64 r) (fun _ => True) (fun _ => Mo.tt) (fun _ => Ow.emp) := by
 refine Ct.of Tryz.func134 rfl (by kernel_rfl) Tryz.ntmps134 (by simp) fun c => ?_
 unfold Sh.path_Check at hS
 refine Zq (Zr ?_)
 refine Za ?_
 refine Zl ?_
 refine Zq (Zq (Zr ?_))
 refine Zm ?_
 refine VL.q (q_slen Tryz.underlying9 rfl) (by decide) ?_
 refine VL.q (q_gtr rfl rfl) (by decide) ?_
 refine Zl ?_
 refine VC.cond_dec rfl (fun h7 => ?_) (fun h7 => ?_)
 ·
  replace hS := it_t h7 hS
  refine Zq (Zr ?_)
  refine Za ?_
  refine Zl ?_
  cases hS
  exact Ze
 replace hS := it_f h7 hS
 refine Zk ?_
 refine Zq (Zq (Zr ?_))
 refine Zm ?_
 obtain ⟨y9_1, ey9_1, hS⟩ := bd_s hS
 refine VL.callF (strings_Split_ct p_0 [47] ey9_1) rfl (by decide) ?_
 rintro q9_1_0 rfl
 try dsimp only
 refine VL.q (q_ln (s := q9_1_0) Tryz.underlying32 rfl) (by decide) ?_
 refine Zm ?_
 refine Zl ?_
 refine Zb ?_
 refine VC.iter (S := Int) (fun (x11_2 : Int) => x11_2) (fun (x11_2 : Int) => [(9, q9_1_0.val), (10, i64 (q9_1_0.l.length : Int)), (11, i64 x11_2)]) (fun (x11_2 : Int) => Mo.tt) (fun (x11_2 : Int) => Ow.emp) 0 [9, 10, 11] hS rfl ?_
 clear hS
 rintro x11_2 m1 y1 hS hK1
 show VC _ _ _ _ _ [(9, q9_1_0.val), (10, i64 (q9_1_0.l.length : Int)), (11, i64 x11_2)] (Mo.and Mo.tt _) (Ow.emp)
 refine Zq (Zr ?_)
 refine VL.q (q_lss rfl rfl) (by decide) ?_
 refine Zl ?_
 refine Zq ?_
 refine VC.cond_dec rfl (fun h12 => ?_) (fun h12 => ?_)
 ·
  replace hS := it_t h12 hS
  refine Zk ?_
  refine Zq (Zb (Zq (Zr ?_)))
  obtain ⟨z13_3, nz13_3, hz13_3, hS⟩ := at_s hS
  refine VL.q (q_ixm (s := q9_1_0) Tryz.underlying32 gsz9 rfl rfl nz13_3 (lt_of_get nz13_3 hz13_3)) (by decide) ?_
  refine VL.q (q_el (s := q9_1_0) gone9 rfl hz13_3 rfl) (by decide) ?_
  refine Za ?_
  refine Zl ?_
  refine Zq (Zr ?_)
  refine Zm ?_
  obtain ⟨y16_4, ey16_4, hS⟩ := bd_s hS
  refine VL.q (q_call (path_part_ct z13_3 ey16_4) rfl (fun _ _ => rfl)) (by decide) ?_
  refine VL.q (q_not rfl) (by decide) ?_
  refine Zl ?_
  refine VC.cond rfl (fun h17 => ?_) (fun h17 => ?_)
  ·
   replace hS := it_t h17 hS
   refine Zq (Zr ?_)
   refine Za ?_
   refine Zl ?_
   refine VC.keep [2] rfl ?_
   replace hS := up2 hS hK1
   cases hS
   exact Ze
  replace hS := it_b h17 hS
  refine Zk ?_
  refine Zr ?_
  obtain ⟨b18, hS⟩ := gd_s hS
  refine VL.q (q_add rfl rfl b18) (by decide) ?_
  refine Zm ?_
  refine VL.rnd (x11_2 + 1) [9, 10, 11] (fun _ _ h => h) (go2 hS hK1) rfl
 replace hS := it_f h12 hS
 replace hS := up2 hS hK1
 refine Zx ?_
 refine Zq (Zr ?_)
 refine Za ?_
 refine Zl ?_
 cases hS
 exact Ze
theorem names_Good_ct (name_0 : Str) {r : Bool} (hS : Sh.names_Good name_0 = some r) :
 Ct Tryz.prog 198 [str name_0] Mo.tt (Ow.emp) (X := Unit) (fun _ => .bool r) (fun _ => True) (fun _ => Mo.tt) (fun _ => Ow.emp) := by
 refine Ct.of Tryz.func198 rfl (by kernel_rfl) Tryz.ntmps198 (by simp) fun c => ?_
 unfold Sh.names_Good at hS
 refine Zq (Zr ?_)
 refine Za ?_
 refine Zl ?_
 refine Zq (Zq (Zr ?_))
 refine Zm ?_
 obtain ⟨b6, hS⟩ := gd_s hS
 refine VL.s2b Tryz.underlying9 Tryz.underlying61 Tryz.underlying5 rfl b6 (by decide) fun s6_1 hs6_1 => ?_
 replace hS := lt_to hs6_1 hS
 refine VL.q (q_ln (s := s6_1) Tryz.underlying61 rfl) (by decide) ?_
 refine Zm ?_
 refine Zl ?_
 refine Zb ?_
 refine VC.iter (S := Int) (fun (x8_3 : Int) => x8_3) (fun (x8_3 : Int) => [(0, str name_0), (6, s6_1.val), (7, i64 (s6_1.l.length : Int)), (8, i64 x8_3)]) (fun (x8_3 : Int) => Mo.tt) (fun (x8_3 : Int) => Ow.emp) 0 [0, 6, 7, 8] hS rfl ?_
 clear hS
 rintro x8_3 m1 y1 hS hK1
 show VC _ _ _ _ _ [(0, str name_0), (6, s6_1.val), (7, i64 (s6_1.l.length : Int)), (8, i64 x8_3)] (Mo.and Mo.tt _) (Ow.emp)
 refine Zq (Zr ?_)
 refine VL.q (q_lss rfl rfl) (by decide) ?_
 refine Zl ?_
 refine Zq ?_
 refine VC.cond_dec rfl (fun h9 => ?_) (fun h9 => ?_)
 ·
  replace hS := it_t h9 hS
  refine Zk ?_
  refine Zq (Zb (Zq (Zr ?_)))
  refine Zm ?_
  obtain ⟨z11_4, nz11_4, hz11_4, hS⟩ := at_s hS
  refine VL.q (q_ixm (s := s6_1) Tryz.underlying61 gsz5 rfl rfl nz11_4 (lt_of_get nz11_4 hz11_4)) (by decide) ?_
  refine VL.q (q_el (s := s6_1) gone5 rfl hz11_4 rfl) (by decide) ?_
  refine Za ?_
  refine Za ?_
  refine Zl ?_
  refine VC.cutJ (S := Bool) (fun (x34_5 : Bool) => x34_5) (fun (x34_5 : Bool) => [(0, str name_0), (6, s6_1.val), (7, i64 (s6_1.l.length : Int)), (8, i64 x8_3), (34, .bool x34_5)]) (fun (x34_5 : Bool) => Mo.tt) (fun (x34_5 : Bool) => Ow.emp) hS ?_ ?_
  ·
   clear hS
   intro k6 hS
   refine Zr ?_
   refine Zm ?_
   refine VL.q (q_lss rfl rfl) (by decide) ?_
   refine Zm ?_
   refine VL.split_dec 15 rfl (fun h15 => ?_) (fun h15 => ?_)
   ·
    replace hS := it_t h15 hS
    refine Zn ?_
    refine Zn ?_
    refine Zt ?_
    refine Zm ?_
    refine Zg ?_
    refine VL.gy rfl rfl (q_eql rfl rfl) (by decide) ?_
    refine Zg ?_
    refine VL.split_dec 22 rfl (fun h22 => ?_) (fun h22 => ?_)
    ·
     replace hS := it_t h22 hS
     refine Zn ?_
     refine Zn ?_
     refine Zn ?_
     refine VL.gu rfl rfl (by decide) ?_
     refine VL.gu rfl rfl (by decide) ?_
     refine VL.gu rfl rfl (by decide) ?_
     refine VL.gu rfl rfl (by decide) ?_
     refine VL.gu rfl rfl (by decide) ?_
     refine VL.gu rfl rfl (by decide) ?_
     refine Zn ?_
     refine VL.gy rfl rfl (q_pick_t rfl rfl) (by decide) ?_
     refine Zt ?_
     refine VL.mt true [0, 6, 7, 8, 34] (fun _ _ h => h) hS rfl
    replace hS := it_f h22 hS
    refine Zg ?_
    refine VL.gy rfl rfl (q_neq rfl rfl) (by decide) ?_
    refine Zg ?_
    refine VL.split_ndec 25 rfl (fun h25 => ?_) (fun h25 => ?_)
    ·
     replace hS := it_f h25 hS
     refine Zg ?_
     refine VL.gy rfl rfl (q_lss rfl rfl) (by decide) ?_
     refine Zg ?_
     refine VL.split_dec 28 rfl (fun h28 => ?_) (fun h28 => ?_)
     ·
      replace hS := it_t h28 hS
      refine Zn ?_
      refine Zn ?_
      refine VL.gy rfl rfl (q_pick_t rfl rfl) (by decide) ?_
      refine VL.gy rfl rfl (q_pick_t rfl rfl) (by decide) ?_
      refine VL.gy rfl rfl (q_pick_f rfl rfl) (by decide) ?_
      refine Zt ?_
      refine VL.mt true [0, 6, 7, 8, 34] (fun _ _ h => h) hS rfl
     replace hS := it_f h28 hS
     refine Zg ?_
     refine VL.gy rfl rfl (q_gtr rfl rfl) (by decide) ?_
     refine VL.gy rfl rfl (q_pick_f rfl rfl) (by decide) ?_
     refine VL.gy rfl rfl (q_pick_t rfl rfl) (by decide) ?_
     refine VL.gy rfl rfl (q_pick_f rfl rfl) (by decide) ?_
     refine Zt ?_
     refine VL.mt (decide (57 < (z11_4.toNat : Int))) [0, 6, 7, 8, 34] (fun _ _ h => h) hS rfl
    replace hS := it_t h25 hS
    refine Zn ?_
    refine Zn ?_
    refine Zn ?_
    refine VL.gu rfl rfl (by decide) ?_
    refine VL.gu rfl rfl (by decide) ?_
    refine Zn ?_
    refine VL.gy rfl rfl (q_pick_f rfl rfl) (by decide) ?_
    refine VL.gy rfl rfl (q_pick_f rfl rfl) (by decide) ?_
    refine Zt ?_
    refine VL.mt false [0, 6, 7, 8, 34] (fun _ _ h => h) hS rfl
   replace hS := it_f h15 hS
   refine Zg ?_
   refine VL.gy rfl rfl (q_gtr rfl rfl) (by decide) ?_
   refine Zf ?_
   refine Zm ?_
   refine VL.split_dec 19 rfl (fun h19 => ?_) (fun h19 => ?_)
   ·
    replace hS := it_t h19 hS
    refine Zg ?_
    refine VL.gy rfl rfl (q_eql rfl rfl) (by decide) ?_
    refine Zg ?_
    refine VL.split_dec 22 rfl (fun h22 => ?_) (fun h22 => ?_)
    ·
     replace hS := it_t h22 hS
     refine Zn ?_
     refine Zn ?_
     refine Zn ?_
     refine VL.gu rfl rfl (by decide) ?_
     refine VL.gu rfl rfl (by decide) ?_
     refine VL.gu rfl rfl (by decide) ?_
     refine VL.gu rfl rfl (by decide) ?_
     refine VL.gu rfl rfl (by decide) ?_
     refine VL.gu rfl rfl (by decide) ?_
     refine Zn ?_
     refine VL.gy rfl rfl (q_pick_t rfl rfl) (by decide) ?_
     refine Zt ?_
     refine VL.mt true [0, 6, 7, 8, 34] (fun _ _ h => h) hS rfl
    replace hS := it_f h22 hS
    refine Zg ?_
    refine VL.gy rfl rfl (q_neq rfl rfl) (by decide) ?_
    refine Zg ?_
    refine VL.split_ndec 25 rfl (fun h25 => ?_) (fun h25 => ?_)
    ·
     replace hS := it_f h25 hS
     refine Zg ?_
     refine VL.gy rfl rfl (q_lss rfl rfl) (by decide) ?_
     refine Zg ?_
     refine VL.split_dec 28 rfl (fun h28 => ?_) (fun h28 => ?_)
     ·
      replace hS := it_t h28 hS
      refine Zn ?_
      refine Zn ?_
      refine VL.gy rfl rfl (q_pick_t rfl rfl) (by decide) ?_
      refine VL.gy rfl rfl (q_pick_t rfl rfl) (by decide) ?_
      refine VL.gy rfl rfl (q_pick_f rfl rfl) (by decide) ?_
      refine Zt ?_
      refine VL.mt true [0, 6, 7, 8, 34] (fun _ _ h => h) hS rfl
     replace hS := it_f h28 hS
     refine Zg ?_
     refine VL.gy rfl rfl (q_gtr rfl rfl) (by decide) ?_
     refine VL.gy rfl rfl (q_pick_f rfl rfl) (by decide) ?_
     refine VL.gy rfl rfl (q_pick_t rfl rfl) (by decide) ?_
     refine VL.gy rfl rfl (q_pick_f rfl rfl) (by decide) ?_
     refine Zt ?_
     refine VL.mt (decide (57 < (z11_4.toNat : Int))) [0, 6, 7, 8, 34] (fun _ _ h => h) hS rfl
    replace hS := it_t h25 hS
    refine Zn ?_
    refine Zn ?_
    refine Zn ?_
    refine VL.gu rfl rfl (by decide) ?_
    refine VL.gu rfl rfl (by decide) ?_
    refine Zn ?_
    refine VL.gy rfl rfl (q_pick_f rfl rfl) (by decide) ?_
    refine VL.gy rfl rfl (q_pick_f rfl rfl) (by decide) ?_
    refine Zt ?_
    refine VL.mt false [0, 6, 7, 8, 34] (fun _ _ h => h) hS rfl
   replace hS := it_f h19 hS
   refine Zn ?_
   refine Zn ?_
   refine Zn ?_
   refine VL.gu rfl rfl (by decide) ?_
   refine VL.gu rfl rfl (by decide) ?_
   refine VL.gu rfl rfl (by decide) ?_
   refine VL.gu rfl rfl (by decide) ?_
   refine VL.gu rfl rfl (by decide) ?_
   refine VL.gu rfl rfl (by decide) ?_
   refine VL.gu rfl rfl (by decide) ?_
   refine VL.gu rfl rfl (by decide) ?_
   refine VL.gu rfl rfl (by decide) ?_
   refine VL.gu rfl rfl (by decide) ?_
   refine Zn ?_
   refine Zf ?_
   refine VL.mt false [0, 6, 7, 8, 34] (fun _ _ h => h) hS rfl
  clear hS
  rintro x34_5 hS
  show VC _ _ _ _ _ [(0, str name_0), (6, s6_1.val), (7, i64 (s6_1.l.length : Int)), (8, i64 x8_3), (34, .bool x34_5)] (Mo.and Mo.tt _) (Ow.emp)
  refine VC.cond rfl (fun h34 => ?_) (fun h34 => ?_)
  ·
   replace hS := it_t h34 hS
   refine Zq (Zr ?_)
   refine Za ?_
   refine Zl ?_
   replace hS := up2 hS hK1
   cases hS
   exact Ze
  replace hS := it_b h34 hS
  refine Zk ?_
  refine Zr ?_
  obtain ⟨b35, hS⟩ := gd_s hS
  refine VL.q (q_add rfl rfl b35) (by decide) ?_
  refine Zm ?_
  refine VL.rnd (x8_3 + 1) [0, 6, 7, 8] (fun _ _ h => h) (go2 hS hK1) rfl
 replace hS := it_f h9 hS
 replace hS := up2 hS hK1
 refine Zx ?_
 refine Zq (Zr ?_)
 refine Zm ?_
 refine VL.q (q_slen Tryz.underlying9 rfl) (by decide) ?_
 refine VL.q (q_geq rfl rfl) (by decide) ?_
 refine Zm ?_
 refine VL.split_dec 39 rfl (fun h39 => ?_) (fun h39 => ?_)
 ·
  replace hS := it_t h39 hS
  refine Zg ?_
  refine VL.gy rfl rfl (q_slen Tryz.underlying9 rfl) (by decide) ?_
  refine VL.gy rfl rfl (q_leq rfl rfl) (by decide) ?_
  refine Zt ?_
  refine Za ?_
  refine Zl ?_
  refine VC.keep [2] rfl ?_
  cases hS
  exact Ze
 replace hS := it_f h39 hS
 refine Zn ?_
 refine Zn ?_
 refine Zn ?_
 refine Zf ?_
 refine Za ?_
 refine Zl ?_
 refine VC.keep [2] rfl ?_
 cases hS
 exact Ze
end Go.Proofs.YtpmhinamcndmeaaGreatDoor
end
