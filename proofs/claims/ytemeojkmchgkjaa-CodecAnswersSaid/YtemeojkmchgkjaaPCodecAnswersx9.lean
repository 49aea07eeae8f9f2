/- This file proves, function by function, what the Go functions that one law uses compute; most of it was printed by a program (wip/tools of this session, over the kit's print). -/
import Derived.Test.YtemeojkmchgkjaaPCodecAnswersx0
import Derived.Test.YtemeojkmchgkjaaPCodecAnswersx1
import Derived.Test.YtemeojkmchgkjaaPCodecAnswersx2
import Derived.Test.YtemeojkmchgkjaaPCodecAnswersx3
import Derived.Test.YtemeojkmchgkjaaPCodecAnswersx4
import Derived.Test.YtemeojkmchgkjaaPCodecAnswersx5
import Derived.Test.YtemeojkmchgkjaaPCodecAnswersx6
import Derived.Test.YtemeojkmchgkjaaPCodecAnswersx7
import Derived.Test.YtemeojkmchgkjaaPCodecAnswersx8
namespace Go.Proofs.Ytemeojkmchgkjaa.PCodecAnswers
open Go.RowKit Go.Proofs.YtemeojkmchgkjaaW.PrintWords Go.Proofs.YtemeojkmchgkjaaW.PrintLast Go.Proofs.YtemeojkmchgkjaaW.PrintMore
attribute [local go_sem] max2_int min2_int max_two min_two max_three min_three max_four min_four   -- for this text's walks alone
set_option linter.unusedVariables false
set_option linter.unusedSimpArgs false

/-! ### shapesearchlaw03_CodecAnswers: function 6 -/
mutual
def shapesearchlaw03_CodecAnswers.l0 : Nat → List Int → Int → List Int → Int → Int → List Int → Int → Int → List Int → Int → Option (Bool)
  | 0, _, _, _, _, _, _, _, _, _, _ => none
  | k + 1, x0, x1, x3, x4, x5, x66, x67, x68, x212000, x212001 => if x68 < x67 then (if 0 ≤ x68 then (if x68 < (x66.length : Int) then ((shapesearchref03_PutInt.f k x0 (rd x66 x68)).bind fun t218 => ((shapesearchkeep_Src_Bytes.f x212000 x212001 t218).bind fun bt221 => ((codec_Int.f k bt221.1 (x0.length : Int)).bind fun bt225 => ((shapesearchref03_Int.f k bt221.1 (x0.length : Int)).bind fun bt228 => ((codec_PutInt.f k x0 (rd x66 x68)).bind fun t231 => (if (strOfNums t231).toList = (strOfNums t218).toList then (if bt225.1 = bt228.1 then (if bt225.2.1 = bt228.2.1 then (if bt225.2.2 = bt228.2.2 then (shapesearchlaw03_CodecAnswers.l0 k x0 x1 x3 x4 x5 x66 x67 (wrap64 (x68 + 1)) x212000 bt221.2) else (some false)) else (some false)) else (some false)) else (some false))))))) else (none)) else (none)) else ((shapesearchkeep_Mod.f x1 (wrap64 ((x0.length : Int) + 2))).bind fun t234 => ((some (([x1, 0, (x0.length : Int), t234] : List Int) : List Int)).bind fun y235 => (shapesearchlaw03_CodecAnswers.l1 k x0 x3 x4 x5 y235 (y235.length : Int) 0 x212000 x212001)))
def shapesearchlaw03_CodecAnswers.l1 : Nat → List Int → List Int → Int → Int → List Int → Int → Int → List Int → Int → Option (Bool)
  | 0, _, _, _, _, _, _, _, _, _ => none
  | k + 1, x0, x3, x4, x5, x125, x126, x127, x212000, x212001 => if x127 < x126 then (if 0 ≤ x127 then (if x127 < (x125.length : Int) then ((codec_Int.f k x0 (rd x125 x127)).bind fun bt239 => ((shapesearchref03_Int.f k x0 (rd x125 x127)).bind fun bt242 => (if bt239.1 = bt242.1 then (if bt239.2.1 = bt242.2.1 then (if bt239.2.2 = bt242.2.2 then (shapesearchlaw03_CodecAnswers.l1 k x0 x3 x4 x5 x125 x126 (wrap64 (x127 + 1)) x212000 x212001) else (some false)) else (some false)) else (some false)))) else (none)) else (none)) else ((shapesearchkeep_Src_N.f x212000 x212001 20).bind fun bt245 => (shapesearchlaw03_CodecAnswers.l2 k x0 x3 x4 x5 ([] : List Int) bt245.1 x212000 bt245.2))
def shapesearchlaw03_CodecAnswers.l2 : Nat → List Int → List Int → Int → Int → List Int → Int → List Int → Int → Option (Bool)
  | 0, _, _, _, _, _, _, _, _ => none
  | k + 1, x0, x3, x4, x5, x34, x35, x212000, x212001 => if x35 > 0 then ((shapesearchkeep_Src_N.f x212000 x212001 33).bind fun bt247 => (if 0 ≤ bt247.1 then ((shapesearchkeep_Src_N.f x212000 bt247.2 (shl .i64 1 bt247.1)).bind fun bt249 => (if x34.length < 17592186044416 then (shapesearchlaw03_CodecAnswers.l2 k x0 x3 x4 x5 (x34 ++ [bt249.1]) (wrap64 (x35 - 1)) x212000 bt249.2) else (none))) else (none))) else ((some (([x3, x34] : List (List Int)) : List (List Int))).bind fun y254 => (shapesearchlaw03_CodecAnswers.l3 k x0 x4 x5 y254 (y254.length : Int) 0))
def shapesearchlaw03_CodecAnswers.l3 : Nat → List Int → Int → Int → List (List Int) → Int → Int → Option (Bool)
  | 0, _, _, _, _, _, _ => none
  | k + 1, x0, x4, x5, x175, x176, x177 => if x177 < x176 then (if 0 ≤ x177 then (if x177 < (x175.length : Int) then ((codec_Width.f k (rd_L2 x175 x177)).bind fun t259 => ((shapesearchref03_Width.f k (rd_L2 x175 x177)).bind fun t260 => (if t259 = t260 then ((shapesearchref03_Width.f k (rd_L2 x175 x177)).bind fun t261 => ((shapesearchkeep_Mod.f x4 35).bind fun t262 => ((some (([x4, t261, wrap64 (t262 - 1)] : List Int) : List Int)).bind fun y263 => (shapesearchlaw03_CodecAnswers.l4 k x0 x4 x5 (rd_L2 x175 x177) x175 x176 x177 y263 (y263.length : Int) 0)))) else (some false)))) else (none)) else (none)) else ((codec_Sum.f x0).bind fun t298 => ((shapesearchref03_Sum.f k x0).bind fun t299 => (if t298 = t299 then ((shapesearchlaw03_awake.f k).bind fun t300 => (some t300)) else (some false))))
def shapesearchlaw03_CodecAnswers.l4 : Nat → List Int → Int → Int → List Int → List (List Int) → Int → Int → List Int → Int → Int → Option (Bool)
  | 0, _, _, _, _, _, _, _, _, _, _ => none
  | k + 1, x0, x4, x5, x37, x175, x176, x177, x192, x193, x194 => if x194 < x193 then (if 0 ≤ x194 then (if x194 < (x192.length : Int) then ((codec_Pack.f k x37 (rd x192 x194)).bind fun bt267 => ((shapesearchref03_Pack.f k x37 (rd x192 x194)).bind fun bt271 => (if (strOfNums bt267.1).toList = (strOfNums bt271.1).toList then (if bt267.2 = bt271.2 then (if bt271.1.length + 1 < 140737488355328 then ((some (([x0, bt271.1, (bt271.1 ++ [0])] : List (List Int)) : List (List Int))).bind fun y279 => (shapesearchlaw03_CodecAnswers.l5 k x0 x4 x5 x37 (rd x192 x194) x175 x176 x177 x192 x193 x194 y279 (y279.length : Int) 0)) else (none)) else (some false)) else (some false)))) else (none)) else (none)) else (shapesearchlaw03_CodecAnswers.l3 k x0 x4 x5 x175 x176 (wrap64 (x177 + 1)))
def shapesearchlaw03_CodecAnswers.l5 : Nat → List Int → Int → Int → List Int → Int → List (List Int) → Int → Int → List Int → Int → Int → List (List Int) → Int → Int → Option (Bool)
  | 0, _, _, _, _, _, _, _, _, _, _, _, _, _, _ => none
  | k + 1, x0, x4, x5, x37, x39, x175, x176, x177, x192, x193, x194, x227, x228, x229 => if x229 < x228 then (if 0 ≤ x229 then (if x229 < (x227.length : Int) then ((shapesearchkeep_Mod.f x5 20).bind fun t284 => ((some (([x5, (x37.length : Int), wrap64 (t284 - 1)] : List Int) : List Int)).bind fun y285 => (shapesearchlaw03_CodecAnswers.l6 k x0 x4 x5 x37 x39 (rd_L3 x227 x229) x175 x176 x177 x192 x193 x194 x227 x228 x229 y285 (y285.length : Int) 0))) else (none)) else (none)) else (shapesearchlaw03_CodecAnswers.l4 k x0 x4 x5 x37 x175 x176 x177 x192 x193 (wrap64 (x194 + 1)))
def shapesearchlaw03_CodecAnswers.l6 : Nat → List Int → Int → Int → List Int → Int → List Int → List (List Int) → Int → Int → List Int → Int → Int → List (List Int) → Int → Int → List Int → Int → Int → Option (Bool)
  | 0, _, _, _, _, _, _, _, _, _, _, _, _, _, _, _, _, _, _ => none
  | k + 1, x0, x4, x5, x37, x39, x45, x175, x176, x177, x192, x193, x194, x227, x228, x229, x239, x240, x241 => if x241 < x240 then (if 0 ≤ x241 then (if x241 < (x239.length : Int) then ((codec_Unpack.f x45 x39 (rd x239 x241)).bind fun bt289 => ((shapesearchref03_Unpack.f k x45 x39 (rd x239 x241)).bind fun bt293 => ((shapesearchkeep_Ints.f k bt289.1 bt293.1).bind fun t297 => (if t297 = true then (if bt289.2 = bt293.2 then (shapesearchlaw03_CodecAnswers.l6 k x0 x4 x5 x37 x39 x45 x175 x176 x177 x192 x193 x194 x227 x228 x229 x239 x240 (wrap64 (x241 + 1))) else (some false)) else (some false))))) else (none)) else (none)) else (shapesearchlaw03_CodecAnswers.l5 k x0 x4 x5 x37 x39 x175 x176 x177 x192 x193 x194 x227 x228 (wrap64 (x229 + 1)))
end
def shapesearchlaw03_CodecAnswers.f (k : Nat) (l0 : List Int) (a1 : Int) (a2 : Int) (l3 : List Int) (a4 : Int) (a5 : Int) (l6 : List Int) : Option (Bool) := if (l0.length : Int) > 300 then ((shapesearchlaw03_awake.f k).bind fun t207 => (some t207)) else (if (l3.length : Int) > 300 then ((shapesearchlaw03_awake.f k).bind fun t208 => (some t208)) else ((shapesearchkeep_New.f l6).bind fun bt209 => ((shapesearchkeep_Src_Raw.f bt209.1 bt209.2).bind fun bt212 => ((some (([a2, bt212.1, (-9223372036854775808), 9223372036854775807] : List Int) : List Int)).bind fun y214 => (shapesearchlaw03_CodecAnswers.l0 k l0 a1 l3 a4 a5 y214 (y214.length : Int) 0 bt209.1 bt212.2)))))
theorem shapesearchlaw03_CodecAnswers.mono_l : ∀ k, (∀ y0 y1 y2 y3 y4 y5 y6 y7 y8 y9, LeO (shapesearchlaw03_CodecAnswers.l0 k y0 y1 y2 y3 y4 y5 y6 y7 y8 y9) (shapesearchlaw03_CodecAnswers.l0 (k + 1) y0 y1 y2 y3 y4 y5 y6 y7 y8 y9)) ∧ (∀ y0 y1 y2 y3 y4 y5 y6 y7 y8, LeO (shapesearchlaw03_CodecAnswers.l1 k y0 y1 y2 y3 y4 y5 y6 y7 y8) (shapesearchlaw03_CodecAnswers.l1 (k + 1) y0 y1 y2 y3 y4 y5 y6 y7 y8)) ∧ (∀ y0 y1 y2 y3 y4 y5 y6 y7, LeO (shapesearchlaw03_CodecAnswers.l2 k y0 y1 y2 y3 y4 y5 y6 y7) (shapesearchlaw03_CodecAnswers.l2 (k + 1) y0 y1 y2 y3 y4 y5 y6 y7)) ∧ (∀ y0 y1 y2 y3 y4 y5, LeO (shapesearchlaw03_CodecAnswers.l3 k y0 y1 y2 y3 y4 y5) (shapesearchlaw03_CodecAnswers.l3 (k + 1) y0 y1 y2 y3 y4 y5)) ∧ (∀ y0 y1 y2 y3 y4 y5 y6 y7 y8 y9, LeO (shapesearchlaw03_CodecAnswers.l4 k y0 y1 y2 y3 y4 y5 y6 y7 y8 y9) (shapesearchlaw03_CodecAnswers.l4 (k + 1) y0 y1 y2 y3 y4 y5 y6 y7 y8 y9)) ∧ (∀ y0 y1 y2 y3 y4 y5 y6 y7 y8 y9 y10 y11 y12 y13, LeO (shapesearchlaw03_CodecAnswers.l5 k y0 y1 y2 y3 y4 y5 y6 y7 y8 y9 y10 y11 y12 y13) (shapesearchlaw03_CodecAnswers.l5 (k + 1) y0 y1 y2 y3 y4 y5 y6 y7 y8 y9 y10 y11 y12 y13)) ∧ (∀ y0 y1 y2 y3 y4 y5 y6 y7 y8 y9 y10 y11 y12 y13 y14 y15 y16 y17, LeO (shapesearchlaw03_CodecAnswers.l6 k y0 y1 y2 y3 y4 y5 y6 y7 y8 y9 y10 y11 y12 y13 y14 y15 y16 y17) (shapesearchlaw03_CodecAnswers.l6 (k + 1) y0 y1 y2 y3 y4 y5 y6 y7 y8 y9 y10 y11 y12 y13 y14 y15 y16 y17))
  | 0 => ⟨fun _ _ _ _ _ _ _ _ _ _ r h => by simp [shapesearchlaw03_CodecAnswers.l0] at h, fun _ _ _ _ _ _ _ _ _ r h => by simp [shapesearchlaw03_CodecAnswers.l1] at h, fun _ _ _ _ _ _ _ _ r h => by simp [shapesearchlaw03_CodecAnswers.l2] at h, fun _ _ _ _ _ _ r h => by simp [shapesearchlaw03_CodecAnswers.l3] at h, fun _ _ _ _ _ _ _ _ _ _ r h => by simp [shapesearchlaw03_CodecAnswers.l4] at h, fun _ _ _ _ _ _ _ _ _ _ _ _ _ _ r h => by simp [shapesearchlaw03_CodecAnswers.l5] at h, fun _ _ _ _ _ _ _ _ _ _ _ _ _ _ _ _ _ _ r h => by simp [shapesearchlaw03_CodecAnswers.l6] at h⟩
  | k + 1 => by
    obtain ⟨ih0, ih1, ih2, ih3, ih4, ih5, ih6⟩ := shapesearchlaw03_CodecAnswers.mono_l k
    refine ⟨?_, ?_, ?_, ?_, ?_, ?_, ?_⟩
    · intro y0 y1 y2 y3 y4 y5 y6 y7 y8 y9
      unfold shapesearchlaw03_CodecAnswers.l0
      repeat' first
      | (with_reducible exact ih0 _ _ _ _ _ _ _ _ _ _)
      | (with_reducible exact ih1 _ _ _ _ _ _ _ _ _)
      | (with_reducible exact ih2 _ _ _ _ _ _ _ _)
      | (with_reducible exact ih3 _ _ _ _ _ _)
      | (with_reducible exact ih4 _ _ _ _ _ _ _ _ _ _)
      | (with_reducible exact ih5 _ _ _ _ _ _ _ _ _ _ _ _ _ _)
      | (with_reducible exact ih6 _ _ _ _ _ _ _ _ _ _ _ _ _ _ _ _ _ _)
      | (with_reducible exact codec_Int.mono _ _ _)
      | (with_reducible exact codec_Pack.mono _ _ _)
      | (with_reducible exact codec_PutInt.mono _ _ _)
      | (with_reducible exact codec_Width.mono _ _)
      | (with_reducible exact shapesearchkeep_Ints.mono _ _ _)
      | (with_reducible exact shapesearchlaw03_awake.mono _)
      | (with_reducible exact shapesearchref03_Int.mono _ _ _)
      | (with_reducible exact shapesearchref03_Pack.mono _ _ _)
      | (with_reducible exact shapesearchref03_PutInt.mono _ _ _)
      | (with_reducible exact shapesearchref03_Sum.mono _ _)
      | (with_reducible exact shapesearchref03_Unpack.mono _ _ _ _)
      | (with_reducible exact shapesearchref03_Width.mono _ _)
      | (with_reducible exact LeO.refl _)
      | (with_reducible exact LeO.none _)
      | (with_reducible refine LeO.ite ?_ ?_)
      | (with_reducible refine LeO.bind ?_ (fun _ => ?_))
      | exact ih0 _ _ _ _ _ _ _ _ _ _
      | exact ih1 _ _ _ _ _ _ _ _ _
      | exact ih2 _ _ _ _ _ _ _ _
      | exact ih3 _ _ _ _ _ _
      | exact ih4 _ _ _ _ _ _ _ _ _ _
      | exact ih5 _ _ _ _ _ _ _ _ _ _ _ _ _ _
      | exact ih6 _ _ _ _ _ _ _ _ _ _ _ _ _ _ _ _ _ _
      | exact codec_Int.mono _ _ _
      | exact codec_Pack.mono _ _ _
      | exact codec_PutInt.mono _ _ _
      | exact codec_Width.mono _ _
      | exact shapesearchkeep_Ints.mono _ _ _
      | exact shapesearchlaw03_awake.mono _
      | exact shapesearchref03_Int.mono _ _ _
      | exact shapesearchref03_Pack.mono _ _ _
      | exact shapesearchref03_PutInt.mono _ _ _
      | exact shapesearchref03_Sum.mono _ _
      | exact shapesearchref03_Unpack.mono _ _ _ _
      | exact shapesearchref03_Width.mono _ _
      | exact LeO.none _
      | refine LeO.ite ?_ ?_
      | refine LeO.bind ?_ (fun _ => ?_)
    · intro y0 y1 y2 y3 y4 y5 y6 y7 y8
      unfold shapesearchlaw03_CodecAnswers.l1
      repeat' first
      | (with_reducible exact ih0 _ _ _ _ _ _ _ _ _ _)
      | (with_reducible exact ih1 _ _ _ _ _ _ _ _ _)
      | (with_reducible exact ih2 _ _ _ _ _ _ _ _)
      | (with_reducible exact ih3 _ _ _ _ _ _)
      | (with_reducible exact ih4 _ _ _ _ _ _ _ _ _ _)
      | (with_reducible exact ih5 _ _ _ _ _ _ _ _ _ _ _ _ _ _)
      | (with_reducible exact ih6 _ _ _ _ _ _ _ _ _ _ _ _ _ _ _ _ _ _)
      | (with_reducible exact codec_Int.mono _ _ _)
      | (with_reducible exact codec_Pack.mono _ _ _)
      | (with_reducible exact codec_PutInt.mono _ _ _)
      | (with_reducible exact codec_Width.mono _ _)
      | (with_reducible exact shapesearchkeep_Ints.mono _ _ _)
      | (with_reducible exact shapesearchlaw03_awake.mono _)
      | (with_reducible exact shapesearchref03_Int.mono _ _ _)
      | (with_reducible exact shapesearchref03_Pack.mono _ _ _)
      | (with_reducible exact shapesearchref03_PutInt.mono _ _ _)
      | (with_reducible exact shapesearchref03_Sum.mono _ _)
      | (with_reducible exact shapesearchref03_Unpack.mono _ _ _ _)
      | (with_reducible exact shapesearchref03_Width.mono _ _)
      | (with_reducible exact LeO.refl _)
      | (with_reducible exact LeO.none _)
      | (with_reducible refine LeO.ite ?_ ?_)
      | (with_reducible refine LeO.bind ?_ (fun _ => ?_))
      | exact ih0 _ _ _ _ _ _ _ _ _ _
      | exact ih1 _ _ _ _ _ _ _ _ _
      | exact ih2 _ _ _ _ _ _ _ _
      | exact ih3 _ _ _ _ _ _
      | exact ih4 _ _ _ _ _ _ _ _ _ _
      | exact ih5 _ _ _ _ _ _ _ _ _ _ _ _ _ _
      | exact ih6 _ _ _ _ _ _ _ _ _ _ _ _ _ _ _ _ _ _
      | exact codec_Int.mono _ _ _
      | exact codec_Pack.mono _ _ _
      | exact codec_PutInt.mono _ _ _
      | exact codec_Width.mono _ _
      | exact shapesearchkeep_Ints.mono _ _ _
      | exact shapesearchlaw03_awake.mono _
      | exact shapesearchref03_Int.mono _ _ _
      | exact shapesearchref03_Pack.mono _ _ _
      | exact shapesearchref03_PutInt.mono _ _ _
      | exact shapesearchref03_Sum.mono _ _
      | exact shapesearchref03_Unpack.mono _ _ _ _
      | exact shapesearchref03_Width.mono _ _
      | exact LeO.none _
      | refine LeO.ite ?_ ?_
      | refine LeO.bind ?_ (fun _ => ?_)
    · intro y0 y1 y2 y3 y4 y5 y6 y7
      unfold shapesearchlaw03_CodecAnswers.l2
      repeat' first
      | (with_reducible exact ih0 _ _ _ _ _ _ _ _ _ _)
      | (with_reducible exact ih1 _ _ _ _ _ _ _ _ _)
      | (with_reducible exact ih2 _ _ _ _ _ _ _ _)
      | (with_reducible exact ih3 _ _ _ _ _ _)
      | (with_reducible exact ih4 _ _ _ _ _ _ _ _ _ _)
      | (with_reducible exact ih5 _ _ _ _ _ _ _ _ _ _ _ _ _ _)
      | (with_reducible exact ih6 _ _ _ _ _ _ _ _ _ _ _ _ _ _ _ _ _ _)
      | (with_reducible exact codec_Int.mono _ _ _)
      | (with_reducible exact codec_Pack.mono _ _ _)
      | (with_reducible exact codec_PutInt.mono _ _ _)
      | (with_reducible exact codec_Width.mono _ _)
      | (with_reducible exact shapesearchkeep_Ints.mono _ _ _)
      | (with_reducible exact shapesearchlaw03_awake.mono _)
      | (with_reducible exact shapesearchref03_Int.mono _ _ _)
      | (with_reducible exact shapesearchref03_Pack.mono _ _ _)
      | (with_reducible exact shapesearchref03_PutInt.mono _ _ _)
      | (with_reducible exact shapesearchref03_Sum.mono _ _)
      | (with_reducible exact shapesearchref03_Unpack.mono _ _ _ _)
      | (with_reducible exact shapesearchref03_Width.mono _ _)
      | (with_reducible exact LeO.refl _)
      | (with_reducible exact LeO.none _)
      | (with_reducible refine LeO.ite ?_ ?_)
      | (with_reducible refine LeO.bind ?_ (fun _ => ?_))
      | exact ih0 _ _ _ _ _ _ _ _ _ _
      | exact ih1 _ _ _ _ _ _ _ _ _
      | exact ih2 _ _ _ _ _ _ _ _
      | exact ih3 _ _ _ _ _ _
      | exact ih4 _ _ _ _ _ _ _ _ _ _
      | exact ih5 _ _ _ _ _ _ _ _ _ _ _ _ _ _
      | exact ih6 _ _ _ _ _ _ _ _ _ _ _ _ _ _ _ _ _ _
      | exact codec_Int.mono _ _ _
      | exact codec_Pack.mono _ _ _
      | exact codec_PutInt.mono _ _ _
      | exact codec_Width.mono _ _
      | exact shapesearchkeep_Ints.mono _ _ _
      | exact shapesearchlaw03_awake.mono _
      | exact shapesearchref03_Int.mono _ _ _
      | exact shapesearchref03_Pack.mono _ _ _
      | exact shapesearchref03_PutInt.mono _ _ _
      | exact shapesearchref03_Sum.mono _ _
      | exact shapesearchref03_Unpack.mono _ _ _ _
      | exact shapesearchref03_Width.mono _ _
      | exact LeO.none _
      | refine LeO.ite ?_ ?_
      | refine LeO.bind ?_ (fun _ => ?_)
    · intro y0 y1 y2 y3 y4 y5
      unfold shapesearchlaw03_CodecAnswers.l3
      repeat' first
      | (with_reducible exact ih0 _ _ _ _ _ _ _ _ _ _)
      | (with_reducible exact ih1 _ _ _ _ _ _ _ _ _)
      | (with_reducible exact ih2 _ _ _ _ _ _ _ _)
      | (with_reducible exact ih3 _ _ _ _ _ _)
      | (with_reducible exact ih4 _ _ _ _ _ _ _ _ _ _)
      | (with_reducible exact ih5 _ _ _ _ _ _ _ _ _ _ _ _ _ _)
      | (with_reducible exact ih6 _ _ _ _ _ _ _ _ _ _ _ _ _ _ _ _ _ _)
      | (with_reducible exact codec_Int.mono _ _ _)
      | (with_reducible exact codec_Pack.mono _ _ _)
      | (with_reducible exact codec_PutInt.mono _ _ _)
      | (with_reducible exact codec_Width.mono _ _)
      | (with_reducible exact shapesearchkeep_Ints.mono _ _ _)
      | (with_reducible exact shapesearchlaw03_awake.mono _)
      | (with_reducible exact shapesearchref03_Int.mono _ _ _)
      | (with_reducible exact shapesearchref03_Pack.mono _ _ _)
      | (with_reducible exact shapesearchref03_PutInt.mono _ _ _)
      | (with_reducible exact shapesearchref03_Sum.mono _ _)
      | (with_reducible exact shapesearchref03_Unpack.mono _ _ _ _)
      | (with_reducible exact shapesearchref03_Width.mono _ _)
      | (with_reducible exact LeO.refl _)
      | (with_reducible exact LeO.none _)
      | (with_reducible refine LeO.ite ?_ ?_)
      | (with_reducible refine LeO.bind ?_ (fun _ => ?_))
      | exact ih0 _ _ _ _ _ _ _ _ _ _
      | exact ih1 _ _ _ _ _ _ _ _ _
      | exact ih2 _ _ _ _ _ _ _ _
      | exact ih3 _ _ _ _ _ _
      | exact ih4 _ _ _ _ _ _ _ _ _ _
      | exact ih5 _ _ _ _ _ _ _ _ _ _ _ _ _ _
      | exact ih6 _ _ _ _ _ _ _ _ _ _ _ _ _ _ _ _ _ _
      | exact codec_Int.mono _ _ _
      | exact codec_Pack.mono _ _ _
      | exact codec_PutInt.mono _ _ _
      | exact codec_Width.mono _ _
      | exact shapesearchkeep_Ints.mono _ _ _
      | exact shapesearchlaw03_awake.mono _
      | exact shapesearchref03_Int.mono _ _ _
      | exact shapesearchref03_Pack.mono _ _ _
      | exact shapesearchref03_PutInt.mono _ _ _
      | exact shapesearchref03_Sum.mono _ _
      | exact shapesearchref03_Unpack.mono _ _ _ _
      | exact shapesearchref03_Width.mono _ _
      | exact LeO.none _
      | refine LeO.ite ?_ ?_
      | refine LeO.bind ?_ (fun _ => ?_)
    · intro y0 y1 y2 y3 y4 y5 y6 y7 y8 y9
      unfold shapesearchlaw03_CodecAnswers.l4
      repeat' first
      | (with_reducible exact ih0 _ _ _ _ _ _ _ _ _ _)
      | (with_reducible exact ih1 _ _ _ _ _ _ _ _ _)
      | (with_reducible exact ih2 _ _ _ _ _ _ _ _)
      | (with_reducible exact ih3 _ _ _ _ _ _)
      | (with_reducible exact ih4 _ _ _ _ _ _ _ _ _ _)
      | (with_reducible exact ih5 _ _ _ _ _ _ _ _ _ _ _ _ _ _)
      | (with_reducible exact ih6 _ _ _ _ _ _ _ _ _ _ _ _ _ _ _ _ _ _)
      | (with_reducible exact codec_Int.mono _ _ _)
      | (with_reducible exact codec_Pack.mono _ _ _)
      | (with_reducible exact codec_PutInt.mono _ _ _)
      | (with_reducible exact codec_Width.mono _ _)
      | (with_reducible exact shapesearchkeep_Ints.mono _ _ _)
      | (with_reducible exact shapesearchlaw03_awake.mono _)
      | (with_reducible exact shapesearchref03_Int.mono _ _ _)
      | (with_reducible exact shapesearchref03_Pack.mono _ _ _)
      | (with_reducible exact shapesearchref03_PutInt.mono _ _ _)
      | (with_reducible exact shapesearchref03_Sum.mono _ _)
      | (with_reducible exact shapesearchref03_Unpack.mono _ _ _ _)
      | (with_reducible exact shapesearchref03_Width.mono _ _)
      | (with_reducible exact LeO.refl _)
      | (with_reducible exact LeO.none _)
      | (with_reducible refine LeO.ite ?_ ?_)
      | (with_reducible refine LeO.bind ?_ (fun _ => ?_))
      | exact ih0 _ _ _ _ _ _ _ _ _ _
      | exact ih1 _ _ _ _ _ _ _ _ _
      | exact ih2 _ _ _ _ _ _ _ _
      | exact ih3 _ _ _ _ _ _
      | exact ih4 _ _ _ _ _ _ _ _ _ _
      | exact ih5 _ _ _ _ _ _ _ _ _ _ _ _ _ _
      | exact ih6 _ _ _ _ _ _ _ _ _ _ _ _ _ _ _ _ _ _
      | exact codec_Int.mono _ _ _
      | exact codec_Pack.mono _ _ _
      | exact codec_PutInt.mono _ _ _
      | exact codec_Width.mono _ _
      | exact shapesearchkeep_Ints.mono _ _ _
      | exact shapesearchlaw03_awake.mono _
      | exact shapesearchref03_Int.mono _ _ _
      | exact shapesearchref03_Pack.mono _ _ _
      | exact shapesearchref03_PutInt.mono _ _ _
      | exact shapesearchref03_Sum.mono _ _
      | exact shapesearchref03_Unpack.mono _ _ _ _
      | exact shapesearchref03_Width.mono _ _
      | exact LeO.none _
      | refine LeO.ite ?_ ?_
      | refine LeO.bind ?_ (fun _ => ?_)
    · intro y0 y1 y2 y3 y4 y5 y6 y7 y8 y9 y10 y11 y12 y13
      unfold shapesearchlaw03_CodecAnswers.l5
      repeat' first
      | (with_reducible exact ih0 _ _ _ _ _ _ _ _ _ _)
      | (with_reducible exact ih1 _ _ _ _ _ _ _ _ _)
      | (with_reducible exact ih2 _ _ _ _ _ _ _ _)
      | (with_reducible exact ih3 _ _ _ _ _ _)
      | (with_reducible exact ih4 _ _ _ _ _ _ _ _ _ _)
      | (with_reducible exact ih5 _ _ _ _ _ _ _ _ _ _ _ _ _ _)
      | (with_reducible exact ih6 _ _ _ _ _ _ _ _ _ _ _ _ _ _ _ _ _ _)
      | (with_reducible exact codec_Int.mono _ _ _)
      | (with_reducible exact codec_Pack.mono _ _ _)
      | (with_reducible exact codec_PutInt.mono _ _ _)
      | (with_reducible exact codec_Width.mono _ _)
      | (with_reducible exact shapesearchkeep_Ints.mono _ _ _)
      | (with_reducible exact shapesearchlaw03_awake.mono _)
      | (with_reducible exact shapesearchref03_Int.mono _ _ _)
      | (with_reducible exact shapesearchref03_Pack.mono _ _ _)
      | (with_reducible exact shapesearchref03_PutInt.mono _ _ _)
      | (with_reducible exact shapesearchref03_Sum.mono _ _)
      | (with_reducible exact shapesearchref03_Unpack.mono _ _ _ _)
      | (with_reducible exact shapesearchref03_Width.mono _ _)
      | (with_reducible exact LeO.refl _)
      | (with_reducible exact LeO.none _)
      | (with_reducible refine LeO.ite ?_ ?_)
      | (with_reducible refine LeO.bind ?_ (fun _ => ?_))
      | exact ih0 _ _ _ _ _ _ _ _ _ _
      | exact ih1 _ _ _ _ _ _ _ _ _
      | exact ih2 _ _ _ _ _ _ _ _
      | exact ih3 _ _ _ _ _ _
      | exact ih4 _ _ _ _ _ _ _ _ _ _
      | exact ih5 _ _ _ _ _ _ _ _ _ _ _ _ _ _
      | exact ih6 _ _ _ _ _ _ _ _ _ _ _ _ _ _ _ _ _ _
      | exact codec_Int.mono _ _ _
      | exact codec_Pack.mono _ _ _
      | exact codec_PutInt.mono _ _ _
      | exact codec_Width.mono _ _
      | exact shapesearchkeep_Ints.mono _ _ _
      | exact shapesearchlaw03_awake.mono _
      | exact shapesearchref03_Int.mono _ _ _
      | exact shapesearchref03_Pack.mono _ _ _
      | exact shapesearchref03_PutInt.mono _ _ _
      | exact shapesearchref03_Sum.mono _ _
      | exact shapesearchref03_Unpack.mono _ _ _ _
      | exact shapesearchref03_Width.mono _ _
      | exact LeO.none _
      | refine LeO.ite ?_ ?_
      | refine LeO.bind ?_ (fun _ => ?_)
    · intro y0 y1 y2 y3 y4 y5 y6 y7 y8 y9 y10 y11 y12 y13 y14 y15 y16 y17
      unfold shapesearchlaw03_CodecAnswers.l6
      repeat' first
      | (with_reducible exact ih0 _ _ _ _ _ _ _ _ _ _)
      | (with_reducible exact ih1 _ _ _ _ _ _ _ _ _)
      | (with_reducible exact ih2 _ _ _ _ _ _ _ _)
      | (with_reducible exact ih3 _ _ _ _ _ _)
      | (with_reducible exact ih4 _ _ _ _ _ _ _ _ _ _)
      | (with_reducible exact ih5 _ _ _ _ _ _ _ _ _ _ _ _ _ _)
      | (with_reducible exact ih6 _ _ _ _ _ _ _ _ _ _ _ _ _ _ _ _ _ _)
      | (with_reducible exact codec_Int.mono _ _ _)
      | (with_reducible exact codec_Pack.mono _ _ _)
      | (with_reducible exact codec_PutInt.mono _ _ _)
      | (with_reducible exact codec_Width.mono _ _)
      | (with_reducible exact shapesearchkeep_Ints.mono _ _ _)
      | (with_reducible exact shapesearchlaw03_awake.mono _)
      | (with_reducible exact shapesearchref03_Int.mono _ _ _)
      | (with_reducible exact shapesearchref03_Pack.mono _ _ _)
      | (with_reducible exact shapesearchref03_PutInt.mono _ _ _)
      | (with_reducible exact shapesearchref03_Sum.mono _ _)
      | (with_reducible exact shapesearchref03_Unpack.mono _ _ _ _)
      | (with_reducible exact shapesearchref03_Width.mono _ _)
      | (with_reducible exact LeO.refl _)
      | (with_reducible exact LeO.none _)
      | (with_reducible refine LeO.ite ?_ ?_)
      | (with_reducible refine LeO.bind ?_ (fun _ => ?_))
      | exact ih0 _ _ _ _ _ _ _ _ _ _
      | exact ih1 _ _ _ _ _ _ _ _ _
      | exact ih2 _ _ _ _ _ _ _ _
      | exact ih3 _ _ _ _ _ _
      | exact ih4 _ _ _ _ _ _ _ _ _ _
      | exact ih5 _ _ _ _ _ _ _ _ _ _ _ _ _ _
      | exact ih6 _ _ _ _ _ _ _ _ _ _ _ _ _ _ _ _ _ _
      | exact codec_Int.mono _ _ _
      | exact codec_Pack.mono _ _ _
      | exact codec_PutInt.mono _ _ _
      | exact codec_Width.mono _ _
      | exact shapesearchkeep_Ints.mono _ _ _
      | exact shapesearchlaw03_awake.mono _
      | exact shapesearchref03_Int.mono _ _ _
      | exact shapesearchref03_Pack.mono _ _ _
      | exact shapesearchref03_PutInt.mono _ _ _
      | exact shapesearchref03_Sum.mono _ _
      | exact shapesearchref03_Unpack.mono _ _ _ _
      | exact shapesearchref03_Width.mono _ _
      | exact LeO.none _
      | refine LeO.ite ?_ ?_
      | refine LeO.bind ?_ (fun _ => ?_)
theorem shapesearchlaw03_CodecAnswers.mono : ∀ a0 a1 a2 a3 a4 a5 a6 k, LeO (shapesearchlaw03_CodecAnswers.f k a0 a1 a2 a3 a4 a5 a6) (shapesearchlaw03_CodecAnswers.f (k + 1) a0 a1 a2 a3 a4 a5 a6) := by
  intro a0 a1 a2 a3 a4 a5 a6 k
  obtain ⟨ih0, ih1, ih2, ih3, ih4, ih5, ih6⟩ := shapesearchlaw03_CodecAnswers.mono_l k
  unfold shapesearchlaw03_CodecAnswers.f
  repeat' first
      | (with_reducible exact ih0 _ _ _ _ _ _ _ _ _ _)
      | (with_reducible exact ih1 _ _ _ _ _ _ _ _ _)
      | (with_reducible exact ih2 _ _ _ _ _ _ _ _)
      | (with_reducible exact ih3 _ _ _ _ _ _)
      | (with_reducible exact ih4 _ _ _ _ _ _ _ _ _ _)
      | (with_reducible exact ih5 _ _ _ _ _ _ _ _ _ _ _ _ _ _)
      | (with_reducible exact ih6 _ _ _ _ _ _ _ _ _ _ _ _ _ _ _ _ _ _)
      | (with_reducible exact codec_Int.mono _ _ _)
      | (with_reducible exact codec_Pack.mono _ _ _)
      | (with_reducible exact codec_PutInt.mono _ _ _)
      | (with_reducible exact codec_Width.mono _ _)
      | (with_reducible exact shapesearchkeep_Ints.mono _ _ _)
      | (with_reducible exact shapesearchlaw03_awake.mono _)
      | (with_reducible exact shapesearchref03_Int.mono _ _ _)
      | (with_reducible exact shapesearchref03_Pack.mono _ _ _)
      | (with_reducible exact shapesearchref03_PutInt.mono _ _ _)
      | (with_reducible exact shapesearchref03_Sum.mono _ _)
      | (with_reducible exact shapesearchref03_Unpack.mono _ _ _ _)
      | (with_reducible exact shapesearchref03_Width.mono _ _)
      | (with_reducible exact LeO.refl _)
      | (with_reducible exact LeO.none _)
      | (with_reducible refine LeO.ite ?_ ?_)
      | (with_reducible refine LeO.bind ?_ (fun _ => ?_))
      | exact ih0 _ _ _ _ _ _ _ _ _ _
      | exact ih1 _ _ _ _ _ _ _ _ _
      | exact ih2 _ _ _ _ _ _ _ _
      | exact ih3 _ _ _ _ _ _
      | exact ih4 _ _ _ _ _ _ _ _ _ _
      | exact ih5 _ _ _ _ _ _ _ _ _ _ _ _ _ _
      | exact ih6 _ _ _ _ _ _ _ _ _ _ _ _ _ _ _ _ _ _
      | exact codec_Int.mono _ _ _
      | exact codec_Pack.mono _ _ _
      | exact codec_PutInt.mono _ _ _
      | exact codec_Width.mono _ _
      | exact shapesearchkeep_Ints.mono _ _ _
      | exact shapesearchlaw03_awake.mono _
      | exact shapesearchref03_Int.mono _ _ _
      | exact shapesearchref03_Pack.mono _ _ _
      | exact shapesearchref03_PutInt.mono _ _ _
      | exact shapesearchref03_Sum.mono _ _
      | exact shapesearchref03_Unpack.mono _ _ _ _
      | exact shapesearchref03_Width.mono _ _
      | exact LeO.none _
      | refine LeO.ite ?_ ?_
      | refine LeO.bind ?_ (fun _ => ?_)
def shapesearchlaw03_CodecAnswers.T11 : Bool × List (List Nat × List Nat) := (true, [([], []), ([], []), ([0, 1], [0, 1]), ([2], [2]), ([], []), ([4], [4]), ([3, 5], [3, 5]), ([6, 2], [6]), ([7], [7]), ([7], [7]), ([8, 9, 7], [7, 8, 9]), ([7, 10], [7, 10]), ([11, 7], [11]), ([12], [12]), ([12], [12]), ([13, 14, 12], [12, 13, 14]), ([12, 15], [12, 15]), ([16, 12], [16]), ([17], [17]), ([17], [17]), ([18, 19, 17], [17, 18, 19]), ([17, 20], [17, 20])])
def shapesearchlaw03_CodecAnswers.B11 : List Nat := [0, 0, 3, 7, 0, 16, 63, 127, 255, 255, 1023, 2047, 4095, 8191, 8191, 32767, 65535, 131071, 262143, 262143, 1048575, 2097151]
theorem shapesearchlaw03_CodecAnswers.tab11 : rtab .any (opsOf Try.f6 11) = shapesearchlaw03_CodecAnswers.T11 := by kernel_rfl
theorem shapesearchlaw03_CodecAnswers.bits11 : waitsOk shapesearchlaw03_CodecAnswers.T11.2 shapesearchlaw03_CodecAnswers.B11 = true := by kernel_rfl
set_option maxHeartbeats 8000000 in
set_option maxRecDepth 100000 in
theorem shapesearchlaw03_CodecAnswers.calls (k : Nat) (A0 : Option Addr) (c0 : Nat) (l0 : List Int) (a1 : Int) (a2 : Int) (A3 : Option Addr) (c3 : Nat) (l3 : List Int) (a4 : Int) (a5 : Int) (A6 : Option Addr) (c6 : Nat) (l6 : List Int) (r : Bool) (w : World) (hr0 : Kd.C (Kd.int .u8) w A0 l0.length l0) (hc0 : l0.length ≤ c0) (hr3 : Kd.C (Kd.int .i64) w A3 l3.length l3) (hc3 : l3.length ≤ c3) (hr6 : Kd.C (Kd.int .i64) w A6 l6.length l6) (hc6 : l6.length ≤ c6) (h : shapesearchlaw03_CodecAnswers.f k l0 a1 a2 l3 a4 a5 l6 = some r) (hT_ : r = true) :
    Calls Try.prog 6 #[.slice A0 l0.length c0, .int .i64 a1, .int .i64 a2, .slice A3 l3.length c3, .int .i64 a4, .int .i64 a5, .slice A6 l6.length c6] w fun e w' => e = .returned (.bool r) ∧ Below w.heap.size w w' := by
  have HT_ := Aside0.mk hT_
  clear hT_
  have HR0 := Aside0.mk hr0
  have HC0 := Aside0.mk hc0
  clear hr0 hc0
  have HR3 := Aside0.mk hr3
  have HC3 := Aside0.mk hc3
  clear hr3 hc3
  have HR6 := Aside0.mk hr6
  have HC6 := Aside0.mk hc6
  clear hr6 hc6
  have HB := Aside0.mk (Below.refl w.heap.size w)
  have H : (if (l0.length : Int) > 300 then ((shapesearchlaw03_awake.f k).bind fun t207 => (some t207)) else (if (l3.length : Int) > 300 then ((shapesearchlaw03_awake.f k).bind fun t208 => (some t208)) else ((shapesearchkeep_New.f l6).bind fun bt209 => ((shapesearchkeep_Src_Raw.f bt209.1 bt209.2).bind fun bt212 => ((some (([a2, bt212.1, (-9223372036854775808), 9223372036854775807] : List Int) : List Int)).bind fun y214 => (shapesearchlaw03_CodecAnswers.l0 k l0 a1 l3 a4 a5 y214 (y214.length : Int) 0 bt209.1 bt212.2)))))) = some r := h
  clear h
  by_cases c8 : (l0.length : Int) > 300
  · rw [if_pos c8] at H
    have c8b0 : decide (300 < (l0.length : Int)) = true := decide_eq_true c8
    have c8b1 : decide (300 < l0.length) = true := decide_eq_true (by omega)
    clear c8
    replace H := Option.bind_eq_some_iff.mp H
    obtain ⟨t207, A90, H⟩ := H
    replace H : (some t207) = some r := H
    have A9 := Aside0.mk A90
    clear A90
    obtain rfl := Option.some.inj H
    go_enter Try.func6, Try.ntmps6
    go_wp2_with (first | ((with_reducible refine gate_callee (f := 9) rfl ?_); refine goesL_ (some 60) rfl rfl Try.func9 (by kernel_rfl) rfl #[] rfl (by (try simp only [List.map_toArray, List.map_cons, List.map_nil]); first | done | rfl | (simp only [List.length_drop, List.length_take]; rfl)) ?_; (with_reducible refine (shapesearchlaw03_awake.calls k  t207 _ A9.out).mono ?_); rintro e w10 ⟨rfl, hb⟩; refine ⟨_, rfl, ?_⟩; have n0_ := Aside0.mk (below_step (by repeat (first | (with_reducible first | exact HB.out | apply below_alloc | apply pw_below_drewN | apply below_drew1) | exact HB.out)) hb); clear HB; have HB := n0_; clear n0_; (try clear hb); (try clear hb2); (try clear hk); (try clear hi)))
    go_ret
    exact ⟨by first | rfl | (simp [errW_none, errW_some] <;> rfl) | (simp [*, errW_none, errW_some] <;> rfl), by repeat (first | (with_reducible first | exact HB.out | apply below_alloc | apply pw_below_drewN | apply below_drew1) | exact HB.out)⟩
  · rw [if_neg c8] at H
    have c8b0 : decide (300 < (l0.length : Int)) = false := decide_eq_false c8
    have c8b1 : decide (300 < l0.length) = false := decide_eq_false (by omega)
    clear c8
    by_cases c11 : (l3.length : Int) > 300
    · rw [if_pos c11] at H
      have c11b0 : decide (300 < (l3.length : Int)) = true := decide_eq_true c11
      have c11b1 : decide (300 < l3.length) = true := decide_eq_true (by omega)
      clear c11
      replace H := Option.bind_eq_some_iff.mp H
      obtain ⟨t208, A120, H⟩ := H
      replace H : (some t208) = some r := H
      have A12 := Aside0.mk A120
      clear A120
      obtain rfl := Option.some.inj H
      go_enter Try.func6, Try.ntmps6
      go_wp2_with (first | ((with_reducible refine gate_callee (f := 9) rfl ?_); refine goesL_ (some 60) rfl rfl Try.func9 (by kernel_rfl) rfl #[] rfl (by (try simp only [List.map_toArray, List.map_cons, List.map_nil]); first | done | rfl | (simp only [List.length_drop, List.length_take]; rfl)) ?_; (with_reducible refine (shapesearchlaw03_awake.calls k  t208 _ A12.out).mono ?_); rintro e w13 ⟨rfl, hb⟩; refine ⟨_, rfl, ?_⟩; have n0_ := Aside0.mk (below_step (by repeat (first | (with_reducible first | exact HB.out | apply below_alloc | apply pw_below_drewN | apply below_drew1) | exact HB.out)) hb); clear HB; have HB := n0_; clear n0_; (try clear hb); (try clear hb2); (try clear hk); (try clear hi)))
      go_ret
      exact ⟨by first | rfl | (simp [errW_none, errW_some] <;> rfl) | (simp [*, errW_none, errW_some] <;> rfl), by repeat (first | (with_reducible first | exact HB.out | apply below_alloc | apply pw_below_drewN | apply below_drew1) | exact HB.out)⟩
    · rw [if_neg c11] at H
      have c11b0 : decide (300 < (l3.length : Int)) = false := decide_eq_false c11
      have c11b1 : decide (300 < l3.length) = false := decide_eq_false (by omega)
      clear c11
      replace H := Option.bind_eq_some_iff.mp H
      obtain ⟨⟨t209, t210⟩, A140, H⟩ := H
      replace H : ((shapesearchkeep_Src_Raw.f t209 t210).bind fun bt212 => ((some (([a2, bt212.1, (-9223372036854775808), 9223372036854775807] : List Int) : List Int)).bind fun y214 => (shapesearchlaw03_CodecAnswers.l0 k l0 a1 l3 a4 a5 y214 (y214.length : Int) 0 t209 bt212.2))) = some r := H
      have A14 := Aside0.mk A140
      clear A140
      replace H := Option.bind_eq_some_iff.mp H
      obtain ⟨⟨t212, t213⟩, A150, H⟩ := H
      replace H : ((some (([a2, t212, (-9223372036854775808), 9223372036854775807] : List Int) : List Int)).bind fun y214 => (shapesearchlaw03_CodecAnswers.l0 k l0 a1 l3 a4 a5 y214 (y214.length : Int) 0 t209 t213)) = some r := H
      have A15 := Aside0.mk A150
      clear A150
      obtain ⟨y214, hy214⟩ : ∃ y_ : List Int, y_ = (([a2, t212, (-9223372036854775808), 9223372036854775807] : List Int)) := ⟨_, rfl⟩
      replace H : (shapesearchlaw03_CodecAnswers.l0 k l0 a1 l3 a4 a5 y214 (y214.length : Int) 0 t209 t213) = some r := by first | (rw [hy214]; with_reducible exact H) | (have H2_ := (Option.bind_some _ _).symm.trans H; rw [hy214]; with_reducible exact H2_) | (have H2_ := (Option.bind_some _ _).symm.trans H; with_reducible exact H2_) | with_reducible exact H | (rw [hy214]; exact H) | exact H
      have Ny214 := Aside0.mk hy214
      clear hy214
      have H' := Aside0.mk H
      clear H
      go_enter Try.func6, Try.ntmps6
      go_wp2_with (first | ((with_reducible refine gate_callee (f := 15) rfl ?_); refine goesL_ (some 62) rfl rfl Try.func15 (by kernel_rfl) rfl #[.slice A6 l6.length c6] rfl (by (try simp only [List.map_toArray, List.map_cons, List.map_nil]); first | done | rfl | (simp only [List.length_drop, List.length_take]; rfl)) ?_; (with_reducible refine (shapesearchkeep_New.calls _ _ l6 t209 t210 w _ ?side1 ?side2 ?side3 A14.out).mono ?_); (case side1 => repeat (first | (with_reducible first | exact HB.out | apply below_alloc | apply pw_below_drewN | apply below_drew1) | exact HB.out)); (case side2 => exact HR6.out); (case side3 => exact HC6.out); rintro e w16 ⟨g211, rfl, hi, hb, hb2⟩; refine ⟨_, rfl, ?_⟩; have n0_ := Aside0.mk (hb); have n1_ := Aside0.mk (hi); clear HB; have HB := n0_; have HI211 := n1_; clear n0_ n1_; (try clear hb); (try clear hb2); (try clear hk); (try clear hi)) | ((with_reducible refine gate_callee (f := 16) rfl ?_); refine goesL_ (some 65) rfl rfl Try.func16 (by kernel_rfl) rfl #[.pointer (some ⟨g211, 0, none⟩)] rfl (by (try simp only [List.map_toArray, List.map_cons, List.map_nil]); first | done | rfl | (simp only [List.length_drop, List.length_take]; rfl)) ?_; (with_reducible refine (shapesearchkeep_Src_Raw.calls g211 t209 t210 t212 t213 w _ ?side1 ?side2 A15.out).mono ?_); (case side1 => repeat (first | (with_reducible first | exact HI211.out | apply IsS57.alloc | apply IsS57.drewN | apply IsS57.drew | apply IsS57.set_1) | exact HI211.out)); (case side2 => repeat (first | (with_reducible first | exact HB.out | apply below_alloc | apply pw_below_drewN | apply below_drew1 | refine below_set ?_ (IsS57.ge HI211.out)) | exact HB.out)); rintro e w17 ⟨rfl, hi, hb, hk⟩; refine ⟨_, rfl, ?_⟩; have n0_ := Aside0.mk (hb); have n1_ := Aside0.mk (hi); clear HB; clear HI211; have HB := n0_; have HI211 := n1_; clear n0_ n1_; (try clear hb); (try clear hb2); (try clear hk); (try clear hi)) | ((with_reducible refine gate_dst (N := 66) rfl ?_); (try (refine gate_guard (by rfl) ?_; dsimp only)); refine Kd.R_lit (Kd.int .i64) _ 3 ?hg (N := 66) ?hd (xs := ([a2, t212, (-9223372036854775808), 9223372036854775807] : List Int)) (inner := [.int .i64 a2, .int .i64 t212, .int .i64 (-9223372036854775808), .int .i64 9223372036854775807]) (ok := fun _ => True) (okp := fun _ => True) ?hr ?hp (fun _ hk => hk) trivial (Below.refl _ _) (Nat.le_refl _) (by simp) ?_; (case hd => rfl); (case hg => rfl); (case hr => first | (go_simp; done) | (go_simp; rfl)); (case hp => exact (Reps.one (show Kd.M (Kd.int .i64) _ _ _ a2 [.int .i64 a2] from rfl) (Reps.one (show Kd.M (Kd.int .i64) _ _ _ t212 [.int .i64 t212] from rfl) (Reps.one (show Kd.M (Kd.int .i64) _ _ _ (-9223372036854775808) [.int .i64 (-9223372036854775808)] from rfl) (Reps.one (show Kd.M (Kd.int .i64) _ _ _ 9223372036854775807 [.int .i64 9223372036854775807] from rfl) (Reps.none _ _)))))); intro v215 w18 ho19 hb hg_ hnew_; clear hg_ hnew_; (first | rw [← Ny214.out] at ho19 | (simp only [Int.reduceToNat] at ho19; rw [← Ny214.out] at ho19)); have n0_ := Aside0.mk (Kd.R_lower ho19 (below_size (by repeat (first | (with_reducible first | exact HB.out | apply below_alloc | apply pw_below_drewN | apply below_drew1 | refine below_set ?_ (IsS57.ge HI211.out)) | exact HB.out)))); have n1_ := Aside0.mk (IsS57.below (by repeat (first | (with_reducible first | exact HI211.out | apply IsS57.alloc | apply IsS57.drewN | apply IsS57.drew | apply IsS57.set_1) | exact HI211.out)) hb); have n2_ := Aside0.mk (below_step (by repeat (first | (with_reducible first | exact HB.out | apply below_alloc | apply pw_below_drewN | apply below_drew1 | refine below_set ?_ (IsS57.ge HI211.out)) | exact HB.out)) hb); clear HI211; clear HB; have HO216 := n0_; have HI211 := n1_; have HB := n2_; clear n0_ n1_ n2_; clear hb ho19; obtain ⟨Ao20, co20, eo20⟩ := Kd.R_slice HO216.out; subst eo20))
      go_loopg [68] k (fun kq v68 w' => ∃ (x68_1 : Int) (x212001_1 : Int), v68 = .int .i64 x68_1 ∧ Aside0 (shapesearchlaw03_CodecAnswers.l0 kq l0 a1 l3 a4 a5 y214 (y214.length : Int) x68_1 t209 x212001_1 = some r) ∧ Aside0 (kq ≤ k) ∧ Aside0 (Kd.R (Kd.int .i64) 3 w' w.heap.size (fun _ => True) (.slice Ao20 y214.length co20) y214) ∧ Aside0 (IsS57 w w' g211 t209 x212001_1) ∧ Aside0 (Below w.heap.size w w'))
      case atStart => exact ⟨(0), (t213), (by first | rfl | (simp; done) | (simp [*]; done)), H', ⟨Nat.le_refl _⟩, ⟨by (with_reducible repeat (first | apply Kd.R_alloc | apply Kd.R_drewN | apply Kd.R_drew)); exact HO216.out⟩, ⟨by repeat (first | (with_reducible first | exact HI211.out | apply IsS57.alloc | apply IsS57.drewN | apply IsS57.drew | apply IsS57.set_1) | exact HI211.out)⟩, ⟨by repeat (first | (with_reducible first | exact HB.out | apply below_alloc | apply pw_below_drewN | apply below_drew1 | refine below_set ?_ (IsS57.ge HI211.out)) | exact HB.out)⟩⟩
      case round =>
        clear H'
        try clear c1
        try clear p2
        try clear c3
        try clear c6
        try clear c8
        try clear c8b0
        try clear c8b1
        try clear c9
        try clear c11
        try clear c11b0
        try clear c11b1
        try clear c15
        try clear c16
        obtain ⟨x68_1, x212001_1, rfl, HA, HK1, HO_66, HI211, HB⟩ := hrel
        cases gk with
        | zero => exact absurd HA.out (by simp [shapesearchlaw03_CodecAnswers.l0])
        | succ k1 =>
          have H := HA.out
          clear HA
          simp only [shapesearchlaw03_CodecAnswers.l0] at H
          by_cases c21 : x68_1 < (y214.length : Int)
          · rw [if_pos c21] at H
            have c21b0 : decide (x68_1 < (y214.length : Int)) = true := decide_eq_true c21
            clear c21
            by_cases c22 : 0 ≤ x68_1
            · rw [if_pos c22] at H
              have c22b0 : decide (0 ≤ x68_1) = true := decide_eq_true c22
              clear c22
              by_cases c23 : x68_1 < (y214.length : Int)
              · rw [if_pos c23] at H
                have c23b0 : decide (x68_1 < (y214.length : Int)) = true := decide_eq_true c23
                clear c23
                replace H := Option.bind_eq_some_iff.mp H
                obtain ⟨t218, A240, H⟩ := H
                replace H : ((shapesearchkeep_Src_Bytes.f t209 x212001_1 t218).bind fun bt221 => ((codec_Int.f k1 bt221.1 (l0.length : Int)).bind fun bt225 => ((shapesearchref03_Int.f k1 bt221.1 (l0.length : Int)).bind fun bt228 => ((codec_PutInt.f k1 l0 (rd y214 x68_1)).bind fun t231 => (if (strOfNums t231).toList = (strOfNums t218).toList then (if bt225.1 = bt228.1 then (if bt225.2.1 = bt228.2.1 then (if bt225.2.2 = bt228.2.2 then (shapesearchlaw03_CodecAnswers.l0 k1 l0 a1 l3 a4 a5 y214 (y214.length : Int) (wrap64 (x68_1 + 1)) t209 bt221.2) else (some false)) else (some false)) else (some false)) else (some false)))))) = some r := H
                have A24 := Aside0.mk A240
                clear A240
                replace H := Option.bind_eq_some_iff.mp H
                obtain ⟨⟨t221, t224⟩, A250, H⟩ := H
                replace H : ((codec_Int.f k1 t221 (l0.length : Int)).bind fun bt225 => ((shapesearchref03_Int.f k1 t221 (l0.length : Int)).bind fun bt228 => ((codec_PutInt.f k1 l0 (rd y214 x68_1)).bind fun t231 => (if (strOfNums t231).toList = (strOfNums t218).toList then (if bt225.1 = bt228.1 then (if bt225.2.1 = bt228.2.1 then (if bt225.2.2 = bt228.2.2 then (shapesearchlaw03_CodecAnswers.l0 k1 l0 a1 l3 a4 a5 y214 (y214.length : Int) (wrap64 (x68_1 + 1)) t209 t224) else (some false)) else (some false)) else (some false)) else (some false))))) = some r := H
                have A25 := Aside0.mk A250
                clear A250
                replace H := Option.bind_eq_some_iff.mp H
                obtain ⟨⟨t225, t226, t227⟩, A260, H⟩ := H
                replace H : ((shapesearchref03_Int.f k1 t221 (l0.length : Int)).bind fun bt228 => ((codec_PutInt.f k1 l0 (rd y214 x68_1)).bind fun t231 => (if (strOfNums t231).toList = (strOfNums t218).toList then (if t225 = bt228.1 then (if t226 = bt228.2.1 then (if t227 = bt228.2.2 then (shapesearchlaw03_CodecAnswers.l0 k1 l0 a1 l3 a4 a5 y214 (y214.length : Int) (wrap64 (x68_1 + 1)) t209 t224) else (some false)) else (some false)) else (some false)) else (some false)))) = some r := H
                have A26 := Aside0.mk A260
                clear A260
                replace H := Option.bind_eq_some_iff.mp H
                obtain ⟨⟨t228, t229, t230⟩, A270, H⟩ := H
                replace H : ((codec_PutInt.f k1 l0 (rd y214 x68_1)).bind fun t231 => (if (strOfNums t231).toList = (strOfNums t218).toList then (if t225 = t228 then (if t226 = t229 then (if t227 = t230 then (shapesearchlaw03_CodecAnswers.l0 k1 l0 a1 l3 a4 a5 y214 (y214.length : Int) (wrap64 (x68_1 + 1)) t209 t224) else (some false)) else (some false)) else (some false)) else (some false))) = some r := H
                have A27 := Aside0.mk A270
                clear A270
                replace H := Option.bind_eq_some_iff.mp H
                obtain ⟨t231, A280, H⟩ := H
                replace H : (if (strOfNums t231).toList = (strOfNums t218).toList then (if t225 = t228 then (if t226 = t229 then (if t227 = t230 then (shapesearchlaw03_CodecAnswers.l0 k1 l0 a1 l3 a4 a5 y214 (y214.length : Int) (wrap64 (x68_1 + 1)) t209 t224) else (some false)) else (some false)) else (some false)) else (some false)) = some r := H
                have A28 := Aside0.mk A280
                clear A280
                by_cases c29 : (strOfNums t231).toList = (strOfNums t218).toList
                · rw [if_pos c29] at H
                  have c29b0 : ((strOfNums t231).toList == (strOfNums t218).toList) = true := beq_iff_eq.mpr c29
                  have c29b1 : ((strOfNums t231).toList != (strOfNums t218).toList) = false := bne_eq_false_iff_eq.mpr c29
                  clear c29
                  by_cases c30 : t225 = t228
                  · rw [if_pos c30] at H
                    have c30b0 : (t225 == t228) = true := beq_iff_eq.mpr c30
                    have c30b1 : (t225 != t228) = false := bne_eq_false_iff_eq.mpr c30
                    clear c30
                    by_cases c31 : t226 = t229
                    · rw [if_pos c31] at H
                      have c31b0 : (t226 == t229) = true := beq_iff_eq.mpr c31
                      have c31b1 : (t226 != t229) = false := bne_eq_false_iff_eq.mpr c31
                      clear c31
                      by_cases c32 : t227 = t230
                      · rw [if_pos c32] at H
                        have c32b0 : (t227 == t230) = true := beq_iff_eq.mpr c32
                        have c32b1 : (t227 != t230) = false := bne_eq_false_iff_eq.mpr c32
                        clear c32
                        have H' := Aside0.mk H
                        clear H
                        have p217 : 0 ≤ (x68_1 : Int) := of_decide_eq_true (by first | (with_reducible assumption) | assumption)
                        have q217 : x68_1 < (y214.length : Int) := of_decide_eq_true (by first | (with_reducible assumption) | assumption)
                        obtain ⟨ad217, e217, hx217_0⟩ := Kd.at_int (Kd.R_reads' HO_66.out).2.2 x68_1 p217 q217
                        cases e217
                        replace p217 := eq_true p217
                        replace q217 := eq_true q217
                        try go_wp2_with (first | ((with_reducible refine gate_callee (f := 17) rfl ?_); refine goesL_ (some 74) rfl rfl Try.func17 (by kernel_rfl) rfl #[.slice A0 l0.length c0, .int .i64 (rd y214 x68_1)] rfl (by (try simp only [List.map_toArray, List.map_cons, List.map_nil]); first | done | rfl | (simp only [List.length_drop, List.length_take]; rfl)) ?_; (with_reducible refine (shapesearchref03_PutInt.calls k1 _ _ l0 (rd y214 x68_1) t218 _ ?side1 ?side2 A24.out).mono ?_); (case side1 => repeat (first | exact (Kd.C_below HR0.out HB.out) | (with_reducible refine Kd.C_alloc ?_ _) | (with_reducible refine Kd.C_drewN ?_ _) | (with_reducible refine Kd.C_drew ?_))); (case side2 => exact HC0.out); rintro e w33 ⟨v219, rfl, ho0, hb⟩; refine ⟨_, rfl, ?_⟩; have n0_ := Aside0.mk (Kd.R_below (by (with_reducible repeat (first | apply Kd.R_alloc | apply Kd.R_drewN | apply Kd.R_drew)); exact HO_66.out) hb); have n1_ := Aside0.mk (Kd.R_lower ho0 (below_size (by repeat (first | (with_reducible first | exact HB.out | apply below_alloc | apply pw_below_drewN | apply below_drew1 | refine below_set ?_ (IsS57.ge HI211.out)) | exact HB.out)))); have n2_ := Aside0.mk (IsS57.below (by repeat (first | (with_reducible first | exact HI211.out | apply IsS57.alloc | apply IsS57.drewN | apply IsS57.drew | apply IsS57.set_1) | exact HI211.out)) hb); have n3_ := Aside0.mk (below_step (by repeat (first | (with_reducible first | exact HB.out | apply below_alloc | apply pw_below_drewN | apply below_drew1 | refine below_set ?_ (IsS57.ge HI211.out)) | exact HB.out)) hb); clear HO_66; clear HI211; clear HB; have HO_66 := n0_; have HO220 := n1_; have HI211 := n2_; have HB := n3_; clear n0_ n1_ n2_ n3_; (try clear hb); (try clear hb2); (try clear hk); (try clear hi); (try clear ho0); obtain ⟨Ao34, co34, eo34⟩ := Kd.R_slice HO220.out; subst eo34) | ((with_reducible refine gate_callee (f := 18) rfl ?_); refine goesL_ (some 77) rfl rfl Try.func18 (by kernel_rfl) rfl #[.pointer (some ⟨g211, 0, none⟩), .slice Ao34 t218.length co34] rfl (by (try simp only [List.map_toArray, List.map_cons, List.map_nil]); first | done | rfl | (simp only [List.length_drop, List.length_take]; rfl)) ?_; (with_reducible refine (shapesearchkeep_Src_Bytes.calls g211 t209 x212001_1 _ _ t218 t221 t224 w _ ?side1 ?side2 ?side3 ?side4 ?side5 A25.out).mono ?_); (case side1 => repeat (first | (with_reducible first | exact HI211.out | apply IsS57.alloc | apply IsS57.drewN | apply IsS57.drew | apply IsS57.set_1) | exact HI211.out)); (case side2 => repeat (first | (with_reducible first | exact HB.out | apply below_alloc | apply pw_below_drewN | apply below_drew1 | refine below_set ?_ (IsS57.ge HI211.out)) | exact HB.out)); (case side3 => repeat (first | exact (Kd.R_reads' HO220.out).2.2 | (with_reducible refine Kd.C_alloc ?_ _) | (with_reducible refine Kd.C_drewN ?_ _) | (with_reducible refine Kd.C_drew ?_))); (case side4 => exact (Kd.R_reads' HO220.out).2.1); (case side5 => exact far_slice (IsS57.own_ne HI211.out HO220.out (by decide))); rintro e w35 ⟨v222, rfl, ho0, hi, hb, hk⟩; refine ⟨_, rfl, ?_⟩; have n0_ := Aside0.mk (Kd.R_mono (Kd.R_keep (IsS57.apart (show IsS57 w _ g211 t209 x212001_1 from by repeat (first | (with_reducible first | exact HI211.out | apply IsS57.alloc | apply IsS57.drewN | apply IsS57.drew | apply IsS57.set_1) | exact HI211.out)) (by (with_reducible repeat (first | apply Kd.R_alloc | apply Kd.R_drewN | apply Kd.R_drew)); exact HO_66.out) (by decide)) hk (fun _ h => h.2)) (fun _ h => h.1)); have n1_ := Aside0.mk (Kd.R_mono (Kd.R_told (Kd.R_oldK (IsS57.apart (show IsS57 w _ g211 t209 x212001_1 from by repeat (first | (with_reducible first | exact HI211.out | apply IsS57.alloc | apply IsS57.drewN | apply IsS57.drew | apply IsS57.set_1) | exact HI211.out)) (by (with_reducible repeat (first | apply Kd.R_alloc | apply Kd.R_drewN | apply Kd.R_drew)); exact HO220.out) (by decide)) hk) (Kd.R_base ho0)) (fun _ h_ => h_.1)); have n2_ := Aside0.mk (Kd.R_lower (Kd.R_new' ho0 (Kd.R_lt (by (with_reducible repeat (first | apply Kd.R_alloc | apply Kd.R_drewN | apply Kd.R_drew)); exact HO220.out))) (below_size (by repeat (first | (with_reducible first | exact HB.out | apply below_alloc | apply pw_below_drewN | apply below_drew1 | refine below_set ?_ (IsS57.ge HI211.out)) | exact HB.out)))); have n3_ := Aside0.mk (hb); have n4_ := Aside0.mk (hi); clear HO_66; clear HO220; clear HB; clear HI211; have HO_66 := n0_; have HO220 := n1_; have HO223 := n2_; have HB := n3_; have HI211 := n4_; clear n0_ n1_ n2_ n3_ n4_; (try clear hb); (try clear hb2); (try clear hk); (try clear hi); (try clear ho0); obtain ⟨Ao36, co36, eo36⟩ := Kd.R_slice HO223.out; subst eo36) | ((with_reducible refine gate_callee (f := 11) rfl ?_); refine goesL_ (some 82) rfl rfl Try.func11 (by kernel_rfl) rfl #[.slice Ao36 t221.length co36, .int .i64 (l0.length : Int)] rfl (by (try simp only [List.map_toArray, List.map_cons, List.map_nil]); first | done | rfl | (simp only [List.length_drop, List.length_take]; rfl)) ?_; (with_reducible refine (codec_Int.calls k1 _ _ t221 (l0.length : Int) t225 t226 t227 _ ?side1 ?side2 A26.out).mono ?_); (case side1 => repeat (first | exact (Kd.R_reads' HO223.out).2.2 | (with_reducible refine Kd.C_alloc ?_ _) | (with_reducible refine Kd.C_drewN ?_ _) | (with_reducible refine Kd.C_drew ?_))); (case side2 => exact (Kd.R_reads' HO223.out).2.1); rintro e w' ⟨rfl, ⟨nd, rfl⟩⟩; refine ⟨_, rfl, ?_⟩) | ((with_reducible refine gate_callee (f := 19) rfl ?_); refine goesL_ (some 90) rfl rfl Try.func19 (by kernel_rfl) rfl #[.slice Ao36 t221.length co36, .int .i64 (l0.length : Int)] rfl (by (try simp only [List.map_toArray, List.map_cons, List.map_nil]); first | done | rfl | (simp only [List.length_drop, List.length_take]; rfl)) ?_; (with_reducible refine (shapesearchref03_Int.calls k1 _ _ t221 (l0.length : Int) t228 t229 t230 _ ?side1 ?side2 A27.out).mono ?_); (case side1 => repeat (first | exact (Kd.R_reads' HO223.out).2.2 | (with_reducible refine Kd.C_alloc ?_ _) | (with_reducible refine Kd.C_drewN ?_ _) | (with_reducible refine Kd.C_drew ?_))); (case side2 => exact (Kd.R_reads' HO223.out).2.1); rintro e w' ⟨rfl, ⟨nd, rfl⟩⟩; refine ⟨_, rfl, ?_⟩))
                        (try (rw [drewN_self w35]; generalize hq_ : World.drewN w35 _ = w35; have n0_ : Aside0 (Kd.R (Kd.int .u8) 5 w35 w.heap.size (fun k_ => some k_ ≠ (.slice Ao36 t221.length co36 : Value).ownBlock) (.slice Ao34 t218.length co34) t218) := ⟨by rw [← hq_]; exact (by (with_reducible repeat (first | apply Kd.R_alloc | apply Kd.R_drewN | apply Kd.R_drew)); exact Kd.R_mono HO220.out (fun _ hk => hk.2))⟩; have n1_ : Aside0 (Kd.R (Kd.int .u8) 5 w35 w.heap.size (fun k_ => some k_ ≠ (.slice Ao34 t218.length co34 : Value).ownBlock) (.slice Ao36 t221.length co36) t221) := ⟨by rw [← hq_]; exact (by (with_reducible repeat (first | apply Kd.R_alloc | apply Kd.R_drewN | apply Kd.R_drew)); exact Kd.R_mono HO223.out (fun _ hk => hk.2))⟩; have n2_ : Aside0 (Kd.R (Kd.int .i64) 3 w35 w.heap.size (fun _ => True) (.slice (some ad217) y214.length co20) y214) := ⟨by rw [← hq_]; exact (by (with_reducible repeat (first | apply Kd.R_alloc | apply Kd.R_drewN | apply Kd.R_drew)); exact HO_66.out)⟩; have n3_ : Aside0 (IsS57 w w35 g211 t209 t224) := ⟨by rw [← hq_]; exact (by repeat (first | (with_reducible first | exact HI211.out | apply IsS57.alloc | apply IsS57.drewN | apply IsS57.drew | apply IsS57.set_1) | exact HI211.out))⟩; have n4_ : Aside0 (Below w.heap.size w w35) := ⟨by rw [← hq_]; exact (by repeat (first | (with_reducible first | exact HB.out | apply below_alloc | apply pw_below_drewN | apply below_drew1 | refine below_set ?_ (IsS57.ge HI211.out)) | exact HB.out))⟩; clear HO220 HO223 HO_66 HI211 HB hq_; have HO220 := n0_; have HO223 := n1_; have HO_66 := n2_; have HI211 := n3_; have HB := n4_; clear n0_ n1_ n2_ n3_ n4_))
                        have n0_ := Aside0.mk (Kd.R_drew HO_66.out)
                        have n1_ := Aside0.mk (Kd.R_drew HO220.out)
                        have n2_ := Aside0.mk (Kd.R_drew HO223.out)
                        have n3_ := Aside0.mk (IsS57.drew HI211.out)
                        have n4_ := Aside0.mk (below_drew1 HB.out)
                        clear HO_66
                        clear HO220
                        clear HO223
                        clear HI211
                        clear HB
                        have HO_66 := n0_
                        have HO220 := n1_
                        have HO223 := n2_
                        have HI211 := n3_
                        have HB := n4_
                        clear n0_ n1_ n2_ n3_ n4_
                        refine start_ (n := 22) (S := fun w' => (convert 22 9 (.slice Ao34 t218.length co34)).run Try.prog w' = .ok (.string (strOfNums t218)) w') (ds := []) #[false, false, false, false, false, false, false, false, false, false, false, false, false, false, false, false, false, false, false, false, false, false] (by kernel_rfl) rfl rfl (own_string (P := Try.prog) Try.underlying22 Try.underlying5 Try.underlying9 (Kd.own_of_R HO220.out)) (fun hHeld => ?_); refine with_tabW shapesearchlaw03_CodecAnswers.tab11 shapesearchlaw03_CodecAnswers.bits11 (fun HT_ HW_ => ?_)
                        generalize w35.drew = w37 at HO_66 HO220 HO223 HI211 HB hHeld ⊢
                        refine pure_ (i := 0) (N := some 94) (v := ?_) (a' := ?_) #[true, false, false, false, false, false, false, false, false, false, false, false, false, false, false, false, false, false, false, false, false, false] rfl rfl (any_of HT_.out (by kernel_rfl)) (fun _ _ _ h => h) (Or.inl ⟨by rfl, ?_⟩) ?_ ?_
                        rotate_left
                        · intro w'
                          go_simp
                          with_reducible rfl
                        rotate_left
                        · simp only [Act.put, List.setIfInBounds_toArray, List.set_cons_zero, List.set_cons_succ, i64_w, i32_w]
                          rfl
                        refine pure_ (i := 1) (N := some 95) (v := ?_) (a' := ?_) #[true, true, false, false, false, false, false, false, false, false, false, false, false, false, false, false, false, false, false, false, false, false] rfl rfl (any_of HT_.out (by kernel_rfl)) (fun _ _ _ h => h) (Or.inl ⟨by rfl, ?_⟩) ?_ ?_
                        rotate_left
                        · intro w'
                          go_simp
                          with_reducible rfl
                        rotate_left
                        · simp only [Act.put, List.setIfInBounds_toArray, List.set_cons_zero, List.set_cons_succ, i64_w, i32_w]
                          rfl
                        refine pure_ (i := 4) (N := some 98) (v := ?_) (a' := ?_) #[true, true, false, false, true, false, false, false, false, false, false, false, false, false, false, false, false, false, false, false, false, false] rfl rfl (any_of HT_.out (by kernel_rfl)) (fun _ _ _ h => h) (Or.inl ⟨by rfl, ?_⟩) ?_ ?_
                        rotate_left
                        · intro w'
                          go_simp
                          with_reducible rfl
                        rotate_left
                        · simp only [Act.put, List.setIfInBounds_toArray, List.set_cons_zero, List.set_cons_succ, i64_w, i32_w]
                          rfl
                        refine take_ (i := 5) (N := some 99) (v := ?_) (a' := ?_) #[true, true, false, false, true, true, false, false, false, false, false, false, false, false, false, false, false, false, false, false, false, false] rfl rfl (take_ofW HT_.out HW_.out (by kernel_rfl)) (fun _ _ _ h => h) (Or.inl ⟨by rfl, ?_⟩) hHeld ?_ ?_
                        rotate_left
                        · intro w' s0
                          go_simp
                          first | with_reducible rfl | (rw [s0]; rfl)
                        rotate_left
                        · simp only [Act.put, List.setIfInBounds_toArray, List.set_cons_zero, List.set_cons_succ, i64_w, i32_w]
                          rfl
                        refine one_ (i := 2) (N := some 96) #[true, true, true, false, true, true, false, false, false, false, false, false, false, false, false, false, false, false, false, false, false, false] rfl rfl (one_of HT_.out (by kernel_rfl)) (by decide) (fun K hK => ?_)
                        refine goes_ Try.func10 (by kernel_rfl) rfl #[.slice A0 l0.length c0, .int .i64 (rd y214 x68_1)] (by rfl) rfl rfl (by (try simp only [List.map_toArray, List.map_cons, List.map_nil]); first | done | rfl | (simp only [List.length_drop, List.length_take]; rfl)) ?_
                        with_reducible refine (codec_PutInt.calls k1 _ _ l0 (rd y214 x68_1) t231 _ ?side1 ?side2 A28.out).mono ?_
                        (case side1 => repeat (first | exact (Kd.C_below HR0.out HB.out) | (with_reducible refine Kd.C_alloc ?_ _) | (with_reducible refine Kd.C_drewN ?_ _) | (with_reducible refine Kd.C_drew ?_)))
                        (case side2 => exact HC0.out)
                        rintro e w38 ⟨v232, rfl, ho0, hb⟩
                        refine ⟨_, rfl, ?_⟩
                        have n0_ := Aside0.mk (Kd.R_below (by (with_reducible repeat (first | apply Kd.R_alloc | apply Kd.R_drewN | apply Kd.R_drew)); exact HO_66.out) hb)
                        have n1_ := Aside0.mk (Kd.R_elder' (by (with_reducible repeat (first | apply Kd.R_alloc | apply Kd.R_drewN | apply Kd.R_drew)); exact HO220.out) (Kd.R_base ho0) hb)
                        have n2_ := Aside0.mk (Kd.R_elder' (by (with_reducible repeat (first | apply Kd.R_alloc | apply Kd.R_drewN | apply Kd.R_drew)); exact HO223.out) (Kd.R_base ho0) hb)
                        have n3_ := Aside0.mk (Kd.R_lower (Kd.R_new' (Kd.R_new' ho0 (Kd.R_lt (by (with_reducible repeat (first | apply Kd.R_alloc | apply Kd.R_drewN | apply Kd.R_drew)); exact HO220.out))) (Kd.R_lt (by (with_reducible repeat (first | apply Kd.R_alloc | apply Kd.R_drewN | apply Kd.R_drew)); exact HO223.out))) (below_size (by repeat (first | (with_reducible first | exact HB.out | apply below_alloc | apply pw_below_drewN | apply below_drew1 | refine below_set ?_ (IsS57.ge HI211.out)) | exact HB.out))))
                        have n4_ := Aside0.mk (IsS57.below (by repeat (first | (with_reducible first | exact HI211.out | apply IsS57.alloc | apply IsS57.drewN | apply IsS57.drew | apply IsS57.set_1) | exact HI211.out)) hb)
                        have n5_ := Aside0.mk (below_step (by repeat (first | (with_reducible first | exact HB.out | apply below_alloc | apply pw_below_drewN | apply below_drew1 | refine below_set ?_ (IsS57.ge HI211.out)) | exact HB.out)) hb)
                        clear HO_66
                        clear HO220
                        clear HO223
                        clear HI211
                        clear HB
                        have HO_66 := n0_
                        have HO220 := n1_
                        have HO223 := n2_
                        have HO233 := n3_
                        have HI211 := n4_
                        have HB := n5_
                        clear n0_ n1_ n2_ n3_ n4_ n5_
                        (try clear hb)
                        (try clear hb2)
                        (try clear hk)
                        (try clear hi)
                        (try clear ho0)
                        have hcv40 := own_string (P := Try.prog) Try.underlying22 Try.underlying5 Try.underlying9 (Kd.own_of_R HO220.out)
                        refine hK.out _ _ (own_string (P := Try.prog) Try.underlying22 Try.underlying5 Try.underlying9 (Kd.own_of_R (by (with_reducible repeat (first | apply Kd.R_alloc | apply Kd.R_drewN | apply Kd.R_drew)); exact HO220.out))) (fun hHeld => ?_)
                        clear hK K
                        refine norm_ (a' := ?_) ?_ ?_
                        rotate_left
                        · show Act.put _ (some 96) _ = _
                          simp only [Act.put, List.setIfInBounds_toArray, List.set_cons_zero, List.set_cons_succ, i64_w, i32_w]
                          rfl
                        refine one_ (i := 3) (N := some 97) #[true, true, true, true, true, true, false, false, false, false, false, false, false, false, false, false, false, false, false, false, false, false] rfl rfl (one_of HT_.out (by kernel_rfl)) (by decide) (fun K hK => ?_)
                        have hcv39 := own_string (P := Try.prog) Try.underlying22 Try.underlying5 Try.underlying9 (Kd.own_of_R HO233.out)
                        refine value_ (w1 := ?_) (v := ?_) (by rfl) rfl ?_ ?_
                        rotate_left 2
                        · go_simp
                          constructor
                          · rfl
                          · rfl
                        clear hcv39
                        refine hK.out _ _ (own_string (P := Try.prog) Try.underlying22 Try.underlying5 Try.underlying9 (Kd.own_of_R (by (with_reducible repeat (first | apply Kd.R_alloc | apply Kd.R_drewN | apply Kd.R_drew)); exact HO220.out))) (fun hHeld => ?_)
                        clear hK K
                        refine norm_ (a' := ?_) ?_ ?_
                        rotate_left
                        · show Act.put _ (some 97) _ = _
                          simp only [Act.put, List.setIfInBounds_toArray, List.set_cons_zero, List.set_cons_succ, i64_w, i32_w]
                          rfl
                        refine pure_ (i := 6) (N := some 100) (v := ?_) (a' := ?_) #[true, true, true, true, true, true, true, false, false, false, false, false, false, false, false, false, false, false, false, false, false, false] rfl rfl (any_of HT_.out (by kernel_rfl)) (fun _ _ _ h => h) (Or.inl ⟨by rfl, ?_⟩) ?_ ?_
                        rotate_left
                        · intro w'
                          go_simp
                          with_reducible rfl
                        rotate_left
                        · simp only [Act.put, List.setIfInBounds_toArray, List.set_cons_zero, List.set_cons_succ, i64_w, i32_w]
                          rfl
                        refine pure_ (i := 7) (N := some 101) (v := ?_) (a' := ?_) #[true, true, true, true, true, true, true, true, false, false, false, false, false, false, false, false, false, false, false, false, false, false] rfl rfl (any_of HT_.out (by kernel_rfl)) (fun _ _ _ h => h) (Or.inl ⟨by rfl, ?_⟩) ?_ ?_
                        rotate_left
                        · intro w'
                          go_simp
                          with_reducible rfl
                        rotate_left
                        · simp only [Act.put, List.setIfInBounds_toArray, List.set_cons_zero, List.set_cons_succ, i64_w, i32_w]
                          rfl
                        refine pure_ (i := 8) (N := some 102) (v := ?_) (a' := ?_) #[true, true, true, true, true, true, true, true, true, false, false, false, false, false, false, false, false, false, false, false, false, false] rfl rfl (any_of HT_.out (by kernel_rfl)) (fun _ _ _ h => h) (Or.inl ⟨by rfl, ?_⟩) ?_ ?_
                        rotate_left
                        · intro w'
                          go_simp
                          with_reducible rfl
                        rotate_left
                        · simp only [Act.put, List.setIfInBounds_toArray, List.set_cons_zero, List.set_cons_succ, i64_w, i32_w]
                          rfl
                        refine pure_ (i := 9) (N := some 103) (v := ?_) (a' := ?_) #[true, true, true, true, true, true, true, true, true, true, false, false, false, false, false, false, false, false, false, false, false, false] rfl rfl (any_of HT_.out (by kernel_rfl)) (fun _ _ _ h => h) (Or.inl ⟨by rfl, ?_⟩) ?_ ?_
                        rotate_left
                        · intro w'
                          go_simp
                          with_reducible rfl
                        rotate_left
                        · simp only [Act.put, List.setIfInBounds_toArray, List.set_cons_zero, List.set_cons_succ, i64_w, i32_w]
                          rfl
                        refine pure_ (i := 10) (N := some 104) (v := ?_) (a' := ?_) #[true, true, true, true, true, true, true, true, true, true, true, false, false, false, false, false, false, false, false, false, false, false] rfl rfl (any_of HT_.out (by kernel_rfl)) (fun _ _ _ h => h) (Or.inl ⟨by rfl, ?_⟩) ?_ ?_
                        rotate_left
                        · intro w'
                          go_simp
                          with_reducible rfl
                        rotate_left
                        · simp only [Act.put, List.setIfInBounds_toArray, List.set_cons_zero, List.set_cons_succ, i64_w, i32_w]
                          rfl
                        refine pure_ (i := 11) (N := some 105) (v := ?_) (a' := ?_) #[true, true, true, true, true, true, true, true, true, true, true, true, false, false, false, false, false, false, false, false, false, false] rfl rfl (any_of HT_.out (by kernel_rfl)) (fun _ _ _ h => h) (Or.inl ⟨by rfl, ?_⟩) ?_ ?_
                        rotate_left
                        · intro w'
                          go_simp
                          with_reducible rfl
                        rotate_left
                        · simp only [Act.put, List.setIfInBounds_toArray, List.set_cons_zero, List.set_cons_succ, i64_w, i32_w]
                          rfl
                        refine pure_ (i := 12) (N := some 106) (v := ?_) (a' := ?_) #[true, true, true, true, true, true, true, true, true, true, true, true, true, false, false, false, false, false, false, false, false, false] rfl rfl (any_of HT_.out (by kernel_rfl)) (fun _ _ _ h => h) (Or.inl ⟨by rfl, ?_⟩) ?_ ?_
                        rotate_left
                        · intro w'
                          go_simp
                          with_reducible rfl
                        rotate_left
                        · simp only [Act.put, List.setIfInBounds_toArray, List.set_cons_zero, List.set_cons_succ, i64_w, i32_w]
                          rfl
                        refine pure_ (i := 13) (N := some 107) (v := ?_) (a' := ?_) #[true, true, true, true, true, true, true, true, true, true, true, true, true, true, false, false, false, false, false, false, false, false] rfl rfl (any_of HT_.out (by kernel_rfl)) (fun _ _ _ h => h) (Or.inl ⟨by rfl, ?_⟩) ?_ ?_
                        rotate_left
                        · intro w'
                          go_simp
                          with_reducible rfl
                        rotate_left
                        · simp only [Act.put, List.setIfInBounds_toArray, List.set_cons_zero, List.set_cons_succ, i64_w, i32_w]
                          rfl
                        refine pure_ (i := 14) (N := some 108) (v := ?_) (a' := ?_) #[true, true, true, true, true, true, true, true, true, true, true, true, true, true, true, false, false, false, false, false, false, false] rfl rfl (any_of HT_.out (by kernel_rfl)) (fun _ _ _ h => h) (Or.inl ⟨by rfl, ?_⟩) ?_ ?_
                        rotate_left
                        · intro w'
                          go_simp
                          with_reducible rfl
                        rotate_left
                        · simp only [Act.put, List.setIfInBounds_toArray, List.set_cons_zero, List.set_cons_succ, i64_w, i32_w]
                          rfl
                        refine pure_ (i := 15) (N := some 109) (v := ?_) (a' := ?_) #[true, true, true, true, true, true, true, true, true, true, true, true, true, true, true, true, false, false, false, false, false, false] rfl rfl (any_of HT_.out (by kernel_rfl)) (fun _ _ _ h => h) (Or.inl ⟨by rfl, ?_⟩) ?_ ?_
                        rotate_left
                        · intro w'
                          go_simp
                          with_reducible rfl
                        rotate_left
                        · simp only [Act.put, List.setIfInBounds_toArray, List.set_cons_zero, List.set_cons_succ, i64_w, i32_w]
                          rfl
                        refine pure_ (i := 16) (N := some 110) (v := ?_) (a' := ?_) #[true, true, true, true, true, true, true, true, true, true, true, true, true, true, true, true, true, false, false, false, false, false] rfl rfl (any_of HT_.out (by kernel_rfl)) (fun _ _ _ h => h) (Or.inl ⟨by rfl, ?_⟩) ?_ ?_
                        rotate_left
                        · intro w'
                          go_simp
                          with_reducible rfl
                        rotate_left
                        · simp only [Act.put, List.setIfInBounds_toArray, List.set_cons_zero, List.set_cons_succ, i64_w, i32_w]
                          rfl
                        refine pure_ (i := 17) (N := some 111) (v := ?_) (a' := ?_) #[true, true, true, true, true, true, true, true, true, true, true, true, true, true, true, true, true, true, false, false, false, false] rfl rfl (any_of HT_.out (by kernel_rfl)) (fun _ _ _ h => h) (Or.inl ⟨by rfl, ?_⟩) ?_ ?_
                        rotate_left
                        · intro w'
                          go_simp
                          with_reducible rfl
                        rotate_left
                        · simp only [Act.put, List.setIfInBounds_toArray, List.set_cons_zero, List.set_cons_succ, i64_w, i32_w]
                          rfl
                        refine pure_ (i := 18) (N := some 112) (v := ?_) (a' := ?_) #[true, true, true, true, true, true, true, true, true, true, true, true, true, true, true, true, true, true, true, false, false, false] rfl rfl (any_of HT_.out (by kernel_rfl)) (fun _ _ _ h => h) (Or.inl ⟨by rfl, ?_⟩) ?_ ?_
                        rotate_left
                        · intro w'
                          go_simp
                          with_reducible rfl
                        rotate_left
                        · simp only [Act.put, List.setIfInBounds_toArray, List.set_cons_zero, List.set_cons_succ, i64_w, i32_w]
                          rfl
                        refine pure_ (i := 19) (N := some 113) (v := ?_) (a' := ?_) #[true, true, true, true, true, true, true, true, true, true, true, true, true, true, true, true, true, true, true, true, false, false] rfl rfl (any_of HT_.out (by kernel_rfl)) (fun _ _ _ h => h) (Or.inl ⟨by rfl, ?_⟩) ?_ ?_
                        rotate_left
                        · intro w'
                          go_simp
                          with_reducible rfl
                        rotate_left
                        · simp only [Act.put, List.setIfInBounds_toArray, List.set_cons_zero, List.set_cons_succ, i64_w, i32_w]
                          rfl
                        refine pure_ (i := 20) (N := some 114) (v := ?_) (a' := ?_) #[true, true, true, true, true, true, true, true, true, true, true, true, true, true, true, true, true, true, true, true, true, false] rfl rfl (any_of HT_.out (by kernel_rfl)) (fun _ _ _ h => h) (Or.inl ⟨by rfl, ?_⟩) ?_ ?_
                        rotate_left
                        · intro w'
                          go_simp
                          with_reducible rfl
                        rotate_left
                        · simp only [Act.put, List.setIfInBounds_toArray, List.set_cons_zero, List.set_cons_succ, i64_w, i32_w]
                          rfl
                        refine pure_ (i := 21) (N := some 115) (v := ?_) (a' := ?_) #[true, true, true, true, true, true, true, true, true, true, true, true, true, true, true, true, true, true, true, true, true, true] rfl rfl (any_of HT_.out (by kernel_rfl)) (fun _ _ _ h => h) (Or.inl ⟨by rfl, ?_⟩) ?_ ?_
                        rotate_left
                        · intro w'
                          go_simp
                          with_reducible rfl
                        rotate_left
                        · simp only [Act.put, List.setIfInBounds_toArray, List.set_cons_zero, List.set_cons_succ, i64_w, i32_w]
                          rfl
                        refine done_ (done_of HT_.out (by kernel_rfl)) ?_
                        try go_wp2
                        go_roundg k1
                        case measure => have := HK1.out; omega
                        case rel => exact ⟨(wrap64 (x68_1 + 1)), (t224), (by first | rfl | (simp; done) | (simp [*]; done)), H', ⟨by have := HK1.out; omega⟩, ⟨by (with_reducible repeat (first | apply Kd.R_alloc | apply Kd.R_drewN | apply Kd.R_drew)); exact HO_66.out⟩, ⟨by repeat (first | (with_reducible first | exact HI211.out | apply IsS57.alloc | apply IsS57.drewN | apply IsS57.drew | apply IsS57.set_1) | exact HI211.out)⟩, ⟨by repeat (first | (with_reducible first | exact HB.out | apply below_alloc | apply pw_below_drewN | apply below_drew1 | refine below_set ?_ (IsS57.ge HI211.out)) | exact HB.out)⟩⟩
                      · rw [if_neg c32] at H
                        have c32b0 : (t227 == t230) = false := beq_eq_false_iff_ne.mpr c32
                        have c32b1 : (t227 != t230) = true := bne_iff_ne.mpr c32
                        exact absurd ((Option.some.inj H).trans HT_.out) (by decide)
                    · rw [if_neg c31] at H
                      have c31b0 : (t226 == t229) = false := beq_eq_false_iff_ne.mpr c31
                      have c31b1 : (t226 != t229) = true := bne_iff_ne.mpr c31
                      exact absurd ((Option.some.inj H).trans HT_.out) (by decide)
                  · rw [if_neg c30] at H
                    have c30b0 : (t225 == t228) = false := beq_eq_false_iff_ne.mpr c30
                    have c30b1 : (t225 != t228) = true := bne_iff_ne.mpr c30
                    exact absurd ((Option.some.inj H).trans HT_.out) (by decide)
                · rw [if_neg c29] at H
                  have c29b0 : ((strOfNums t231).toList == (strOfNums t218).toList) = false := beq_eq_false_iff_ne.mpr c29
                  have c29b1 : ((strOfNums t231).toList != (strOfNums t218).toList) = true := bne_iff_ne.mpr c29
                  exact absurd ((Option.some.inj H).trans HT_.out) (by decide)
              · rw [if_neg c23] at H
                exact absurd H (by simp)
            · rw [if_neg c22] at H
              exact absurd H (by simp)
          · rw [if_neg c21] at H
            have c21b0 : decide (x68_1 < (y214.length : Int)) = false := decide_eq_false c21
            clear c21
            replace H := Option.bind_eq_some_iff.mp H
            obtain ⟨t234, A420, H⟩ := H
            replace H : ((some (([a1, 0, (l0.length : Int), t234] : List Int) : List Int)).bind fun y235 => (shapesearchlaw03_CodecAnswers.l1 k1 l0 l3 a4 a5 y235 (y235.length : Int) 0 t209 x212001_1)) = some r := H
            have A42 := Aside0.mk A420
            clear A420
            obtain ⟨y235, hy235⟩ : ∃ y_ : List Int, y_ = (([a1, 0, (l0.length : Int), t234] : List Int)) := ⟨_, rfl⟩
            replace H : (shapesearchlaw03_CodecAnswers.l1 k1 l0 l3 a4 a5 y235 (y235.length : Int) 0 t209 x212001_1) = some r := by first | (rw [hy235]; with_reducible exact H) | (have H2_ := (Option.bind_some _ _).symm.trans H; rw [hy235]; with_reducible exact H2_) | (have H2_ := (Option.bind_some _ _).symm.trans H; with_reducible exact H2_) | with_reducible exact H | (rw [hy235]; exact H) | exact H
            have Ny235 := Aside0.mk hy235
            clear hy235
            have H' := Aside0.mk H
            clear H
            go_wp2_with (first | ((with_reducible refine gate_callee (f := 12) rfl ?_); refine goesL_ (some 124) rfl rfl Try.func12 (by kernel_rfl) rfl #[.int .i64 a1, .int .i64 (wrap64 ((l0.length : Int) + 2))] rfl (by (try simp only [List.map_toArray, List.map_cons, List.map_nil]); first | done | rfl | (simp only [List.length_drop, List.length_take]; rfl)) ?_; (with_reducible refine (shapesearchkeep_Mod.calls a1 (wrap64 ((l0.length : Int) + 2)) t234 _ A42.out).mono ?_); rintro e w' ⟨rfl, ⟨nd, rfl⟩⟩; refine ⟨_, rfl, ?_⟩) | ((with_reducible refine gate_dst (N := 125) rfl ?_); (try (refine gate_guard (by rfl) ?_; dsimp only)); refine Kd.R_lit (Kd.int .i64) _ 3 ?hg (N := 125) ?hd (xs := ([a1, 0, (l0.length : Int), t234] : List Int)) (inner := [.int .i64 a1, .int .i64 0, .int .i64 (l0.length : Int), .int .i64 t234]) (ok := fun _ => True) (okp := fun _ => True) ?hr ?hp (fun _ hk => hk) trivial (Below.refl _ _) (Nat.le_refl _) (by simp) ?_; (case hd => rfl); (case hg => rfl); (case hr => first | (go_simp; done) | (go_simp; rfl)); (case hp => exact (Reps.one (show Kd.M (Kd.int .i64) _ _ _ a1 [.int .i64 a1] from rfl) (Reps.one (show Kd.M (Kd.int .i64) _ _ _ 0 [.int .i64 0] from rfl) (Reps.one (show Kd.M (Kd.int .i64) _ _ _ (l0.length : Int) [.int .i64 (l0.length : Int)] from rfl) (Reps.one (show Kd.M (Kd.int .i64) _ _ _ t234 [.int .i64 t234] from rfl) (Reps.none _ _)))))); intro v236 w43 ho44 hb hg_ hnew_; clear hg_ hnew_; (first | rw [← Ny235.out] at ho44 | (simp only [Int.reduceToNat] at ho44; rw [← Ny235.out] at ho44)); have n0_ := Aside0.mk (Kd.R_elder' (by (with_reducible repeat (first | apply Kd.R_alloc | apply Kd.R_drewN | apply Kd.R_drew)); exact HO_66.out) (Kd.R_base ho44) hb); have n1_ := Aside0.mk (Kd.R_lower (Kd.R_new' ho44 (Kd.R_lt (by (with_reducible repeat (first | apply Kd.R_alloc | apply Kd.R_drewN | apply Kd.R_drew)); exact HO_66.out))) (below_size (by repeat (first | (with_reducible first | exact HB.out | apply below_alloc | apply pw_below_drewN | apply below_drew1 | refine below_set ?_ (IsS57.ge HI211.out)) | exact HB.out)))); have n2_ := Aside0.mk (IsS57.below (by repeat (first | (with_reducible first | exact HI211.out | apply IsS57.alloc | apply IsS57.drewN | apply IsS57.drew | apply IsS57.set_1) | exact HI211.out)) hb); have n3_ := Aside0.mk (below_step (by repeat (first | (with_reducible first | exact HB.out | apply below_alloc | apply pw_below_drewN | apply below_drew1 | refine below_set ?_ (IsS57.ge HI211.out)) | exact HB.out)) hb); clear HO_66; clear HI211; clear HB; have HO_66 := n0_; have HO237 := n1_; have HI211 := n2_; have HB := n3_; clear n0_ n1_ n2_ n3_; clear hb ho44; obtain ⟨Ao45, co45, eo45⟩ := Kd.R_slice HO237.out; subst eo45))
            go_loopg [127] k1 (fun kq v127 w' => ∃ (x127_2 : Int), v127 = .int .i64 x127_2 ∧ Aside0 (shapesearchlaw03_CodecAnswers.l1 kq l0 l3 a4 a5 y235 (y235.length : Int) x127_2 t209 x212001_1 = some r) ∧ Aside0 (kq ≤ k1) ∧ Aside0 (Kd.R (Kd.int .i64) 3 w' w.heap.size (fun _ => True) (.slice Ao45 y235.length co45) y235) ∧ Aside0 (IsS57 w w' g211 t209 x212001_1) ∧ Aside0 (Below w.heap.size w w'))
            case atStart => exact ⟨(0), (by first | rfl | (simp; done) | (simp [*]; done)), H', ⟨Nat.le_refl _⟩, ⟨by (with_reducible repeat (first | apply Kd.R_alloc | apply Kd.R_drewN | apply Kd.R_drew)); exact Kd.R_mono HO237.out (fun _ hk => trivial)⟩, ⟨by repeat (first | (with_reducible first | exact HI211.out | apply IsS57.alloc | apply IsS57.drewN | apply IsS57.drew | apply IsS57.set_1) | exact HI211.out)⟩, ⟨by repeat (first | (with_reducible first | exact HB.out | apply below_alloc | apply pw_below_drewN | apply below_drew1 | refine below_set ?_ (IsS57.ge HI211.out)) | exact HB.out)⟩⟩
            case round =>
              clear H'
              try clear c1
              try clear c2
              try clear p2
              try clear q2
              try clear hx2
              try clear c3
              try clear hcv3
              try clear hcv4
              try clear c6
              try clear p6
              try clear c8
              try clear c8b0
              try clear c8b1
              try clear c9
              try clear c10
              try clear c11
              try clear c11b0
              try clear c11b1
              try clear c12
              try clear c15
              try clear c16
              try clear c17
              try clear c18
              try clear c19
              try clear c21
              try clear c21b0
              try clear p21
              try clear q21
              try clear hx21
              try clear c22
              try clear c22b0
              try clear c23
              try clear c23b0
              try clear c29
              try clear c29b0
              try clear c29b1
              try clear c30
              try clear c30b0
              try clear c30b1
              try clear c31
              try clear c31b0
              try clear c31b1
              try clear c32
              try clear c32b0
              try clear c32b1
              try clear hcv39
              try clear hcv40
              try clear hx217_0
              try clear p2
              try clear p217
              try clear q217
              obtain ⟨x127_2, rfl, HA, HK2, HO_125, HI211, HB⟩ := hrel
              cases gk with
              | zero => exact absurd HA.out (by simp [shapesearchlaw03_CodecAnswers.l1])
              | succ k2 =>
                have H := HA.out
                clear HA
                simp only [shapesearchlaw03_CodecAnswers.l1] at H
                by_cases c46 : x127_2 < (y235.length : Int)
                · rw [if_pos c46] at H
                  have c46b0 : decide (x127_2 < (y235.length : Int)) = true := decide_eq_true c46
                  clear c46
                  by_cases c47 : 0 ≤ x127_2
                  · rw [if_pos c47] at H
                    have c47b0 : decide (0 ≤ x127_2) = true := decide_eq_true c47
                    clear c47
                    by_cases c48 : x127_2 < (y235.length : Int)
                    · rw [if_pos c48] at H
                      have c48b0 : decide (x127_2 < (y235.length : Int)) = true := decide_eq_true c48
                      clear c48
                      replace H := Option.bind_eq_some_iff.mp H
                      obtain ⟨⟨t239, t240, t241⟩, A490, H⟩ := H
                      replace H : ((shapesearchref03_Int.f k2 l0 (rd y235 x127_2)).bind fun bt242 => (if t239 = bt242.1 then (if t240 = bt242.2.1 then (if t241 = bt242.2.2 then (shapesearchlaw03_CodecAnswers.l1 k2 l0 l3 a4 a5 y235 (y235.length : Int) (wrap64 (x127_2 + 1)) t209 x212001_1) else (some false)) else (some false)) else (some false))) = some r := H
                      have A49 := Aside0.mk A490
                      clear A490
                      replace H := Option.bind_eq_some_iff.mp H
                      obtain ⟨⟨t242, t243, t244⟩, A500, H⟩ := H
                      replace H : (if t239 = t242 then (if t240 = t243 then (if t241 = t244 then (shapesearchlaw03_CodecAnswers.l1 k2 l0 l3 a4 a5 y235 (y235.length : Int) (wrap64 (x127_2 + 1)) t209 x212001_1) else (some false)) else (some false)) else (some false)) = some r := H
                      have A50 := Aside0.mk A500
                      clear A500
                      by_cases c51 : t239 = t242
                      · rw [if_pos c51] at H
                        have c51b0 : (t239 == t242) = true := beq_iff_eq.mpr c51
                        have c51b1 : (t239 != t242) = false := bne_eq_false_iff_eq.mpr c51
                        clear c51
                        by_cases c52 : t240 = t243
                        · rw [if_pos c52] at H
                          have c52b0 : (t240 == t243) = true := beq_iff_eq.mpr c52
                          have c52b1 : (t240 != t243) = false := bne_eq_false_iff_eq.mpr c52
                          clear c52
                          by_cases c53 : t241 = t244
                          · rw [if_pos c53] at H
                            have c53b0 : (t241 == t244) = true := beq_iff_eq.mpr c53
                            have c53b1 : (t241 != t244) = false := bne_eq_false_iff_eq.mpr c53
                            clear c53
                            have H' := Aside0.mk H
                            clear H
                            have p238 : 0 ≤ (x127_2 : Int) := of_decide_eq_true (by first | (with_reducible assumption) | assumption)
                            have q238 : x127_2 < (y235.length : Int) := of_decide_eq_true (by first | (with_reducible assumption) | assumption)
                            obtain ⟨ad238, e238, hx238_0⟩ := Kd.at_int (Kd.R_reads' HO_125.out).2.2 x127_2 p238 q238
                            cases e238
                            replace p238 := eq_true p238
                            replace q238 := eq_true q238
                            go_wp2_with (first | ((with_reducible refine gate_callee (f := 11) rfl ?_); refine goesL_ (some 134) rfl rfl Try.func11 (by kernel_rfl) rfl #[.slice A0 l0.length c0, .int .i64 (rd y235 x127_2)] rfl (by (try simp only [List.map_toArray, List.map_cons, List.map_nil]); first | done | rfl | (simp only [List.length_drop, List.length_take]; rfl)) ?_; (with_reducible refine (codec_Int.calls k2 _ _ l0 (rd y235 x127_2) t239 t240 t241 _ ?side1 ?side2 A49.out).mono ?_); (case side1 => repeat (first | exact (Kd.C_below HR0.out HB.out) | (with_reducible refine Kd.C_alloc ?_ _) | (with_reducible refine Kd.C_drewN ?_ _) | (with_reducible refine Kd.C_drew ?_))); (case side2 => exact HC0.out); rintro e w' ⟨rfl, ⟨nd, rfl⟩⟩; refine ⟨_, rfl, ?_⟩) | ((with_reducible refine gate_callee (f := 19) rfl ?_); refine goesL_ (some 141) rfl rfl Try.func19 (by kernel_rfl) rfl #[.slice A0 l0.length c0, .int .i64 (rd y235 x127_2)] rfl (by (try simp only [List.map_toArray, List.map_cons, List.map_nil]); first | done | rfl | (simp only [List.length_drop, List.length_take]; rfl)) ?_; (with_reducible refine (shapesearchref03_Int.calls k2 _ _ l0 (rd y235 x127_2) t242 t243 t244 _ ?side1 ?side2 A50.out).mono ?_); (case side1 => repeat (first | exact (Kd.C_below HR0.out (by repeat (first | (with_reducible first | exact HB.out | apply below_alloc | apply pw_below_drewN | apply below_drew1 | refine below_set ?_ (IsS57.ge HI211.out)) | exact HB.out))) | (with_reducible refine Kd.C_alloc ?_ _) | (with_reducible refine Kd.C_drewN ?_ _) | (with_reducible refine Kd.C_drew ?_))); (case side2 => exact HC0.out); rintro e w' ⟨rfl, ⟨nd, rfl⟩⟩; refine ⟨_, rfl, ?_⟩))
                            go_roundg k2
                            case measure => have := HK1.out; have := HK2.out; omega
                            case rel => exact ⟨(wrap64 (x127_2 + 1)), (by first | rfl | (simp; done) | (simp [*]; done)), H', ⟨by have := HK1.out; have := HK2.out; omega⟩, ⟨by (with_reducible repeat (first | apply Kd.R_alloc | apply Kd.R_drewN | apply Kd.R_drew)); exact HO_125.out⟩, ⟨by repeat (first | (with_reducible first | exact HI211.out | apply IsS57.alloc | apply IsS57.drewN | apply IsS57.drew | apply IsS57.set_1) | exact HI211.out)⟩, ⟨by repeat (first | (with_reducible first | exact HB.out | apply below_alloc | apply pw_below_drewN | apply below_drew1 | refine below_set ?_ (IsS57.ge HI211.out)) | exact HB.out)⟩⟩
                          · rw [if_neg c53] at H
                            have c53b0 : (t241 == t244) = false := beq_eq_false_iff_ne.mpr c53
                            have c53b1 : (t241 != t244) = true := bne_iff_ne.mpr c53
                            exact absurd ((Option.some.inj H).trans HT_.out) (by decide)
                        · rw [if_neg c52] at H
                          have c52b0 : (t240 == t243) = false := beq_eq_false_iff_ne.mpr c52
                          have c52b1 : (t240 != t243) = true := bne_iff_ne.mpr c52
                          exact absurd ((Option.some.inj H).trans HT_.out) (by decide)
                      · rw [if_neg c51] at H
                        have c51b0 : (t239 == t242) = false := beq_eq_false_iff_ne.mpr c51
                        have c51b1 : (t239 != t242) = true := bne_iff_ne.mpr c51
                        exact absurd ((Option.some.inj H).trans HT_.out) (by decide)
                    · rw [if_neg c48] at H
                      exact absurd H (by simp)
                  · rw [if_neg c47] at H
                    exact absurd H (by simp)
                · rw [if_neg c46] at H
                  have c46b0 : decide (x127_2 < (y235.length : Int)) = false := decide_eq_false c46
                  clear c46
                  replace H := Option.bind_eq_some_iff.mp H
                  obtain ⟨⟨t245, t246⟩, A540, H⟩ := H
                  replace H : (shapesearchlaw03_CodecAnswers.l2 k2 l0 l3 a4 a5 ([] : List Int) t245 t209 t246) = some r := H
                  have A54 := Aside0.mk A540
                  clear A540
                  have H' := Aside0.mk H
                  clear H
                  go_wp2_with (first | ((with_reducible refine gate_callee (f := 20) rfl ?_); refine goesL_ (some 160) rfl rfl Try.func20 (by kernel_rfl) rfl #[.pointer (some ⟨g211, 0, none⟩), .int .i64 20] rfl (by (try simp only [List.map_toArray, List.map_cons, List.map_nil]); first | done | rfl | (simp only [List.length_drop, List.length_take]; rfl)) ?_; (with_reducible refine (shapesearchkeep_Src_N.calls g211 t209 x212001_1 20 t245 t246 w _ ?side1 ?side2 A54.out).mono ?_); (case side1 => repeat (first | (with_reducible first | exact HI211.out | apply IsS57.alloc | apply IsS57.drewN | apply IsS57.drew | apply IsS57.set_1) | exact HI211.out)); (case side2 => repeat (first | (with_reducible first | exact HB.out | apply below_alloc | apply pw_below_drewN | apply below_drew1 | refine below_set ?_ (IsS57.ge HI211.out)) | exact HB.out)); rintro e w55 ⟨rfl, hi, hb, hk⟩; refine ⟨_, rfl, ?_⟩; have n0_ := Aside0.mk (Kd.R_mono (Kd.R_keep (IsS57.apart (show IsS57 w _ g211 t209 x212001_1 from by repeat (first | (with_reducible first | exact HI211.out | apply IsS57.alloc | apply IsS57.drewN | apply IsS57.drew | apply IsS57.set_1) | exact HI211.out)) (by (with_reducible repeat (first | apply Kd.R_alloc | apply Kd.R_drewN | apply Kd.R_drew)); exact HO_125.out) (by decide)) hk (fun _ h => h.2)) (fun _ h => h.1)); have n1_ := Aside0.mk (hb); have n2_ := Aside0.mk (hi); clear HO_125; clear HB; clear HI211; have HO_125 := n0_; have HB := n1_; have HI211 := n2_; clear n0_ n1_ n2_; (try clear hb); (try clear hb2); (try clear hk); (try clear hi)))
                  go_loopg [34, 35] k2 (fun kq v34 v35 w' => ∃ (x34_3 : List Int) (x35_3 : Int) (x212001_3 : Int), v35 = .int .i64 x35_3 ∧ Aside0 (shapesearchlaw03_CodecAnswers.l2 kq l0 l3 a4 a5 x34_3 x35_3 t209 x212001_3 = some r) ∧ Aside0 (kq ≤ k2) ∧ Aside0 (Kd.R (Kd.int .i64) 3 w' w.heap.size (fun _ => True) v34 x34_3) ∧ Aside0 (IsS57 w w' g211 t209 x212001_3) ∧ Aside0 (Below w.heap.size w w'))
                  case atStart => exact ⟨(([] : List Int)), (t245), (t246), (by first | rfl | (simp; done) | (simp [*]; done)), H', ⟨Nat.le_refl _⟩, ⟨by first | exact Kd.R_nil _ _ _ _ _ | exact Kd.N_nil _ _ _ _ _ | exact Kd.V_nil _ _ _ _ _ | exact Kd.Q_nil _ _ _ _ _ | exact Kd.S_nil _ _ _ _ _⟩, ⟨by repeat (first | (with_reducible first | exact HI211.out | apply IsS57.alloc | apply IsS57.drewN | apply IsS57.drew | apply IsS57.set_1) | exact HI211.out)⟩, ⟨by repeat (first | (with_reducible first | exact HB.out | apply below_alloc | apply pw_below_drewN | apply below_drew1 | refine below_set ?_ (IsS57.ge HI211.out)) | exact HB.out)⟩⟩
                  case round =>
                    clear H'
                    try clear c1
                    try clear c2
                    try clear p2
                    try clear q2
                    try clear hx2
                    try clear c3
                    try clear hcv3
                    try clear c4
                    try clear hcv4
                    try clear c5
                    try clear c6
                    try clear p6
                    try clear c8
                    try clear c8b0
                    try clear c8b1
                    try clear c9
                    try clear c10
                    try clear c11
                    try clear c11b0
                    try clear c11b1
                    try clear c12
                    try clear c15
                    try clear c16
                    try clear c17
                    try clear c18
                    try clear c19
                    try clear c20
                    try clear c21
                    try clear c21b0
                    try clear p21
                    try clear q21
                    try clear hx21
                    try clear c22
                    try clear c22b0
                    try clear c23
                    try clear c23b0
                    try clear p23
                    try clear q23
                    try clear hx23
                    try clear c29
                    try clear c29b0
                    try clear c29b1
                    try clear c30
                    try clear c30b0
                    try clear c30b1
                    try clear c31
                    try clear c31b0
                    try clear c31b1
                    try clear c32
                    try clear c32b0
                    try clear c32b1
                    try clear hcv39
                    try clear hcv40
                    try clear c46
                    try clear c46b0
                    try clear c47
                    try clear c47b0
                    try clear c48
                    try clear c48b0
                    try clear c51
                    try clear c51b0
                    try clear c51b1
                    try clear c52
                    try clear c52b0
                    try clear c52b1
                    try clear c53
                    try clear c53b0
                    try clear c53b1
                    try clear hx217_0
                    try clear hx238_0
                    try clear p2
                    try clear p21
                    try clear p217
                    try clear p238
                    try clear p6
                    try clear q2
                    try clear q21
                    try clear q217
                    try clear q238
                    obtain ⟨x34_3, x35_3, x212001_3, rfl, HA, HK3, HO_34, HI211, HB⟩ := hrel
                    cases gk with
                    | zero => exact absurd HA.out (by simp [shapesearchlaw03_CodecAnswers.l2])
                    | succ k3 =>
                      have H := HA.out
                      clear HA
                      simp only [shapesearchlaw03_CodecAnswers.l2] at H
                      by_cases c56 : x35_3 > 0
                      · rw [if_pos c56] at H
                        have c56b0 : decide (0 < x35_3) = true := decide_eq_true c56
                        clear c56
                        replace H := Option.bind_eq_some_iff.mp H
                        obtain ⟨⟨t247, t248⟩, A570, H⟩ := H
                        replace H : (if 0 ≤ t247 then ((shapesearchkeep_Src_N.f t209 t248 (shl .i64 1 t247)).bind fun bt249 => (if x34_3.length < 17592186044416 then (shapesearchlaw03_CodecAnswers.l2 k3 l0 l3 a4 a5 (x34_3 ++ [bt249.1]) (wrap64 (x35_3 - 1)) t209 bt249.2) else (none))) else (none)) = some r := H
                        have A57 := Aside0.mk A570
                        clear A570
                        by_cases c58 : 0 ≤ t247
                        · rw [if_pos c58] at H
                          have c58b0 := eq_true c58
                          have c58b1 : decide (0 ≤ t247) = true := decide_eq_true c58
                          clear c58
                          obtain ⟨ji59, hji59⟩ : ∃ j_ : Int, (shl .i64 1 t247) = j_ := ⟨_, rfl⟩
                          replace H : ((shapesearchkeep_Src_N.f t209 t248 (ji59)).bind fun bt249 => (if x34_3.length < 17592186044416 then (shapesearchlaw03_CodecAnswers.l2 k3 l0 l3 a4 a5 (x34_3 ++ [bt249.1]) (wrap64 (x35_3 - 1)) t209 bt249.2) else (none))) = some r := by first | (rw [hji59] at H; exact H) | (simp only [hji59] at H ⊢; exact H)
                          (try rw [hji59] at A57)
                          have hji59_ : (IntKind.i64.wrap (1 * 2 ^ min t247.toNat 64)) = ji59 := hji59
                          have hji59z : t247 ≤ 64 → (IntKind.i64.wrap (1 * 2 ^ t247.toNat)) = ji59 := shl_small hji59
                          have hji59u : (IntKind.i64.wrap (2 ^ min t247.toNat 64)) = ji59 := by have h_ := hji59_; rw [Int.one_mul] at h_; exact h_
                          have hji59v : t247 ≤ 64 → (IntKind.i64.wrap (2 ^ t247.toNat)) = ji59 := fun hle_ => by have h_ := hji59z hle_; rw [Int.one_mul] at h_; exact h_
                          have hji59y : (wrap64 (1 * 2 ^ min t247.toNat 64)) = ji59 := (i64_w _).symm.trans hji59_
                          have hji59x : t247 ≤ 64 → (wrap64 (1 * 2 ^ t247.toNat)) = ji59 := fun h_ => (i64_w _).symm.trans (hji59z h_)
                          replace H := Option.bind_eq_some_iff.mp H
                          obtain ⟨⟨t249, t250⟩, A600, H⟩ := H
                          replace H : (if x34_3.length < 17592186044416 then (shapesearchlaw03_CodecAnswers.l2 k3 l0 l3 a4 a5 (x34_3 ++ [t249]) (wrap64 (x35_3 - 1)) t209 t250) else (none)) = some r := H
                          have A60 := Aside0.mk A600
                          clear A600
                          by_cases c61 : x34_3.length < 17592186044416
                          · rw [if_pos c61] at H
                            have LMc61 := Aside0.mk c61
                            clear c61
                            obtain ⟨y251, hy251⟩ : ∃ y_ : List Int, y_ = (x34_3 ++ [t249]) := ⟨_, rfl⟩
                            replace H : (shapesearchlaw03_CodecAnswers.l2 k3 l0 l3 a4 a5 y251 (wrap64 (x35_3 - 1)) t209 t250) = some r := by first | (rw [hy251]; with_reducible exact H) | (have H2_ := (Option.bind_some _ _).symm.trans H; rw [hy251]; with_reducible exact H2_) | (have H2_ := (Option.bind_some _ _).symm.trans H; with_reducible exact H2_) | with_reducible exact H | (rw [hy251]; exact H) | exact H
                            have Ny251 := Aside0.mk hy251
                            clear hy251
                            have H' := Aside0.mk H
                            clear H
                            go_wp2_with (first | ((with_reducible refine gate_callee (f := 20) rfl ?_); refine goesL_ (some 168) rfl rfl Try.func20 (by kernel_rfl) rfl #[.pointer (some ⟨g211, 0, none⟩), .int .i64 33] rfl (by (try simp only [List.map_toArray, List.map_cons, List.map_nil]); first | done | rfl | (simp only [List.length_drop, List.length_take]; rfl)) ?_; (with_reducible refine (shapesearchkeep_Src_N.calls g211 t209 x212001_3 33 t247 t248 w _ ?side1 ?side2 A57.out).mono ?_); (case side1 => repeat (first | (with_reducible first | exact HI211.out | apply IsS57.alloc | apply IsS57.drewN | apply IsS57.drew | apply IsS57.set_1) | exact HI211.out)); (case side2 => repeat (first | (with_reducible first | exact HB.out | apply below_alloc | apply pw_below_drewN | apply below_drew1 | refine below_set ?_ (IsS57.ge HI211.out)) | exact HB.out)); rintro e w62 ⟨rfl, hi, hb, hk⟩; refine ⟨_, rfl, ?_⟩; have n0_ := Aside0.mk (Kd.R_mono (Kd.R_keep (IsS57.apart (show IsS57 w _ g211 t209 x212001_3 from by repeat (first | (with_reducible first | exact HI211.out | apply IsS57.alloc | apply IsS57.drewN | apply IsS57.drew | apply IsS57.set_1) | exact HI211.out)) (by (with_reducible repeat (first | apply Kd.R_alloc | apply Kd.R_drewN | apply Kd.R_drew)); exact HO_34.out) (by decide)) hk (fun _ h => h.2)) (fun _ h => h.1)); have n1_ := Aside0.mk (hb); have n2_ := Aside0.mk (hi); clear HO_34; clear HB; clear HI211; have HO_34 := n0_; have HB := n1_; have HI211 := n2_; clear n0_ n1_ n2_; (try clear hb); (try clear hb2); (try clear hk); (try clear hi)) | ((with_reducible refine gate_callee (f := 20) rfl ?_); refine goesL_ (some 170) rfl rfl Try.func20 (by kernel_rfl) rfl #[.pointer (some ⟨g211, 0, none⟩), .int .i64 ji59] rfl (by (try simp only [List.map_toArray, List.map_cons, List.map_nil]); first | done | (simp only [hji59]; rfl) | rfl | (simp only [List.length_drop, List.length_take]; rfl)) ?_; (with_reducible refine (shapesearchkeep_Src_N.calls g211 t209 t248 ji59 t249 t250 w _ ?side1 ?side2 A60.out).mono ?_); (case side1 => repeat (first | (with_reducible first | exact HI211.out | apply IsS57.alloc | apply IsS57.drewN | apply IsS57.drew | apply IsS57.set_1) | exact HI211.out)); (case side2 => repeat (first | (with_reducible first | exact HB.out | apply below_alloc | apply pw_below_drewN | apply below_drew1 | refine below_set ?_ (IsS57.ge HI211.out)) | exact HB.out)); rintro e w63 ⟨rfl, hi, hb, hk⟩; refine ⟨_, rfl, ?_⟩; have n0_ := Aside0.mk (Kd.R_mono (Kd.R_keep (IsS57.apart (show IsS57 w _ g211 t209 t248 from by repeat (first | (with_reducible first | exact HI211.out | apply IsS57.alloc | apply IsS57.drewN | apply IsS57.drew | apply IsS57.set_1) | exact HI211.out)) (by (with_reducible repeat (first | apply Kd.R_alloc | apply Kd.R_drewN | apply Kd.R_drew)); exact HO_34.out) (by decide)) hk (fun _ h => h.2)) (fun _ h => h.1)); have n1_ := Aside0.mk (hb); have n2_ := Aside0.mk (hi); clear HO_34; clear HB; clear HI211; have HO_34 := n0_; have HB := n1_; have HI211 := n2_; clear n0_ n1_ n2_; (try clear hb); (try clear hb2); (try clear hk); (try clear hi)) | ((with_reducible refine gate_builtin (b := .append) (xs := #[.tmp 165, .tmp 171]) rfl ?_); (try (refine gate_guard (by rfl) ?_; dsimp only)); at_builtin; refine Kd.R_append (Kd.int .i64) (w0 := w) w.heap.size rfl (.tmp 165) (.tmp 171) 36 3 (.int .i64 0) 8 rfl Try.underlying36 info3 rfl (by decide) (by omega) u34 x34_3 t249 [.int .i64 t249] (fun _ => True) (fun _ => False) rfl rfl ?aP (fun _ hk => hk.elim) ?aF ?aO ?aB ?aS ?aL ?_; (case aP => exact rfl); (case aB => exact (by repeat (first | (with_reducible first | exact HB.out | apply below_alloc | apply pw_below_drewN | apply below_drew1 | refine below_set ?_ (IsS57.ge HI211.out)) | exact HB.out))); (case aF => exact (fun _ _ => trivial)); (case aO => exact (by (with_reducible repeat (first | apply Kd.R_alloc | apply Kd.R_drewN | apply Kd.R_drew)); exact HO_34.out)); (case aS => exact (below_size (by repeat (first | (with_reducible first | exact HB.out | apply below_alloc | apply pw_below_drewN | apply below_drew1 | refine below_set ?_ (IsS57.ge HI211.out)) | exact HB.out)))); (case aL => have := LMc61.out; omega); intro v252 w64 ho hb hg hat; rw [← Ny251.out] at ho; have n0_ := Aside0.mk (IsS57.grown (by repeat (first | (with_reducible first | exact HI211.out | apply IsS57.alloc | apply IsS57.drewN | apply IsS57.drew | apply IsS57.set_1) | exact HI211.out)) hg (IsS57.own_ne HI211.out HO_34.out (by decide))); have n1_ := Aside0.mk (hb); have n2_ := Aside0.mk (ho); clear HI211; clear HB; clear HO_34; have HI211 := n0_; have HB := n1_; have HO253 := n2_; clear n0_ n1_ n2_; clear ho hb hg hat))
                            go_roundg k3
                            case measure => have := HK1.out; have := HK2.out; have := HK3.out; omega
                            case rel => exact ⟨(y251), (wrap64 (x35_3 - 1)), (t250), (by first | rfl | (simp; done) | (simp [*]; done)), H', ⟨by have := HK1.out; have := HK2.out; have := HK3.out; omega⟩, ⟨by (with_reducible repeat (first | apply Kd.R_alloc | apply Kd.R_drewN | apply Kd.R_drew)); exact HO253.out⟩, ⟨by repeat (first | (with_reducible first | exact HI211.out | apply IsS57.alloc | apply IsS57.drewN | apply IsS57.drew | apply IsS57.set_1) | exact HI211.out)⟩, ⟨by repeat (first | (with_reducible first | exact HB.out | apply below_alloc | apply pw_below_drewN | apply below_drew1 | refine below_set ?_ (IsS57.ge HI211.out)) | exact HB.out)⟩⟩
                          · rw [if_neg c61] at H
                            exact absurd H (by simp)
                        · rw [if_neg c58] at H
                          exact absurd H (by simp)
                      · rw [if_neg c56] at H
                        have c56b0 : decide (0 < x35_3) = false := decide_eq_false c56
                        clear c56
                        obtain ⟨y254, hy254⟩ : ∃ y_ : List (List Int), y_ = (([l3, x34_3] : List (List Int))) := ⟨_, rfl⟩
                        replace H : (shapesearchlaw03_CodecAnswers.l3 k3 l0 a4 a5 y254 (y254.length : Int) 0) = some r := by first | (rw [hy254]; with_reducible exact H) | (have H2_ := (Option.bind_some _ _).symm.trans H; rw [hy254]; with_reducible exact H2_) | (have H2_ := (Option.bind_some _ _).symm.trans H; with_reducible exact H2_) | with_reducible exact H | (rw [hy254]; exact H) | exact H
                        have Ny254 := Aside0.mk hy254
                        clear hy254
                        have H' := Aside0.mk H
                        clear H
                        obtain ⟨Ao65, co65, eo65⟩ := Kd.R_slice HO_34.out
                        subst eo65
                        go_wp2_with (first | ((with_reducible refine gate_dst (N := 175) rfl ?_); (try (refine gate_guard (by rfl) ?_; dsimp only)); refine lit_seen 36 ?hg (xs := y254) (ys := ([l3, x34_3] : List (List Int))) (inner := [.slice A3 l3.length c3, .slice Ao65 x34_3.length co65]) Ny254.out ?hr ?_; (case hg => rfl); (case hr => first | (go_simp; done) | (go_simp; rfl)); intro Ao67 co67 w66 hlc_ hk_ hb; have hrep_ := (Reps.one (show Kd.K (Kd.slice 3 (Kd.int .i64)) w66 l3 [.slice A3 l3.length c3] from ⟨_, _, rfl, HC3.out, Kd.C_below (w := wr) (by repeat (first | exact (Kd.C_below HR3.out HB.out) | (with_reducible refine Kd.C_alloc ?_ _) | (with_reducible refine Kd.C_drewN ?_ _) | (with_reducible refine Kd.C_drew ?_))) hb⟩) (Reps.one (show Kd.K (Kd.slice 3 (Kd.int .i64)) w66 x34_3 [.slice Ao65 x34_3.length co65] from ⟨_, _, rfl, (Kd.R_reads' HO_34.out).2.1, Kd.C_below (w := wr) (by repeat (first | exact (Kd.R_reads' HO_34.out).2.2 | (with_reducible refine Kd.C_alloc ?_ _) | (with_reducible refine Kd.C_drewN ?_ _) | (with_reducible refine Kd.C_drew ?_))) hb⟩) (Reps.none _ _))); have hC_ := lit_C (Kd.slice 3 (Kd.int .i64)) (xs := y254) hk_ (by rw [Ny254.out]; exact hrep_) (by rw [Ny254.out]; first | decide | simp); clear hk_ hrep_; have n0_ := Aside0.mk (Kd.R_below (by (with_reducible repeat (first | apply Kd.R_alloc | apply Kd.R_drewN | apply Kd.R_drew)); exact HO_34.out) hb); have n1_ := Aside0.mk (IsS57.below (by repeat (first | (with_reducible first | exact HI211.out | apply IsS57.alloc | apply IsS57.drewN | apply IsS57.drew | apply IsS57.set_1) | exact HI211.out)) hb); have n2_ := Aside0.mk (below_step (by repeat (first | (with_reducible first | exact HB.out | apply below_alloc | apply pw_below_drewN | apply below_drew1 | refine below_set ?_ (IsS57.ge HI211.out)) | exact HB.out)) hb); clear HO_34; clear HI211; clear HB; have HO_34 := n0_; have HI211 := n1_; have HB := n2_; clear n0_ n1_ n2_; have HR257 := Aside0.mk hC_; have HC257 := Aside0.mk hlc_; clear hC_ hlc_ hb))
                        go_loopg [177] k3 (fun kq v177 w' => ∃ (x177_4 : Int), v177 = .int .i64 x177_4 ∧ Aside0 (shapesearchlaw03_CodecAnswers.l3 kq l0 a4 a5 y254 (y254.length : Int) x177_4 = some r) ∧ Aside0 (kq ≤ k3) ∧ Aside0 (Kd.C (Kd.slice 3 (Kd.int .i64)) w' Ao67 y254.length y254) ∧ Aside0 (Below w.heap.size w w'))
                        case atStart => exact ⟨(0), (by first | rfl | (simp; done) | (simp [*]; done)), H', ⟨Nat.le_refl _⟩, ⟨by repeat (first | (with_reducible exact HR257.out) | (with_reducible refine Kd.C_alloc ?_ _) | (with_reducible refine Kd.C_drewN ?_ _) | (with_reducible refine Kd.C_drew ?_) | exact HR257.out)⟩, ⟨by repeat (first | (with_reducible first | exact HB.out | apply below_alloc | apply pw_below_drewN | apply below_drew1 | refine below_set ?_ (IsS57.ge HI211.out)) | exact HB.out)⟩⟩
                        case round =>
                          clear H'
                          try clear c1
                          try clear c2
                          try clear p2
                          try clear q2
                          try clear hx2
                          try clear c3
                          try clear hcv3
                          try clear c4
                          try clear hcv4
                          try clear c5
                          try clear c6
                          try clear p6
                          try clear c8
                          try clear c8b0
                          try clear c8b1
                          try clear c9
                          try clear c10
                          try clear c11
                          try clear c11b0
                          try clear c11b1
                          try clear c12
                          try clear c15
                          try clear c16
                          try clear c17
                          try clear c18
                          try clear c19
                          try clear c20
                          try clear c21
                          try clear c21b0
                          try clear p21
                          try clear q21
                          try clear hx21
                          try clear c22
                          try clear c22b0
                          try clear c23
                          try clear c23b0
                          try clear p23
                          try clear q23
                          try clear hx23
                          try clear c29
                          try clear c29b0
                          try clear c29b1
                          try clear c30
                          try clear c30b0
                          try clear c30b1
                          try clear c31
                          try clear c31b0
                          try clear c31b1
                          try clear c32
                          try clear c32b0
                          try clear c32b1
                          try clear hcv39
                          try clear hcv40
                          try clear c46
                          try clear c46b0
                          try clear c47
                          try clear c47b0
                          try clear c48
                          try clear c48b0
                          try clear c51
                          try clear c51b0
                          try clear c51b1
                          try clear c52
                          try clear c52b0
                          try clear c52b1
                          try clear c53
                          try clear c53b0
                          try clear c53b1
                          try clear c56
                          try clear c56b0
                          try clear c58
                          try clear c58b0
                          try clear c58b1
                          try clear c61
                          try clear p64
                          try clear hx217_0
                          try clear hx238_0
                          try clear p2
                          try clear p21
                          try clear p217
                          try clear p23
                          try clear p238
                          try clear p6
                          try clear q2
                          try clear q21
                          try clear q217
                          try clear q23
                          try clear q238
                          obtain ⟨x177_4, rfl, HA, HK4, HR257, HB⟩ := hrel
                          cases gk with
                          | zero => exact absurd HA.out (by simp [shapesearchlaw03_CodecAnswers.l3])
                          | succ k4 =>
                            have H := HA.out
                            clear HA
                            simp only [shapesearchlaw03_CodecAnswers.l3] at H
                            by_cases c68 : x177_4 < (y254.length : Int)
                            · rw [if_pos c68] at H
                              have c68b0 : decide (x177_4 < (y254.length : Int)) = true := decide_eq_true c68
                              clear c68
                              by_cases c69 : 0 ≤ x177_4
                              · rw [if_pos c69] at H
                                have c69b0 : decide (0 ≤ x177_4) = true := decide_eq_true c69
                                clear c69
                                by_cases c70 : x177_4 < (y254.length : Int)
                                · rw [if_pos c70] at H
                                  have c70b0 : decide (x177_4 < (y254.length : Int)) = true := decide_eq_true c70
                                  clear c70
                                  replace H := Option.bind_eq_some_iff.mp H
                                  obtain ⟨t259, A710, H⟩ := H
                                  replace H : ((shapesearchref03_Width.f k4 (rd_L2 y254 x177_4)).bind fun t260 => (if t259 = t260 then ((shapesearchref03_Width.f k4 (rd_L2 y254 x177_4)).bind fun t261 => ((shapesearchkeep_Mod.f a4 35).bind fun t262 => ((some (([a4, t261, wrap64 (t262 - 1)] : List Int) : List Int)).bind fun y263 => (shapesearchlaw03_CodecAnswers.l4 k4 l0 a4 a5 (rd_L2 y254 x177_4) y254 (y254.length : Int) x177_4 y263 (y263.length : Int) 0)))) else (some false))) = some r := H
                                  have A71 := Aside0.mk A710
                                  clear A710
                                  replace H := Option.bind_eq_some_iff.mp H
                                  obtain ⟨t260, A720, H⟩ := H
                                  replace H : (if t259 = t260 then ((shapesearchref03_Width.f k4 (rd_L2 y254 x177_4)).bind fun t261 => ((shapesearchkeep_Mod.f a4 35).bind fun t262 => ((some (([a4, t261, wrap64 (t262 - 1)] : List Int) : List Int)).bind fun y263 => (shapesearchlaw03_CodecAnswers.l4 k4 l0 a4 a5 (rd_L2 y254 x177_4) y254 (y254.length : Int) x177_4 y263 (y263.length : Int) 0)))) else (some false)) = some r := H
                                  have A72 := Aside0.mk A720
                                  clear A720
                                  by_cases c73 : t259 = t260
                                  · rw [if_pos c73] at H
                                    have c73b0 : (t259 == t260) = true := beq_iff_eq.mpr c73
                                    have c73b1 : (t259 != t260) = false := bne_eq_false_iff_eq.mpr c73
                                    clear c73
                                    replace H := Option.bind_eq_some_iff.mp H
                                    obtain ⟨t261, A740, H⟩ := H
                                    replace H : ((shapesearchkeep_Mod.f a4 35).bind fun t262 => ((some (([a4, t261, wrap64 (t262 - 1)] : List Int) : List Int)).bind fun y263 => (shapesearchlaw03_CodecAnswers.l4 k4 l0 a4 a5 (rd_L2 y254 x177_4) y254 (y254.length : Int) x177_4 y263 (y263.length : Int) 0))) = some r := H
                                    have A74 := Aside0.mk A740
                                    clear A740
                                    replace H := Option.bind_eq_some_iff.mp H
                                    obtain ⟨t262, A750, H⟩ := H
                                    replace H : ((some (([a4, t261, wrap64 (t262 - 1)] : List Int) : List Int)).bind fun y263 => (shapesearchlaw03_CodecAnswers.l4 k4 l0 a4 a5 (rd_L2 y254 x177_4) y254 (y254.length : Int) x177_4 y263 (y263.length : Int) 0)) = some r := H
                                    have A75 := Aside0.mk A750
                                    clear A750
                                    obtain ⟨y263, hy263⟩ : ∃ y_ : List Int, y_ = (([a4, t261, wrap64 (t262 - 1)] : List Int)) := ⟨_, rfl⟩
                                    replace H : (shapesearchlaw03_CodecAnswers.l4 k4 l0 a4 a5 (rd_L2 y254 x177_4) y254 (y254.length : Int) x177_4 y263 (y263.length : Int) 0) = some r := by first | (rw [hy263]; with_reducible exact H) | (have H2_ := (Option.bind_some _ _).symm.trans H; rw [hy263]; with_reducible exact H2_) | (have H2_ := (Option.bind_some _ _).symm.trans H; with_reducible exact H2_) | with_reducible exact H | (rw [hy263]; exact H) | exact H
                                    have Ny263 := Aside0.mk hy263
                                    clear hy263
                                    have H' := Aside0.mk H
                                    clear H
                                    have p258 : 0 ≤ (x177_4 : Int) := of_decide_eq_true (by first | (with_reducible assumption) | assumption)
                                    have q258 : x177_4 < (y254.length : Int) := of_decide_eq_true (by first | (with_reducible assumption) | assumption)
                                    obtain ⟨ad258, A258_0, c258_0, e258, hx258_0, hl258_0, hi258_0⟩ := at_L2 (by first | (with_reducible exact Kd.C_drewN HR257.out _) | (with_reducible exact HR257.out) | repeat (first | (with_reducible exact HR257.out) | (with_reducible refine Kd.C_alloc ?_ _) | (with_reducible refine Kd.C_drewN ?_ _) | (with_reducible refine Kd.C_drew ?_) | exact HR257.out)) x177_4 p258 q258
                                    cases e258
                                    have HR258_0 := Aside0.mk hi258_0
                                    have HC258_0 := Aside0.mk hl258_0
                                    clear hi258_0 hl258_0
                                    replace p258 := eq_true p258
                                    replace q258 := eq_true q258
                                    go_wp2_with (first | ((with_reducible refine gate_callee (f := 21) rfl ?_); refine goesL_ (some 182) rfl rfl Try.func21 (by kernel_rfl) rfl #[.slice A258_0 (rd_L2 y254 x177_4).length c258_0] rfl (by (try simp only [List.map_toArray, List.map_cons, List.map_nil]); first | done | rfl | (simp only [List.length_drop, List.length_take]; rfl)) ?_; (with_reducible refine (codec_Width.calls k4 _ _ (rd_L2 y254 x177_4) t259 _ ?side1 ?side2 A71.out).mono ?_); (case side1 => repeat (first | exact (by first | (with_reducible exact Kd.C_drewN HR258_0.out _) | (with_reducible exact HR258_0.out) | repeat (first | (with_reducible exact HR258_0.out) | (with_reducible refine Kd.C_alloc ?_ _) | (with_reducible refine Kd.C_drewN ?_ _) | (with_reducible refine Kd.C_drew ?_) | exact HR258_0.out)) | (with_reducible refine Kd.C_alloc ?_ _) | (with_reducible refine Kd.C_drewN ?_ _) | (with_reducible refine Kd.C_drew ?_))); (case side2 => exact HC258_0.out); rintro e w76 ⟨rfl, hb⟩; refine ⟨_, rfl, ?_⟩; have n0_ := Aside0.mk (Kd.C_below (by first | (with_reducible exact Kd.C_drewN HR257.out _) | (with_reducible exact HR257.out) | repeat (first | (with_reducible exact HR257.out) | (with_reducible refine Kd.C_alloc ?_ _) | (with_reducible refine Kd.C_drewN ?_ _) | (with_reducible refine Kd.C_drew ?_) | exact HR257.out)) hb); have n1_ := Aside0.mk (Kd.C_below (by first | (with_reducible exact Kd.C_drewN HR258_0.out _) | (with_reducible exact HR258_0.out) | repeat (first | (with_reducible exact HR258_0.out) | (with_reducible refine Kd.C_alloc ?_ _) | (with_reducible refine Kd.C_drewN ?_ _) | (with_reducible refine Kd.C_drew ?_) | exact HR258_0.out)) hb); have n2_ := Aside0.mk (below_step (by repeat (first | (with_reducible first | exact HB.out | apply below_alloc | apply pw_below_drewN | apply below_drew1) | exact HB.out)) hb); clear HR257; clear HR258_0; clear HB; have HR257 := n0_; have HR258_0 := n1_; have HB := n2_; clear n0_ n1_ n2_; (try clear hb); (try clear hb2); (try clear hk); (try clear hi)) | ((with_reducible refine gate_callee (f := 22) rfl ?_); refine goesL_ (some 184) rfl rfl Try.func22 (by kernel_rfl) rfl #[.slice A258_0 (rd_L2 y254 x177_4).length c258_0] rfl (by (try simp only [List.map_toArray, List.map_cons, List.map_nil]); first | done | rfl | (simp only [List.length_drop, List.length_take]; rfl)) ?_; (with_reducible refine (shapesearchref03_Width.calls k4 _ _ (rd_L2 y254 x177_4) t260 _ ?side1 ?side2 A72.out).mono ?_); (case side1 => repeat (first | exact (by first | (with_reducible exact Kd.C_drewN HR258_0.out _) | (with_reducible exact HR258_0.out) | repeat (first | (with_reducible exact HR258_0.out) | (with_reducible refine Kd.C_alloc ?_ _) | (with_reducible refine Kd.C_drewN ?_ _) | (with_reducible refine Kd.C_drew ?_) | exact HR258_0.out)) | (with_reducible refine Kd.C_alloc ?_ _) | (with_reducible refine Kd.C_drewN ?_ _) | (with_reducible refine Kd.C_drew ?_))); (case side2 => exact HC258_0.out); rintro e w' ⟨rfl, ⟨nd, rfl⟩⟩; refine ⟨_, rfl, ?_⟩) | ((with_reducible refine gate_callee (f := 22) rfl ?_); refine goesL_ (some 188) rfl rfl Try.func22 (by kernel_rfl) rfl #[.slice A258_0 (rd_L2 y254 x177_4).length c258_0] rfl (by (try simp only [List.map_toArray, List.map_cons, List.map_nil]); first | done | rfl | (simp only [List.length_drop, List.length_take]; rfl)) ?_; (with_reducible refine (shapesearchref03_Width.calls k4 _ _ (rd_L2 y254 x177_4) t261 _ ?side1 ?side2 A74.out).mono ?_); (case side1 => repeat (first | exact (by first | (with_reducible exact Kd.C_drewN HR258_0.out _) | (with_reducible exact HR258_0.out) | repeat (first | (with_reducible exact HR258_0.out) | (with_reducible refine Kd.C_alloc ?_ _) | (with_reducible refine Kd.C_drewN ?_ _) | (with_reducible refine Kd.C_drew ?_) | exact HR258_0.out)) | (with_reducible refine Kd.C_alloc ?_ _) | (with_reducible refine Kd.C_drewN ?_ _) | (with_reducible refine Kd.C_drew ?_))); (case side2 => exact HC258_0.out); rintro e w' ⟨rfl, ⟨nd, rfl⟩⟩; refine ⟨_, rfl, ?_⟩) | ((with_reducible refine gate_callee (f := 12) rfl ?_); refine goesL_ (some 190) rfl rfl Try.func12 (by kernel_rfl) rfl #[.int .i64 a4, .int .i64 35] rfl (by (try simp only [List.map_toArray, List.map_cons, List.map_nil]); first | done | rfl | (simp only [List.length_drop, List.length_take]; rfl)) ?_; (with_reducible refine (shapesearchkeep_Mod.calls a4 35 t262 _ A75.out).mono ?_); rintro e w' ⟨rfl, ⟨nd, rfl⟩⟩; refine ⟨_, rfl, ?_⟩) | ((with_reducible refine gate_dst (N := 192) rfl ?_); (try (refine gate_guard (by rfl) ?_; dsimp only)); refine Kd.R_lit (Kd.int .i64) _ 3 ?hg (N := 192) ?hd (xs := ([a4, t261, wrap64 (t262 - 1)] : List Int)) (inner := [.int .i64 a4, .int .i64 t261, .int .i64 (wrap64 (t262 - 1))]) (ok := fun _ => True) (okp := fun _ => True) ?hr ?hp (fun _ hk => hk) trivial (Below.refl _ _) (Nat.le_refl _) (by simp) ?_; (case hd => rfl); (case hg => rfl); (case hr => first | (go_simp; done) | (go_simp; rfl)); (case hp => exact (Reps.one (show Kd.M (Kd.int .i64) _ _ _ a4 [.int .i64 a4] from rfl) (Reps.one (show Kd.M (Kd.int .i64) _ _ _ t261 [.int .i64 t261] from rfl) (Reps.one (show Kd.M (Kd.int .i64) _ _ _ (wrap64 (t262 - 1)) [.int .i64 (wrap64 (t262 - 1))] from rfl) (Reps.none _ _))))); intro v264 w77 ho78 hb hg_ hnew_; clear hg_ hnew_; (first | rw [← Ny263.out] at ho78 | (simp only [Int.reduceToNat] at ho78; rw [← Ny263.out] at ho78)); have n0_ := Aside0.mk (Kd.R_lower ho78 (below_size (by repeat (first | (with_reducible first | exact HB.out | apply below_alloc | apply pw_below_drewN | apply below_drew1) | exact HB.out)))); have n1_ := Aside0.mk (Kd.C_below (by first | (with_reducible exact Kd.C_drewN HR257.out _) | (with_reducible exact HR257.out) | repeat (first | (with_reducible exact HR257.out) | (with_reducible refine Kd.C_alloc ?_ _) | (with_reducible refine Kd.C_drewN ?_ _) | (with_reducible refine Kd.C_drew ?_) | exact HR257.out)) hb); have n2_ := Aside0.mk (Kd.C_below (by first | (with_reducible exact Kd.C_drewN HR258_0.out _) | (with_reducible exact HR258_0.out) | repeat (first | (with_reducible exact HR258_0.out) | (with_reducible refine Kd.C_alloc ?_ _) | (with_reducible refine Kd.C_drewN ?_ _) | (with_reducible refine Kd.C_drew ?_) | exact HR258_0.out)) hb); have n3_ := Aside0.mk (below_step (by repeat (first | (with_reducible first | exact HB.out | apply below_alloc | apply pw_below_drewN | apply below_drew1) | exact HB.out)) hb); clear HR257; clear HR258_0; clear HB; have HO265 := n0_; have HR257 := n1_; have HR258_0 := n2_; have HB := n3_; clear n0_ n1_ n2_ n3_; clear hb ho78; obtain ⟨Ao79, co79, eo79⟩ := Kd.R_slice HO265.out; subst eo79))
                                    go_loopg [194] k4 (fun kq v194 w' => ∃ (x194_5 : Int), v194 = .int .i64 x194_5 ∧ Aside0 (shapesearchlaw03_CodecAnswers.l4 kq l0 a4 a5 (rd_L2 y254 x177_4) y254 (y254.length : Int) x177_4 y263 (y263.length : Int) x194_5 = some r) ∧ Aside0 (kq ≤ k4) ∧ Aside0 (Kd.R (Kd.int .i64) 3 w' w.heap.size (fun _ => True) (.slice Ao79 y263.length co79) y263) ∧ Aside0 (Kd.C (Kd.slice 3 (Kd.int .i64)) w' (some ad258) y254.length y254) ∧ Aside0 (Kd.C (Kd.int .i64) w' A258_0 (rd_L2 y254 x177_4).length (rd_L2 y254 x177_4)) ∧ Aside0 (Below w.heap.size w w'))
                                    case atStart => exact ⟨(0), (by first | rfl | (simp; done) | (simp [*]; done)), H', ⟨Nat.le_refl _⟩, ⟨by (with_reducible repeat (first | apply Kd.R_alloc | apply Kd.R_drewN | apply Kd.R_drew)); exact HO265.out⟩, ⟨by repeat (first | (with_reducible exact HR257.out) | (with_reducible refine Kd.C_alloc ?_ _) | (with_reducible refine Kd.C_drewN ?_ _) | (with_reducible refine Kd.C_drew ?_) | exact HR257.out)⟩, ⟨by repeat (first | (with_reducible exact HR258_0.out) | (with_reducible refine Kd.C_alloc ?_ _) | (with_reducible refine Kd.C_drewN ?_ _) | (with_reducible refine Kd.C_drew ?_) | exact HR258_0.out)⟩, ⟨by repeat (first | (with_reducible first | exact HB.out | apply below_alloc | apply pw_below_drewN | apply below_drew1) | exact HB.out)⟩⟩
                                    case round =>
                                      clear H'
                                      try clear c1
                                      try clear c2
                                      try clear p2
                                      try clear q2
                                      try clear hx2
                                      try clear c3
                                      try clear hcv3
                                      try clear c4
                                      try clear hcv4
                                      try clear c5
                                      try clear c6
                                      try clear p6
                                      try clear c7
                                      try clear c8
                                      try clear c8b0
                                      try clear c8b1
                                      try clear c9
                                      try clear c10
                                      try clear c11
                                      try clear c11b0
                                      try clear c11b1
                                      try clear c12
                                      try clear c15
                                      try clear c16
                                      try clear c17
                                      try clear c18
                                      try clear c19
                                      try clear c20
                                      try clear c21
                                      try clear c21b0
                                      try clear p21
                                      try clear q21
                                      try clear hx21
                                      try clear c22
                                      try clear c22b0
                                      try clear c23
                                      try clear c23b0
                                      try clear p23
                                      try clear q23
                                      try clear hx23
                                      try clear c25
                                      try clear p25
                                      try clear q25
                                      try clear hx25
                                      try clear c29
                                      try clear c29b0
                                      try clear c29b1
                                      try clear c30
                                      try clear c30b0
                                      try clear c30b1
                                      try clear c31
                                      try clear c31b0
                                      try clear c31b1
                                      try clear c32
                                      try clear c32b0
                                      try clear c32b1
                                      try clear hcv39
                                      try clear hcv40
                                      try clear c46
                                      try clear c46b0
                                      try clear c47
                                      try clear c47b0
                                      try clear c48
                                      try clear c48b0
                                      try clear c51
                                      try clear c51b0
                                      try clear c51b1
                                      try clear c52
                                      try clear c52b0
                                      try clear c52b1
                                      try clear c53
                                      try clear c53b0
                                      try clear c53b1
                                      try clear c56
                                      try clear c56b0
                                      try clear c58
                                      try clear c58b0
                                      try clear c58b1
                                      try clear c61
                                      try clear p64
                                      try clear c68
                                      try clear c68b0
                                      try clear c69
                                      try clear c69b0
                                      try clear c70
                                      try clear c70b0
                                      try clear c73
                                      try clear c73b0
                                      try clear c73b1
                                      try clear hx217_0
                                      try clear hx238_0
                                      try clear hx258_0
                                      try clear p2
                                      try clear p21
                                      try clear p217
                                      try clear p23
                                      try clear p238
                                      try clear p258
                                      try clear p6
                                      try clear p64
                                      try clear q2
                                      try clear q21
                                      try clear q217
                                      try clear q23
                                      try clear q238
                                      try clear q258
                                      obtain ⟨x194_5, rfl, HA, HK5, HO_192, HR257, HR258_0, HB⟩ := hrel
                                      cases gk with
                                      | zero => exact absurd HA.out (by simp [shapesearchlaw03_CodecAnswers.l4])
                                      | succ k5 =>
                                        have H := HA.out
                                        clear HA
                                        simp only [shapesearchlaw03_CodecAnswers.l4] at H
                                        by_cases c80 : x194_5 < (y263.length : Int)
                                        · rw [if_pos c80] at H
                                          have c80b0 : decide (x194_5 < (y263.length : Int)) = true := decide_eq_true c80
                                          clear c80
                                          by_cases c81 : 0 ≤ x194_5
                                          · rw [if_pos c81] at H
                                            have c81b0 : decide (0 ≤ x194_5) = true := decide_eq_true c81
                                            clear c81
                                            by_cases c82 : x194_5 < (y263.length : Int)
                                            · rw [if_pos c82] at H
                                              have c82b0 : decide (x194_5 < (y263.length : Int)) = true := decide_eq_true c82
                                              clear c82
                                              replace H := Option.bind_eq_some_iff.mp H
                                              obtain ⟨⟨t267, t268⟩, A830, H⟩ := H
                                              replace H : ((shapesearchref03_Pack.f k5 (rd_L2 y254 x177_4) (rd y263 x194_5)).bind fun bt271 => (if (strOfNums t267).toList = (strOfNums bt271.1).toList then (if t268 = bt271.2 then (if bt271.1.length + 1 < 140737488355328 then ((some (([l0, bt271.1, (bt271.1 ++ [0])] : List (List Int)) : List (List Int))).bind fun y279 => (shapesearchlaw03_CodecAnswers.l5 k5 l0 a4 a5 (rd_L2 y254 x177_4) (rd y263 x194_5) y254 (y254.length : Int) x177_4 y263 (y263.length : Int) x194_5 y279 (y279.length : Int) 0)) else (none)) else (some false)) else (some false))) = some r := H
                                              have A83 := Aside0.mk A830
                                              clear A830
                                              replace H := Option.bind_eq_some_iff.mp H
                                              obtain ⟨⟨t271, t272⟩, A840, H⟩ := H
                                              replace H : (if (strOfNums t267).toList = (strOfNums t271).toList then (if t268 = t272 then (if t271.length + 1 < 140737488355328 then ((some (([l0, t271, (t271 ++ [0])] : List (List Int)) : List (List Int))).bind fun y279 => (shapesearchlaw03_CodecAnswers.l5 k5 l0 a4 a5 (rd_L2 y254 x177_4) (rd y263 x194_5) y254 (y254.length : Int) x177_4 y263 (y263.length : Int) x194_5 y279 (y279.length : Int) 0)) else (none)) else (some false)) else (some false)) = some r := H
                                              have A84 := Aside0.mk A840
                                              clear A840
                                              by_cases c85 : (strOfNums t267).toList = (strOfNums t271).toList
                                              · rw [if_pos c85] at H
                                                have c85b0 : ((strOfNums t267).toList == (strOfNums t271).toList) = true := beq_iff_eq.mpr c85
                                                have c85b1 : ((strOfNums t267).toList != (strOfNums t271).toList) = false := bne_eq_false_iff_eq.mpr c85
                                                clear c85
                                                by_cases c86 : t268 = t272
                                                · rw [if_pos c86] at H
                                                  have c86b0 : (t268 == t272) = true := beq_iff_eq.mpr c86
                                                  have c86b1 : (t268 != t272) = false := bne_eq_false_iff_eq.mpr c86
                                                  clear c86
                                                  by_cases c87 : t271.length + 1 < 140737488355328
                                                  · rw [if_pos c87] at H
                                                    have LMc87 := Aside0.mk c87
                                                    clear c87
                                                    obtain ⟨y275, hy275⟩ : ∃ y_ : List Int, y_ = (t271 ++ [0]) := ⟨_, rfl⟩
                                                    replace H : ((some (([l0, t271, y275] : List (List Int)) : List (List Int))).bind fun y279 => (shapesearchlaw03_CodecAnswers.l5 k5 l0 a4 a5 (rd_L2 y254 x177_4) (rd y263 x194_5) y254 (y254.length : Int) x177_4 y263 (y263.length : Int) x194_5 y279 (y279.length : Int) 0)) = some r := by first | (rw [hy275]; with_reducible exact H) | (have H2_ := (Option.bind_some _ _).symm.trans H; rw [hy275]; with_reducible exact H2_) | (have H2_ := (Option.bind_some _ _).symm.trans H; with_reducible exact H2_) | with_reducible exact H | (rw [hy275]; exact H) | exact H
                                                    have Ny275 := Aside0.mk hy275
                                                    clear hy275
                                                    obtain ⟨y279, hy279⟩ : ∃ y_ : List (List Int), y_ = (([l0, t271, y275] : List (List Int))) := ⟨_, rfl⟩
                                                    replace H : (shapesearchlaw03_CodecAnswers.l5 k5 l0 a4 a5 (rd_L2 y254 x177_4) (rd y263 x194_5) y254 (y254.length : Int) x177_4 y263 (y263.length : Int) x194_5 y279 (y279.length : Int) 0) = some r := by first | (rw [hy279]; with_reducible exact H) | (have H2_ := (Option.bind_some _ _).symm.trans H; rw [hy279]; with_reducible exact H2_) | (have H2_ := (Option.bind_some _ _).symm.trans H; with_reducible exact H2_) | with_reducible exact H | (rw [hy279]; exact H) | exact H
                                                    have Ny279 := Aside0.mk hy279
                                                    clear hy279
                                                    have H' := Aside0.mk H
                                                    clear H
                                                    have p266 : 0 ≤ (x194_5 : Int) := of_decide_eq_true (by first | (with_reducible assumption) | assumption)
                                                    have q266 : x194_5 < (y263.length : Int) := of_decide_eq_true (by first | (with_reducible assumption) | assumption)
                                                    obtain ⟨ad266, e266, hx266_0⟩ := Kd.at_int (Kd.R_reads' HO_192.out).2.2 x194_5 p266 q266
                                                    cases e266
                                                    replace p266 := eq_true p266
                                                    replace q266 := eq_true q266
                                                    go_wp2_with (first | ((with_reducible refine gate_callee (f := 23) rfl ?_); refine goesL_ (some 201) rfl rfl Try.func23 (by kernel_rfl) rfl #[.slice A258_0 (rd_L2 y254 x177_4).length c258_0, .int .i64 (rd y263 x194_5)] rfl (by (try simp only [List.map_toArray, List.map_cons, List.map_nil]); first | done | rfl | (simp only [List.length_drop, List.length_take]; rfl)) ?_; (with_reducible refine (codec_Pack.calls k5 _ _ (rd_L2 y254 x177_4) (rd y263 x194_5) t267 t268 _ ?side1 ?side2 A83.out).mono ?_); (case side1 => repeat (first | exact (by first | (with_reducible exact Kd.C_drewN HR258_0.out _) | (with_reducible exact HR258_0.out) | repeat (first | (with_reducible exact HR258_0.out) | (with_reducible refine Kd.C_alloc ?_ _) | (with_reducible refine Kd.C_drewN ?_ _) | (with_reducible refine Kd.C_drew ?_) | exact HR258_0.out)) | (with_reducible refine Kd.C_alloc ?_ _) | (with_reducible refine Kd.C_drewN ?_ _) | (with_reducible refine Kd.C_drew ?_))); (case side2 => exact HC258_0.out); rintro e w88 ⟨v269, rfl, ho0, hb⟩; refine ⟨_, rfl, ?_⟩; have n0_ := Aside0.mk (Kd.R_below (by (with_reducible repeat (first | apply Kd.R_alloc | apply Kd.R_drewN | apply Kd.R_drew)); exact HO_192.out) hb); have n1_ := Aside0.mk (Kd.R_lower ho0 (below_size (by repeat (first | (with_reducible first | exact HB.out | apply below_alloc | apply pw_below_drewN | apply below_drew1) | exact HB.out)))); have n2_ := Aside0.mk (Kd.C_below (by first | (with_reducible exact Kd.C_drewN HR257.out _) | (with_reducible exact HR257.out) | repeat (first | (with_reducible exact HR257.out) | (with_reducible refine Kd.C_alloc ?_ _) | (with_reducible refine Kd.C_drewN ?_ _) | (with_reducible refine Kd.C_drew ?_) | exact HR257.out)) hb); have n3_ := Aside0.mk (Kd.C_below (by first | (with_reducible exact Kd.C_drewN HR258_0.out _) | (with_reducible exact HR258_0.out) | repeat (first | (with_reducible exact HR258_0.out) | (with_reducible refine Kd.C_alloc ?_ _) | (with_reducible refine Kd.C_drewN ?_ _) | (with_reducible refine Kd.C_drew ?_) | exact HR258_0.out)) hb); have n4_ := Aside0.mk (below_step (by repeat (first | (with_reducible first | exact HB.out | apply below_alloc | apply pw_below_drewN | apply below_drew1) | exact HB.out)) hb); clear HO_192; clear HR257; clear HR258_0; clear HB; have HO_192 := n0_; have HO270 := n1_; have HR257 := n2_; have HR258_0 := n3_; have HB := n4_; clear n0_ n1_ n2_ n3_ n4_; (try clear hb); (try clear hb2); (try clear hk); (try clear hi); (try clear ho0)) | ((with_reducible refine gate_callee (f := 24) rfl ?_); refine goesL_ (some 207) rfl rfl Try.func24 (by kernel_rfl) rfl #[.slice A258_0 (rd_L2 y254 x177_4).length c258_0, .int .i64 (rd y263 x194_5)] rfl (by (try simp only [List.map_toArray, List.map_cons, List.map_nil]); first | done | rfl | (simp only [List.length_drop, List.length_take]; rfl)) ?_; (with_reducible refine (shapesearchref03_Pack.calls k5 _ _ (rd_L2 y254 x177_4) (rd y263 x194_5) t271 t272 _ ?side1 ?side2 A84.out).mono ?_); (case side1 => repeat (first | exact (by first | (with_reducible exact Kd.C_drewN HR258_0.out _) | (with_reducible exact HR258_0.out) | repeat (first | (with_reducible exact HR258_0.out) | (with_reducible refine Kd.C_alloc ?_ _) | (with_reducible refine Kd.C_drewN ?_ _) | (with_reducible refine Kd.C_drew ?_) | exact HR258_0.out)) | (with_reducible refine Kd.C_alloc ?_ _) | (with_reducible refine Kd.C_drewN ?_ _) | (with_reducible refine Kd.C_drew ?_))); (case side2 => exact HC258_0.out); rintro e w89 ⟨v273, rfl, ho0, hb⟩; refine ⟨_, rfl, ?_⟩; have n0_ := Aside0.mk (Kd.R_below (by (with_reducible repeat (first | apply Kd.R_alloc | apply Kd.R_drewN | apply Kd.R_drew)); exact HO_192.out) hb); have n1_ := Aside0.mk (Kd.R_elder' (by (with_reducible repeat (first | apply Kd.R_alloc | apply Kd.R_drewN | apply Kd.R_drew)); exact HO270.out) (Kd.R_base ho0) hb); have n2_ := Aside0.mk (Kd.R_lower (Kd.R_new' ho0 (Kd.R_lt (by (with_reducible repeat (first | apply Kd.R_alloc | apply Kd.R_drewN | apply Kd.R_drew)); exact HO270.out))) (below_size (by repeat (first | (with_reducible first | exact HB.out | apply below_alloc | apply pw_below_drewN | apply below_drew1) | exact HB.out)))); have n3_ := Aside0.mk (Kd.C_below (by first | (with_reducible exact Kd.C_drewN HR257.out _) | (with_reducible exact HR257.out) | repeat (first | (with_reducible exact HR257.out) | (with_reducible refine Kd.C_alloc ?_ _) | (with_reducible refine Kd.C_drewN ?_ _) | (with_reducible refine Kd.C_drew ?_) | exact HR257.out)) hb); have n4_ := Aside0.mk (Kd.C_below (by first | (with_reducible exact Kd.C_drewN HR258_0.out _) | (with_reducible exact HR258_0.out) | repeat (first | (with_reducible exact HR258_0.out) | (with_reducible refine Kd.C_alloc ?_ _) | (with_reducible refine Kd.C_drewN ?_ _) | (with_reducible refine Kd.C_drew ?_) | exact HR258_0.out)) hb); have n5_ := Aside0.mk (below_step (by repeat (first | (with_reducible first | exact HB.out | apply below_alloc | apply pw_below_drewN | apply below_drew1) | exact HB.out)) hb); clear HO_192; clear HO270; clear HR257; clear HR258_0; clear HB; have HO_192 := n0_; have HO270 := n1_; have HO274 := n2_; have HR257 := n3_; have HR258_0 := n4_; have HB := n5_; clear n0_ n1_ n2_ n3_ n4_ n5_; (try clear hb); (try clear hb2); (try clear hk); (try clear hi); (try clear ho0); have hcv90 := own_string (P := Try.prog) Try.underlying22 Try.underlying5 Try.underlying9 (Kd.own_of_R HO270.out); have hcv91 := own_string (P := Try.prog) Try.underlying22 Try.underlying5 Try.underlying9 (Kd.own_of_R HO274.out); obtain ⟨Ao92, co92, eo92⟩ := Kd.R_slice HO274.out; subst eo92) | ((with_reducible refine gate_dst (N := 222) rfl ?_); (try (refine gate_guard (by rfl) ?_; dsimp only)); refine Kd.R_lit (Kd.int .u8) (w0 := w89) w89.heap.size 5 ?hg (N := 222) ?hd (xs := ([] : List Int)) (inner := []) (ok := fun _ => True) (okp := fun _ => True) ?hr ?hp (fun _ hk => hk) trivial (Below.refl _ _) (Nat.le_refl _) (by simp) ?_; (case hd => rfl); (case hg => rfl); (case hr => first | (go_simp; done) | (go_simp; rfl)); (case hp => exact (Reps.none _ _)); intro vc96 w93 ho hb hg_ hnew_; have HOc96 := Aside0.mk ho; have HBc96 := Aside0.mk hb; clear ho hb hg_ hnew_) | ((with_reducible refine gate_builtin (b := .append) (xs := #[.tmp 222, .tmp 223]) rfl ?_); (try (refine gate_guard (by rfl) ?_; dsimp only)); at_builtin; refine Kd.R_append_rows (Kd.int .u8) (w0 := w89) w89.heap.size rfl (.tmp 222) (.tmp 223) 22 5 (.int .u8 0) 1 rfl Try.underlying22 info5 rfl (by decide) (by omega) vc96 ([] : List Int) t271 _ _ _ (fun _ => True) (fun _ => False) rfl rfl ?aO ?aR (fun _ _ h => h) (fun _ h => h.elim) ?aF ?aB ?aS ?aL ?_; (case aO => exact HOc96.out); (case aR => exact Kd.C_below (w := w89) (by repeat (first | exact (Kd.R_reads' HO274.out).2.2 | (with_reducible refine Kd.C_alloc ?_ _) | (with_reducible refine Kd.C_drewN ?_ _) | (with_reducible refine Kd.C_drew ?_))) HBc96.out); (case aF => exact fun _ _ => trivial); (case aB => exact HBc96.out); (case aS => exact below_size HBc96.out); (case aL => have := LMc87.out; simp; omega); intro vd96 w94 ho hb hg hat; rw [List.nil_append] at ho; have HOd96 := Aside0.mk ho; have HBd96 := Aside0.mk hb; clear ho hb hg hat) | ((with_reducible refine gate_builtin (b := .append) (xs := #[.tmp 224, .tmp 225]) rfl ?_); (try (refine gate_guard (by rfl) ?_; dsimp only)); at_builtin; refine Kd.R_append (Kd.int .u8) (w0 := w89) w89.heap.size rfl (.tmp 224) (.tmp 225) 22 5 (.int .u8 0) 1 rfl Try.underlying22 info5 rfl (by decide) (by omega) vd96 t271 0 [.int .u8 0] (fun _ => True) (fun _ => False) rfl rfl ?aP (fun _ hk => hk.elim) ?aF ?aO ?aB ?aS ?aL ?_; (case aP => exact rfl); (case aB => exact HBd96.out); (case aF => exact fun _ _ => trivial); (case aO => exact HOd96.out); (case aS => exact below_size HBd96.out); (case aL => have := LMc87.out; omega); intro ve96 w95 ho hb hg_ hat_; rw [← Ny275.out] at ho; obtain ⟨Ao96, co96, ee96, hlc_, hC_⟩ := Kd.R_reads ho; subst ee96; have n0_ := Aside0.mk (Kd.R_below (by (with_reducible repeat (first | apply Kd.R_alloc | apply Kd.R_drewN | apply Kd.R_drew)); exact HO_192.out) hb); have n1_ := Aside0.mk (Kd.R_below (by (with_reducible repeat (first | apply Kd.R_alloc | apply Kd.R_drewN | apply Kd.R_drew)); exact HO270.out) hb); have n2_ := Aside0.mk (Kd.R_below (by (with_reducible repeat (first | apply Kd.R_alloc | apply Kd.R_drewN | apply Kd.R_drew)); exact HO274.out) hb); have n3_ := Aside0.mk (Kd.C_below (by first | (with_reducible exact Kd.C_drewN HR257.out _) | (with_reducible exact HR257.out) | repeat (first | (with_reducible exact HR257.out) | (with_reducible refine Kd.C_alloc ?_ _) | (with_reducible refine Kd.C_drewN ?_ _) | (with_reducible refine Kd.C_drew ?_) | exact HR257.out)) hb); have n4_ := Aside0.mk (Kd.C_below (by first | (with_reducible exact Kd.C_drewN HR258_0.out _) | (with_reducible exact HR258_0.out) | repeat (first | (with_reducible exact HR258_0.out) | (with_reducible refine Kd.C_alloc ?_ _) | (with_reducible refine Kd.C_drewN ?_ _) | (with_reducible refine Kd.C_drew ?_) | exact HR258_0.out)) hb); have n5_ := Aside0.mk (below_step (by repeat (first | (with_reducible first | exact HB.out | apply below_alloc | apply pw_below_drewN | apply below_drew1) | exact HB.out)) hb); clear HO_192; clear HO270; clear HO274; clear HR257; clear HR258_0; clear HB; have HO_192 := n0_; have HO270 := n1_; have HO274 := n2_; have HR257 := n3_; have HR258_0 := n4_; have HB := n5_; clear n0_ n1_ n2_ n3_ n4_ n5_; have HR278 := Aside0.mk hC_; have HC278 := Aside0.mk hlc_; clear hC_ hlc_ hb hg_ hat_ ho) | ((with_reducible refine gate_dst (N := 227) rfl ?_); (try (refine gate_guard (by rfl) ?_; dsimp only)); refine lit_seen 22 ?hg (xs := y279) (ys := ([l0, t271, y275] : List (List Int))) (inner := [.slice A0 l0.length c0, .slice Ao92 t271.length co92, .slice Ao96 y275.length co96]) Ny279.out ?hr ?_; (case hg => rfl); (case hr => first | (go_simp; done) | (go_simp; rfl)); intro Ao98 co98 w97 hlc_ hk_ hb; have hrep_ := (Reps.one (show Kd.K (Kd.slice 5 (Kd.int .u8)) w97 l0 [.slice A0 l0.length c0] from ⟨_, _, rfl, HC0.out, Kd.C_below (w := w95) (by repeat (first | exact (Kd.C_below HR0.out HB.out) | (with_reducible refine Kd.C_alloc ?_ _) | (with_reducible refine Kd.C_drewN ?_ _) | (with_reducible refine Kd.C_drew ?_))) hb⟩) (Reps.one (show Kd.K (Kd.slice 5 (Kd.int .u8)) w97 t271 [.slice Ao92 t271.length co92] from ⟨_, _, rfl, (Kd.R_reads' HO274.out).2.1, Kd.C_below (w := w95) (by repeat (first | exact (Kd.R_reads' HO274.out).2.2 | (with_reducible refine Kd.C_alloc ?_ _) | (with_reducible refine Kd.C_drewN ?_ _) | (with_reducible refine Kd.C_drew ?_))) hb⟩) (Reps.one (show Kd.K (Kd.slice 5 (Kd.int .u8)) w97 y275 [.slice Ao96 y275.length co96] from ⟨_, _, rfl, HC278.out, Kd.C_below (w := w95) (by repeat (first | exact (by first | (with_reducible exact Kd.C_drewN HR278.out _) | (with_reducible exact HR278.out) | repeat (first | (with_reducible exact HR278.out) | (with_reducible refine Kd.C_alloc ?_ _) | (with_reducible refine Kd.C_drewN ?_ _) | (with_reducible refine Kd.C_drew ?_) | exact HR278.out)) | (with_reducible refine Kd.C_alloc ?_ _) | (with_reducible refine Kd.C_drewN ?_ _) | (with_reducible refine Kd.C_drew ?_))) hb⟩) (Reps.none _ _)))); have hC_ := lit_C (Kd.slice 5 (Kd.int .u8)) (xs := y279) hk_ (by rw [Ny279.out]; exact hrep_) (by rw [Ny279.out]; first | decide | simp); clear hk_ hrep_; have n0_ := Aside0.mk (Kd.R_below (by (with_reducible repeat (first | apply Kd.R_alloc | apply Kd.R_drewN | apply Kd.R_drew)); exact HO_192.out) hb); have n1_ := Aside0.mk (Kd.R_below (by (with_reducible repeat (first | apply Kd.R_alloc | apply Kd.R_drewN | apply Kd.R_drew)); exact HO270.out) hb); have n2_ := Aside0.mk (Kd.R_below (by (with_reducible repeat (first | apply Kd.R_alloc | apply Kd.R_drewN | apply Kd.R_drew)); exact HO274.out) hb); have n3_ := Aside0.mk (Kd.C_below (by first | (with_reducible exact Kd.C_drewN HR257.out _) | (with_reducible exact HR257.out) | repeat (first | (with_reducible exact HR257.out) | (with_reducible refine Kd.C_alloc ?_ _) | (with_reducible refine Kd.C_drewN ?_ _) | (with_reducible refine Kd.C_drew ?_) | exact HR257.out)) hb); have n4_ := Aside0.mk (Kd.C_below (by first | (with_reducible exact Kd.C_drewN HR258_0.out _) | (with_reducible exact HR258_0.out) | repeat (first | (with_reducible exact HR258_0.out) | (with_reducible refine Kd.C_alloc ?_ _) | (with_reducible refine Kd.C_drewN ?_ _) | (with_reducible refine Kd.C_drew ?_) | exact HR258_0.out)) hb); have n5_ := Aside0.mk (Kd.C_below (by first | (with_reducible exact Kd.C_drewN HR278.out _) | (with_reducible exact HR278.out) | repeat (first | (with_reducible exact HR278.out) | (with_reducible refine Kd.C_alloc ?_ _) | (with_reducible refine Kd.C_drewN ?_ _) | (with_reducible refine Kd.C_drew ?_) | exact HR278.out)) hb); have n6_ := Aside0.mk (below_step (by repeat (first | (with_reducible first | exact HB.out | apply below_alloc | apply pw_below_drewN | apply below_drew1) | exact HB.out)) hb); clear HO_192; clear HO270; clear HO274; clear HR257; clear HR258_0; clear HR278; clear HB; have HO_192 := n0_; have HO270 := n1_; have HO274 := n2_; have HR257 := n3_; have HR258_0 := n4_; have HR278 := n5_; have HB := n6_; clear n0_ n1_ n2_ n3_ n4_ n5_ n6_; have HR282 := Aside0.mk hC_; have HC282 := Aside0.mk hlc_; clear hC_ hlc_ hb))
                                                    go_loopg [229] k5 (fun kq v229 w' => ∃ (x229_6 : Int), v229 = .int .i64 x229_6 ∧ Aside0 (shapesearchlaw03_CodecAnswers.l5 kq l0 a4 a5 (rd_L2 y254 x177_4) (rd y263 x194_5) y254 (y254.length : Int) x177_4 y263 (y263.length : Int) x194_5 y279 (y279.length : Int) x229_6 = some r) ∧ Aside0 (kq ≤ k5) ∧ Aside0 (Kd.R (Kd.int .i64) 3 w' w.heap.size (fun _ => True) (.slice (some ad266) y263.length co79) y263) ∧ Aside0 (Kd.C (Kd.slice 3 (Kd.int .i64)) w' (some ad258) y254.length y254) ∧ Aside0 (Kd.C (Kd.int .i64) w' A258_0 (rd_L2 y254 x177_4).length (rd_L2 y254 x177_4)) ∧ Aside0 (Kd.C (Kd.int .u8) w' Ao96 y275.length y275) ∧ Aside0 (Kd.C (Kd.slice 5 (Kd.int .u8)) w' Ao98 y279.length y279) ∧ Aside0 (Below w.heap.size w w'))
                                                    case atStart => exact ⟨(0), (by first | rfl | (simp; done) | (simp [*]; done)), H', ⟨Nat.le_refl _⟩, ⟨by (with_reducible repeat (first | apply Kd.R_alloc | apply Kd.R_drewN | apply Kd.R_drew)); exact HO_192.out⟩, ⟨by repeat (first | (with_reducible exact HR257.out) | (with_reducible refine Kd.C_alloc ?_ _) | (with_reducible refine Kd.C_drewN ?_ _) | (with_reducible refine Kd.C_drew ?_) | exact HR257.out)⟩, ⟨by repeat (first | (with_reducible exact HR258_0.out) | (with_reducible refine Kd.C_alloc ?_ _) | (with_reducible refine Kd.C_drewN ?_ _) | (with_reducible refine Kd.C_drew ?_) | exact HR258_0.out)⟩, ⟨by repeat (first | (with_reducible exact HR278.out) | (with_reducible refine Kd.C_alloc ?_ _) | (with_reducible refine Kd.C_drewN ?_ _) | (with_reducible refine Kd.C_drew ?_) | exact HR278.out)⟩, ⟨by repeat (first | (with_reducible exact HR282.out) | (with_reducible refine Kd.C_alloc ?_ _) | (with_reducible refine Kd.C_drewN ?_ _) | (with_reducible refine Kd.C_drew ?_) | exact HR282.out)⟩, ⟨by repeat (first | (with_reducible first | exact HB.out | apply below_alloc | apply pw_below_drewN | apply below_drew1) | exact HB.out)⟩⟩
                                                    case round =>
                                                      clear H'
                                                      try clear c1
                                                      try clear c2
                                                      try clear p2
                                                      try clear q2
                                                      try clear hx2
                                                      try clear c3
                                                      try clear hcv3
                                                      try clear c4
                                                      try clear hcv4
                                                      try clear c5
                                                      try clear c6
                                                      try clear p6
                                                      try clear c7
                                                      try clear c8
                                                      try clear c8b0
                                                      try clear c8b1
                                                      try clear c9
                                                      try clear hcv9
                                                      try clear c10
                                                      try clear c11
                                                      try clear c11b0
                                                      try clear c11b1
                                                      try clear c12
                                                      try clear c15
                                                      try clear c16
                                                      try clear c17
                                                      try clear c18
                                                      try clear c19
                                                      try clear c20
                                                      try clear c21
                                                      try clear c21b0
                                                      try clear p21
                                                      try clear q21
                                                      try clear hx21
                                                      try clear c22
                                                      try clear c22b0
                                                      try clear c23
                                                      try clear c23b0
                                                      try clear p23
                                                      try clear q23
                                                      try clear hx23
                                                      try clear c24
                                                      try clear c25
                                                      try clear p25
                                                      try clear q25
                                                      try clear hx25
                                                      try clear p26
                                                      try clear q26
                                                      try clear hx26
                                                      try clear c29
                                                      try clear c29b0
                                                      try clear c29b1
                                                      try clear c30
                                                      try clear c30b0
                                                      try clear c30b1
                                                      try clear c31
                                                      try clear c31b0
                                                      try clear c31b1
                                                      try clear c32
                                                      try clear c32b0
                                                      try clear c32b1
                                                      try clear hcv39
                                                      try clear hcv40
                                                      try clear c46
                                                      try clear c46b0
                                                      try clear c47
                                                      try clear c47b0
                                                      try clear c48
                                                      try clear c48b0
                                                      try clear c51
                                                      try clear c51b0
                                                      try clear c51b1
                                                      try clear c52
                                                      try clear c52b0
                                                      try clear c52b1
                                                      try clear c53
                                                      try clear c53b0
                                                      try clear c53b1
                                                      try clear c56
                                                      try clear c56b0
                                                      try clear c58
                                                      try clear c58b0
                                                      try clear c58b1
                                                      try clear c61
                                                      try clear p64
                                                      try clear c68
                                                      try clear c68b0
                                                      try clear c69
                                                      try clear c69b0
                                                      try clear c70
                                                      try clear c70b0
                                                      try clear c73
                                                      try clear c73b0
                                                      try clear c73b1
                                                      try clear c80
                                                      try clear c80b0
                                                      try clear c81
                                                      try clear c81b0
                                                      try clear c82
                                                      try clear c82b0
                                                      try clear c85
                                                      try clear c85b0
                                                      try clear c85b1
                                                      try clear c86
                                                      try clear c86b0
                                                      try clear c86b1
                                                      try clear c87
                                                      try clear hcv90
                                                      try clear hcv91
                                                      try clear c96
                                                      try clear hx217_0
                                                      try clear hx238_0
                                                      try clear hx258_0
                                                      try clear hx266_0
                                                      try clear p2
                                                      try clear p21
                                                      try clear p217
                                                      try clear p23
                                                      try clear p238
                                                      try clear p25
                                                      try clear p258
                                                      try clear p266
                                                      try clear p6
                                                      try clear p64
                                                      try clear q2
                                                      try clear q21
                                                      try clear q217
                                                      try clear q23
                                                      try clear q238
                                                      try clear q25
                                                      try clear q258
                                                      try clear q266
                                                      obtain ⟨x229_6, rfl, HA, HK6, HO_192, HR257, HR258_0, HR278, HR282, HB⟩ := hrel
                                                      cases gk with
                                                      | zero => exact absurd HA.out (by simp [shapesearchlaw03_CodecAnswers.l5])
                                                      | succ k6 =>
                                                        have H := HA.out
                                                        clear HA
                                                        simp only [shapesearchlaw03_CodecAnswers.l5] at H
                                                        by_cases c99 : x229_6 < (y279.length : Int)
                                                        · rw [if_pos c99] at H
                                                          have c99b0 : decide (x229_6 < (y279.length : Int)) = true := decide_eq_true c99
                                                          clear c99
                                                          by_cases c100 : 0 ≤ x229_6
                                                          · rw [if_pos c100] at H
                                                            have c100b0 : decide (0 ≤ x229_6) = true := decide_eq_true c100
                                                            clear c100
                                                            by_cases c101 : x229_6 < (y279.length : Int)
                                                            · rw [if_pos c101] at H
                                                              have c101b0 : decide (x229_6 < (y279.length : Int)) = true := decide_eq_true c101
                                                              clear c101
                                                              replace H := Option.bind_eq_some_iff.mp H
                                                              obtain ⟨t284, A1020, H⟩ := H
                                                              replace H : ((some (([a5, ((rd_L2 y254 x177_4).length : Int), wrap64 (t284 - 1)] : List Int) : List Int)).bind fun y285 => (shapesearchlaw03_CodecAnswers.l6 k6 l0 a4 a5 (rd_L2 y254 x177_4) (rd y263 x194_5) (rd_L3 y279 x229_6) y254 (y254.length : Int) x177_4 y263 (y263.length : Int) x194_5 y279 (y279.length : Int) x229_6 y285 (y285.length : Int) 0)) = some r := H
                                                              have A102 := Aside0.mk A1020
                                                              clear A1020
                                                              obtain ⟨y285, hy285⟩ : ∃ y_ : List Int, y_ = (([a5, ((rd_L2 y254 x177_4).length : Int), wrap64 (t284 - 1)] : List Int)) := ⟨_, rfl⟩
                                                              replace H : (shapesearchlaw03_CodecAnswers.l6 k6 l0 a4 a5 (rd_L2 y254 x177_4) (rd y263 x194_5) (rd_L3 y279 x229_6) y254 (y254.length : Int) x177_4 y263 (y263.length : Int) x194_5 y279 (y279.length : Int) x229_6 y285 (y285.length : Int) 0) = some r := by first | (rw [hy285]; with_reducible exact H) | (have H2_ := (Option.bind_some _ _).symm.trans H; rw [hy285]; with_reducible exact H2_) | (have H2_ := (Option.bind_some _ _).symm.trans H; with_reducible exact H2_) | with_reducible exact H | (rw [hy285]; exact H) | exact H
                                                              have Ny285 := Aside0.mk hy285
                                                              clear hy285
                                                              have H' := Aside0.mk H
                                                              clear H
                                                              have p283 : 0 ≤ (x229_6 : Int) := of_decide_eq_true (by first | (with_reducible assumption) | assumption)
                                                              have q283 : x229_6 < (y279.length : Int) := of_decide_eq_true (by first | (with_reducible assumption) | assumption)
                                                              obtain ⟨ad283, A283_0, c283_0, e283, hx283_0, hl283_0, hi283_0⟩ := at_L3 (by first | (with_reducible exact Kd.C_drewN HR282.out _) | (with_reducible exact HR282.out) | repeat (first | (with_reducible exact HR282.out) | (with_reducible refine Kd.C_alloc ?_ _) | (with_reducible refine Kd.C_drewN ?_ _) | (with_reducible refine Kd.C_drew ?_) | exact HR282.out)) x229_6 p283 q283
                                                              cases e283
                                                              have HR283_0 := Aside0.mk hi283_0
                                                              have HC283_0 := Aside0.mk hl283_0
                                                              clear hi283_0 hl283_0
                                                              replace p283 := eq_true p283
                                                              replace q283 := eq_true q283
                                                              go_wp2_with (first | ((with_reducible refine gate_callee (f := 12) rfl ?_); refine goesL_ (some 237) rfl rfl Try.func12 (by kernel_rfl) rfl #[.int .i64 a5, .int .i64 20] rfl (by (try simp only [List.map_toArray, List.map_cons, List.map_nil]); first | done | rfl | (simp only [List.length_drop, List.length_take]; rfl)) ?_; (with_reducible refine (shapesearchkeep_Mod.calls a5 20 t284 _ A102.out).mono ?_); rintro e w' ⟨rfl, ⟨nd, rfl⟩⟩; refine ⟨_, rfl, ?_⟩) | ((with_reducible refine gate_dst (N := 239) rfl ?_); (try (refine gate_guard (by rfl) ?_; dsimp only)); refine Kd.R_lit (Kd.int .i64) _ 3 ?hg (N := 239) ?hd (xs := ([a5, ((rd_L2 y254 x177_4).length : Int), wrap64 (t284 - 1)] : List Int)) (inner := [.int .i64 a5, .int .i64 ((rd_L2 y254 x177_4).length : Int), .int .i64 (wrap64 (t284 - 1))]) (ok := fun _ => True) (okp := fun _ => True) ?hr ?hp (fun _ hk => hk) trivial (Below.refl _ _) (Nat.le_refl _) (by simp) ?_; (case hd => rfl); (case hg => rfl); (case hr => first | (go_simp; done) | (go_simp; rfl)); (case hp => exact (Reps.one (show Kd.M (Kd.int .i64) _ _ _ a5 [.int .i64 a5] from rfl) (Reps.one (show Kd.M (Kd.int .i64) _ _ _ ((rd_L2 y254 x177_4).length : Int) [.int .i64 ((rd_L2 y254 x177_4).length : Int)] from rfl) (Reps.one (show Kd.M (Kd.int .i64) _ _ _ (wrap64 (t284 - 1)) [.int .i64 (wrap64 (t284 - 1))] from rfl) (Reps.none _ _))))); intro v286 w103 ho104 hb hg_ hnew_; clear hg_ hnew_; (first | rw [← Ny285.out] at ho104 | (simp only [Int.reduceToNat] at ho104; rw [← Ny285.out] at ho104)); have n0_ := Aside0.mk (Kd.R_elder' (by (with_reducible repeat (first | apply Kd.R_alloc | apply Kd.R_drewN | apply Kd.R_drew)); exact HO_192.out) (Kd.R_base ho104) hb); have n1_ := Aside0.mk (Kd.R_lower (Kd.R_new' ho104 (Kd.R_lt (by (with_reducible repeat (first | apply Kd.R_alloc | apply Kd.R_drewN | apply Kd.R_drew)); exact HO_192.out))) (below_size (by repeat (first | (with_reducible first | exact HB.out | apply below_alloc | apply pw_below_drewN | apply below_drew1) | exact HB.out)))); have n2_ := Aside0.mk (Kd.C_below (by first | (with_reducible exact Kd.C_drewN HR257.out _) | (with_reducible exact HR257.out) | repeat (first | (with_reducible exact HR257.out) | (with_reducible refine Kd.C_alloc ?_ _) | (with_reducible refine Kd.C_drewN ?_ _) | (with_reducible refine Kd.C_drew ?_) | exact HR257.out)) hb); have n3_ := Aside0.mk (Kd.C_below (by first | (with_reducible exact Kd.C_drewN HR258_0.out _) | (with_reducible exact HR258_0.out) | repeat (first | (with_reducible exact HR258_0.out) | (with_reducible refine Kd.C_alloc ?_ _) | (with_reducible refine Kd.C_drewN ?_ _) | (with_reducible refine Kd.C_drew ?_) | exact HR258_0.out)) hb); have n4_ := Aside0.mk (Kd.C_below (by first | (with_reducible exact Kd.C_drewN HR278.out _) | (with_reducible exact HR278.out) | repeat (first | (with_reducible exact HR278.out) | (with_reducible refine Kd.C_alloc ?_ _) | (with_reducible refine Kd.C_drewN ?_ _) | (with_reducible refine Kd.C_drew ?_) | exact HR278.out)) hb); have n5_ := Aside0.mk (Kd.C_below (by first | (with_reducible exact Kd.C_drewN HR282.out _) | (with_reducible exact HR282.out) | repeat (first | (with_reducible exact HR282.out) | (with_reducible refine Kd.C_alloc ?_ _) | (with_reducible refine Kd.C_drewN ?_ _) | (with_reducible refine Kd.C_drew ?_) | exact HR282.out)) hb); have n6_ := Aside0.mk (Kd.C_below (by first | (with_reducible exact Kd.C_drewN HR283_0.out _) | (with_reducible exact HR283_0.out) | repeat (first | (with_reducible exact HR283_0.out) | (with_reducible refine Kd.C_alloc ?_ _) | (with_reducible refine Kd.C_drewN ?_ _) | (with_reducible refine Kd.C_drew ?_) | exact HR283_0.out)) hb); have n7_ := Aside0.mk (below_step (by repeat (first | (with_reducible first | exact HB.out | apply below_alloc | apply pw_below_drewN | apply below_drew1) | exact HB.out)) hb); clear HO_192; clear HR257; clear HR258_0; clear HR278; clear HR282; clear HR283_0; clear HB; have HO_192 := n0_; have HO287 := n1_; have HR257 := n2_; have HR258_0 := n3_; have HR278 := n4_; have HR282 := n5_; have HR283_0 := n6_; have HB := n7_; clear n0_ n1_ n2_ n3_ n4_ n5_ n6_ n7_; clear hb ho104; obtain ⟨Ao105, co105, eo105⟩ := Kd.R_slice HO287.out; subst eo105))
                                                              go_loopg [241] k6 (fun kq v241 w' => ∃ (x241_7 : Int), v241 = .int .i64 x241_7 ∧ Aside0 (shapesearchlaw03_CodecAnswers.l6 kq l0 a4 a5 (rd_L2 y254 x177_4) (rd y263 x194_5) (rd_L3 y279 x229_6) y254 (y254.length : Int) x177_4 y263 (y263.length : Int) x194_5 y279 (y279.length : Int) x229_6 y285 (y285.length : Int) x241_7 = some r) ∧ Aside0 (kq ≤ k6) ∧ Aside0 (Kd.R (Kd.int .i64) 3 w' w.heap.size (fun k_ => some k_ ≠ ((.slice Ao105 y285.length co105) : Value).ownBlock) (.slice (some ad266) y263.length co79) y263) ∧ Aside0 (Kd.R (Kd.int .i64) 3 w' w.heap.size (fun k_ => some k_ ≠ ((.slice (some ad266) y263.length co79) : Value).ownBlock) (.slice Ao105 y285.length co105) y285) ∧ Aside0 (Kd.C (Kd.slice 3 (Kd.int .i64)) w' (some ad258) y254.length y254) ∧ Aside0 (Kd.C (Kd.int .i64) w' A258_0 (rd_L2 y254 x177_4).length (rd_L2 y254 x177_4)) ∧ Aside0 (Kd.C (Kd.int .u8) w' Ao96 y275.length y275) ∧ Aside0 (Kd.C (Kd.slice 5 (Kd.int .u8)) w' (some ad283) y279.length y279) ∧ Aside0 (Kd.C (Kd.int .u8) w' A283_0 (rd_L3 y279 x229_6).length (rd_L3 y279 x229_6)) ∧ Aside0 (Below w.heap.size w w'))
                                                              case atStart => exact ⟨(0), (by first | rfl | (simp; done) | (simp [*]; done)), H', ⟨Nat.le_refl _⟩, ⟨by (with_reducible repeat (first | apply Kd.R_alloc | apply Kd.R_drewN | apply Kd.R_drew)); exact Kd.R_mono HO_192.out (fun _ hk => hk.2)⟩, ⟨by (with_reducible repeat (first | apply Kd.R_alloc | apply Kd.R_drewN | apply Kd.R_drew)); exact Kd.R_mono HO287.out (fun _ hk => hk.2)⟩, ⟨by repeat (first | (with_reducible exact HR257.out) | (with_reducible refine Kd.C_alloc ?_ _) | (with_reducible refine Kd.C_drewN ?_ _) | (with_reducible refine Kd.C_drew ?_) | exact HR257.out)⟩, ⟨by repeat (first | (with_reducible exact HR258_0.out) | (with_reducible refine Kd.C_alloc ?_ _) | (with_reducible refine Kd.C_drewN ?_ _) | (with_reducible refine Kd.C_drew ?_) | exact HR258_0.out)⟩, ⟨by repeat (first | (with_reducible exact HR278.out) | (with_reducible refine Kd.C_alloc ?_ _) | (with_reducible refine Kd.C_drewN ?_ _) | (with_reducible refine Kd.C_drew ?_) | exact HR278.out)⟩, ⟨by repeat (first | (with_reducible exact HR282.out) | (with_reducible refine Kd.C_alloc ?_ _) | (with_reducible refine Kd.C_drewN ?_ _) | (with_reducible refine Kd.C_drew ?_) | exact HR282.out)⟩, ⟨by repeat (first | (with_reducible exact HR283_0.out) | (with_reducible refine Kd.C_alloc ?_ _) | (with_reducible refine Kd.C_drewN ?_ _) | (with_reducible refine Kd.C_drew ?_) | exact HR283_0.out)⟩, ⟨by repeat (first | (with_reducible first | exact HB.out | apply below_alloc | apply pw_below_drewN | apply below_drew1) | exact HB.out)⟩⟩
                                                              case round =>
                                                                clear H'
                                                                try clear c1
                                                                try clear c2
                                                                try clear p2
                                                                try clear q2
                                                                try clear hx2
                                                                try clear c3
                                                                try clear hcv3
                                                                try clear c4
                                                                try clear hcv4
                                                                try clear c5
                                                                try clear c6
                                                                try clear p6
                                                                try clear c7
                                                                try clear c8
                                                                try clear c8b0
                                                                try clear c8b1
                                                                try clear c9
                                                                try clear hcv9
                                                                try clear c10
                                                                try clear c11
                                                                try clear c11b0
                                                                try clear c11b1
                                                                try clear c12
                                                                try clear c15
                                                                try clear c16
                                                                try clear c17
                                                                try clear c18
                                                                try clear c19
                                                                try clear c20
                                                                try clear c21
                                                                try clear c21b0
                                                                try clear p21
                                                                try clear q21
                                                                try clear hx21
                                                                try clear c22
                                                                try clear c22b0
                                                                try clear c23
                                                                try clear c23b0
                                                                try clear p23
                                                                try clear q23
                                                                try clear hx23
                                                                try clear c24
                                                                try clear c25
                                                                try clear p25
                                                                try clear q25
                                                                try clear hx25
                                                                try clear p26
                                                                try clear q26
                                                                try clear hx26
                                                                try clear c28
                                                                try clear p28
                                                                try clear q28
                                                                try clear hx28
                                                                try clear c29
                                                                try clear c29b0
                                                                try clear c29b1
                                                                try clear c30
                                                                try clear c30b0
                                                                try clear c30b1
                                                                try clear c31
                                                                try clear c31b0
                                                                try clear c31b1
                                                                try clear c32
                                                                try clear c32b0
                                                                try clear c32b1
                                                                try clear hcv39
                                                                try clear hcv40
                                                                try clear c46
                                                                try clear c46b0
                                                                try clear c47
                                                                try clear c47b0
                                                                try clear c48
                                                                try clear c48b0
                                                                try clear c51
                                                                try clear c51b0
                                                                try clear c51b1
                                                                try clear c52
                                                                try clear c52b0
                                                                try clear c52b1
                                                                try clear c53
                                                                try clear c53b0
                                                                try clear c53b1
                                                                try clear c56
                                                                try clear c56b0
                                                                try clear c58
                                                                try clear c58b0
                                                                try clear c58b1
                                                                try clear c61
                                                                try clear p64
                                                                try clear c68
                                                                try clear c68b0
                                                                try clear c69
                                                                try clear c69b0
                                                                try clear c70
                                                                try clear c70b0
                                                                try clear c73
                                                                try clear c73b0
                                                                try clear c73b1
                                                                try clear c80
                                                                try clear c80b0
                                                                try clear c81
                                                                try clear c81b0
                                                                try clear c82
                                                                try clear c82b0
                                                                try clear c85
                                                                try clear c85b0
                                                                try clear c85b1
                                                                try clear c86
                                                                try clear c86b0
                                                                try clear c86b1
                                                                try clear c87
                                                                try clear hcv90
                                                                try clear hcv91
                                                                try clear c96
                                                                try clear c99
                                                                try clear c99b0
                                                                try clear c100
                                                                try clear c100b0
                                                                try clear c101
                                                                try clear c101b0
                                                                try clear hx217_0
                                                                try clear hx238_0
                                                                try clear hx258_0
                                                                try clear hx266_0
                                                                try clear hx283_0
                                                                try clear p2
                                                                try clear p21
                                                                try clear p217
                                                                try clear p23
                                                                try clear p238
                                                                try clear p25
                                                                try clear p258
                                                                try clear p26
                                                                try clear p266
                                                                try clear p283
                                                                try clear p6
                                                                try clear p64
                                                                try clear q2
                                                                try clear q21
                                                                try clear q217
                                                                try clear q23
                                                                try clear q238
                                                                try clear q25
                                                                try clear q258
                                                                try clear q26
                                                                try clear q266
                                                                try clear q283
                                                                obtain ⟨x241_7, rfl, HA, HK7, HO_192, HO_239, HR257, HR258_0, HR278, HR282, HR283_0, HB⟩ := hrel
                                                                cases gk with
                                                                | zero => exact absurd HA.out (by simp [shapesearchlaw03_CodecAnswers.l6])
                                                                | succ k7 =>
                                                                  have H := HA.out
                                                                  clear HA
                                                                  simp only [shapesearchlaw03_CodecAnswers.l6] at H
                                                                  by_cases c106 : x241_7 < (y285.length : Int)
                                                                  · rw [if_pos c106] at H
                                                                    have c106b0 : decide (x241_7 < (y285.length : Int)) = true := decide_eq_true c106
                                                                    clear c106
                                                                    by_cases c107 : 0 ≤ x241_7
                                                                    · rw [if_pos c107] at H
                                                                      have c107b0 : decide (0 ≤ x241_7) = true := decide_eq_true c107
                                                                      clear c107
                                                                      by_cases c108 : x241_7 < (y285.length : Int)
                                                                      · rw [if_pos c108] at H
                                                                        have c108b0 : decide (x241_7 < (y285.length : Int)) = true := decide_eq_true c108
                                                                        clear c108
                                                                        replace H := Option.bind_eq_some_iff.mp H
                                                                        obtain ⟨⟨t289, t290⟩, A1090, H⟩ := H
                                                                        replace H : ((shapesearchref03_Unpack.f k7 (rd_L3 y279 x229_6) (rd y263 x194_5) (rd y285 x241_7)).bind fun bt293 => ((shapesearchkeep_Ints.f k7 t289 bt293.1).bind fun t297 => (if t297 = true then (if t290 = bt293.2 then (shapesearchlaw03_CodecAnswers.l6 k7 l0 a4 a5 (rd_L2 y254 x177_4) (rd y263 x194_5) (rd_L3 y279 x229_6) y254 (y254.length : Int) x177_4 y263 (y263.length : Int) x194_5 y279 (y279.length : Int) x229_6 y285 (y285.length : Int) (wrap64 (x241_7 + 1))) else (some false)) else (some false)))) = some r := H
                                                                        have A109 := Aside0.mk A1090
                                                                        clear A1090
                                                                        replace H := Option.bind_eq_some_iff.mp H
                                                                        obtain ⟨⟨t293, t294⟩, A1100, H⟩ := H
                                                                        replace H : ((shapesearchkeep_Ints.f k7 t289 t293).bind fun t297 => (if t297 = true then (if t290 = t294 then (shapesearchlaw03_CodecAnswers.l6 k7 l0 a4 a5 (rd_L2 y254 x177_4) (rd y263 x194_5) (rd_L3 y279 x229_6) y254 (y254.length : Int) x177_4 y263 (y263.length : Int) x194_5 y279 (y279.length : Int) x229_6 y285 (y285.length : Int) (wrap64 (x241_7 + 1))) else (some false)) else (some false))) = some r := H
                                                                        have A110 := Aside0.mk A1100
                                                                        clear A1100
                                                                        replace H := Option.bind_eq_some_iff.mp H
                                                                        obtain ⟨t297, A1110, H⟩ := H
                                                                        replace H : (if t297 = true then (if t290 = t294 then (shapesearchlaw03_CodecAnswers.l6 k7 l0 a4 a5 (rd_L2 y254 x177_4) (rd y263 x194_5) (rd_L3 y279 x229_6) y254 (y254.length : Int) x177_4 y263 (y263.length : Int) x194_5 y279 (y279.length : Int) x229_6 y285 (y285.length : Int) (wrap64 (x241_7 + 1))) else (some false)) else (some false)) = some r := H
                                                                        have A111 := Aside0.mk A1110
                                                                        clear A1110
                                                                        by_cases c112 : t297 = true
                                                                        · subst c112
                                                                          have H1 : (if t290 = t294 then (shapesearchlaw03_CodecAnswers.l6 k7 l0 a4 a5 (rd_L2 y254 x177_4) (rd y263 x194_5) (rd_L3 y279 x229_6) y254 (y254.length : Int) x177_4 y263 (y263.length : Int) x194_5 y279 (y279.length : Int) x229_6 y285 (y285.length : Int) (wrap64 (x241_7 + 1))) else (some false)) = some r := by rw [if_pos rfl] at H; exact H
                                                                          clear H
                                                                          have H := H1
                                                                          clear H1
                                                                          by_cases c113 : t290 = t294
                                                                          · rw [if_pos c113] at H
                                                                            have c113b0 : (t290 == t294) = true := beq_iff_eq.mpr c113
                                                                            have c113b1 : (t290 != t294) = false := bne_eq_false_iff_eq.mpr c113
                                                                            clear c113
                                                                            have H' := Aside0.mk H
                                                                            clear H
                                                                            have p288 : 0 ≤ (x241_7 : Int) := of_decide_eq_true (by first | (with_reducible assumption) | assumption)
                                                                            have q288 : x241_7 < (y285.length : Int) := of_decide_eq_true (by first | (with_reducible assumption) | assumption)
                                                                            obtain ⟨ad288, e288, hx288_0⟩ := Kd.at_int (Kd.R_reads' HO_239.out).2.2 x241_7 p288 q288
                                                                            cases e288
                                                                            replace p288 := eq_true p288
                                                                            replace q288 := eq_true q288
                                                                            go_wp2_with (first | ((with_reducible refine gate_callee (f := 25) rfl ?_); refine goesL_ (some 249) rfl rfl Try.func25 (by kernel_rfl) rfl #[.slice A283_0 (rd_L3 y279 x229_6).length c283_0, .int .i64 (rd y263 x194_5), .int .i64 (rd y285 x241_7)] rfl (by (try simp only [List.map_toArray, List.map_cons, List.map_nil]); first | done | rfl | (simp only [List.length_drop, List.length_take]; rfl)) ?_; (with_reducible refine (codec_Unpack.calls _ _ (rd_L3 y279 x229_6) (rd y263 x194_5) (rd y285 x241_7) t289 t290 _ ?side1 ?side2 A109.out).mono ?_); (case side1 => repeat (first | exact (by first | (with_reducible exact Kd.C_drewN HR283_0.out _) | (with_reducible exact HR283_0.out) | repeat (first | (with_reducible exact HR283_0.out) | (with_reducible refine Kd.C_alloc ?_ _) | (with_reducible refine Kd.C_drewN ?_ _) | (with_reducible refine Kd.C_drew ?_) | exact HR283_0.out)) | (with_reducible refine Kd.C_alloc ?_ _) | (with_reducible refine Kd.C_drewN ?_ _) | (with_reducible refine Kd.C_drew ?_))); (case side2 => exact HC283_0.out); rintro e w114 ⟨v291, rfl, ho0, hb⟩; refine ⟨_, rfl, ?_⟩; have n0_ := Aside0.mk (Kd.R_elder' (by (with_reducible repeat (first | apply Kd.R_alloc | apply Kd.R_drewN | apply Kd.R_drew)); exact HO_192.out) (Kd.R_base ho0) hb); have n1_ := Aside0.mk (Kd.R_elder' (by (with_reducible repeat (first | apply Kd.R_alloc | apply Kd.R_drewN | apply Kd.R_drew)); exact HO_239.out) (Kd.R_base ho0) hb); have n2_ := Aside0.mk (Kd.R_lower (Kd.R_new' (Kd.R_new' ho0 (Kd.R_lt (by (with_reducible repeat (first | apply Kd.R_alloc | apply Kd.R_drewN | apply Kd.R_drew)); exact HO_192.out))) (Kd.R_lt (by (with_reducible repeat (first | apply Kd.R_alloc | apply Kd.R_drewN | apply Kd.R_drew)); exact HO_239.out))) (below_size (by repeat (first | (with_reducible first | exact HB.out | apply below_alloc | apply pw_below_drewN | apply below_drew1) | exact HB.out)))); have n3_ := Aside0.mk (Kd.C_below (by first | (with_reducible exact Kd.C_drewN HR257.out _) | (with_reducible exact HR257.out) | repeat (first | (with_reducible exact HR257.out) | (with_reducible refine Kd.C_alloc ?_ _) | (with_reducible refine Kd.C_drewN ?_ _) | (with_reducible refine Kd.C_drew ?_) | exact HR257.out)) hb); have n4_ := Aside0.mk (Kd.C_below (by first | (with_reducible exact Kd.C_drewN HR258_0.out _) | (with_reducible exact HR258_0.out) | repeat (first | (with_reducible exact HR258_0.out) | (with_reducible refine Kd.C_alloc ?_ _) | (with_reducible refine Kd.C_drewN ?_ _) | (with_reducible refine Kd.C_drew ?_) | exact HR258_0.out)) hb); have n5_ := Aside0.mk (Kd.C_below (by first | (with_reducible exact Kd.C_drewN HR278.out _) | (with_reducible exact HR278.out) | repeat (first | (with_reducible exact HR278.out) | (with_reducible refine Kd.C_alloc ?_ _) | (with_reducible refine Kd.C_drewN ?_ _) | (with_reducible refine Kd.C_drew ?_) | exact HR278.out)) hb); have n6_ := Aside0.mk (Kd.C_below (by first | (with_reducible exact Kd.C_drewN HR282.out _) | (with_reducible exact HR282.out) | repeat (first | (with_reducible exact HR282.out) | (with_reducible refine Kd.C_alloc ?_ _) | (with_reducible refine Kd.C_drewN ?_ _) | (with_reducible refine Kd.C_drew ?_) | exact HR282.out)) hb); have n7_ := Aside0.mk (Kd.C_below (by first | (with_reducible exact Kd.C_drewN HR283_0.out _) | (with_reducible exact HR283_0.out) | repeat (first | (with_reducible exact HR283_0.out) | (with_reducible refine Kd.C_alloc ?_ _) | (with_reducible refine Kd.C_drewN ?_ _) | (with_reducible refine Kd.C_drew ?_) | exact HR283_0.out)) hb); have n8_ := Aside0.mk (below_step (by repeat (first | (with_reducible first | exact HB.out | apply below_alloc | apply pw_below_drewN | apply below_drew1) | exact HB.out)) hb); clear HO_192; clear HO_239; clear HR257; clear HR258_0; clear HR278; clear HR282; clear HR283_0; clear HB; have HO_192 := n0_; have HO_239 := n1_; have HO292 := n2_; have HR257 := n3_; have HR258_0 := n4_; have HR278 := n5_; have HR282 := n6_; have HR283_0 := n7_; have HB := n8_; clear n0_ n1_ n2_ n3_ n4_ n5_ n6_ n7_ n8_; (try clear hb); (try clear hb2); (try clear hk); (try clear hi); (try clear ho0)) | ((with_reducible refine gate_callee (f := 26) rfl ?_); refine goesL_ (some 256) rfl rfl Try.func26 (by kernel_rfl) rfl #[.slice A283_0 (rd_L3 y279 x229_6).length c283_0, .int .i64 (rd y263 x194_5), .int .i64 (rd y285 x241_7)] rfl (by (try simp only [List.map_toArray, List.map_cons, List.map_nil]); first | done | rfl | (simp only [List.length_drop, List.length_take]; rfl)) ?_; (with_reducible refine (shapesearchref03_Unpack.calls k7 _ _ (rd_L3 y279 x229_6) (rd y263 x194_5) (rd y285 x241_7) t293 t294 _ ?side1 ?side2 A110.out).mono ?_); (case side1 => repeat (first | exact (by first | (with_reducible exact Kd.C_drewN HR283_0.out _) | (with_reducible exact HR283_0.out) | repeat (first | (with_reducible exact HR283_0.out) | (with_reducible refine Kd.C_alloc ?_ _) | (with_reducible refine Kd.C_drewN ?_ _) | (with_reducible refine Kd.C_drew ?_) | exact HR283_0.out)) | (with_reducible refine Kd.C_alloc ?_ _) | (with_reducible refine Kd.C_drewN ?_ _) | (with_reducible refine Kd.C_drew ?_))); (case side2 => exact HC283_0.out); rintro e w115 ⟨v295, rfl, ho0, hb⟩; refine ⟨_, rfl, ?_⟩; have n0_ := Aside0.mk (Kd.R_elder' (by (with_reducible repeat (first | apply Kd.R_alloc | apply Kd.R_drewN | apply Kd.R_drew)); exact HO_192.out) (Kd.R_base ho0) hb); have n1_ := Aside0.mk (Kd.R_elder' (by (with_reducible repeat (first | apply Kd.R_alloc | apply Kd.R_drewN | apply Kd.R_drew)); exact HO_239.out) (Kd.R_base ho0) hb); have n2_ := Aside0.mk (Kd.R_elder' (by (with_reducible repeat (first | apply Kd.R_alloc | apply Kd.R_drewN | apply Kd.R_drew)); exact HO292.out) (Kd.R_base ho0) hb); have n3_ := Aside0.mk (Kd.R_lower (Kd.R_new' (Kd.R_new' (Kd.R_new' ho0 (Kd.R_lt (by (with_reducible repeat (first | apply Kd.R_alloc | apply Kd.R_drewN | apply Kd.R_drew)); exact HO_192.out))) (Kd.R_lt (by (with_reducible repeat (first | apply Kd.R_alloc | apply Kd.R_drewN | apply Kd.R_drew)); exact HO_239.out))) (Kd.R_lt (by (with_reducible repeat (first | apply Kd.R_alloc | apply Kd.R_drewN | apply Kd.R_drew)); exact HO292.out))) (below_size (by repeat (first | (with_reducible first | exact HB.out | apply below_alloc | apply pw_below_drewN | apply below_drew1) | exact HB.out)))); have n4_ := Aside0.mk (Kd.C_below (by first | (with_reducible exact Kd.C_drewN HR257.out _) | (with_reducible exact HR257.out) | repeat (first | (with_reducible exact HR257.out) | (with_reducible refine Kd.C_alloc ?_ _) | (with_reducible refine Kd.C_drewN ?_ _) | (with_reducible refine Kd.C_drew ?_) | exact HR257.out)) hb); have n5_ := Aside0.mk (Kd.C_below (by first | (with_reducible exact Kd.C_drewN HR258_0.out _) | (with_reducible exact HR258_0.out) | repeat (first | (with_reducible exact HR258_0.out) | (with_reducible refine Kd.C_alloc ?_ _) | (with_reducible refine Kd.C_drewN ?_ _) | (with_reducible refine Kd.C_drew ?_) | exact HR258_0.out)) hb); have n6_ := Aside0.mk (Kd.C_below (by first | (with_reducible exact Kd.C_drewN HR278.out _) | (with_reducible exact HR278.out) | repeat (first | (with_reducible exact HR278.out) | (with_reducible refine Kd.C_alloc ?_ _) | (with_reducible refine Kd.C_drewN ?_ _) | (with_reducible refine Kd.C_drew ?_) | exact HR278.out)) hb); have n7_ := Aside0.mk (Kd.C_below (by first | (with_reducible exact Kd.C_drewN HR282.out _) | (with_reducible exact HR282.out) | repeat (first | (with_reducible exact HR282.out) | (with_reducible refine Kd.C_alloc ?_ _) | (with_reducible refine Kd.C_drewN ?_ _) | (with_reducible refine Kd.C_drew ?_) | exact HR282.out)) hb); have n8_ := Aside0.mk (Kd.C_below (by first | (with_reducible exact Kd.C_drewN HR283_0.out _) | (with_reducible exact HR283_0.out) | repeat (first | (with_reducible exact HR283_0.out) | (with_reducible refine Kd.C_alloc ?_ _) | (with_reducible refine Kd.C_drewN ?_ _) | (with_reducible refine Kd.C_drew ?_) | exact HR283_0.out)) hb); have n9_ := Aside0.mk (below_step (by repeat (first | (with_reducible first | exact HB.out | apply below_alloc | apply pw_below_drewN | apply below_drew1) | exact HB.out)) hb); clear HO_192; clear HO_239; clear HO292; clear HR257; clear HR258_0; clear HR278; clear HR282; clear HR283_0; clear HB; have HO_192 := n0_; have HO_239 := n1_; have HO292 := n2_; have HO296 := n3_; have HR257 := n4_; have HR258_0 := n5_; have HR278 := n6_; have HR282 := n7_; have HR283_0 := n8_; have HB := n9_; clear n0_ n1_ n2_ n3_ n4_ n5_ n6_ n7_ n8_ n9_; (try clear hb); (try clear hb2); (try clear hk); (try clear hi); (try clear ho0); obtain ⟨Ao116, co116, eo116⟩ := Kd.R_slice HO292.out; subst eo116; obtain ⟨Ao117, co117, eo117⟩ := Kd.R_slice HO296.out; subst eo117) | ((with_reducible refine gate_callee (f := 27) rfl ?_); refine goesL_ (some 261) rfl rfl Try.func27 (by kernel_rfl) rfl #[.slice Ao116 t289.length co116, .slice Ao117 t293.length co117] rfl (by (try simp only [List.map_toArray, List.map_cons, List.map_nil]); first | done | rfl | (simp only [List.length_drop, List.length_take]; rfl)) ?_; (with_reducible refine (shapesearchkeep_Ints.calls k7 _ _ t289 _ _ t293 true _ ?side1 ?side2 ?side3 ?side4 A111.out).mono ?_); (case side1 => repeat (first | exact (Kd.R_reads' HO292.out).2.2 | (with_reducible refine Kd.C_alloc ?_ _) | (with_reducible refine Kd.C_drewN ?_ _) | (with_reducible refine Kd.C_drew ?_))); (case side2 => exact (Kd.R_reads' HO292.out).2.1); (case side3 => repeat (first | exact (Kd.R_reads' HO296.out).2.2 | (with_reducible refine Kd.C_alloc ?_ _) | (with_reducible refine Kd.C_drewN ?_ _) | (with_reducible refine Kd.C_drew ?_))); (case side4 => exact (Kd.R_reads' HO296.out).2.1); rintro e w' ⟨rfl, ⟨nd, rfl⟩⟩; refine ⟨_, rfl, ?_⟩))
                                                                            go_roundg k7
                                                                            case measure => have := HK1.out; have := HK2.out; have := HK3.out; have := HK4.out; have := HK5.out; have := HK6.out; have := HK7.out; omega
                                                                            case rel => exact ⟨(wrap64 (x241_7 + 1)), (by first | rfl | (simp; done) | (simp [*]; done)), H', ⟨by have := HK1.out; have := HK2.out; have := HK3.out; have := HK4.out; have := HK5.out; have := HK6.out; have := HK7.out; omega⟩, ⟨by (with_reducible repeat (first | apply Kd.R_alloc | apply Kd.R_drewN | apply Kd.R_drew)); exact Kd.R_mono HO_192.out (fun _ hk => hk.1.1)⟩, ⟨by (with_reducible repeat (first | apply Kd.R_alloc | apply Kd.R_drewN | apply Kd.R_drew)); exact Kd.R_mono HO_239.out (fun _ hk => hk.1.1)⟩, ⟨by repeat (first | (with_reducible exact HR257.out) | (with_reducible refine Kd.C_alloc ?_ _) | (with_reducible refine Kd.C_drewN ?_ _) | (with_reducible refine Kd.C_drew ?_) | exact HR257.out)⟩, ⟨by repeat (first | (with_reducible exact HR258_0.out) | (with_reducible refine Kd.C_alloc ?_ _) | (with_reducible refine Kd.C_drewN ?_ _) | (with_reducible refine Kd.C_drew ?_) | exact HR258_0.out)⟩, ⟨by repeat (first | (with_reducible exact HR278.out) | (with_reducible refine Kd.C_alloc ?_ _) | (with_reducible refine Kd.C_drewN ?_ _) | (with_reducible refine Kd.C_drew ?_) | exact HR278.out)⟩, ⟨by repeat (first | (with_reducible exact HR282.out) | (with_reducible refine Kd.C_alloc ?_ _) | (with_reducible refine Kd.C_drewN ?_ _) | (with_reducible refine Kd.C_drew ?_) | exact HR282.out)⟩, ⟨by repeat (first | (with_reducible exact HR283_0.out) | (with_reducible refine Kd.C_alloc ?_ _) | (with_reducible refine Kd.C_drewN ?_ _) | (with_reducible refine Kd.C_drew ?_) | exact HR283_0.out)⟩, ⟨by repeat (first | (with_reducible first | exact HB.out | apply below_alloc | apply pw_below_drewN | apply below_drew1) | exact HB.out)⟩⟩
                                                                          · rw [if_neg c113] at H
                                                                            have c113b0 : (t290 == t294) = false := beq_eq_false_iff_ne.mpr c113
                                                                            have c113b1 : (t290 != t294) = true := bne_iff_ne.mpr c113
                                                                            exact absurd ((Option.some.inj H).trans HT_.out) (by decide)
                                                                        · replace c112 := Bool.eq_false_iff.mpr c112
                                                                          subst c112
                                                                          have H1 : (some false) = some r := by rw [if_neg (show ¬ (false = true) by decide)] at H; exact H
                                                                          clear H
                                                                          have H := H1
                                                                          clear H1
                                                                          exact absurd ((Option.some.inj H).trans HT_.out) (by decide)
                                                                      · rw [if_neg c108] at H
                                                                        exact absurd H (by simp)
                                                                    · rw [if_neg c107] at H
                                                                      exact absurd H (by simp)
                                                                  · rw [if_neg c106] at H
                                                                    have c106b0 : decide (x241_7 < (y285.length : Int)) = false := decide_eq_false c106
                                                                    clear c106
                                                                    have H' := Aside0.mk H
                                                                    clear H
                                                                    go_wp2
                                                                    go_roundg k7
                                                                    case measure => have := HK1.out; have := HK2.out; have := HK3.out; have := HK4.out; have := HK5.out; have := HK6.out; have := HK7.out; omega
                                                                    case rel => exact ⟨(wrap64 (x229_6 + 1)), (by first | rfl | (simp; done) | (simp [*]; done)), H', ⟨by have := HK1.out; have := HK2.out; have := HK3.out; have := HK4.out; have := HK5.out; have := HK6.out; have := HK7.out; omega⟩, ⟨by (with_reducible repeat (first | apply Kd.R_alloc | apply Kd.R_drewN | apply Kd.R_drew)); exact Kd.R_mono HO_192.out (fun _ hk => trivial)⟩, ⟨by repeat (first | (with_reducible exact HR257.out) | (with_reducible refine Kd.C_alloc ?_ _) | (with_reducible refine Kd.C_drewN ?_ _) | (with_reducible refine Kd.C_drew ?_) | exact HR257.out)⟩, ⟨by repeat (first | (with_reducible exact HR258_0.out) | (with_reducible refine Kd.C_alloc ?_ _) | (with_reducible refine Kd.C_drewN ?_ _) | (with_reducible refine Kd.C_drew ?_) | exact HR258_0.out)⟩, ⟨by repeat (first | (with_reducible exact HR278.out) | (with_reducible refine Kd.C_alloc ?_ _) | (with_reducible refine Kd.C_drewN ?_ _) | (with_reducible refine Kd.C_drew ?_) | exact HR278.out)⟩, ⟨by repeat (first | (with_reducible exact HR282.out) | (with_reducible refine Kd.C_alloc ?_ _) | (with_reducible refine Kd.C_drewN ?_ _) | (with_reducible refine Kd.C_drew ?_) | exact HR282.out)⟩, ⟨by repeat (first | (with_reducible first | exact HB.out | apply below_alloc | apply pw_below_drewN | apply below_drew1) | exact HB.out)⟩⟩
                                                            · rw [if_neg c101] at H
                                                              exact absurd H (by simp)
                                                          · rw [if_neg c100] at H
                                                            exact absurd H (by simp)
                                                        · rw [if_neg c99] at H
                                                          have c99b0 : decide (x229_6 < (y279.length : Int)) = false := decide_eq_false c99
                                                          clear c99
                                                          have H' := Aside0.mk H
                                                          clear H
                                                          go_wp2
                                                          go_roundg k6
                                                          case measure => have := HK1.out; have := HK2.out; have := HK3.out; have := HK4.out; have := HK5.out; have := HK6.out; omega
                                                          case rel => exact ⟨(wrap64 (x194_5 + 1)), (by first | rfl | (simp; done) | (simp [*]; done)), H', ⟨by have := HK1.out; have := HK2.out; have := HK3.out; have := HK4.out; have := HK5.out; have := HK6.out; omega⟩, ⟨by (with_reducible repeat (first | apply Kd.R_alloc | apply Kd.R_drewN | apply Kd.R_drew)); exact HO_192.out⟩, ⟨by repeat (first | (with_reducible exact HR257.out) | (with_reducible refine Kd.C_alloc ?_ _) | (with_reducible refine Kd.C_drewN ?_ _) | (with_reducible refine Kd.C_drew ?_) | exact HR257.out)⟩, ⟨by repeat (first | (with_reducible exact HR258_0.out) | (with_reducible refine Kd.C_alloc ?_ _) | (with_reducible refine Kd.C_drewN ?_ _) | (with_reducible refine Kd.C_drew ?_) | exact HR258_0.out)⟩, ⟨by repeat (first | (with_reducible first | exact HB.out | apply below_alloc | apply pw_below_drewN | apply below_drew1) | exact HB.out)⟩⟩
                                                  · rw [if_neg c87] at H
                                                    exact absurd H (by simp)
                                                · rw [if_neg c86] at H
                                                  have c86b0 : (t268 == t272) = false := beq_eq_false_iff_ne.mpr c86
                                                  have c86b1 : (t268 != t272) = true := bne_iff_ne.mpr c86
                                                  exact absurd ((Option.some.inj H).trans HT_.out) (by decide)
                                              · rw [if_neg c85] at H
                                                have c85b0 : ((strOfNums t267).toList == (strOfNums t271).toList) = false := beq_eq_false_iff_ne.mpr c85
                                                have c85b1 : ((strOfNums t267).toList != (strOfNums t271).toList) = true := bne_iff_ne.mpr c85
                                                exact absurd ((Option.some.inj H).trans HT_.out) (by decide)
                                            · rw [if_neg c82] at H
                                              exact absurd H (by simp)
                                          · rw [if_neg c81] at H
                                            exact absurd H (by simp)
                                        · rw [if_neg c80] at H
                                          have c80b0 : decide (x194_5 < (y263.length : Int)) = false := decide_eq_false c80
                                          clear c80
                                          have H' := Aside0.mk H
                                          clear H
                                          go_wp2
                                          go_roundg k5
                                          case measure => have := HK1.out; have := HK2.out; have := HK3.out; have := HK4.out; have := HK5.out; omega
                                          case rel => exact ⟨(wrap64 (x177_4 + 1)), (by first | rfl | (simp; done) | (simp [*]; done)), H', ⟨by have := HK1.out; have := HK2.out; have := HK3.out; have := HK4.out; have := HK5.out; omega⟩, ⟨by repeat (first | (with_reducible exact HR257.out) | (with_reducible refine Kd.C_alloc ?_ _) | (with_reducible refine Kd.C_drewN ?_ _) | (with_reducible refine Kd.C_drew ?_) | exact HR257.out)⟩, ⟨by repeat (first | (with_reducible first | exact HB.out | apply below_alloc | apply pw_below_drewN | apply below_drew1) | exact HB.out)⟩⟩
                                  · rw [if_neg c73] at H
                                    have c73b0 : (t259 == t260) = false := beq_eq_false_iff_ne.mpr c73
                                    have c73b1 : (t259 != t260) = true := bne_iff_ne.mpr c73
                                    exact absurd ((Option.some.inj H).trans HT_.out) (by decide)
                                · rw [if_neg c70] at H
                                  exact absurd H (by simp)
                              · rw [if_neg c69] at H
                                exact absurd H (by simp)
                            · rw [if_neg c68] at H
                              have c68b0 : decide (x177_4 < (y254.length : Int)) = false := decide_eq_false c68
                              clear c68
                              replace H := Option.bind_eq_some_iff.mp H
                              obtain ⟨t298, A1180, H⟩ := H
                              replace H : ((shapesearchref03_Sum.f k4 l0).bind fun t299 => (if t298 = t299 then ((shapesearchlaw03_awake.f k4).bind fun t300 => (some t300)) else (some false))) = some r := H
                              have A118 := Aside0.mk A1180
                              clear A1180
                              replace H := Option.bind_eq_some_iff.mp H
                              obtain ⟨t299, A1190, H⟩ := H
                              replace H : (if t298 = t299 then ((shapesearchlaw03_awake.f k4).bind fun t300 => (some t300)) else (some false)) = some r := H
                              have A119 := Aside0.mk A1190
                              clear A1190
                              by_cases c120 : t298 = t299
                              · rw [if_pos c120] at H
                                have c120b0 : (t298 == t299) = true := beq_iff_eq.mpr c120
                                have c120b1 : (t298 != t299) = false := bne_eq_false_iff_eq.mpr c120
                                clear c120
                                replace H := Option.bind_eq_some_iff.mp H
                                obtain ⟨t300, A1210, H⟩ := H
                                replace H : (some t300) = some r := H
                                have A121 := Aside0.mk A1210
                                clear A1210
                                obtain rfl := Option.some.inj H
                                go_wp2_with (first | ((with_reducible refine gate_callee (f := 13) rfl ?_); refine goesL_ (some 273) rfl rfl Try.func13 (by kernel_rfl) rfl #[.slice A0 l0.length c0] rfl (by (try simp only [List.map_toArray, List.map_cons, List.map_nil]); first | done | rfl | (simp only [List.length_drop, List.length_take]; rfl)) ?_; (with_reducible refine (codec_Sum.calls _ _ l0 t298 _ ?side1 ?side2 A118.out).mono ?_); (case side1 => repeat (first | exact (Kd.C_below HR0.out HB.out) | (with_reducible refine Kd.C_alloc ?_ _) | (with_reducible refine Kd.C_drewN ?_ _) | (with_reducible refine Kd.C_drew ?_))); (case side2 => exact HC0.out); rintro e w122 ⟨rfl, hb⟩; refine ⟨_, rfl, ?_⟩; have n0_ := Aside0.mk (Kd.C_below (by first | (with_reducible exact Kd.C_drewN HR257.out _) | (with_reducible exact HR257.out) | repeat (first | (with_reducible exact HR257.out) | (with_reducible refine Kd.C_alloc ?_ _) | (with_reducible refine Kd.C_drewN ?_ _) | (with_reducible refine Kd.C_drew ?_) | exact HR257.out)) hb); have n1_ := Aside0.mk (below_step (by repeat (first | (with_reducible first | exact HB.out | apply below_alloc | apply pw_below_drewN | apply below_drew1) | exact HB.out)) hb); clear HR257; clear HB; have HR257 := n0_; have HB := n1_; clear n0_ n1_; (try clear hb); (try clear hb2); (try clear hk); (try clear hi)) | ((with_reducible refine gate_callee (f := 28) rfl ?_); refine goesL_ (some 275) rfl rfl Try.func28 (by kernel_rfl) rfl #[.slice A0 l0.length c0] rfl (by (try simp only [List.map_toArray, List.map_cons, List.map_nil]); first | done | rfl | (simp only [List.length_drop, List.length_take]; rfl)) ?_; (with_reducible refine (shapesearchref03_Sum.calls k4 _ _ l0 t299 _ ?side1 ?side2 A119.out).mono ?_); (case side1 => repeat (first | exact (Kd.C_below HR0.out HB.out) | (with_reducible refine Kd.C_alloc ?_ _) | (with_reducible refine Kd.C_drewN ?_ _) | (with_reducible refine Kd.C_drew ?_))); (case side2 => exact HC0.out); rintro e w' ⟨rfl, ⟨nd, rfl⟩⟩; refine ⟨_, rfl, ?_⟩) | (go_at_call 9; (with_reducible refine (shapesearchlaw03_awake.calls k4  t300 _ A121.out).mono ?_); rintro e w123 ⟨rfl, hb⟩; have n0_ := Aside0.mk (Kd.C_below (by first | (with_reducible exact Kd.C_drewN HR257.out _) | (with_reducible exact HR257.out) | repeat (first | (with_reducible exact HR257.out) | (with_reducible refine Kd.C_alloc ?_ _) | (with_reducible refine Kd.C_drewN ?_ _) | (with_reducible refine Kd.C_drew ?_) | exact HR257.out)) hb); have n1_ := Aside0.mk (below_step (by repeat (first | (with_reducible first | exact HB.out | apply below_alloc | apply pw_below_drewN | apply below_drew1) | exact HB.out)) hb); clear HR257; clear HB; have HR257 := n0_; have HB := n1_; clear n0_ n1_; (try clear hb); (try clear hb2); (try clear hk); (try clear hi)))
                                go_ret
                                exact ⟨by first | rfl | (simp [errW_none, errW_some] <;> rfl) | (simp [*, errW_none, errW_some] <;> rfl), by repeat (first | (with_reducible first | exact HB.out | apply below_alloc | apply pw_below_drewN | apply below_drew1) | exact HB.out)⟩
                              · rw [if_neg c120] at H
                                have c120b0 : (t298 == t299) = false := beq_eq_false_iff_ne.mpr c120
                                have c120b1 : (t298 != t299) = true := bne_iff_ne.mpr c120
                                exact absurd ((Option.some.inj H).trans HT_.out) (by decide)

/-- THE ONE PURE STATEMENT of shapesearchlaw03_CodecAnswers: yours. -/
def shapesearchlaw03_CodecAnswers.Pure : Prop := ∀ (l0 : List Int) (a1 : Int) (a2 : Int) (l3 : List Int) (a4 : Int) (a5 : Int) (l6 : List Int), l0.length ≤ maxLen → l0.length * 1 ≤ 140737488351232 → (∀ x ∈ l0, (Lit.int .u8 x).wf = true) → (Lit.int .i64 a1).wf = true → (Lit.int .i64 a2).wf = true → l3.length ≤ maxLen → l3.length * 8 ≤ 140737488351232 → (∀ x ∈ l3, (Lit.int .i64 x).wf = true) → (Lit.int .i64 a4).wf = true → (Lit.int .i64 a5).wf = true → l6.length ≤ maxLen → l6.length * 8 ≤ 140737488351232 → (∀ x ∈ l6, (Lit.int .i64 x).wf = true) → ∃ k, shapesearchlaw03_CodecAnswers.f k l0 a1 a2 l3 a4 a5 l6 = some true
theorem shapesearchlaw03_CodecAnswers.walk (P : shapesearchlaw03_CodecAnswers.Pure) (a0 : Option Addr) (len0 cap0 : Nat) (z0 : List Int) (a1 : Int) (a2 : Int) (a3 : Option Addr) (len3 cap3 : Nat) (z3 : List Int) (a4 : Int) (a5 : Int) (a6 : Option Addr) (len6 cap6 : Nat) (z6 : List Int) (w : World) (w0 : (a0 = none ∧ len0 = 0 ∧ cap0 = 0 ∧ z0 = []) ∨ ∃ x, a0 = some x ∧ len0 ≤ cap0 ∧ cap0 ≤ maxLen ∧ z0.length = cap0 ∧ (∀ i, i < z0.length → w.cell? (x.add i) = some (.int .u8 (z0.getD i 0))) ∧ ∀ n ∈ z0, (Lit.int .u8 n).wf = true) (y0 : len0 * 1 ≤ 140737488351232) (w1 : (Lit.int .i64 a1).wf = true) (w2 : (Lit.int .i64 a2).wf = true) (w3 : (a3 = none ∧ len3 = 0 ∧ cap3 = 0 ∧ z3 = []) ∨ ∃ x, a3 = some x ∧ len3 ≤ cap3 ∧ cap3 ≤ maxLen ∧ z3.length = cap3 ∧ (∀ i, i < z3.length → w.cell? (x.add i) = some (.int .i64 (z3.getD i 0))) ∧ ∀ n ∈ z3, (Lit.int .i64 n).wf = true) (y3 : len3 * 8 ≤ 140737488351232) (w4 : (Lit.int .i64 a4).wf = true) (w5 : (Lit.int .i64 a5).wf = true) (w6 : (a6 = none ∧ len6 = 0 ∧ cap6 = 0 ∧ z6 = []) ∨ ∃ x, a6 = some x ∧ len6 ≤ cap6 ∧ cap6 ≤ maxLen ∧ z6.length = cap6 ∧ (∀ i, i < z6.length → w.cell? (x.add i) = some (.int .i64 (z6.getD i 0))) ∧ ∀ n ∈ z6, (Lit.int .i64 n).wf = true) (y6 : len6 * 8 ≤ 140737488351232) :
    Calls Try.prog 6 #[.slice a0 len0 cap0, .int .i64 a1, .int .i64 a2, .slice a3 len3 cap3, .int .i64 a4, .int .i64 a5, .slice a6 len6 cap6] w fun e w' => e = .returned (.bool true) ∧ Below w.heap.size w w' := by
  obtain ⟨l0, rfl, hr0, hm0, hw0, hc0⟩ := ReadsInt.ofRowC w0
  obtain ⟨l3, rfl, hr3, hm3, hw3, hc3⟩ := ReadsInt.ofRowC w3
  obtain ⟨l6, rfl, hr6, hm6, hw6, hc6⟩ := ReadsInt.ofRowC w6
  obtain ⟨k, h⟩ := P l0 a1 a2 l3 a4 a5 l6 hm0 y0 hw0 w1 w2 hm3 y3 hw3 w4 w5 hm6 y6 hw6
  refine (shapesearchlaw03_CodecAnswers.calls k _ _ l0 a1 a2 _ _ l3 a4 a5 _ _ l6 true w (Kd.C_of_reads (d := (0 : Int)) (h1 := fun _ => rfl) hr0) hc0 (Kd.C_of_reads (d := (0 : Int)) (h1 := fun _ => rfl) hr3) hc3 (Kd.C_of_reads (d := (0 : Int)) (h1 := fun _ => rfl) hr6) hc6 h rfl).mono ?_
  rintro e w' ⟨rfl, hd⟩
  exact ⟨rfl, hd⟩

end Go.Proofs.Ytemeojkmchgkjaa.PCodecAnswers
