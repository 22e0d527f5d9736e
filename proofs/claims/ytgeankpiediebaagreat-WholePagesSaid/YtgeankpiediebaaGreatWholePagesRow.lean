/-
  The closed facts of WholePages's row, one by one.
-/
import Derived.Test.YtgeankpiediebaaGreatRows
import Derived.WalkKit
import Derived.ProofKit
import Derived.JoinedOf
import Derived.KernelRfl
namespace Go.Proofs.YtgeankpiediebaaGreat.wholePages
set_option maxRecDepth 100000
theorem clo : Tryz.pinned.checked.prog.closure 3 = [3, 11, 12, 13, 18, 16, 28, 42, 56, 90, 91, 93, 92, 94, 95, 43, 57, 58, 59, 60, 61, 62, 63, 64, 66, 65, 67, 68, 96, 19, 20, 29, 30, 44, 69, 70, 71, 98, 97, 146, 45, 72, 31, 32, 46, 33, 34, 21, 26, 40, 41, 50, 73, 51, 52, 74, 99, 100, 147, 148, 224, 332, 225, 201, 333, 334, 404, 403, 227, 337, 393, 196, 230, 335, 226, 336, 228, 229, 231, 338, 339, 340, 405, 406, 441, 454, 442, 455, 443, 456, 444, 101, 149, 150, 151, 152, 75, 76, 53, 77, 102, 103, 153, 154, 232, 243, 346, 347, 341, 352, 407, 445, 156, 236, 345, 195, 155, 233, 342, 408, 409, 235, 344, 234, 343, 157, 237, 348, 326, 158, 238, 159, 239, 349, 350, 240, 351, 160, 241, 327, 353, 242, 244, 355, 411, 354, 410, 245, 246, 247, 248, 249, 250, 161, 251, 356, 252, 357, 253, 254, 162, 255, 256, 257, 358, 78, 104, 105, 163, 259, 360, 258, 359, 260, 362, 421, 422, 361, 412, 418, 451, 413, 446, 414, 447, 448, 415, 449, 450, 457, 416, 417, 419, 420, 164, 123, 192, 303, 191, 302, 391, 124, 129, 120, 189, 190, 194, 193, 304, 132, 197, 305, 306, 198, 199, 307, 308, 200, 202, 203, 309, 394, 395, 438, 439, 310, 396, 392, 119, 187, 188, 262, 261, 54, 79, 106, 107, 166, 167, 269, 270, 381, 383, 434, 271, 168, 272, 382, 165, 263, 363, 364, 365, 423, 424, 452, 264, 265, 366, 268, 369, 376, 377, 379, 429, 425, 427, 367, 426, 378, 267, 368, 266, 370, 371, 374, 372, 428, 373, 375, 380, 430, 431, 432, 433, 108, 109, 110, 169, 181, 281, 125, 291, 282, 301, 278, 387, 435, 436, 453, 437, 173, 289, 184, 277, 273, 274, 127, 275, 286, 179, 276, 384, 385, 386, 170, 171, 279, 280, 283, 388, 284, 172, 285, 287, 288, 174, 290, 292, 175, 293, 294, 389, 295, 296, 297, 390, 298, 299, 178, 300, 111, 176, 180, 114, 177, 183, 113, 182, 112, 80, 116, 115, 81, 117, 185, 186, 118, 82, 121, 122, 83, 55, 84, 126, 128, 85, 86, 87, 130, 131, 133, 137, 204, 205, 207, 206, 208, 209, 211, 210, 311, 312, 397, 88, 134, 135, 212, 213, 136, 214, 313, 314, 398, 399, 440, 318, 315, 316, 400, 317, 401, 402, 138, 215, 216, 319, 323, 320, 322, 321, 217, 324, 218, 325, 139, 140, 222, 144, 219, 220, 328, 221, 329, 331, 330, 141, 142, 143, 223, 145, 89, 22, 14, 15, 17] := by kernel_rfl
theorem unf : Tryz.pinned.checked.prog.unfollowed 3 = true := by
  unfold Program.unfollowed
  rw [clo]
  kernel_rfl
theorem p1 : Rows.wholePagesRow.wf (OpenSpec.ofChange Rows.wholePagesSpec) = true := by kernel_rfl
theorem p2 : laidOutB Tryz.pinned.checked.prog = true := by kernel_rfl
theorem p3 : mapsRowed Tryz.pinned.checked.prog = true := by kernel_rfl
theorem p4 : Tryz.f3.params.all (Tryz.pinned.checked.prog.readableRec ·) = true := by kernel_rfl
theorem p5 : namedTie Tryz.pinned.checked.prog Rows.wholePagesRow.named Rows.wholePagesSpec.vars = true := by kernel_rfl
theorem p6 : (Rows.wholePagesRow.stops == []) = true := by kernel_rfl
theorem p7 : (Tryz.pinned.checked.prog.stops == []) = true := by kernel_rfl
theorem p8 : (Rows.wholePagesRow.knobs == []) = true := by kernel_rfl
theorem p9 : (Tryz.pinned.checked.prog.stopKnobs == []) = true := by kernel_rfl
theorem p10 : (Rows.wholePagesRow.inPlace == Tryz.pinned.checked.prog.inPlace 3) = true := by
  unfold Program.inPlace
  rw [clo]
  kernel_rfl
theorem p11 : (Rows.wholePagesRow.unfollowed == Tryz.pinned.checked.prog.unfollowed 3) = true := by
  rw [unf]
  kernel_rfl
theorem p12 : (Rows.wholePagesRow.recurses == Tryz.pinned.checked.prog.recurses 3) = true := by
  unfold Program.recurses
  rw [unf]
  kernel_rfl
theorem p13 : (Rows.wholePagesRow.named == Tryz.pinned.checked.prog.varsNamed 3) = true := by
  unfold Program.varsNamed
  rw [clo]
  kernel_rfl
theorem p14 : (Rows.wholePagesRow.maps == (Tryz.f3.params.toList ++ Rows.wholePagesSpec.plain.varTypes Tryz.pinned.checked.prog).any (Tryz.pinned.checked.prog.mapsRec ·)) = true := by kernel_rfl
theorem p15 : (Rows.wholePagesRow.ifaces == (Tryz.f3.params.toList ++ Rows.wholePagesSpec.plain.varTypes Tryz.pinned.checked.prog).any (Tryz.pinned.checked.prog.ifacesRec ·)) = true := by kernel_rfl
theorem p16 : (Rows.wholePagesRow.mapsOut == Tryz.pinned.checked.prog.mapsAmong Tryz.f3.resultTypes.toList) = true := by kernel_rfl
theorem p17 : (Rows.wholePagesRow.loops == (Tryz.f3.params.toList ++ Rows.wholePagesSpec.plain.varTypes Tryz.pinned.checked.prog).any (Tryz.pinned.checked.prog.loopsFrom ·)) = true := by kernel_rfl
theorem p18 : (Rows.wholePagesRow.wideKeys == (Tryz.f3.params.toList ++ Rows.wholePagesSpec.plain.varTypes Tryz.pinned.checked.prog ++ Tryz.f3.resultTypes.toList).any (Tryz.pinned.checked.prog.wideKeysFrom ·)) = true := by kernel_rfl
theorem p19 : Rows.wholePagesSpec.vars.all (Tryz.pinned.checked.prog.varReadable ·) = true := by kernel_rfl
theorem p20 : Tryz.f3.resultTypes.all (fun t => Tryz.pinned.checked.prog.readableRec t && decide (t < Tryz.pinned.checked.prog.types.size)) = true := by kernel_rfl
theorem p21 : (Rows.wholePagesRow.ifacesOut == Tryz.f3.resultTypes.toList.any (Tryz.pinned.checked.prog.ifacesRec ·)) = true := by kernel_rfl
theorem p22 : (Rows.wholePagesRow.loopsOut == Tryz.f3.resultTypes.toList.any (Tryz.pinned.checked.prog.loopsFrom ·)) = true := by kernel_rfl
theorem p23 : (Rows.wholePagesRow.plainKeys == Tryz.pinned.checked.prog.plainKeys) = true := by kernel_rfl
theorem p24 : Rows.wholePagesRow.shortTexts.isNone = true := by kernel_rfl
theorem p25 : Tryz.pinned.checked.prog.stopsHeard = true := by kernel_rfl
theorem p26 : Tryz.pinned.checked.prog.mayEnter = true := by kernel_rfl
theorem p27 : (Rows.wholePagesRow.lifted == Tryz.pinned.checked.prog.liftsFinal) = true := by kernel_rfl
theorem p28 : (Tryz.pinned.checked.prog.make == some Rows.wholePagesRow.make) = true := by kernel_rfl
theorem p29 : (Rows.wholePagesRow.kinds == (if Rows.wholePagesRow.domain.isEmpty then [] else Tryz.f3.params.toList.map fun t => match Tryz.pinned.checked.prog.underlying t with | some (.int k) => some k | _ => none)) = true := by kernel_rfl
theorem p30 : (Rows.wholePagesRow.pinned == Rows.wholePagesRow.pinnedBy) = true := by kernel_rfl
theorem p31 : (Rows.wholePagesRow.veiled == (Tryz.f3.params.toList ++ Rows.wholePagesSpec.plain.varTypes Tryz.pinned.checked.prog ++ Tryz.f3.resultTypes.toList).any (Tryz.pinned.checked.prog.veiledRec ·)) = true := by kernel_rfl
theorem p32 : Rows.wholePagesRow.veiledFits Tryz.pinned.checked.prog Tryz.f3.params.toList (Tryz.f3.params.toList ++ Rows.wholePagesSpec.plain.varTypes Tryz.pinned.checked.prog ++ Tryz.f3.resultTypes.toList) = true := by kernel_rfl
theorem and_t {a b : Bool} (h : a = true) (k : b = true) : (a && b) = true := by rw [h, k]; rfl
theorem closed : joinedFacts Tryz.pinned.checked.prog 3 Tryz.f3 Rows.wholePagesSpec Rows.wholePagesRow = true := (and_t (and_t (and_t (and_t (and_t (and_t (and_t (and_t (and_t (and_t (and_t (and_t (and_t (and_t (and_t (and_t (and_t (and_t (and_t (and_t (and_t (and_t (and_t (and_t (and_t (and_t (and_t (and_t (and_t (and_t (and_t p1 p2) p3) p4) p5) p6) p7) p8) p9) p10) p11) p12) p13) p14) p15) p16) p17) p18) p19) p20) p21) p22) p23) p24) p25) p26) p27) p28) p29) p30) p31) p32)
theorem named_f : Tryz.pinned.checked.prog.funcNamed Rows.wholePagesRow.func = some 3 := by kernel_rfl
end Go.Proofs.YtgeankpiediebaaGreat.wholePages
