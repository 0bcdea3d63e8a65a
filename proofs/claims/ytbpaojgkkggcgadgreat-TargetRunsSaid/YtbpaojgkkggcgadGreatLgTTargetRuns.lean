import Derived.Test.YtbpaojgkkggcgadGreatLgTTargetRunsp0
import Derived.Test.YtbpaojgkkggcgadGreatLgTTargetRunsp1
import Derived.Test.YtbpaojgkkggcgadGreatRows
import Derived.Test.YtbpaojgkkggcgadGreatLgW1
import Derived.RowKit
/-
  The seat's functions, as this work's tool printed them.
-/
namespace Go.Proofs.YtbpaojgkkggcgadGreat.LgTTargetRuns
open Go Lg
set_option maxRecDepth 100000
def ns : List Nat := [441, 86, 87, 195, 190, 189, 191, 187, 209, 208, 206, 205, 207, 66, 250, 63, 370, 400, 177, 284, 373, 193, 174, 399, 156, 372, 286, 374, 338, 401, 247, 424, 30, 149, 34, 33, 179, 29, 259, 263, 31, 270, 32, 296, 423, 258, 64, 65, 252, 254, 451, 402, 410, 409, 405, 173, 291, 305, 304, 302, 154, 377, 162, 163, 54, 53, 151, 107, 419, 288, 290, 297, 155, 376, 11, 6, 7, 134, 35, 36, 10, 280, 375, 293, 300, 132, 429, 425, 260, 277, 274, 181, 180, 407, 109, 125, 404, 152, 420, 406, 129, 128, 123, 421, 415, 413, 403, 414, 340, 412, 408, 381, 244, 251, 285, 292, 289, 314, 312, 282, 309, 310, 311, 306, 303, 294, 295, 298, 281, 308, 160, 378, 108, 56, 477, 465, 106, 422, 283, 458, 13, 8, 5, 9, 243, 122, 449, 450, 153, 379, 313, 315, 287, 135, 133, 426, 427, 428, 275, 114, 112, 113, 142, 371, 158, 161, 418, 138, 337, 411, 130, 124, 126, 139, 141, 140, 137, 157, 343, 346, 127, 416, 256, 307, 301, 316, 159, 111, 89, 482, 443, 21, 22, 24, 14, 17, 19, 20, 253, 136, 455, 430, 335, 115, 110, 147, 145, 150, 417, 144, 146, 148, 452, 143, 348, 344, 299, 444, 445, 68, 339, 67, 15, 18, 23, 463, 334, 459, 345, 432, 435, 16, 78, 79, 82, 83, 84, 85, 80, 81, 49, 50, 47, 48, 0, 60, 61, 12, 52, 59]
theorem nsND : ns.Nodup := by decide +kernel
def tab : List Row := [⟨134, 77, false, a134, .fn s134⟩, ⟨107, 67, false, a107, .fn s107⟩, ⟨106, 136, false, a106, .fn s106⟩, ⟨444, 217, false, a444, .fn s444⟩, ⟨445, 218, false, a445, .fn s445⟩, ⟨443, 190, false, a443, .fn s443⟩, ⟨465, 135, false, a465, .fn s465⟩, ⟨151, 66, true, a151, .fn s151⟩, ⟨422, 137, false, a422, .fn s422⟩, ⟨419, 68, false, a419, .fn s419⟩, ⟨372, 25, true, a372, .fn s372⟩, ⟨338, 28, true, a338, .fn s338⟩, ⟨424, 31, true, a424, .fn s424⟩, ⟨67, 221, false, a67, .fn s67⟩, ⟨432, 229, false, a432, .fn s432⟩, ⟨435, 230, false, a435, .fn s435⟩, ⟨68, 219, false, a68, .fn s68⟩, ⟨339, 220, true, a339, .fn s339⟩, ⟨14, 194, true, a14, .fn s14⟩, ⟨21, 191, true, a21, .fn s21⟩, ⟨24, 193, true, a24, .fn s24⟩, ⟨22, 192, true, a22, .fn s22⟩, ⟨17, 195, true, a17, .fn s17⟩, ⟨15, 222, true, a15, .fn s15⟩, ⟨16, 231, true, a16, .fn s16⟩, ⟨18, 223, true, a18, .fn s18⟩, ⟨23, 224, true, a23, .fn s23⟩, ⟨450, 147, false, a450, .nil n450⟩, ⟨19, 196, true, a19, .fn s19⟩, ⟨20, 197, true, a20, .fn s20⟩, ⟨13, 140, true, a13, .fn s13⟩, ⟨11, 74, true, a11, .fn s11⟩, ⟨136, 199, false, a136, .fn s136⟩, ⟨135, 153, true, a135, .fn s135⟩, ⟨133, 154, false, a133, .fn s133⟩, ⟨132, 85, false, a132, .fn s132⟩, ⟨463, 225, false, a463, .fn s463⟩, ⟨455, 200, false, a455, .fn s455⟩, ⟨430, 201, false, a430, .fn s430⟩, ⟨427, 156, false, a427, .fn s427⟩, ⟨334, 226, false, a334, .fn s334⟩, ⟨335, 202, false, a335, .fn s335⟩, ⟨428, 157, false, a428, .fn s428⟩, ⟨425, 87, false, a425, .fn s425⟩, ⟨451, 50, false, a451, .nil n451⟩, ⟨370, 16, true, a370, .fn s370⟩, ⟨122, 145, true, a122, .fn s122⟩, ⟨145, 206, false, a145, .fn s145⟩, ⟨144, 209, true, a144, .fn s144⟩, ⟨143, 213, false, a143, .fn s143⟩, ⟨147, 205, true, a147, .fn s147⟩, ⟨138, 167, true, a138, .fn s138⟩, ⟨371, 163, false, a371, .fn s371⟩, ⟨123, 102, true, a123, .fn s123⟩, ⟨115, 203, false, a115, .fn s115⟩, ⟨114, 159, false, a114, .fn s114⟩, ⟨407, 93, false, a407, .fn s407⟩, ⟨110, 204, false, a110, .fn s110⟩, ⟨112, 160, false, a112, .fn s112⟩, ⟨113, 161, false, a113, .fn s113⟩, ⟨109, 94, false, a109, .fn s109⟩, ⟨404, 96, true, a404, .fn s404⟩, ⟨142, 162, true, a142, .fn s142⟩, ⟨125, 95, true, a125, .fn s125⟩, ⟨158, 164, true, a158, .fn s158⟩, ⟨162, 62, false, a162, .fn s162⟩, ⟨163, 63, true, a163, .inl s163⟩, ⟨159, 186, false, a159, .fn s159⟩, ⟨150, 207, false, a150, .fn s150⟩, ⟨161, 165, true, a161, .inl s161⟩, ⟨152, 97, true, a152, .fn s152⟩, ⟨402, 51, true, a402, .fn s402⟩, ⟨417, 208, false, a417, .fn s417⟩, ⟨418, 166, false, a418, .fn s418⟩, ⟨420, 98, false, a420, .fn s420⟩, ⟨410, 52, true, a410, .fn s410⟩, ⟨406, 99, true, a406, .fn s406⟩, ⟨129, 100, true, a129, .fn s129⟩, ⟨128, 101, true, a128, .fn s128⟩, ⟨421, 103, false, a421, .fn s421⟩, ⟨409, 53, true, a409, .fn s409⟩, ⟨127, 180, true, a127, .fn s127⟩, ⟨337, 168, true, a337, .fn s337⟩, ⟨415, 104, true, a415, .fn s415⟩, ⟨381, 111, false, a381, .fn s381⟩, ⟨411, 169, false, a411, .fn s411⟩, ⟨130, 170, true, a130, .fn s130⟩, ⟨124, 171, true, a124, .fn s124⟩, ⟨126, 172, true, a126, .fn s126⟩, ⟨413, 105, true, a413, .fn s413⟩, ⟨149, 33, false, a149, .fn s149⟩, ⟨157, 177, true, a157, .fn s157⟩, ⟨141, 174, true, a141, .fn s141⟩, ⟨139, 173, true, a139, .fn s139⟩, ⟨146, 210, false, a146, .fn s146⟩, ⟨148, 211, true, a148, .fn s148⟩, ⟨459, 227, false, a459, .fn s459⟩, ⟨452, 212, false, a452, .fn s452⟩, ⟨140, 175, true, a140, .fn s140⟩, ⟨137, 176, true, a137, .fn s137⟩, ⟨403, 106, true, a403, .fn s403⟩, ⟨414, 107, true, a414, .fn s414⟩, ⟨348, 214, false, a348, .fn s348⟩, ⟨343, 178, false, a343, .fn s343⟩, ⟨345, 228, false, a345, .fn s345⟩, ⟨344, 215, false, a344, .fn s344⟩, ⟨346, 179, false, a346, .fn s346⟩, ⟨340, 108, false, a340, .fn s340⟩, ⟨412, 109, true, a412, .fn s412⟩, ⟨416, 181, false, a416, .fn s416⟩, ⟨408, 110, true, a408, .fn s408⟩, ⟨405, 54, true, a405, .fn s405⟩, ⟨400, 17, true, a400, .fn s400⟩, ⟨426, 155, true, a426, .fn s426⟩, ⟨429, 86, true, a429, .fn s429⟩, ⟨423, 44, true, a423, .fn s423⟩, ⟨35, 78, true, a35, .fn s35⟩, ⟨36, 79, true, a36, .fn s36⟩, ⟨30, 32, true, a30, .fn s30⟩, ⟨31, 40, true, a31, .fn s31⟩, ⟨34, 34, true, a34, .fn s34⟩, ⟨33, 35, true, a33, .fn s33⟩, ⟨209, 8, true, a209, .fn s209⟩]
theorem ok134 : RowOK Tryz.prog ns ⟨134, 77, false, a134, .fn s134⟩ := ⟨by kernel_rfl, by kernel_rfl, by show compF Tryz.prog (numOf ns) a134 77 = some s134; kernel_rfl⟩
theorem ok107 : RowOK Tryz.prog ns ⟨107, 67, false, a107, .fn s107⟩ := ⟨by kernel_rfl, by kernel_rfl, by show compF Tryz.prog (numOf ns) a107 67 = some s107; kernel_rfl⟩
theorem ok106 : RowOK Tryz.prog ns ⟨106, 136, false, a106, .fn s106⟩ := ⟨by kernel_rfl, by kernel_rfl, by show compF Tryz.prog (numOf ns) a106 136 = some s106; kernel_rfl⟩
theorem ok444 : RowOK Tryz.prog ns ⟨444, 217, false, a444, .fn s444⟩ := ⟨by kernel_rfl, by kernel_rfl, by show compF Tryz.prog (numOf ns) a444 217 = some s444; kernel_rfl⟩
theorem ok445 : RowOK Tryz.prog ns ⟨445, 218, false, a445, .fn s445⟩ := ⟨by kernel_rfl, by kernel_rfl, by show compF Tryz.prog (numOf ns) a445 218 = some s445; kernel_rfl⟩
theorem ok443 : RowOK Tryz.prog ns ⟨443, 190, false, a443, .fn s443⟩ := ⟨by kernel_rfl, by kernel_rfl, by show compF Tryz.prog (numOf ns) a443 190 = some s443; kernel_rfl⟩
theorem ok465 : RowOK Tryz.prog ns ⟨465, 135, false, a465, .fn s465⟩ := ⟨by kernel_rfl, by kernel_rfl, by show compF Tryz.prog (numOf ns) a465 135 = some s465; kernel_rfl⟩
theorem ok151 : RowOK Tryz.prog ns ⟨151, 66, true, a151, .fn s151⟩ := ⟨by kernel_rfl, by kernel_rfl, by show compF Tryz.prog (numOf ns) a151 66 = some s151; kernel_rfl⟩
theorem ok422 : RowOK Tryz.prog ns ⟨422, 137, false, a422, .fn s422⟩ := ⟨by kernel_rfl, by kernel_rfl, by show compF Tryz.prog (numOf ns) a422 137 = some s422; kernel_rfl⟩
theorem ok419 : RowOK Tryz.prog ns ⟨419, 68, false, a419, .fn s419⟩ := ⟨by kernel_rfl, by kernel_rfl, by show compF Tryz.prog (numOf ns) a419 68 = some s419; kernel_rfl⟩
theorem ok372 : RowOK Tryz.prog ns ⟨372, 25, true, a372, .fn s372⟩ := ⟨by kernel_rfl, by kernel_rfl, by show compF Tryz.prog (numOf ns) a372 25 = some s372; kernel_rfl⟩
theorem ok338 : RowOK Tryz.prog ns ⟨338, 28, true, a338, .fn s338⟩ := ⟨by kernel_rfl, by kernel_rfl, by show compF Tryz.prog (numOf ns) a338 28 = some s338; kernel_rfl⟩
theorem ok424 : RowOK Tryz.prog ns ⟨424, 31, true, a424, .fn s424⟩ := ⟨by kernel_rfl, by kernel_rfl, by show compF Tryz.prog (numOf ns) a424 31 = some s424; kernel_rfl⟩
theorem ok67 : RowOK Tryz.prog ns ⟨67, 221, false, a67, .fn s67⟩ := ⟨by kernel_rfl, by kernel_rfl, by show compF Tryz.prog (numOf ns) a67 221 = some s67; kernel_rfl⟩
theorem ok432 : RowOK Tryz.prog ns ⟨432, 229, false, a432, .fn s432⟩ := ⟨by kernel_rfl, by kernel_rfl, by show compF Tryz.prog (numOf ns) a432 229 = some s432; kernel_rfl⟩
theorem ok435 : RowOK Tryz.prog ns ⟨435, 230, false, a435, .fn s435⟩ := ⟨by kernel_rfl, by kernel_rfl, by show compF Tryz.prog (numOf ns) a435 230 = some s435; kernel_rfl⟩
theorem ok68 : RowOK Tryz.prog ns ⟨68, 219, false, a68, .fn s68⟩ := ⟨by kernel_rfl, by kernel_rfl, by show compF Tryz.prog (numOf ns) a68 219 = some s68; kernel_rfl⟩
theorem ok339 : RowOK Tryz.prog ns ⟨339, 220, true, a339, .fn s339⟩ := ⟨by kernel_rfl, by kernel_rfl, by show compF Tryz.prog (numOf ns) a339 220 = some s339; kernel_rfl⟩
theorem ok14 : RowOK Tryz.prog ns ⟨14, 194, true, a14, .fn s14⟩ := ⟨by kernel_rfl, by kernel_rfl, by show compF Tryz.prog (numOf ns) a14 194 = some s14; kernel_rfl⟩
theorem ok21 : RowOK Tryz.prog ns ⟨21, 191, true, a21, .fn s21⟩ := ⟨by kernel_rfl, by kernel_rfl, by show compF Tryz.prog (numOf ns) a21 191 = some s21; kernel_rfl⟩
theorem ok24 : RowOK Tryz.prog ns ⟨24, 193, true, a24, .fn s24⟩ := ⟨by kernel_rfl, by kernel_rfl, by show compF Tryz.prog (numOf ns) a24 193 = some s24; kernel_rfl⟩
theorem ok22 : RowOK Tryz.prog ns ⟨22, 192, true, a22, .fn s22⟩ := ⟨by kernel_rfl, by kernel_rfl, by show compF Tryz.prog (numOf ns) a22 192 = some s22; kernel_rfl⟩
theorem ok17 : RowOK Tryz.prog ns ⟨17, 195, true, a17, .fn s17⟩ := ⟨by kernel_rfl, by kernel_rfl, by show compF Tryz.prog (numOf ns) a17 195 = some s17; kernel_rfl⟩
theorem ok15 : RowOK Tryz.prog ns ⟨15, 222, true, a15, .fn s15⟩ := ⟨by kernel_rfl, by kernel_rfl, by show compF Tryz.prog (numOf ns) a15 222 = some s15; kernel_rfl⟩
theorem ok16 : RowOK Tryz.prog ns ⟨16, 231, true, a16, .fn s16⟩ := ⟨by kernel_rfl, by kernel_rfl, by show compF Tryz.prog (numOf ns) a16 231 = some s16; kernel_rfl⟩
theorem ok18 : RowOK Tryz.prog ns ⟨18, 223, true, a18, .fn s18⟩ := ⟨by kernel_rfl, by kernel_rfl, by show compF Tryz.prog (numOf ns) a18 223 = some s18; kernel_rfl⟩
theorem ok23 : RowOK Tryz.prog ns ⟨23, 224, true, a23, .fn s23⟩ := ⟨by kernel_rfl, by kernel_rfl, by show compF Tryz.prog (numOf ns) a23 224 = some s23; kernel_rfl⟩
theorem ok450 : RowOK Tryz.prog ns ⟨450, 147, false, a450, .nil n450⟩ := ⟨by kernel_rfl, by kernel_rfl, by show compN Tryz.prog (numOf ns) a450 147 = some n450; kernel_rfl⟩
theorem ok19 : RowOK Tryz.prog ns ⟨19, 196, true, a19, .fn s19⟩ := ⟨by kernel_rfl, by kernel_rfl, by show compF Tryz.prog (numOf ns) a19 196 = some s19; kernel_rfl⟩
theorem ok20 : RowOK Tryz.prog ns ⟨20, 197, true, a20, .fn s20⟩ := ⟨by kernel_rfl, by kernel_rfl, by show compF Tryz.prog (numOf ns) a20 197 = some s20; kernel_rfl⟩
theorem ok13 : RowOK Tryz.prog ns ⟨13, 140, true, a13, .fn s13⟩ := ⟨by kernel_rfl, by kernel_rfl, by show compF Tryz.prog (numOf ns) a13 140 = some s13; kernel_rfl⟩
theorem ok11 : RowOK Tryz.prog ns ⟨11, 74, true, a11, .fn s11⟩ := ⟨by kernel_rfl, by kernel_rfl, by show compF Tryz.prog (numOf ns) a11 74 = some s11; kernel_rfl⟩
theorem ok136 : RowOK Tryz.prog ns ⟨136, 199, false, a136, .fn s136⟩ := ⟨by kernel_rfl, by kernel_rfl, by show compF Tryz.prog (numOf ns) a136 199 = some s136; kernel_rfl⟩
theorem ok135 : RowOK Tryz.prog ns ⟨135, 153, true, a135, .fn s135⟩ := ⟨by kernel_rfl, by kernel_rfl, by show compF Tryz.prog (numOf ns) a135 153 = some s135; kernel_rfl⟩
theorem ok133 : RowOK Tryz.prog ns ⟨133, 154, false, a133, .fn s133⟩ := ⟨by kernel_rfl, by kernel_rfl, by show compF Tryz.prog (numOf ns) a133 154 = some s133; kernel_rfl⟩
theorem ok132 : RowOK Tryz.prog ns ⟨132, 85, false, a132, .fn s132⟩ := ⟨by kernel_rfl, by kernel_rfl, by show compF Tryz.prog (numOf ns) a132 85 = some s132; kernel_rfl⟩
theorem ok463 : RowOK Tryz.prog ns ⟨463, 225, false, a463, .fn s463⟩ := ⟨by kernel_rfl, by kernel_rfl, by show compF Tryz.prog (numOf ns) a463 225 = some s463; kernel_rfl⟩
theorem ok455 : RowOK Tryz.prog ns ⟨455, 200, false, a455, .fn s455⟩ := ⟨by kernel_rfl, by kernel_rfl, by show compF Tryz.prog (numOf ns) a455 200 = some s455; kernel_rfl⟩
theorem ok430 : RowOK Tryz.prog ns ⟨430, 201, false, a430, .fn s430⟩ := ⟨by kernel_rfl, by kernel_rfl, by show compF Tryz.prog (numOf ns) a430 201 = some s430; kernel_rfl⟩
theorem ok427 : RowOK Tryz.prog ns ⟨427, 156, false, a427, .fn s427⟩ := ⟨by kernel_rfl, by kernel_rfl, by show compF Tryz.prog (numOf ns) a427 156 = some s427; kernel_rfl⟩
theorem ok334 : RowOK Tryz.prog ns ⟨334, 226, false, a334, .fn s334⟩ := ⟨by kernel_rfl, by kernel_rfl, by show compF Tryz.prog (numOf ns) a334 226 = some s334; kernel_rfl⟩
theorem ok335 : RowOK Tryz.prog ns ⟨335, 202, false, a335, .fn s335⟩ := ⟨by kernel_rfl, by kernel_rfl, by show compF Tryz.prog (numOf ns) a335 202 = some s335; kernel_rfl⟩
theorem ok428 : RowOK Tryz.prog ns ⟨428, 157, false, a428, .fn s428⟩ := ⟨by kernel_rfl, by kernel_rfl, by show compF Tryz.prog (numOf ns) a428 157 = some s428; kernel_rfl⟩
theorem ok425 : RowOK Tryz.prog ns ⟨425, 87, false, a425, .fn s425⟩ := ⟨by kernel_rfl, by kernel_rfl, by show compF Tryz.prog (numOf ns) a425 87 = some s425; kernel_rfl⟩
theorem ok451 : RowOK Tryz.prog ns ⟨451, 50, false, a451, .nil n451⟩ := ⟨by kernel_rfl, by kernel_rfl, by show compN Tryz.prog (numOf ns) a451 50 = some n451; kernel_rfl⟩
theorem ok370 : RowOK Tryz.prog ns ⟨370, 16, true, a370, .fn s370⟩ := ⟨by kernel_rfl, by kernel_rfl, by show compF Tryz.prog (numOf ns) a370 16 = some s370; kernel_rfl⟩
theorem ok122 : RowOK Tryz.prog ns ⟨122, 145, true, a122, .fn s122⟩ := ⟨by kernel_rfl, by kernel_rfl, by show compF Tryz.prog (numOf ns) a122 145 = some s122; kernel_rfl⟩
theorem ok145 : RowOK Tryz.prog ns ⟨145, 206, false, a145, .fn s145⟩ := ⟨by kernel_rfl, by kernel_rfl, by show compF Tryz.prog (numOf ns) a145 206 = some s145; kernel_rfl⟩
theorem ok144 : RowOK Tryz.prog ns ⟨144, 209, true, a144, .fn s144⟩ := ⟨by kernel_rfl, by kernel_rfl, by show compF Tryz.prog (numOf ns) a144 209 = some s144; kernel_rfl⟩
theorem ok143 : RowOK Tryz.prog ns ⟨143, 213, false, a143, .fn s143⟩ := ⟨by kernel_rfl, by kernel_rfl, by show compF Tryz.prog (numOf ns) a143 213 = some s143; kernel_rfl⟩
theorem ok147 : RowOK Tryz.prog ns ⟨147, 205, true, a147, .fn s147⟩ := ⟨by kernel_rfl, by kernel_rfl, by show compF Tryz.prog (numOf ns) a147 205 = some s147; kernel_rfl⟩
theorem ok138 : RowOK Tryz.prog ns ⟨138, 167, true, a138, .fn s138⟩ := ⟨by kernel_rfl, by kernel_rfl, by show compF Tryz.prog (numOf ns) a138 167 = some s138; kernel_rfl⟩
theorem ok371 : RowOK Tryz.prog ns ⟨371, 163, false, a371, .fn s371⟩ := ⟨by kernel_rfl, by kernel_rfl, by show compF Tryz.prog (numOf ns) a371 163 = some s371; kernel_rfl⟩
theorem ok123 : RowOK Tryz.prog ns ⟨123, 102, true, a123, .fn s123⟩ := ⟨by kernel_rfl, by kernel_rfl, by show compF Tryz.prog (numOf ns) a123 102 = some s123; kernel_rfl⟩
theorem ok115 : RowOK Tryz.prog ns ⟨115, 203, false, a115, .fn s115⟩ := ⟨by kernel_rfl, by kernel_rfl, by show compF Tryz.prog (numOf ns) a115 203 = some s115; kernel_rfl⟩
theorem ok114 : RowOK Tryz.prog ns ⟨114, 159, false, a114, .fn s114⟩ := ⟨by kernel_rfl, by kernel_rfl, by show compF Tryz.prog (numOf ns) a114 159 = some s114; kernel_rfl⟩
theorem ok407 : RowOK Tryz.prog ns ⟨407, 93, false, a407, .fn s407⟩ := ⟨by kernel_rfl, by kernel_rfl, by show compF Tryz.prog (numOf ns) a407 93 = some s407; kernel_rfl⟩
theorem ok110 : RowOK Tryz.prog ns ⟨110, 204, false, a110, .fn s110⟩ := ⟨by kernel_rfl, by kernel_rfl, by show compF Tryz.prog (numOf ns) a110 204 = some s110; kernel_rfl⟩
theorem ok112 : RowOK Tryz.prog ns ⟨112, 160, false, a112, .fn s112⟩ := ⟨by kernel_rfl, by kernel_rfl, by show compF Tryz.prog (numOf ns) a112 160 = some s112; kernel_rfl⟩
theorem ok113 : RowOK Tryz.prog ns ⟨113, 161, false, a113, .fn s113⟩ := ⟨by kernel_rfl, by kernel_rfl, by show compF Tryz.prog (numOf ns) a113 161 = some s113; kernel_rfl⟩
theorem ok109 : RowOK Tryz.prog ns ⟨109, 94, false, a109, .fn s109⟩ := ⟨by kernel_rfl, by kernel_rfl, by show compF Tryz.prog (numOf ns) a109 94 = some s109; kernel_rfl⟩
theorem ok404 : RowOK Tryz.prog ns ⟨404, 96, true, a404, .fn s404⟩ := ⟨by kernel_rfl, by kernel_rfl, by show compF Tryz.prog (numOf ns) a404 96 = some s404; kernel_rfl⟩
theorem ok142 : RowOK Tryz.prog ns ⟨142, 162, true, a142, .fn s142⟩ := ⟨by kernel_rfl, by kernel_rfl, by show compF Tryz.prog (numOf ns) a142 162 = some s142; kernel_rfl⟩
theorem ok125 : RowOK Tryz.prog ns ⟨125, 95, true, a125, .fn s125⟩ := ⟨by kernel_rfl, by kernel_rfl, by show compF Tryz.prog (numOf ns) a125 95 = some s125; kernel_rfl⟩
theorem ok158 : RowOK Tryz.prog ns ⟨158, 164, true, a158, .fn s158⟩ := ⟨by kernel_rfl, by kernel_rfl, by show compF Tryz.prog (numOf ns) a158 164 = some s158; kernel_rfl⟩
theorem ok162 : RowOK Tryz.prog ns ⟨162, 62, false, a162, .fn s162⟩ := ⟨by kernel_rfl, by kernel_rfl, by show compF Tryz.prog (numOf ns) a162 62 = some s162; kernel_rfl⟩
theorem ok163 : RowOK Tryz.prog ns ⟨163, 63, true, a163, .inl s163⟩ := ⟨by kernel_rfl, by kernel_rfl, by show compF Tryz.prog (numOf ns) a163 63 = some s163; kernel_rfl⟩
theorem ok159 : RowOK Tryz.prog ns ⟨159, 186, false, a159, .fn s159⟩ := ⟨by kernel_rfl, by kernel_rfl, by show compF Tryz.prog (numOf ns) a159 186 = some s159; kernel_rfl⟩
theorem ok150 : RowOK Tryz.prog ns ⟨150, 207, false, a150, .fn s150⟩ := ⟨by kernel_rfl, by kernel_rfl, by show compF Tryz.prog (numOf ns) a150 207 = some s150; kernel_rfl⟩
theorem ok161 : RowOK Tryz.prog ns ⟨161, 165, true, a161, .inl s161⟩ := ⟨by kernel_rfl, by kernel_rfl, by show compF Tryz.prog (numOf ns) a161 165 = some s161; kernel_rfl⟩
theorem ok152 : RowOK Tryz.prog ns ⟨152, 97, true, a152, .fn s152⟩ := ⟨by kernel_rfl, by kernel_rfl, by show compF Tryz.prog (numOf ns) a152 97 = some s152; kernel_rfl⟩
theorem ok402 : RowOK Tryz.prog ns ⟨402, 51, true, a402, .fn s402⟩ := ⟨by kernel_rfl, by kernel_rfl, by show compF Tryz.prog (numOf ns) a402 51 = some s402; kernel_rfl⟩
theorem ok417 : RowOK Tryz.prog ns ⟨417, 208, false, a417, .fn s417⟩ := ⟨by kernel_rfl, by kernel_rfl, by show compF Tryz.prog (numOf ns) a417 208 = some s417; kernel_rfl⟩
theorem ok418 : RowOK Tryz.prog ns ⟨418, 166, false, a418, .fn s418⟩ := ⟨by kernel_rfl, by kernel_rfl, by show compF Tryz.prog (numOf ns) a418 166 = some s418; kernel_rfl⟩
theorem ok420 : RowOK Tryz.prog ns ⟨420, 98, false, a420, .fn s420⟩ := ⟨by kernel_rfl, by kernel_rfl, by show compF Tryz.prog (numOf ns) a420 98 = some s420; kernel_rfl⟩
theorem ok410 : RowOK Tryz.prog ns ⟨410, 52, true, a410, .fn s410⟩ := ⟨by kernel_rfl, by kernel_rfl, by show compF Tryz.prog (numOf ns) a410 52 = some s410; kernel_rfl⟩
theorem ok406 : RowOK Tryz.prog ns ⟨406, 99, true, a406, .fn s406⟩ := ⟨by kernel_rfl, by kernel_rfl, by show compF Tryz.prog (numOf ns) a406 99 = some s406; kernel_rfl⟩
theorem ok129 : RowOK Tryz.prog ns ⟨129, 100, true, a129, .fn s129⟩ := ⟨by kernel_rfl, by kernel_rfl, by show compF Tryz.prog (numOf ns) a129 100 = some s129; kernel_rfl⟩
theorem ok128 : RowOK Tryz.prog ns ⟨128, 101, true, a128, .fn s128⟩ := ⟨by kernel_rfl, by kernel_rfl, by show compF Tryz.prog (numOf ns) a128 101 = some s128; kernel_rfl⟩
theorem ok421 : RowOK Tryz.prog ns ⟨421, 103, false, a421, .fn s421⟩ := ⟨by kernel_rfl, by kernel_rfl, by show compF Tryz.prog (numOf ns) a421 103 = some s421; kernel_rfl⟩
theorem ok409 : RowOK Tryz.prog ns ⟨409, 53, true, a409, .fn s409⟩ := ⟨by kernel_rfl, by kernel_rfl, by show compF Tryz.prog (numOf ns) a409 53 = some s409; kernel_rfl⟩
theorem ok127 : RowOK Tryz.prog ns ⟨127, 180, true, a127, .fn s127⟩ := ⟨by kernel_rfl, by kernel_rfl, by show compF Tryz.prog (numOf ns) a127 180 = some s127; kernel_rfl⟩
theorem ok337 : RowOK Tryz.prog ns ⟨337, 168, true, a337, .fn s337⟩ := ⟨by kernel_rfl, by kernel_rfl, by show compF Tryz.prog (numOf ns) a337 168 = some s337; kernel_rfl⟩
theorem ok415 : RowOK Tryz.prog ns ⟨415, 104, true, a415, .fn s415⟩ := ⟨by kernel_rfl, by kernel_rfl, by show compF Tryz.prog (numOf ns) a415 104 = some s415; kernel_rfl⟩
theorem ok381 : RowOK Tryz.prog ns ⟨381, 111, false, a381, .fn s381⟩ := ⟨by kernel_rfl, by kernel_rfl, by show compF Tryz.prog (numOf ns) a381 111 = some s381; kernel_rfl⟩
theorem ok411 : RowOK Tryz.prog ns ⟨411, 169, false, a411, .fn s411⟩ := ⟨by kernel_rfl, by kernel_rfl, by show compF Tryz.prog (numOf ns) a411 169 = some s411; kernel_rfl⟩
theorem ok130 : RowOK Tryz.prog ns ⟨130, 170, true, a130, .fn s130⟩ := ⟨by kernel_rfl, by kernel_rfl, by show compF Tryz.prog (numOf ns) a130 170 = some s130; kernel_rfl⟩
theorem ok124 : RowOK Tryz.prog ns ⟨124, 171, true, a124, .fn s124⟩ := ⟨by kernel_rfl, by kernel_rfl, by show compF Tryz.prog (numOf ns) a124 171 = some s124; kernel_rfl⟩
theorem ok126 : RowOK Tryz.prog ns ⟨126, 172, true, a126, .fn s126⟩ := ⟨by kernel_rfl, by kernel_rfl, by show compF Tryz.prog (numOf ns) a126 172 = some s126; kernel_rfl⟩
theorem ok413 : RowOK Tryz.prog ns ⟨413, 105, true, a413, .fn s413⟩ := ⟨by kernel_rfl, by kernel_rfl, by show compF Tryz.prog (numOf ns) a413 105 = some s413; kernel_rfl⟩
theorem ok149 : RowOK Tryz.prog ns ⟨149, 33, false, a149, .fn s149⟩ := ⟨by kernel_rfl, by kernel_rfl, by show compF Tryz.prog (numOf ns) a149 33 = some s149; kernel_rfl⟩
theorem ok157 : RowOK Tryz.prog ns ⟨157, 177, true, a157, .fn s157⟩ := ⟨by kernel_rfl, by kernel_rfl, by show compF Tryz.prog (numOf ns) a157 177 = some s157; kernel_rfl⟩
theorem ok141 : RowOK Tryz.prog ns ⟨141, 174, true, a141, .fn s141⟩ := ⟨by kernel_rfl, by kernel_rfl, by show compF Tryz.prog (numOf ns) a141 174 = some s141; kernel_rfl⟩
theorem ok139 : RowOK Tryz.prog ns ⟨139, 173, true, a139, .fn s139⟩ := ⟨by kernel_rfl, by kernel_rfl, by show compF Tryz.prog (numOf ns) a139 173 = some s139; kernel_rfl⟩
theorem ok146 : RowOK Tryz.prog ns ⟨146, 210, false, a146, .fn s146⟩ := ⟨by kernel_rfl, by kernel_rfl, by show compF Tryz.prog (numOf ns) a146 210 = some s146; kernel_rfl⟩
theorem ok148 : RowOK Tryz.prog ns ⟨148, 211, true, a148, .fn s148⟩ := ⟨by kernel_rfl, by kernel_rfl, by show compF Tryz.prog (numOf ns) a148 211 = some s148; kernel_rfl⟩
theorem ok459 : RowOK Tryz.prog ns ⟨459, 227, false, a459, .fn s459⟩ := ⟨by kernel_rfl, by kernel_rfl, by show compF Tryz.prog (numOf ns) a459 227 = some s459; kernel_rfl⟩
theorem ok452 : RowOK Tryz.prog ns ⟨452, 212, false, a452, .fn s452⟩ := ⟨by kernel_rfl, by kernel_rfl, by show compF Tryz.prog (numOf ns) a452 212 = some s452; kernel_rfl⟩
theorem ok140 : RowOK Tryz.prog ns ⟨140, 175, true, a140, .fn s140⟩ := ⟨by kernel_rfl, by kernel_rfl, by show compF Tryz.prog (numOf ns) a140 175 = some s140; kernel_rfl⟩
theorem ok137 : RowOK Tryz.prog ns ⟨137, 176, true, a137, .fn s137⟩ := ⟨by kernel_rfl, by kernel_rfl, by show compF Tryz.prog (numOf ns) a137 176 = some s137; kernel_rfl⟩
theorem ok403 : RowOK Tryz.prog ns ⟨403, 106, true, a403, .fn s403⟩ := ⟨by kernel_rfl, by kernel_rfl, by show compF Tryz.prog (numOf ns) a403 106 = some s403; kernel_rfl⟩
theorem ok414 : RowOK Tryz.prog ns ⟨414, 107, true, a414, .fn s414⟩ := ⟨by kernel_rfl, by kernel_rfl, by show compF Tryz.prog (numOf ns) a414 107 = some s414; kernel_rfl⟩
theorem ok348 : RowOK Tryz.prog ns ⟨348, 214, false, a348, .fn s348⟩ := ⟨by kernel_rfl, by kernel_rfl, by show compF Tryz.prog (numOf ns) a348 214 = some s348; kernel_rfl⟩
theorem ok343 : RowOK Tryz.prog ns ⟨343, 178, false, a343, .fn s343⟩ := ⟨by kernel_rfl, by kernel_rfl, by show compF Tryz.prog (numOf ns) a343 178 = some s343; kernel_rfl⟩
theorem ok345 : RowOK Tryz.prog ns ⟨345, 228, false, a345, .fn s345⟩ := ⟨by kernel_rfl, by kernel_rfl, by show compF Tryz.prog (numOf ns) a345 228 = some s345; kernel_rfl⟩
theorem ok344 : RowOK Tryz.prog ns ⟨344, 215, false, a344, .fn s344⟩ := ⟨by kernel_rfl, by kernel_rfl, by show compF Tryz.prog (numOf ns) a344 215 = some s344; kernel_rfl⟩
theorem ok346 : RowOK Tryz.prog ns ⟨346, 179, false, a346, .fn s346⟩ := ⟨by kernel_rfl, by kernel_rfl, by show compF Tryz.prog (numOf ns) a346 179 = some s346; kernel_rfl⟩
theorem ok340 : RowOK Tryz.prog ns ⟨340, 108, false, a340, .fn s340⟩ := ⟨by kernel_rfl, by kernel_rfl, by show compF Tryz.prog (numOf ns) a340 108 = some s340; kernel_rfl⟩
theorem ok412 : RowOK Tryz.prog ns ⟨412, 109, true, a412, .fn s412⟩ := ⟨by kernel_rfl, by kernel_rfl, by show compF Tryz.prog (numOf ns) a412 109 = some s412; kernel_rfl⟩
theorem ok416 : RowOK Tryz.prog ns ⟨416, 181, false, a416, .fn s416⟩ := ⟨by kernel_rfl, by kernel_rfl, by show compF Tryz.prog (numOf ns) a416 181 = some s416; kernel_rfl⟩
theorem ok408 : RowOK Tryz.prog ns ⟨408, 110, true, a408, .fn s408⟩ := ⟨by kernel_rfl, by kernel_rfl, by show compF Tryz.prog (numOf ns) a408 110 = some s408; kernel_rfl⟩
theorem ok405 : RowOK Tryz.prog ns ⟨405, 54, true, a405, .fn s405⟩ := ⟨by kernel_rfl, by kernel_rfl, by show compF Tryz.prog (numOf ns) a405 54 = some s405; kernel_rfl⟩
theorem ok400 : RowOK Tryz.prog ns ⟨400, 17, true, a400, .fn s400⟩ := ⟨by kernel_rfl, by kernel_rfl, by show compF Tryz.prog (numOf ns) a400 17 = some s400; kernel_rfl⟩
theorem ok426 : RowOK Tryz.prog ns ⟨426, 155, true, a426, .fn s426⟩ := ⟨by kernel_rfl, by kernel_rfl, by show compF Tryz.prog (numOf ns) a426 155 = some s426; kernel_rfl⟩
theorem ok429 : RowOK Tryz.prog ns ⟨429, 86, true, a429, .fn s429⟩ := ⟨by kernel_rfl, by kernel_rfl, by show compF Tryz.prog (numOf ns) a429 86 = some s429; kernel_rfl⟩
theorem ok423 : RowOK Tryz.prog ns ⟨423, 44, true, a423, .fn s423⟩ := ⟨by kernel_rfl, by kernel_rfl, by show compF Tryz.prog (numOf ns) a423 44 = some s423; kernel_rfl⟩
theorem ok35 : RowOK Tryz.prog ns ⟨35, 78, true, a35, .fn s35⟩ := ⟨by kernel_rfl, by kernel_rfl, by show compF Tryz.prog (numOf ns) a35 78 = some s35; kernel_rfl⟩
theorem ok36 : RowOK Tryz.prog ns ⟨36, 79, true, a36, .fn s36⟩ := ⟨by kernel_rfl, by kernel_rfl, by show compF Tryz.prog (numOf ns) a36 79 = some s36; kernel_rfl⟩
theorem ok30 : RowOK Tryz.prog ns ⟨30, 32, true, a30, .fn s30⟩ := ⟨by kernel_rfl, by kernel_rfl, by show compF Tryz.prog (numOf ns) a30 32 = some s30; kernel_rfl⟩
theorem ok31 : RowOK Tryz.prog ns ⟨31, 40, true, a31, .fn s31⟩ := ⟨by kernel_rfl, by kernel_rfl, by show compF Tryz.prog (numOf ns) a31 40 = some s31; kernel_rfl⟩
theorem ok34 : RowOK Tryz.prog ns ⟨34, 34, true, a34, .fn s34⟩ := ⟨by kernel_rfl, by kernel_rfl, by show compF Tryz.prog (numOf ns) a34 34 = some s34; kernel_rfl⟩
theorem ok33 : RowOK Tryz.prog ns ⟨33, 35, true, a33, .fn s33⟩ := ⟨by kernel_rfl, by kernel_rfl, by show compF Tryz.prog (numOf ns) a33 35 = some s33; kernel_rfl⟩
theorem ok209 : RowOK Tryz.prog ns ⟨209, 8, true, a209, .fn s209⟩ := ⟨by kernel_rfl, by kernel_rfl, by show compF Tryz.prog (numOf ns) a209 8 = some s209; kernel_rfl⟩
theorem tabOK : ∀ r, r ∈ tab → RowOK Tryz.prog ns r := by
  intro r hr
  simp only [tab, List.mem_cons, List.not_mem_nil, or_false] at hr
  rcases hr with rfl | rfl | rfl | rfl | rfl | rfl | rfl | rfl | rfl | rfl | rfl | rfl | rfl | rfl | rfl | rfl | rfl | rfl | rfl | rfl | rfl | rfl | rfl | rfl | rfl | rfl | rfl | rfl | rfl | rfl | rfl | rfl | rfl | rfl | rfl | rfl | rfl | rfl | rfl | rfl | rfl | rfl | rfl | rfl | rfl | rfl | rfl | rfl | rfl | rfl | rfl | rfl | rfl | rfl | rfl | rfl | rfl | rfl | rfl | rfl | rfl | rfl | rfl | rfl | rfl | rfl | rfl | rfl | rfl | rfl | rfl | rfl | rfl | rfl | rfl | rfl | rfl | rfl | rfl | rfl | rfl | rfl | rfl | rfl | rfl | rfl | rfl | rfl | rfl | rfl | rfl | rfl | rfl | rfl | rfl | rfl | rfl | rfl | rfl | rfl | rfl | rfl | rfl | rfl | rfl | rfl | rfl | rfl | rfl | rfl | rfl | rfl | rfl | rfl | rfl | rfl | rfl | rfl | rfl | rfl | rfl | rfl | rfl
  · exact ok134
  · exact ok107
  · exact ok106
  · exact ok444
  · exact ok445
  · exact ok443
  · exact ok465
  · exact ok151
  · exact ok422
  · exact ok419
  · exact ok372
  · exact ok338
  · exact ok424
  · exact ok67
  · exact ok432
  · exact ok435
  · exact ok68
  · exact ok339
  · exact ok14
  · exact ok21
  · exact ok24
  · exact ok22
  · exact ok17
  · exact ok15
  · exact ok16
  · exact ok18
  · exact ok23
  · exact ok450
  · exact ok19
  · exact ok20
  · exact ok13
  · exact ok11
  · exact ok136
  · exact ok135
  · exact ok133
  · exact ok132
  · exact ok463
  · exact ok455
  · exact ok430
  · exact ok427
  · exact ok334
  · exact ok335
  · exact ok428
  · exact ok425
  · exact ok451
  · exact ok370
  · exact ok122
  · exact ok145
  · exact ok144
  · exact ok143
  · exact ok147
  · exact ok138
  · exact ok371
  · exact ok123
  · exact ok115
  · exact ok114
  · exact ok407
  · exact ok110
  · exact ok112
  · exact ok113
  · exact ok109
  · exact ok404
  · exact ok142
  · exact ok125
  · exact ok158
  · exact ok162
  · exact ok163
  · exact ok159
  · exact ok150
  · exact ok161
  · exact ok152
  · exact ok402
  · exact ok417
  · exact ok418
  · exact ok420
  · exact ok410
  · exact ok406
  · exact ok129
  · exact ok128
  · exact ok421
  · exact ok409
  · exact ok127
  · exact ok337
  · exact ok415
  · exact ok381
  · exact ok411
  · exact ok130
  · exact ok124
  · exact ok126
  · exact ok413
  · exact ok149
  · exact ok157
  · exact ok141
  · exact ok139
  · exact ok146
  · exact ok148
  · exact ok459
  · exact ok452
  · exact ok140
  · exact ok137
  · exact ok403
  · exact ok414
  · exact ok348
  · exact ok343
  · exact ok345
  · exact ok344
  · exact ok346
  · exact ok340
  · exact ok412
  · exact ok416
  · exact ok408
  · exact ok405
  · exact ok400
  · exact ok426
  · exact ok429
  · exact ok423
  · exact ok35
  · exact ok36
  · exact ok30
  · exact ok31
  · exact ok34
  · exact ok33
  · exact ok209
theorem mix : Tryz.prog.follows .mixedOrders = true := by kernel_rfl
theorem sound209 : SoundFn Tryz.prog (fidOf ns) 8 (evFun (clOf (modsR tab 14) 3) s209) :=
  fun_sound (num_fid nsND) mix (tab_sound nsND mix tabOK 14) 3 ok209.2.2
end Go.Proofs.YtbpaojgkkggcgadGreat.LgTTargetRuns
