import Derived.Test.YtbnpiancagebbaaGreatDoorLgTabp0
import Derived.Test.YtbnpiancagebbaaGreatDoorLgTabp1
import Derived.Test.YtbnpiancagebbaaGreatDoorRows
import Derived.Test.YtbnpiancagebbaaGreatDoorLgW1
import Derived.RowKit
/-
  The seat's functions, as this work's tool printed them.
-/
namespace Go.Proofs.YtbnpiancagebbaaGreatDoor.LgTab
open Go Lg
set_option maxRecDepth 100000
def ns : List Nat := [441, 86, 87, 198, 66, 174, 382, 356, 176, 400, 177, 199, 64, 65, 457, 450, 358, 357, 336, 370, 402, 410, 409, 405, 173, 372, 355, 181, 180, 381, 466, 451, 407, 109, 125, 404, 152, 420, 406, 129, 128, 123, 421, 415, 413, 403, 414, 340, 412, 408, 151, 107, 419, 95, 114, 112, 113, 122, 142, 371, 158, 162, 163, 161, 418, 138, 422, 337, 411, 130, 124, 126, 139, 141, 140, 137, 157, 343, 346, 127, 416, 465, 106, 94, 115, 110, 147, 145, 150, 417, 149, 144, 146, 148, 452, 143, 348, 344, 443, 102, 101, 97, 98, 159, 459, 345, 444, 445, 100, 442, 96, 99, 446, 447, 448, 78, 79, 82, 83, 84, 85, 80, 81, 49, 50, 47, 48, 0, 60, 61, 59, 484, 485, 486, 487, 488, 88]
theorem nsND : ns.Nodup := by decide +kernel
def tab : List Row := [⟨174, 5, false, a174, .fn s174⟩, ⟨181, 27, false, a181, .fn s181⟩, ⟨180, 28, false, a180, .fn s180⟩, ⟨65, 13, false, a65, .fn s65⟩, ⟨64, 12, true, a64, .fn s64⟩, ⟨66, 4, true, a66, .fn s66⟩, ⟨457, 14, false, a457, .fn s457⟩, ⟨450, 15, false, a450, .nil n450⟩, ⟨382, 6, true, a382, .fn s382⟩, ⟨381, 29, false, a381, .fn s381⟩, ⟨358, 16, false, a358, .fn s358⟩, ⟨102, 99, false, a102, .fn s102⟩, ⟨442, 109, false, a442, .fn s442⟩, ⟨100, 108, false, a100, .fn s100⟩, ⟨96, 110, false, a96, .fn s96⟩, ⟨101, 100, false, a101, .fn s101⟩, ⟨97, 101, false, a97, .fn s97⟩, ⟨99, 111, false, a99, .fn s99⟩, ⟨447, 113, false, a447, .fn s447⟩, ⟨448, 114, false, a448, .fn s448⟩, ⟨446, 112, false, a446, .fn s446⟩, ⟨98, 102, false, a98, .fn s98⟩, ⟨94, 83, false, a94, .fn s94⟩, ⟨95, 53, false, a95, .fn s95⟩, ⟨466, 30, false, a466, .fn s466⟩, ⟨357, 17, false, a357, .fn s357⟩, ⟨336, 18, false, a336, .fn s336⟩, ⟨356, 7, false, a356, .fn s356⟩, ⟨176, 8, false, a176, .fn s176⟩, ⟨451, 31, false, a451, .nil n451⟩, ⟨370, 19, true, a370, .fn s370⟩, ⟨115, 84, false, a115, .fn s115⟩, ⟨114, 54, false, a114, .fn s114⟩, ⟨407, 32, false, a407, .fn s407⟩, ⟨110, 85, false, a110, .fn s110⟩, ⟨112, 55, false, a112, .fn s112⟩, ⟨113, 56, false, a113, .fn s113⟩, ⟨109, 33, false, a109, .fn s109⟩, ⟨122, 57, true, a122, .fn s122⟩, ⟨404, 35, true, a404, .fn s404⟩, ⟨144, 91, true, a144, .fn s144⟩, ⟨106, 82, false, a106, .fn s106⟩, ⟨444, 106, false, a444, .fn s444⟩, ⟨445, 107, false, a445, .fn s445⟩, ⟨443, 98, false, a443, .fn s443⟩, ⟨465, 81, false, a465, .fn s465⟩, ⟨143, 95, false, a143, .fn s143⟩, ⟨147, 86, true, a147, .fn s147⟩, ⟨145, 87, false, a145, .fn s145⟩, ⟨142, 58, true, a142, .fn s142⟩, ⟨371, 59, false, a371, .fn s371⟩, ⟨125, 34, true, a125, .fn s125⟩, ⟨158, 60, true, a158, .fn s158⟩, ⟨162, 61, false, a162, .fn s162⟩, ⟨163, 62, true, a163, .inl s163⟩, ⟨159, 103, false, a159, .fn s159⟩, ⟨150, 88, false, a150, .fn s150⟩, ⟨161, 63, true, a161, .inl s161⟩, ⟨152, 36, true, a152, .fn s152⟩, ⟨402, 20, true, a402, .fn s402⟩, ⟨422, 66, false, a422, .fn s422⟩, ⟨417, 89, false, a417, .fn s417⟩, ⟨418, 64, false, a418, .fn s418⟩, ⟨420, 37, false, a420, .fn s420⟩, ⟨410, 21, true, a410, .fn s410⟩, ⟨406, 38, true, a406, .fn s406⟩, ⟨129, 39, true, a129, .fn s129⟩, ⟨128, 40, true, a128, .fn s128⟩, ⟨138, 65, true, a138, .fn s138⟩, ⟨123, 41, true, a123, .fn s123⟩, ⟨421, 42, false, a421, .fn s421⟩, ⟨107, 51, false, a107, .fn s107⟩, ⟨151, 50, true, a151, .fn s151⟩, ⟨419, 52, false, a419, .fn s419⟩, ⟨372, 25, true, a372, .fn s372⟩, ⟨409, 22, true, a409, .fn s409⟩, ⟨127, 79, true, a127, .fn s127⟩, ⟨337, 67, true, a337, .fn s337⟩, ⟨415, 43, true, a415, .fn s415⟩, ⟨411, 68, false, a411, .fn s411⟩, ⟨130, 69, true, a130, .fn s130⟩, ⟨124, 70, true, a124, .fn s124⟩, ⟨126, 71, true, a126, .fn s126⟩, ⟨413, 44, true, a413, .fn s413⟩, ⟨149, 90, false, a149, .fn s149⟩, ⟨157, 76, true, a157, .fn s157⟩, ⟨141, 73, true, a141, .fn s141⟩, ⟨139, 72, true, a139, .fn s139⟩, ⟨146, 92, false, a146, .fn s146⟩, ⟨148, 93, true, a148, .fn s148⟩, ⟨459, 104, false, a459, .fn s459⟩, ⟨452, 94, false, a452, .fn s452⟩, ⟨140, 74, true, a140, .fn s140⟩, ⟨137, 75, true, a137, .fn s137⟩, ⟨403, 45, true, a403, .fn s403⟩, ⟨414, 46, true, a414, .fn s414⟩, ⟨348, 96, false, a348, .fn s348⟩, ⟨343, 77, false, a343, .fn s343⟩, ⟨345, 105, false, a345, .fn s345⟩, ⟨344, 97, false, a344, .fn s344⟩, ⟨346, 78, false, a346, .fn s346⟩, ⟨340, 47, false, a340, .fn s340⟩, ⟨412, 48, true, a412, .fn s412⟩, ⟨416, 80, false, a416, .fn s416⟩, ⟨408, 49, true, a408, .fn s408⟩, ⟨405, 23, true, a405, .fn s405⟩, ⟨400, 9, true, a400, .fn s400⟩, ⟨173, 24, false, a173, .fn s173⟩, ⟨177, 10, false, a177, .fn s177⟩, ⟨355, 26, false, a355, .fn s355⟩, ⟨199, 11, false, a199, .fn s199⟩, ⟨198, 3, false, a198, .fn s198⟩]
theorem ok174 : RowOK Tryz.prog ns ⟨174, 5, false, a174, .fn s174⟩ := ⟨by kernel_rfl, by kernel_rfl, by show compF Tryz.prog (numOf ns) a174 5 = some s174; kernel_rfl⟩
theorem ok181 : RowOK Tryz.prog ns ⟨181, 27, false, a181, .fn s181⟩ := ⟨by kernel_rfl, by kernel_rfl, by show compF Tryz.prog (numOf ns) a181 27 = some s181; kernel_rfl⟩
theorem ok180 : RowOK Tryz.prog ns ⟨180, 28, false, a180, .fn s180⟩ := ⟨by kernel_rfl, by kernel_rfl, by show compF Tryz.prog (numOf ns) a180 28 = some s180; kernel_rfl⟩
theorem ok65 : RowOK Tryz.prog ns ⟨65, 13, false, a65, .fn s65⟩ := ⟨by kernel_rfl, by kernel_rfl, by show compF Tryz.prog (numOf ns) a65 13 = some s65; kernel_rfl⟩
theorem ok64 : RowOK Tryz.prog ns ⟨64, 12, true, a64, .fn s64⟩ := ⟨by kernel_rfl, by kernel_rfl, by show compF Tryz.prog (numOf ns) a64 12 = some s64; kernel_rfl⟩
theorem ok66 : RowOK Tryz.prog ns ⟨66, 4, true, a66, .fn s66⟩ := ⟨by kernel_rfl, by kernel_rfl, by show compF Tryz.prog (numOf ns) a66 4 = some s66; kernel_rfl⟩
theorem ok457 : RowOK Tryz.prog ns ⟨457, 14, false, a457, .fn s457⟩ := ⟨by kernel_rfl, by kernel_rfl, by show compF Tryz.prog (numOf ns) a457 14 = some s457; kernel_rfl⟩
theorem ok450 : RowOK Tryz.prog ns ⟨450, 15, false, a450, .nil n450⟩ := ⟨by kernel_rfl, by kernel_rfl, by show compN Tryz.prog (numOf ns) a450 15 = some n450; kernel_rfl⟩
theorem ok382 : RowOK Tryz.prog ns ⟨382, 6, true, a382, .fn s382⟩ := ⟨by kernel_rfl, by kernel_rfl, by show compF Tryz.prog (numOf ns) a382 6 = some s382; kernel_rfl⟩
theorem ok381 : RowOK Tryz.prog ns ⟨381, 29, false, a381, .fn s381⟩ := ⟨by kernel_rfl, by kernel_rfl, by show compF Tryz.prog (numOf ns) a381 29 = some s381; kernel_rfl⟩
theorem ok358 : RowOK Tryz.prog ns ⟨358, 16, false, a358, .fn s358⟩ := ⟨by kernel_rfl, by kernel_rfl, by show compF Tryz.prog (numOf ns) a358 16 = some s358; kernel_rfl⟩
theorem ok102 : RowOK Tryz.prog ns ⟨102, 99, false, a102, .fn s102⟩ := ⟨by kernel_rfl, by kernel_rfl, by show compF Tryz.prog (numOf ns) a102 99 = some s102; kernel_rfl⟩
theorem ok442 : RowOK Tryz.prog ns ⟨442, 109, false, a442, .fn s442⟩ := ⟨by kernel_rfl, by kernel_rfl, by show compF Tryz.prog (numOf ns) a442 109 = some s442; kernel_rfl⟩
theorem ok100 : RowOK Tryz.prog ns ⟨100, 108, false, a100, .fn s100⟩ := ⟨by kernel_rfl, by kernel_rfl, by show compF Tryz.prog (numOf ns) a100 108 = some s100; kernel_rfl⟩
theorem ok96 : RowOK Tryz.prog ns ⟨96, 110, false, a96, .fn s96⟩ := ⟨by kernel_rfl, by kernel_rfl, by show compF Tryz.prog (numOf ns) a96 110 = some s96; kernel_rfl⟩
theorem ok101 : RowOK Tryz.prog ns ⟨101, 100, false, a101, .fn s101⟩ := ⟨by kernel_rfl, by kernel_rfl, by show compF Tryz.prog (numOf ns) a101 100 = some s101; kernel_rfl⟩
theorem ok97 : RowOK Tryz.prog ns ⟨97, 101, false, a97, .fn s97⟩ := ⟨by kernel_rfl, by kernel_rfl, by show compF Tryz.prog (numOf ns) a97 101 = some s97; kernel_rfl⟩
theorem ok99 : RowOK Tryz.prog ns ⟨99, 111, false, a99, .fn s99⟩ := ⟨by kernel_rfl, by kernel_rfl, by show compF Tryz.prog (numOf ns) a99 111 = some s99; kernel_rfl⟩
theorem ok447 : RowOK Tryz.prog ns ⟨447, 113, false, a447, .fn s447⟩ := ⟨by kernel_rfl, by kernel_rfl, by show compF Tryz.prog (numOf ns) a447 113 = some s447; kernel_rfl⟩
theorem ok448 : RowOK Tryz.prog ns ⟨448, 114, false, a448, .fn s448⟩ := ⟨by kernel_rfl, by kernel_rfl, by show compF Tryz.prog (numOf ns) a448 114 = some s448; kernel_rfl⟩
theorem ok446 : RowOK Tryz.prog ns ⟨446, 112, false, a446, .fn s446⟩ := ⟨by kernel_rfl, by kernel_rfl, by show compF Tryz.prog (numOf ns) a446 112 = some s446; kernel_rfl⟩
theorem ok98 : RowOK Tryz.prog ns ⟨98, 102, false, a98, .fn s98⟩ := ⟨by kernel_rfl, by kernel_rfl, by show compF Tryz.prog (numOf ns) a98 102 = some s98; kernel_rfl⟩
theorem ok94 : RowOK Tryz.prog ns ⟨94, 83, false, a94, .fn s94⟩ := ⟨by kernel_rfl, by kernel_rfl, by show compF Tryz.prog (numOf ns) a94 83 = some s94; kernel_rfl⟩
theorem ok95 : RowOK Tryz.prog ns ⟨95, 53, false, a95, .fn s95⟩ := ⟨by kernel_rfl, by kernel_rfl, by show compF Tryz.prog (numOf ns) a95 53 = some s95; kernel_rfl⟩
theorem ok466 : RowOK Tryz.prog ns ⟨466, 30, false, a466, .fn s466⟩ := ⟨by kernel_rfl, by kernel_rfl, by show compF Tryz.prog (numOf ns) a466 30 = some s466; kernel_rfl⟩
theorem ok357 : RowOK Tryz.prog ns ⟨357, 17, false, a357, .fn s357⟩ := ⟨by kernel_rfl, by kernel_rfl, by show compF Tryz.prog (numOf ns) a357 17 = some s357; kernel_rfl⟩
theorem ok336 : RowOK Tryz.prog ns ⟨336, 18, false, a336, .fn s336⟩ := ⟨by kernel_rfl, by kernel_rfl, by show compF Tryz.prog (numOf ns) a336 18 = some s336; kernel_rfl⟩
theorem ok356 : RowOK Tryz.prog ns ⟨356, 7, false, a356, .fn s356⟩ := ⟨by kernel_rfl, by kernel_rfl, by show compF Tryz.prog (numOf ns) a356 7 = some s356; kernel_rfl⟩
theorem ok176 : RowOK Tryz.prog ns ⟨176, 8, false, a176, .fn s176⟩ := ⟨by kernel_rfl, by kernel_rfl, by show compF Tryz.prog (numOf ns) a176 8 = some s176; kernel_rfl⟩
theorem ok451 : RowOK Tryz.prog ns ⟨451, 31, false, a451, .nil n451⟩ := ⟨by kernel_rfl, by kernel_rfl, by show compN Tryz.prog (numOf ns) a451 31 = some n451; kernel_rfl⟩
theorem ok370 : RowOK Tryz.prog ns ⟨370, 19, true, a370, .fn s370⟩ := ⟨by kernel_rfl, by kernel_rfl, by show compF Tryz.prog (numOf ns) a370 19 = some s370; kernel_rfl⟩
theorem ok115 : RowOK Tryz.prog ns ⟨115, 84, false, a115, .fn s115⟩ := ⟨by kernel_rfl, by kernel_rfl, by show compF Tryz.prog (numOf ns) a115 84 = some s115; kernel_rfl⟩
theorem ok114 : RowOK Tryz.prog ns ⟨114, 54, false, a114, .fn s114⟩ := ⟨by kernel_rfl, by kernel_rfl, by show compF Tryz.prog (numOf ns) a114 54 = some s114; kernel_rfl⟩
theorem ok407 : RowOK Tryz.prog ns ⟨407, 32, false, a407, .fn s407⟩ := ⟨by kernel_rfl, by kernel_rfl, by show compF Tryz.prog (numOf ns) a407 32 = some s407; kernel_rfl⟩
theorem ok110 : RowOK Tryz.prog ns ⟨110, 85, false, a110, .fn s110⟩ := ⟨by kernel_rfl, by kernel_rfl, by show compF Tryz.prog (numOf ns) a110 85 = some s110; kernel_rfl⟩
theorem ok112 : RowOK Tryz.prog ns ⟨112, 55, false, a112, .fn s112⟩ := ⟨by kernel_rfl, by kernel_rfl, by show compF Tryz.prog (numOf ns) a112 55 = some s112; kernel_rfl⟩
theorem ok113 : RowOK Tryz.prog ns ⟨113, 56, false, a113, .fn s113⟩ := ⟨by kernel_rfl, by kernel_rfl, by show compF Tryz.prog (numOf ns) a113 56 = some s113; kernel_rfl⟩
theorem ok109 : RowOK Tryz.prog ns ⟨109, 33, false, a109, .fn s109⟩ := ⟨by kernel_rfl, by kernel_rfl, by show compF Tryz.prog (numOf ns) a109 33 = some s109; kernel_rfl⟩
theorem ok122 : RowOK Tryz.prog ns ⟨122, 57, true, a122, .fn s122⟩ := ⟨by kernel_rfl, by kernel_rfl, by show compF Tryz.prog (numOf ns) a122 57 = some s122; kernel_rfl⟩
theorem ok404 : RowOK Tryz.prog ns ⟨404, 35, true, a404, .fn s404⟩ := ⟨by kernel_rfl, by kernel_rfl, by show compF Tryz.prog (numOf ns) a404 35 = some s404; kernel_rfl⟩
theorem ok144 : RowOK Tryz.prog ns ⟨144, 91, true, a144, .fn s144⟩ := ⟨by kernel_rfl, by kernel_rfl, by show compF Tryz.prog (numOf ns) a144 91 = some s144; kernel_rfl⟩
theorem ok106 : RowOK Tryz.prog ns ⟨106, 82, false, a106, .fn s106⟩ := ⟨by kernel_rfl, by kernel_rfl, by show compF Tryz.prog (numOf ns) a106 82 = some s106; kernel_rfl⟩
theorem ok444 : RowOK Tryz.prog ns ⟨444, 106, false, a444, .fn s444⟩ := ⟨by kernel_rfl, by kernel_rfl, by show compF Tryz.prog (numOf ns) a444 106 = some s444; kernel_rfl⟩
theorem ok445 : RowOK Tryz.prog ns ⟨445, 107, false, a445, .fn s445⟩ := ⟨by kernel_rfl, by kernel_rfl, by show compF Tryz.prog (numOf ns) a445 107 = some s445; kernel_rfl⟩
theorem ok443 : RowOK Tryz.prog ns ⟨443, 98, false, a443, .fn s443⟩ := ⟨by kernel_rfl, by kernel_rfl, by show compF Tryz.prog (numOf ns) a443 98 = some s443; kernel_rfl⟩
theorem ok465 : RowOK Tryz.prog ns ⟨465, 81, false, a465, .fn s465⟩ := ⟨by kernel_rfl, by kernel_rfl, by show compF Tryz.prog (numOf ns) a465 81 = some s465; kernel_rfl⟩
theorem ok143 : RowOK Tryz.prog ns ⟨143, 95, false, a143, .fn s143⟩ := ⟨by kernel_rfl, by kernel_rfl, by show compF Tryz.prog (numOf ns) a143 95 = some s143; kernel_rfl⟩
theorem ok147 : RowOK Tryz.prog ns ⟨147, 86, true, a147, .fn s147⟩ := ⟨by kernel_rfl, by kernel_rfl, by show compF Tryz.prog (numOf ns) a147 86 = some s147; kernel_rfl⟩
theorem ok145 : RowOK Tryz.prog ns ⟨145, 87, false, a145, .fn s145⟩ := ⟨by kernel_rfl, by kernel_rfl, by show compF Tryz.prog (numOf ns) a145 87 = some s145; kernel_rfl⟩
theorem ok142 : RowOK Tryz.prog ns ⟨142, 58, true, a142, .fn s142⟩ := ⟨by kernel_rfl, by kernel_rfl, by show compF Tryz.prog (numOf ns) a142 58 = some s142; kernel_rfl⟩
theorem ok371 : RowOK Tryz.prog ns ⟨371, 59, false, a371, .fn s371⟩ := ⟨by kernel_rfl, by kernel_rfl, by show compF Tryz.prog (numOf ns) a371 59 = some s371; kernel_rfl⟩
theorem ok125 : RowOK Tryz.prog ns ⟨125, 34, true, a125, .fn s125⟩ := ⟨by kernel_rfl, by kernel_rfl, by show compF Tryz.prog (numOf ns) a125 34 = some s125; kernel_rfl⟩
theorem ok158 : RowOK Tryz.prog ns ⟨158, 60, true, a158, .fn s158⟩ := ⟨by kernel_rfl, by kernel_rfl, by show compF Tryz.prog (numOf ns) a158 60 = some s158; kernel_rfl⟩
theorem ok162 : RowOK Tryz.prog ns ⟨162, 61, false, a162, .fn s162⟩ := ⟨by kernel_rfl, by kernel_rfl, by show compF Tryz.prog (numOf ns) a162 61 = some s162; kernel_rfl⟩
theorem ok163 : RowOK Tryz.prog ns ⟨163, 62, true, a163, .inl s163⟩ := ⟨by kernel_rfl, by kernel_rfl, by show compF Tryz.prog (numOf ns) a163 62 = some s163; kernel_rfl⟩
theorem ok159 : RowOK Tryz.prog ns ⟨159, 103, false, a159, .fn s159⟩ := ⟨by kernel_rfl, by kernel_rfl, by show compF Tryz.prog (numOf ns) a159 103 = some s159; kernel_rfl⟩
theorem ok150 : RowOK Tryz.prog ns ⟨150, 88, false, a150, .fn s150⟩ := ⟨by kernel_rfl, by kernel_rfl, by show compF Tryz.prog (numOf ns) a150 88 = some s150; kernel_rfl⟩
theorem ok161 : RowOK Tryz.prog ns ⟨161, 63, true, a161, .inl s161⟩ := ⟨by kernel_rfl, by kernel_rfl, by show compF Tryz.prog (numOf ns) a161 63 = some s161; kernel_rfl⟩
theorem ok152 : RowOK Tryz.prog ns ⟨152, 36, true, a152, .fn s152⟩ := ⟨by kernel_rfl, by kernel_rfl, by show compF Tryz.prog (numOf ns) a152 36 = some s152; kernel_rfl⟩
theorem ok402 : RowOK Tryz.prog ns ⟨402, 20, true, a402, .fn s402⟩ := ⟨by kernel_rfl, by kernel_rfl, by show compF Tryz.prog (numOf ns) a402 20 = some s402; kernel_rfl⟩
theorem ok422 : RowOK Tryz.prog ns ⟨422, 66, false, a422, .fn s422⟩ := ⟨by kernel_rfl, by kernel_rfl, by show compF Tryz.prog (numOf ns) a422 66 = some s422; kernel_rfl⟩
theorem ok417 : RowOK Tryz.prog ns ⟨417, 89, false, a417, .fn s417⟩ := ⟨by kernel_rfl, by kernel_rfl, by show compF Tryz.prog (numOf ns) a417 89 = some s417; kernel_rfl⟩
theorem ok418 : RowOK Tryz.prog ns ⟨418, 64, false, a418, .fn s418⟩ := ⟨by kernel_rfl, by kernel_rfl, by show compF Tryz.prog (numOf ns) a418 64 = some s418; kernel_rfl⟩
theorem ok420 : RowOK Tryz.prog ns ⟨420, 37, false, a420, .fn s420⟩ := ⟨by kernel_rfl, by kernel_rfl, by show compF Tryz.prog (numOf ns) a420 37 = some s420; kernel_rfl⟩
theorem ok410 : RowOK Tryz.prog ns ⟨410, 21, true, a410, .fn s410⟩ := ⟨by kernel_rfl, by kernel_rfl, by show compF Tryz.prog (numOf ns) a410 21 = some s410; kernel_rfl⟩
theorem ok406 : RowOK Tryz.prog ns ⟨406, 38, true, a406, .fn s406⟩ := ⟨by kernel_rfl, by kernel_rfl, by show compF Tryz.prog (numOf ns) a406 38 = some s406; kernel_rfl⟩
theorem ok129 : RowOK Tryz.prog ns ⟨129, 39, true, a129, .fn s129⟩ := ⟨by kernel_rfl, by kernel_rfl, by show compF Tryz.prog (numOf ns) a129 39 = some s129; kernel_rfl⟩
theorem ok128 : RowOK Tryz.prog ns ⟨128, 40, true, a128, .fn s128⟩ := ⟨by kernel_rfl, by kernel_rfl, by show compF Tryz.prog (numOf ns) a128 40 = some s128; kernel_rfl⟩
theorem ok138 : RowOK Tryz.prog ns ⟨138, 65, true, a138, .fn s138⟩ := ⟨by kernel_rfl, by kernel_rfl, by show compF Tryz.prog (numOf ns) a138 65 = some s138; kernel_rfl⟩
theorem ok123 : RowOK Tryz.prog ns ⟨123, 41, true, a123, .fn s123⟩ := ⟨by kernel_rfl, by kernel_rfl, by show compF Tryz.prog (numOf ns) a123 41 = some s123; kernel_rfl⟩
theorem ok421 : RowOK Tryz.prog ns ⟨421, 42, false, a421, .fn s421⟩ := ⟨by kernel_rfl, by kernel_rfl, by show compF Tryz.prog (numOf ns) a421 42 = some s421; kernel_rfl⟩
theorem ok107 : RowOK Tryz.prog ns ⟨107, 51, false, a107, .fn s107⟩ := ⟨by kernel_rfl, by kernel_rfl, by show compF Tryz.prog (numOf ns) a107 51 = some s107; kernel_rfl⟩
theorem ok151 : RowOK Tryz.prog ns ⟨151, 50, true, a151, .fn s151⟩ := ⟨by kernel_rfl, by kernel_rfl, by show compF Tryz.prog (numOf ns) a151 50 = some s151; kernel_rfl⟩
theorem ok419 : RowOK Tryz.prog ns ⟨419, 52, false, a419, .fn s419⟩ := ⟨by kernel_rfl, by kernel_rfl, by show compF Tryz.prog (numOf ns) a419 52 = some s419; kernel_rfl⟩
theorem ok372 : RowOK Tryz.prog ns ⟨372, 25, true, a372, .fn s372⟩ := ⟨by kernel_rfl, by kernel_rfl, by show compF Tryz.prog (numOf ns) a372 25 = some s372; kernel_rfl⟩
theorem ok409 : RowOK Tryz.prog ns ⟨409, 22, true, a409, .fn s409⟩ := ⟨by kernel_rfl, by kernel_rfl, by show compF Tryz.prog (numOf ns) a409 22 = some s409; kernel_rfl⟩
theorem ok127 : RowOK Tryz.prog ns ⟨127, 79, true, a127, .fn s127⟩ := ⟨by kernel_rfl, by kernel_rfl, by show compF Tryz.prog (numOf ns) a127 79 = some s127; kernel_rfl⟩
theorem ok337 : RowOK Tryz.prog ns ⟨337, 67, true, a337, .fn s337⟩ := ⟨by kernel_rfl, by kernel_rfl, by show compF Tryz.prog (numOf ns) a337 67 = some s337; kernel_rfl⟩
theorem ok415 : RowOK Tryz.prog ns ⟨415, 43, true, a415, .fn s415⟩ := ⟨by kernel_rfl, by kernel_rfl, by show compF Tryz.prog (numOf ns) a415 43 = some s415; kernel_rfl⟩
theorem ok411 : RowOK Tryz.prog ns ⟨411, 68, false, a411, .fn s411⟩ := ⟨by kernel_rfl, by kernel_rfl, by show compF Tryz.prog (numOf ns) a411 68 = some s411; kernel_rfl⟩
theorem ok130 : RowOK Tryz.prog ns ⟨130, 69, true, a130, .fn s130⟩ := ⟨by kernel_rfl, by kernel_rfl, by show compF Tryz.prog (numOf ns) a130 69 = some s130; kernel_rfl⟩
theorem ok124 : RowOK Tryz.prog ns ⟨124, 70, true, a124, .fn s124⟩ := ⟨by kernel_rfl, by kernel_rfl, by show compF Tryz.prog (numOf ns) a124 70 = some s124; kernel_rfl⟩
theorem ok126 : RowOK Tryz.prog ns ⟨126, 71, true, a126, .fn s126⟩ := ⟨by kernel_rfl, by kernel_rfl, by show compF Tryz.prog (numOf ns) a126 71 = some s126; kernel_rfl⟩
theorem ok413 : RowOK Tryz.prog ns ⟨413, 44, true, a413, .fn s413⟩ := ⟨by kernel_rfl, by kernel_rfl, by show compF Tryz.prog (numOf ns) a413 44 = some s413; kernel_rfl⟩
theorem ok149 : RowOK Tryz.prog ns ⟨149, 90, false, a149, .fn s149⟩ := ⟨by kernel_rfl, by kernel_rfl, by show compF Tryz.prog (numOf ns) a149 90 = some s149; kernel_rfl⟩
theorem ok157 : RowOK Tryz.prog ns ⟨157, 76, true, a157, .fn s157⟩ := ⟨by kernel_rfl, by kernel_rfl, by show compF Tryz.prog (numOf ns) a157 76 = some s157; kernel_rfl⟩
theorem ok141 : RowOK Tryz.prog ns ⟨141, 73, true, a141, .fn s141⟩ := ⟨by kernel_rfl, by kernel_rfl, by show compF Tryz.prog (numOf ns) a141 73 = some s141; kernel_rfl⟩
theorem ok139 : RowOK Tryz.prog ns ⟨139, 72, true, a139, .fn s139⟩ := ⟨by kernel_rfl, by kernel_rfl, by show compF Tryz.prog (numOf ns) a139 72 = some s139; kernel_rfl⟩
theorem ok146 : RowOK Tryz.prog ns ⟨146, 92, false, a146, .fn s146⟩ := ⟨by kernel_rfl, by kernel_rfl, by show compF Tryz.prog (numOf ns) a146 92 = some s146; kernel_rfl⟩
theorem ok148 : RowOK Tryz.prog ns ⟨148, 93, true, a148, .fn s148⟩ := ⟨by kernel_rfl, by kernel_rfl, by show compF Tryz.prog (numOf ns) a148 93 = some s148; kernel_rfl⟩
theorem ok459 : RowOK Tryz.prog ns ⟨459, 104, false, a459, .fn s459⟩ := ⟨by kernel_rfl, by kernel_rfl, by show compF Tryz.prog (numOf ns) a459 104 = some s459; kernel_rfl⟩
theorem ok452 : RowOK Tryz.prog ns ⟨452, 94, false, a452, .fn s452⟩ := ⟨by kernel_rfl, by kernel_rfl, by show compF Tryz.prog (numOf ns) a452 94 = some s452; kernel_rfl⟩
theorem ok140 : RowOK Tryz.prog ns ⟨140, 74, true, a140, .fn s140⟩ := ⟨by kernel_rfl, by kernel_rfl, by show compF Tryz.prog (numOf ns) a140 74 = some s140; kernel_rfl⟩
theorem ok137 : RowOK Tryz.prog ns ⟨137, 75, true, a137, .fn s137⟩ := ⟨by kernel_rfl, by kernel_rfl, by show compF Tryz.prog (numOf ns) a137 75 = some s137; kernel_rfl⟩
theorem ok403 : RowOK Tryz.prog ns ⟨403, 45, true, a403, .fn s403⟩ := ⟨by kernel_rfl, by kernel_rfl, by show compF Tryz.prog (numOf ns) a403 45 = some s403; kernel_rfl⟩
theorem ok414 : RowOK Tryz.prog ns ⟨414, 46, true, a414, .fn s414⟩ := ⟨by kernel_rfl, by kernel_rfl, by show compF Tryz.prog (numOf ns) a414 46 = some s414; kernel_rfl⟩
theorem ok348 : RowOK Tryz.prog ns ⟨348, 96, false, a348, .fn s348⟩ := ⟨by kernel_rfl, by kernel_rfl, by show compF Tryz.prog (numOf ns) a348 96 = some s348; kernel_rfl⟩
theorem ok343 : RowOK Tryz.prog ns ⟨343, 77, false, a343, .fn s343⟩ := ⟨by kernel_rfl, by kernel_rfl, by show compF Tryz.prog (numOf ns) a343 77 = some s343; kernel_rfl⟩
theorem ok345 : RowOK Tryz.prog ns ⟨345, 105, false, a345, .fn s345⟩ := ⟨by kernel_rfl, by kernel_rfl, by show compF Tryz.prog (numOf ns) a345 105 = some s345; kernel_rfl⟩
theorem ok344 : RowOK Tryz.prog ns ⟨344, 97, false, a344, .fn s344⟩ := ⟨by kernel_rfl, by kernel_rfl, by show compF Tryz.prog (numOf ns) a344 97 = some s344; kernel_rfl⟩
theorem ok346 : RowOK Tryz.prog ns ⟨346, 78, false, a346, .fn s346⟩ := ⟨by kernel_rfl, by kernel_rfl, by show compF Tryz.prog (numOf ns) a346 78 = some s346; kernel_rfl⟩
theorem ok340 : RowOK Tryz.prog ns ⟨340, 47, false, a340, .fn s340⟩ := ⟨by kernel_rfl, by kernel_rfl, by show compF Tryz.prog (numOf ns) a340 47 = some s340; kernel_rfl⟩
theorem ok412 : RowOK Tryz.prog ns ⟨412, 48, true, a412, .fn s412⟩ := ⟨by kernel_rfl, by kernel_rfl, by show compF Tryz.prog (numOf ns) a412 48 = some s412; kernel_rfl⟩
theorem ok416 : RowOK Tryz.prog ns ⟨416, 80, false, a416, .fn s416⟩ := ⟨by kernel_rfl, by kernel_rfl, by show compF Tryz.prog (numOf ns) a416 80 = some s416; kernel_rfl⟩
theorem ok408 : RowOK Tryz.prog ns ⟨408, 49, true, a408, .fn s408⟩ := ⟨by kernel_rfl, by kernel_rfl, by show compF Tryz.prog (numOf ns) a408 49 = some s408; kernel_rfl⟩
theorem ok405 : RowOK Tryz.prog ns ⟨405, 23, true, a405, .fn s405⟩ := ⟨by kernel_rfl, by kernel_rfl, by show compF Tryz.prog (numOf ns) a405 23 = some s405; kernel_rfl⟩
theorem ok400 : RowOK Tryz.prog ns ⟨400, 9, true, a400, .fn s400⟩ := ⟨by kernel_rfl, by kernel_rfl, by show compF Tryz.prog (numOf ns) a400 9 = some s400; kernel_rfl⟩
theorem ok173 : RowOK Tryz.prog ns ⟨173, 24, false, a173, .fn s173⟩ := ⟨by kernel_rfl, by kernel_rfl, by show compF Tryz.prog (numOf ns) a173 24 = some s173; kernel_rfl⟩
theorem ok177 : RowOK Tryz.prog ns ⟨177, 10, false, a177, .fn s177⟩ := ⟨by kernel_rfl, by kernel_rfl, by show compF Tryz.prog (numOf ns) a177 10 = some s177; kernel_rfl⟩
theorem ok355 : RowOK Tryz.prog ns ⟨355, 26, false, a355, .fn s355⟩ := ⟨by kernel_rfl, by kernel_rfl, by show compF Tryz.prog (numOf ns) a355 26 = some s355; kernel_rfl⟩
theorem ok199 : RowOK Tryz.prog ns ⟨199, 11, false, a199, .fn s199⟩ := ⟨by kernel_rfl, by kernel_rfl, by show compF Tryz.prog (numOf ns) a199 11 = some s199; kernel_rfl⟩
theorem ok198 : RowOK Tryz.prog ns ⟨198, 3, false, a198, .fn s198⟩ := ⟨by kernel_rfl, by kernel_rfl, by show compF Tryz.prog (numOf ns) a198 3 = some s198; kernel_rfl⟩
theorem tabOK : ∀ r, r ∈ tab → RowOK Tryz.prog ns r := by
  intro r hr
  simp only [tab, List.mem_cons, List.not_mem_nil, or_false] at hr
  rcases hr with rfl | rfl | rfl | rfl | rfl | rfl | rfl | rfl | rfl | rfl | rfl | rfl | rfl | rfl | rfl | rfl | rfl | rfl | rfl | rfl | rfl | rfl | rfl | rfl | rfl | rfl | rfl | rfl | rfl | rfl | rfl | rfl | rfl | rfl | rfl | rfl | rfl | rfl | rfl | rfl | rfl | rfl | rfl | rfl | rfl | rfl | rfl | rfl | rfl | rfl | rfl | rfl | rfl | rfl | rfl | rfl | rfl | rfl | rfl | rfl | rfl | rfl | rfl | rfl | rfl | rfl | rfl | rfl | rfl | rfl | rfl | rfl | rfl | rfl | rfl | rfl | rfl | rfl | rfl | rfl | rfl | rfl | rfl | rfl | rfl | rfl | rfl | rfl | rfl | rfl | rfl | rfl | rfl | rfl | rfl | rfl | rfl | rfl | rfl | rfl | rfl | rfl | rfl | rfl | rfl | rfl | rfl | rfl | rfl | rfl | rfl | rfl
  · exact ok174
  · exact ok181
  · exact ok180
  · exact ok65
  · exact ok64
  · exact ok66
  · exact ok457
  · exact ok450
  · exact ok382
  · exact ok381
  · exact ok358
  · exact ok102
  · exact ok442
  · exact ok100
  · exact ok96
  · exact ok101
  · exact ok97
  · exact ok99
  · exact ok447
  · exact ok448
  · exact ok446
  · exact ok98
  · exact ok94
  · exact ok95
  · exact ok466
  · exact ok357
  · exact ok336
  · exact ok356
  · exact ok176
  · exact ok451
  · exact ok370
  · exact ok115
  · exact ok114
  · exact ok407
  · exact ok110
  · exact ok112
  · exact ok113
  · exact ok109
  · exact ok122
  · exact ok404
  · exact ok144
  · exact ok106
  · exact ok444
  · exact ok445
  · exact ok443
  · exact ok465
  · exact ok143
  · exact ok147
  · exact ok145
  · exact ok142
  · exact ok371
  · exact ok125
  · exact ok158
  · exact ok162
  · exact ok163
  · exact ok159
  · exact ok150
  · exact ok161
  · exact ok152
  · exact ok402
  · exact ok422
  · exact ok417
  · exact ok418
  · exact ok420
  · exact ok410
  · exact ok406
  · exact ok129
  · exact ok128
  · exact ok138
  · exact ok123
  · exact ok421
  · exact ok107
  · exact ok151
  · exact ok419
  · exact ok372
  · exact ok409
  · exact ok127
  · exact ok337
  · exact ok415
  · exact ok411
  · exact ok130
  · exact ok124
  · exact ok126
  · exact ok413
  · exact ok149
  · exact ok157
  · exact ok141
  · exact ok139
  · exact ok146
  · exact ok148
  · exact ok459
  · exact ok452
  · exact ok140
  · exact ok137
  · exact ok403
  · exact ok414
  · exact ok348
  · exact ok343
  · exact ok345
  · exact ok344
  · exact ok346
  · exact ok340
  · exact ok412
  · exact ok416
  · exact ok408
  · exact ok405
  · exact ok400
  · exact ok173
  · exact ok177
  · exact ok355
  · exact ok199
  · exact ok198
theorem mix : Tryz.prog.follows .mixedOrders = true := by kernel_rfl
theorem sound198 : SoundFn Tryz.prog (fidOf ns) 3 (evFun (clOf (modsR tab 14) 3) s198) :=
  fun_sound (num_fid nsND) mix (tab_sound nsND mix tabOK 14) 3 ok198.2.2
theorem cw174 (k n : Nat) (xs : List D) (H : List Ob) : (clOf (modsR tab (k + 1)) n).w 174 xs H = callM false (evFun (clOf (modsR tab k) 3) s174) xs H := by cases n <;> rfl
theorem cr174 (k n : Nat) (xs : List D) (H : List Ob) : (clOf (modsR tab (k + 1)) n).r 174 xs H = callQ false (evFun (clOf (modsR tab k) 3) s174) xs H := by cases n <;> rfl
theorem cw181 (k n : Nat) (xs : List D) (H : List Ob) : (clOf (modsR tab (k + 1)) n).w 181 xs H = callM false (evFun (clOf (modsR tab k) 3) s181) xs H := by cases n <;> rfl
theorem cr181 (k n : Nat) (xs : List D) (H : List Ob) : (clOf (modsR tab (k + 1)) n).r 181 xs H = callQ false (evFun (clOf (modsR tab k) 3) s181) xs H := by cases n <;> rfl
theorem cw180 (k n : Nat) (xs : List D) (H : List Ob) : (clOf (modsR tab (k + 1)) n).w 180 xs H = callM false (evFun (clOf (modsR tab k) 3) s180) xs H := by cases n <;> rfl
theorem cr180 (k n : Nat) (xs : List D) (H : List Ob) : (clOf (modsR tab (k + 1)) n).r 180 xs H = callQ false (evFun (clOf (modsR tab k) 3) s180) xs H := by cases n <;> rfl
theorem cw65 (k n : Nat) (xs : List D) (H : List Ob) : (clOf (modsR tab (k + 1)) n).w 65 xs H = callM false (evFun (clOf (modsR tab k) 3) s65) xs H := by cases n <;> rfl
theorem cr65 (k n : Nat) (xs : List D) (H : List Ob) : (clOf (modsR tab (k + 1)) n).r 65 xs H = callQ false (evFun (clOf (modsR tab k) 3) s65) xs H := by cases n <;> rfl
theorem cw64 (k n : Nat) (xs : List D) (H : List Ob) : (clOf (modsR tab (k + 1)) n).w 64 xs H = callM true (evFun (clOf (modsR tab k) 3) s64) xs H := by cases n <;> rfl
theorem cr64 (k n : Nat) (xs : List D) (H : List Ob) : (clOf (modsR tab (k + 1)) n).r 64 xs H = callQ true (evFun (clOf (modsR tab k) 3) s64) xs H := by cases n <;> rfl
theorem cw66 (k n : Nat) (xs : List D) (H : List Ob) : (clOf (modsR tab (k + 1)) n).w 66 xs H = callM true (evFun (clOf (modsR tab k) 3) s66) xs H := by cases n <;> rfl
theorem cr66 (k n : Nat) (xs : List D) (H : List Ob) : (clOf (modsR tab (k + 1)) n).r 66 xs H = callQ true (evFun (clOf (modsR tab k) 3) s66) xs H := by cases n <;> rfl
theorem cw457 (k n : Nat) (xs : List D) (H : List Ob) : (clOf (modsR tab (k + 1)) n).w 457 xs H = callM false (evFun (clOf (modsR tab k) 3) s457) xs H := by cases n <;> rfl
theorem cr457 (k n : Nat) (xs : List D) (H : List Ob) : (clOf (modsR tab (k + 1)) n).r 457 xs H = callQ false (evFun (clOf (modsR tab k) 3) s457) xs H := by cases n <;> rfl
theorem cw450 (k n : Nat) (xs : List D) (H : List Ob) : (clOf (modsR tab (k + 1)) n).w 450 xs H = callM false (evNil (clOf (modsR tab k) 3) n450) xs H := by cases n <;> rfl
theorem cr450 (k n : Nat) (xs : List D) (H : List Ob) : (clOf (modsR tab (k + 1)) n).r 450 xs H = callQ false (evNil (clOf (modsR tab k) 3) n450) xs H := by cases n <;> rfl
theorem cw382 (k n : Nat) (xs : List D) (H : List Ob) : (clOf (modsR tab (k + 1)) n).w 382 xs H = callM true (evFun (clOf (modsR tab k) 3) s382) xs H := by cases n <;> rfl
theorem cr382 (k n : Nat) (xs : List D) (H : List Ob) : (clOf (modsR tab (k + 1)) n).r 382 xs H = callQ true (evFun (clOf (modsR tab k) 3) s382) xs H := by cases n <;> rfl
theorem cw381 (k n : Nat) (xs : List D) (H : List Ob) : (clOf (modsR tab (k + 1)) n).w 381 xs H = callM false (evFun (clOf (modsR tab k) 3) s381) xs H := by cases n <;> rfl
theorem cr381 (k n : Nat) (xs : List D) (H : List Ob) : (clOf (modsR tab (k + 1)) n).r 381 xs H = callQ false (evFun (clOf (modsR tab k) 3) s381) xs H := by cases n <;> rfl
theorem cw358 (k n : Nat) (xs : List D) (H : List Ob) : (clOf (modsR tab (k + 1)) n).w 358 xs H = callM false (evFun (clOf (modsR tab k) 3) s358) xs H := by cases n <;> rfl
theorem cr358 (k n : Nat) (xs : List D) (H : List Ob) : (clOf (modsR tab (k + 1)) n).r 358 xs H = callQ false (evFun (clOf (modsR tab k) 3) s358) xs H := by cases n <;> rfl
theorem cw102 (k n : Nat) (xs : List D) (H : List Ob) : (clOf (modsR tab (k + 1)) n).w 102 xs H = callM false (evFun (clOf (modsR tab k) 3) s102) xs H := by cases n <;> rfl
theorem cr102 (k n : Nat) (xs : List D) (H : List Ob) : (clOf (modsR tab (k + 1)) n).r 102 xs H = callQ false (evFun (clOf (modsR tab k) 3) s102) xs H := by cases n <;> rfl
theorem cw442 (k n : Nat) (xs : List D) (H : List Ob) : (clOf (modsR tab (k + 1)) n).w 442 xs H = callM false (evFun (clOf (modsR tab k) 3) s442) xs H := by cases n <;> rfl
theorem cr442 (k n : Nat) (xs : List D) (H : List Ob) : (clOf (modsR tab (k + 1)) n).r 442 xs H = callQ false (evFun (clOf (modsR tab k) 3) s442) xs H := by cases n <;> rfl
theorem cw100 (k n : Nat) (xs : List D) (H : List Ob) : (clOf (modsR tab (k + 1)) n).w 100 xs H = callM false (evFun (clOf (modsR tab k) 3) s100) xs H := by cases n <;> rfl
theorem cr100 (k n : Nat) (xs : List D) (H : List Ob) : (clOf (modsR tab (k + 1)) n).r 100 xs H = callQ false (evFun (clOf (modsR tab k) 3) s100) xs H := by cases n <;> rfl
theorem cw96 (k n : Nat) (xs : List D) (H : List Ob) : (clOf (modsR tab (k + 1)) n).w 96 xs H = callM false (evFun (clOf (modsR tab k) 3) s96) xs H := by cases n <;> rfl
theorem cr96 (k n : Nat) (xs : List D) (H : List Ob) : (clOf (modsR tab (k + 1)) n).r 96 xs H = callQ false (evFun (clOf (modsR tab k) 3) s96) xs H := by cases n <;> rfl
theorem cw101 (k n : Nat) (xs : List D) (H : List Ob) : (clOf (modsR tab (k + 1)) n).w 101 xs H = callM false (evFun (clOf (modsR tab k) 3) s101) xs H := by cases n <;> rfl
theorem cr101 (k n : Nat) (xs : List D) (H : List Ob) : (clOf (modsR tab (k + 1)) n).r 101 xs H = callQ false (evFun (clOf (modsR tab k) 3) s101) xs H := by cases n <;> rfl
theorem cw97 (k n : Nat) (xs : List D) (H : List Ob) : (clOf (modsR tab (k + 1)) n).w 97 xs H = callM false (evFun (clOf (modsR tab k) 3) s97) xs H := by cases n <;> rfl
theorem cr97 (k n : Nat) (xs : List D) (H : List Ob) : (clOf (modsR tab (k + 1)) n).r 97 xs H = callQ false (evFun (clOf (modsR tab k) 3) s97) xs H := by cases n <;> rfl
theorem cw99 (k n : Nat) (xs : List D) (H : List Ob) : (clOf (modsR tab (k + 1)) n).w 99 xs H = callM false (evFun (clOf (modsR tab k) 3) s99) xs H := by cases n <;> rfl
theorem cr99 (k n : Nat) (xs : List D) (H : List Ob) : (clOf (modsR tab (k + 1)) n).r 99 xs H = callQ false (evFun (clOf (modsR tab k) 3) s99) xs H := by cases n <;> rfl
theorem cw447 (k n : Nat) (xs : List D) (H : List Ob) : (clOf (modsR tab (k + 1)) n).w 447 xs H = callM false (evFun (clOf (modsR tab k) 3) s447) xs H := by cases n <;> rfl
theorem cr447 (k n : Nat) (xs : List D) (H : List Ob) : (clOf (modsR tab (k + 1)) n).r 447 xs H = callQ false (evFun (clOf (modsR tab k) 3) s447) xs H := by cases n <;> rfl
theorem cw448 (k n : Nat) (xs : List D) (H : List Ob) : (clOf (modsR tab (k + 1)) n).w 448 xs H = callM false (evFun (clOf (modsR tab k) 3) s448) xs H := by cases n <;> rfl
theorem cr448 (k n : Nat) (xs : List D) (H : List Ob) : (clOf (modsR tab (k + 1)) n).r 448 xs H = callQ false (evFun (clOf (modsR tab k) 3) s448) xs H := by cases n <;> rfl
theorem cw446 (k n : Nat) (xs : List D) (H : List Ob) : (clOf (modsR tab (k + 1)) n).w 446 xs H = callM false (evFun (clOf (modsR tab k) 3) s446) xs H := by cases n <;> rfl
theorem cr446 (k n : Nat) (xs : List D) (H : List Ob) : (clOf (modsR tab (k + 1)) n).r 446 xs H = callQ false (evFun (clOf (modsR tab k) 3) s446) xs H := by cases n <;> rfl
theorem cw98 (k n : Nat) (xs : List D) (H : List Ob) : (clOf (modsR tab (k + 1)) n).w 98 xs H = callM false (evFun (clOf (modsR tab k) 3) s98) xs H := by cases n <;> rfl
theorem cr98 (k n : Nat) (xs : List D) (H : List Ob) : (clOf (modsR tab (k + 1)) n).r 98 xs H = callQ false (evFun (clOf (modsR tab k) 3) s98) xs H := by cases n <;> rfl
theorem cw94 (k n : Nat) (xs : List D) (H : List Ob) : (clOf (modsR tab (k + 1)) n).w 94 xs H = callM false (evFun (clOf (modsR tab k) 3) s94) xs H := by cases n <;> rfl
theorem cr94 (k n : Nat) (xs : List D) (H : List Ob) : (clOf (modsR tab (k + 1)) n).r 94 xs H = callQ false (evFun (clOf (modsR tab k) 3) s94) xs H := by cases n <;> rfl
theorem cw95 (k n : Nat) (xs : List D) (H : List Ob) : (clOf (modsR tab (k + 1)) n).w 95 xs H = callM false (evFun (clOf (modsR tab k) 3) s95) xs H := by cases n <;> rfl
theorem cr95 (k n : Nat) (xs : List D) (H : List Ob) : (clOf (modsR tab (k + 1)) n).r 95 xs H = callQ false (evFun (clOf (modsR tab k) 3) s95) xs H := by cases n <;> rfl
theorem cw466 (k n : Nat) (xs : List D) (H : List Ob) : (clOf (modsR tab (k + 1)) n).w 466 xs H = callM false (evFun (clOf (modsR tab k) 3) s466) xs H := by cases n <;> rfl
theorem cr466 (k n : Nat) (xs : List D) (H : List Ob) : (clOf (modsR tab (k + 1)) n).r 466 xs H = callQ false (evFun (clOf (modsR tab k) 3) s466) xs H := by cases n <;> rfl
theorem cw357 (k n : Nat) (xs : List D) (H : List Ob) : (clOf (modsR tab (k + 1)) n).w 357 xs H = callM false (evFun (clOf (modsR tab k) 3) s357) xs H := by cases n <;> rfl
theorem cr357 (k n : Nat) (xs : List D) (H : List Ob) : (clOf (modsR tab (k + 1)) n).r 357 xs H = callQ false (evFun (clOf (modsR tab k) 3) s357) xs H := by cases n <;> rfl
theorem cw336 (k n : Nat) (xs : List D) (H : List Ob) : (clOf (modsR tab (k + 1)) n).w 336 xs H = callM false (evFun (clOf (modsR tab k) 3) s336) xs H := by cases n <;> rfl
theorem cr336 (k n : Nat) (xs : List D) (H : List Ob) : (clOf (modsR tab (k + 1)) n).r 336 xs H = callQ false (evFun (clOf (modsR tab k) 3) s336) xs H := by cases n <;> rfl
theorem cw356 (k n : Nat) (xs : List D) (H : List Ob) : (clOf (modsR tab (k + 1)) n).w 356 xs H = callM false (evFun (clOf (modsR tab k) 3) s356) xs H := by cases n <;> rfl
theorem cr356 (k n : Nat) (xs : List D) (H : List Ob) : (clOf (modsR tab (k + 1)) n).r 356 xs H = callQ false (evFun (clOf (modsR tab k) 3) s356) xs H := by cases n <;> rfl
theorem cw176 (k n : Nat) (xs : List D) (H : List Ob) : (clOf (modsR tab (k + 1)) n).w 176 xs H = callM false (evFun (clOf (modsR tab k) 3) s176) xs H := by cases n <;> rfl
theorem cr176 (k n : Nat) (xs : List D) (H : List Ob) : (clOf (modsR tab (k + 1)) n).r 176 xs H = callQ false (evFun (clOf (modsR tab k) 3) s176) xs H := by cases n <;> rfl
theorem cw451 (k n : Nat) (xs : List D) (H : List Ob) : (clOf (modsR tab (k + 1)) n).w 451 xs H = callM false (evNil (clOf (modsR tab k) 3) n451) xs H := by cases n <;> rfl
theorem cr451 (k n : Nat) (xs : List D) (H : List Ob) : (clOf (modsR tab (k + 1)) n).r 451 xs H = callQ false (evNil (clOf (modsR tab k) 3) n451) xs H := by cases n <;> rfl
theorem cw370 (k n : Nat) (xs : List D) (H : List Ob) : (clOf (modsR tab (k + 1)) n).w 370 xs H = callM true (evFun (clOf (modsR tab k) 3) s370) xs H := by cases n <;> rfl
theorem cr370 (k n : Nat) (xs : List D) (H : List Ob) : (clOf (modsR tab (k + 1)) n).r 370 xs H = callQ true (evFun (clOf (modsR tab k) 3) s370) xs H := by cases n <;> rfl
theorem cw115 (k n : Nat) (xs : List D) (H : List Ob) : (clOf (modsR tab (k + 1)) n).w 115 xs H = callM false (evFun (clOf (modsR tab k) 3) s115) xs H := by cases n <;> rfl
theorem cr115 (k n : Nat) (xs : List D) (H : List Ob) : (clOf (modsR tab (k + 1)) n).r 115 xs H = callQ false (evFun (clOf (modsR tab k) 3) s115) xs H := by cases n <;> rfl
theorem cw114 (k n : Nat) (xs : List D) (H : List Ob) : (clOf (modsR tab (k + 1)) n).w 114 xs H = callM false (evFun (clOf (modsR tab k) 3) s114) xs H := by cases n <;> rfl
theorem cr114 (k n : Nat) (xs : List D) (H : List Ob) : (clOf (modsR tab (k + 1)) n).r 114 xs H = callQ false (evFun (clOf (modsR tab k) 3) s114) xs H := by cases n <;> rfl
theorem cw407 (k n : Nat) (xs : List D) (H : List Ob) : (clOf (modsR tab (k + 1)) n).w 407 xs H = callM false (evFun (clOf (modsR tab k) 3) s407) xs H := by cases n <;> rfl
theorem cr407 (k n : Nat) (xs : List D) (H : List Ob) : (clOf (modsR tab (k + 1)) n).r 407 xs H = callQ false (evFun (clOf (modsR tab k) 3) s407) xs H := by cases n <;> rfl
theorem cw110 (k n : Nat) (xs : List D) (H : List Ob) : (clOf (modsR tab (k + 1)) n).w 110 xs H = callM false (evFun (clOf (modsR tab k) 3) s110) xs H := by cases n <;> rfl
theorem cr110 (k n : Nat) (xs : List D) (H : List Ob) : (clOf (modsR tab (k + 1)) n).r 110 xs H = callQ false (evFun (clOf (modsR tab k) 3) s110) xs H := by cases n <;> rfl
theorem cw112 (k n : Nat) (xs : List D) (H : List Ob) : (clOf (modsR tab (k + 1)) n).w 112 xs H = callM false (evFun (clOf (modsR tab k) 3) s112) xs H := by cases n <;> rfl
theorem cr112 (k n : Nat) (xs : List D) (H : List Ob) : (clOf (modsR tab (k + 1)) n).r 112 xs H = callQ false (evFun (clOf (modsR tab k) 3) s112) xs H := by cases n <;> rfl
theorem cw113 (k n : Nat) (xs : List D) (H : List Ob) : (clOf (modsR tab (k + 1)) n).w 113 xs H = callM false (evFun (clOf (modsR tab k) 3) s113) xs H := by cases n <;> rfl
theorem cr113 (k n : Nat) (xs : List D) (H : List Ob) : (clOf (modsR tab (k + 1)) n).r 113 xs H = callQ false (evFun (clOf (modsR tab k) 3) s113) xs H := by cases n <;> rfl
theorem cw109 (k n : Nat) (xs : List D) (H : List Ob) : (clOf (modsR tab (k + 1)) n).w 109 xs H = callM false (evFun (clOf (modsR tab k) 3) s109) xs H := by cases n <;> rfl
theorem cr109 (k n : Nat) (xs : List D) (H : List Ob) : (clOf (modsR tab (k + 1)) n).r 109 xs H = callQ false (evFun (clOf (modsR tab k) 3) s109) xs H := by cases n <;> rfl
theorem cw122 (k n : Nat) (xs : List D) (H : List Ob) : (clOf (modsR tab (k + 1)) n).w 122 xs H = callM true (evFun (clOf (modsR tab k) 3) s122) xs H := by cases n <;> rfl
theorem cr122 (k n : Nat) (xs : List D) (H : List Ob) : (clOf (modsR tab (k + 1)) n).r 122 xs H = callQ true (evFun (clOf (modsR tab k) 3) s122) xs H := by cases n <;> rfl
theorem cw404 (k n : Nat) (xs : List D) (H : List Ob) : (clOf (modsR tab (k + 1)) n).w 404 xs H = callM true (evFun (clOf (modsR tab k) 3) s404) xs H := by cases n <;> rfl
theorem cr404 (k n : Nat) (xs : List D) (H : List Ob) : (clOf (modsR tab (k + 1)) n).r 404 xs H = callQ true (evFun (clOf (modsR tab k) 3) s404) xs H := by cases n <;> rfl
theorem cw144 (k n : Nat) (xs : List D) (H : List Ob) : (clOf (modsR tab (k + 1)) n).w 144 xs H = callM true (evFun (clOf (modsR tab k) 3) s144) xs H := by cases n <;> rfl
theorem cr144 (k n : Nat) (xs : List D) (H : List Ob) : (clOf (modsR tab (k + 1)) n).r 144 xs H = callQ true (evFun (clOf (modsR tab k) 3) s144) xs H := by cases n <;> rfl
theorem cw106 (k n : Nat) (xs : List D) (H : List Ob) : (clOf (modsR tab (k + 1)) n).w 106 xs H = callM false (evFun (clOf (modsR tab k) 3) s106) xs H := by cases n <;> rfl
theorem cr106 (k n : Nat) (xs : List D) (H : List Ob) : (clOf (modsR tab (k + 1)) n).r 106 xs H = callQ false (evFun (clOf (modsR tab k) 3) s106) xs H := by cases n <;> rfl
theorem cw444 (k n : Nat) (xs : List D) (H : List Ob) : (clOf (modsR tab (k + 1)) n).w 444 xs H = callM false (evFun (clOf (modsR tab k) 3) s444) xs H := by cases n <;> rfl
theorem cr444 (k n : Nat) (xs : List D) (H : List Ob) : (clOf (modsR tab (k + 1)) n).r 444 xs H = callQ false (evFun (clOf (modsR tab k) 3) s444) xs H := by cases n <;> rfl
theorem cw445 (k n : Nat) (xs : List D) (H : List Ob) : (clOf (modsR tab (k + 1)) n).w 445 xs H = callM false (evFun (clOf (modsR tab k) 3) s445) xs H := by cases n <;> rfl
theorem cr445 (k n : Nat) (xs : List D) (H : List Ob) : (clOf (modsR tab (k + 1)) n).r 445 xs H = callQ false (evFun (clOf (modsR tab k) 3) s445) xs H := by cases n <;> rfl
theorem cw443 (k n : Nat) (xs : List D) (H : List Ob) : (clOf (modsR tab (k + 1)) n).w 443 xs H = callM false (evFun (clOf (modsR tab k) 3) s443) xs H := by cases n <;> rfl
theorem cr443 (k n : Nat) (xs : List D) (H : List Ob) : (clOf (modsR tab (k + 1)) n).r 443 xs H = callQ false (evFun (clOf (modsR tab k) 3) s443) xs H := by cases n <;> rfl
theorem cw465 (k n : Nat) (xs : List D) (H : List Ob) : (clOf (modsR tab (k + 1)) n).w 465 xs H = callM false (evFun (clOf (modsR tab k) 3) s465) xs H := by cases n <;> rfl
theorem cr465 (k n : Nat) (xs : List D) (H : List Ob) : (clOf (modsR tab (k + 1)) n).r 465 xs H = callQ false (evFun (clOf (modsR tab k) 3) s465) xs H := by cases n <;> rfl
theorem cw143 (k n : Nat) (xs : List D) (H : List Ob) : (clOf (modsR tab (k + 1)) n).w 143 xs H = callM false (evFun (clOf (modsR tab k) 3) s143) xs H := by cases n <;> rfl
theorem cr143 (k n : Nat) (xs : List D) (H : List Ob) : (clOf (modsR tab (k + 1)) n).r 143 xs H = callQ false (evFun (clOf (modsR tab k) 3) s143) xs H := by cases n <;> rfl
theorem cw147 (k n : Nat) (xs : List D) (H : List Ob) : (clOf (modsR tab (k + 1)) n).w 147 xs H = callM true (evFun (clOf (modsR tab k) 3) s147) xs H := by cases n <;> rfl
theorem cr147 (k n : Nat) (xs : List D) (H : List Ob) : (clOf (modsR tab (k + 1)) n).r 147 xs H = callQ true (evFun (clOf (modsR tab k) 3) s147) xs H := by cases n <;> rfl
theorem cw145 (k n : Nat) (xs : List D) (H : List Ob) : (clOf (modsR tab (k + 1)) n).w 145 xs H = callM false (evFun (clOf (modsR tab k) 3) s145) xs H := by cases n <;> rfl
theorem cr145 (k n : Nat) (xs : List D) (H : List Ob) : (clOf (modsR tab (k + 1)) n).r 145 xs H = callQ false (evFun (clOf (modsR tab k) 3) s145) xs H := by cases n <;> rfl
theorem cw142 (k n : Nat) (xs : List D) (H : List Ob) : (clOf (modsR tab (k + 1)) n).w 142 xs H = callM true (evFun (clOf (modsR tab k) 3) s142) xs H := by cases n <;> rfl
theorem cr142 (k n : Nat) (xs : List D) (H : List Ob) : (clOf (modsR tab (k + 1)) n).r 142 xs H = callQ true (evFun (clOf (modsR tab k) 3) s142) xs H := by cases n <;> rfl
theorem cw371 (k n : Nat) (xs : List D) (H : List Ob) : (clOf (modsR tab (k + 1)) n).w 371 xs H = callM false (evFun (clOf (modsR tab k) 3) s371) xs H := by cases n <;> rfl
theorem cr371 (k n : Nat) (xs : List D) (H : List Ob) : (clOf (modsR tab (k + 1)) n).r 371 xs H = callQ false (evFun (clOf (modsR tab k) 3) s371) xs H := by cases n <;> rfl
theorem cw125 (k n : Nat) (xs : List D) (H : List Ob) : (clOf (modsR tab (k + 1)) n).w 125 xs H = callM true (evFun (clOf (modsR tab k) 3) s125) xs H := by cases n <;> rfl
theorem cr125 (k n : Nat) (xs : List D) (H : List Ob) : (clOf (modsR tab (k + 1)) n).r 125 xs H = callQ true (evFun (clOf (modsR tab k) 3) s125) xs H := by cases n <;> rfl
theorem cw158 (k n : Nat) (xs : List D) (H : List Ob) : (clOf (modsR tab (k + 1)) n).w 158 xs H = callM true (evFun (clOf (modsR tab k) 3) s158) xs H := by cases n <;> rfl
theorem cr158 (k n : Nat) (xs : List D) (H : List Ob) : (clOf (modsR tab (k + 1)) n).r 158 xs H = callQ true (evFun (clOf (modsR tab k) 3) s158) xs H := by cases n <;> rfl
theorem cw162 (k n : Nat) (xs : List D) (H : List Ob) : (clOf (modsR tab (k + 1)) n).w 162 xs H = callM false (evFun (clOf (modsR tab k) 3) s162) xs H := by cases n <;> rfl
theorem cr162 (k n : Nat) (xs : List D) (H : List Ob) : (clOf (modsR tab (k + 1)) n).r 162 xs H = callQ false (evFun (clOf (modsR tab k) 3) s162) xs H := by cases n <;> rfl
theorem cw163 (k n : Nat) (xs : List D) (H : List Ob) : (clOf (modsR tab (k + 1)) (n + 1)).w 163 xs H = evInl (clOf (modsR tab (k + 1)) n) s163 xs H := rfl
theorem cr163 (k n : Nat) (xs : List D) (H : List Ob) : (clOf (modsR tab (k + 1)) (n + 1)).r 163 xs H = evInlQ (clOf (modsR tab (k + 1)) n) s163 xs := rfl
theorem cw159 (k n : Nat) (xs : List D) (H : List Ob) : (clOf (modsR tab (k + 1)) n).w 159 xs H = callM false (evFun (clOf (modsR tab k) 3) s159) xs H := by cases n <;> rfl
theorem cr159 (k n : Nat) (xs : List D) (H : List Ob) : (clOf (modsR tab (k + 1)) n).r 159 xs H = callQ false (evFun (clOf (modsR tab k) 3) s159) xs H := by cases n <;> rfl
theorem cw150 (k n : Nat) (xs : List D) (H : List Ob) : (clOf (modsR tab (k + 1)) n).w 150 xs H = callM false (evFun (clOf (modsR tab k) 3) s150) xs H := by cases n <;> rfl
theorem cr150 (k n : Nat) (xs : List D) (H : List Ob) : (clOf (modsR tab (k + 1)) n).r 150 xs H = callQ false (evFun (clOf (modsR tab k) 3) s150) xs H := by cases n <;> rfl
theorem cw161 (k n : Nat) (xs : List D) (H : List Ob) : (clOf (modsR tab (k + 1)) (n + 1)).w 161 xs H = evInl (clOf (modsR tab (k + 1)) n) s161 xs H := rfl
theorem cr161 (k n : Nat) (xs : List D) (H : List Ob) : (clOf (modsR tab (k + 1)) (n + 1)).r 161 xs H = evInlQ (clOf (modsR tab (k + 1)) n) s161 xs := rfl
theorem cw152 (k n : Nat) (xs : List D) (H : List Ob) : (clOf (modsR tab (k + 1)) n).w 152 xs H = callM true (evFun (clOf (modsR tab k) 3) s152) xs H := by cases n <;> rfl
theorem cr152 (k n : Nat) (xs : List D) (H : List Ob) : (clOf (modsR tab (k + 1)) n).r 152 xs H = callQ true (evFun (clOf (modsR tab k) 3) s152) xs H := by cases n <;> rfl
theorem cw402 (k n : Nat) (xs : List D) (H : List Ob) : (clOf (modsR tab (k + 1)) n).w 402 xs H = callM true (evFun (clOf (modsR tab k) 3) s402) xs H := by cases n <;> rfl
theorem cr402 (k n : Nat) (xs : List D) (H : List Ob) : (clOf (modsR tab (k + 1)) n).r 402 xs H = callQ true (evFun (clOf (modsR tab k) 3) s402) xs H := by cases n <;> rfl
theorem cw422 (k n : Nat) (xs : List D) (H : List Ob) : (clOf (modsR tab (k + 1)) n).w 422 xs H = callM false (evFun (clOf (modsR tab k) 3) s422) xs H := by cases n <;> rfl
theorem cr422 (k n : Nat) (xs : List D) (H : List Ob) : (clOf (modsR tab (k + 1)) n).r 422 xs H = callQ false (evFun (clOf (modsR tab k) 3) s422) xs H := by cases n <;> rfl
theorem cw417 (k n : Nat) (xs : List D) (H : List Ob) : (clOf (modsR tab (k + 1)) n).w 417 xs H = callM false (evFun (clOf (modsR tab k) 3) s417) xs H := by cases n <;> rfl
theorem cr417 (k n : Nat) (xs : List D) (H : List Ob) : (clOf (modsR tab (k + 1)) n).r 417 xs H = callQ false (evFun (clOf (modsR tab k) 3) s417) xs H := by cases n <;> rfl
theorem cw418 (k n : Nat) (xs : List D) (H : List Ob) : (clOf (modsR tab (k + 1)) n).w 418 xs H = callM false (evFun (clOf (modsR tab k) 3) s418) xs H := by cases n <;> rfl
theorem cr418 (k n : Nat) (xs : List D) (H : List Ob) : (clOf (modsR tab (k + 1)) n).r 418 xs H = callQ false (evFun (clOf (modsR tab k) 3) s418) xs H := by cases n <;> rfl
theorem cw420 (k n : Nat) (xs : List D) (H : List Ob) : (clOf (modsR tab (k + 1)) n).w 420 xs H = callM false (evFun (clOf (modsR tab k) 3) s420) xs H := by cases n <;> rfl
theorem cr420 (k n : Nat) (xs : List D) (H : List Ob) : (clOf (modsR tab (k + 1)) n).r 420 xs H = callQ false (evFun (clOf (modsR tab k) 3) s420) xs H := by cases n <;> rfl
theorem cw410 (k n : Nat) (xs : List D) (H : List Ob) : (clOf (modsR tab (k + 1)) n).w 410 xs H = callM true (evFun (clOf (modsR tab k) 3) s410) xs H := by cases n <;> rfl
theorem cr410 (k n : Nat) (xs : List D) (H : List Ob) : (clOf (modsR tab (k + 1)) n).r 410 xs H = callQ true (evFun (clOf (modsR tab k) 3) s410) xs H := by cases n <;> rfl
theorem cw406 (k n : Nat) (xs : List D) (H : List Ob) : (clOf (modsR tab (k + 1)) n).w 406 xs H = callM true (evFun (clOf (modsR tab k) 3) s406) xs H := by cases n <;> rfl
theorem cr406 (k n : Nat) (xs : List D) (H : List Ob) : (clOf (modsR tab (k + 1)) n).r 406 xs H = callQ true (evFun (clOf (modsR tab k) 3) s406) xs H := by cases n <;> rfl
theorem cw129 (k n : Nat) (xs : List D) (H : List Ob) : (clOf (modsR tab (k + 1)) n).w 129 xs H = callM true (evFun (clOf (modsR tab k) 3) s129) xs H := by cases n <;> rfl
theorem cr129 (k n : Nat) (xs : List D) (H : List Ob) : (clOf (modsR tab (k + 1)) n).r 129 xs H = callQ true (evFun (clOf (modsR tab k) 3) s129) xs H := by cases n <;> rfl
theorem cw128 (k n : Nat) (xs : List D) (H : List Ob) : (clOf (modsR tab (k + 1)) n).w 128 xs H = callM true (evFun (clOf (modsR tab k) 3) s128) xs H := by cases n <;> rfl
theorem cr128 (k n : Nat) (xs : List D) (H : List Ob) : (clOf (modsR tab (k + 1)) n).r 128 xs H = callQ true (evFun (clOf (modsR tab k) 3) s128) xs H := by cases n <;> rfl
theorem cw138 (k n : Nat) (xs : List D) (H : List Ob) : (clOf (modsR tab (k + 1)) n).w 138 xs H = callM true (evFun (clOf (modsR tab k) 3) s138) xs H := by cases n <;> rfl
theorem cr138 (k n : Nat) (xs : List D) (H : List Ob) : (clOf (modsR tab (k + 1)) n).r 138 xs H = callQ true (evFun (clOf (modsR tab k) 3) s138) xs H := by cases n <;> rfl
theorem cw123 (k n : Nat) (xs : List D) (H : List Ob) : (clOf (modsR tab (k + 1)) n).w 123 xs H = callM true (evFun (clOf (modsR tab k) 3) s123) xs H := by cases n <;> rfl
theorem cr123 (k n : Nat) (xs : List D) (H : List Ob) : (clOf (modsR tab (k + 1)) n).r 123 xs H = callQ true (evFun (clOf (modsR tab k) 3) s123) xs H := by cases n <;> rfl
theorem cw421 (k n : Nat) (xs : List D) (H : List Ob) : (clOf (modsR tab (k + 1)) n).w 421 xs H = callM false (evFun (clOf (modsR tab k) 3) s421) xs H := by cases n <;> rfl
theorem cr421 (k n : Nat) (xs : List D) (H : List Ob) : (clOf (modsR tab (k + 1)) n).r 421 xs H = callQ false (evFun (clOf (modsR tab k) 3) s421) xs H := by cases n <;> rfl
theorem cw107 (k n : Nat) (xs : List D) (H : List Ob) : (clOf (modsR tab (k + 1)) n).w 107 xs H = callM false (evFun (clOf (modsR tab k) 3) s107) xs H := by cases n <;> rfl
theorem cr107 (k n : Nat) (xs : List D) (H : List Ob) : (clOf (modsR tab (k + 1)) n).r 107 xs H = callQ false (evFun (clOf (modsR tab k) 3) s107) xs H := by cases n <;> rfl
theorem cw151 (k n : Nat) (xs : List D) (H : List Ob) : (clOf (modsR tab (k + 1)) n).w 151 xs H = callM true (evFun (clOf (modsR tab k) 3) s151) xs H := by cases n <;> rfl
theorem cr151 (k n : Nat) (xs : List D) (H : List Ob) : (clOf (modsR tab (k + 1)) n).r 151 xs H = callQ true (evFun (clOf (modsR tab k) 3) s151) xs H := by cases n <;> rfl
theorem cw419 (k n : Nat) (xs : List D) (H : List Ob) : (clOf (modsR tab (k + 1)) n).w 419 xs H = callM false (evFun (clOf (modsR tab k) 3) s419) xs H := by cases n <;> rfl
theorem cr419 (k n : Nat) (xs : List D) (H : List Ob) : (clOf (modsR tab (k + 1)) n).r 419 xs H = callQ false (evFun (clOf (modsR tab k) 3) s419) xs H := by cases n <;> rfl
theorem cw372 (k n : Nat) (xs : List D) (H : List Ob) : (clOf (modsR tab (k + 1)) n).w 372 xs H = callM true (evFun (clOf (modsR tab k) 3) s372) xs H := by cases n <;> rfl
theorem cr372 (k n : Nat) (xs : List D) (H : List Ob) : (clOf (modsR tab (k + 1)) n).r 372 xs H = callQ true (evFun (clOf (modsR tab k) 3) s372) xs H := by cases n <;> rfl
theorem cw409 (k n : Nat) (xs : List D) (H : List Ob) : (clOf (modsR tab (k + 1)) n).w 409 xs H = callM true (evFun (clOf (modsR tab k) 3) s409) xs H := by cases n <;> rfl
theorem cr409 (k n : Nat) (xs : List D) (H : List Ob) : (clOf (modsR tab (k + 1)) n).r 409 xs H = callQ true (evFun (clOf (modsR tab k) 3) s409) xs H := by cases n <;> rfl
theorem cw127 (k n : Nat) (xs : List D) (H : List Ob) : (clOf (modsR tab (k + 1)) n).w 127 xs H = callM true (evFun (clOf (modsR tab k) 3) s127) xs H := by cases n <;> rfl
theorem cr127 (k n : Nat) (xs : List D) (H : List Ob) : (clOf (modsR tab (k + 1)) n).r 127 xs H = callQ true (evFun (clOf (modsR tab k) 3) s127) xs H := by cases n <;> rfl
theorem cw337 (k n : Nat) (xs : List D) (H : List Ob) : (clOf (modsR tab (k + 1)) n).w 337 xs H = callM true (evFun (clOf (modsR tab k) 3) s337) xs H := by cases n <;> rfl
theorem cr337 (k n : Nat) (xs : List D) (H : List Ob) : (clOf (modsR tab (k + 1)) n).r 337 xs H = callQ true (evFun (clOf (modsR tab k) 3) s337) xs H := by cases n <;> rfl
theorem cw415 (k n : Nat) (xs : List D) (H : List Ob) : (clOf (modsR tab (k + 1)) n).w 415 xs H = callM true (evFun (clOf (modsR tab k) 3) s415) xs H := by cases n <;> rfl
theorem cr415 (k n : Nat) (xs : List D) (H : List Ob) : (clOf (modsR tab (k + 1)) n).r 415 xs H = callQ true (evFun (clOf (modsR tab k) 3) s415) xs H := by cases n <;> rfl
theorem cw411 (k n : Nat) (xs : List D) (H : List Ob) : (clOf (modsR tab (k + 1)) n).w 411 xs H = callM false (evFun (clOf (modsR tab k) 3) s411) xs H := by cases n <;> rfl
theorem cr411 (k n : Nat) (xs : List D) (H : List Ob) : (clOf (modsR tab (k + 1)) n).r 411 xs H = callQ false (evFun (clOf (modsR tab k) 3) s411) xs H := by cases n <;> rfl
theorem cw130 (k n : Nat) (xs : List D) (H : List Ob) : (clOf (modsR tab (k + 1)) n).w 130 xs H = callM true (evFun (clOf (modsR tab k) 3) s130) xs H := by cases n <;> rfl
theorem cr130 (k n : Nat) (xs : List D) (H : List Ob) : (clOf (modsR tab (k + 1)) n).r 130 xs H = callQ true (evFun (clOf (modsR tab k) 3) s130) xs H := by cases n <;> rfl
theorem cw124 (k n : Nat) (xs : List D) (H : List Ob) : (clOf (modsR tab (k + 1)) n).w 124 xs H = callM true (evFun (clOf (modsR tab k) 3) s124) xs H := by cases n <;> rfl
theorem cr124 (k n : Nat) (xs : List D) (H : List Ob) : (clOf (modsR tab (k + 1)) n).r 124 xs H = callQ true (evFun (clOf (modsR tab k) 3) s124) xs H := by cases n <;> rfl
theorem cw126 (k n : Nat) (xs : List D) (H : List Ob) : (clOf (modsR tab (k + 1)) n).w 126 xs H = callM true (evFun (clOf (modsR tab k) 3) s126) xs H := by cases n <;> rfl
theorem cr126 (k n : Nat) (xs : List D) (H : List Ob) : (clOf (modsR tab (k + 1)) n).r 126 xs H = callQ true (evFun (clOf (modsR tab k) 3) s126) xs H := by cases n <;> rfl
theorem cw413 (k n : Nat) (xs : List D) (H : List Ob) : (clOf (modsR tab (k + 1)) n).w 413 xs H = callM true (evFun (clOf (modsR tab k) 3) s413) xs H := by cases n <;> rfl
theorem cr413 (k n : Nat) (xs : List D) (H : List Ob) : (clOf (modsR tab (k + 1)) n).r 413 xs H = callQ true (evFun (clOf (modsR tab k) 3) s413) xs H := by cases n <;> rfl
theorem cw149 (k n : Nat) (xs : List D) (H : List Ob) : (clOf (modsR tab (k + 1)) n).w 149 xs H = callM false (evFun (clOf (modsR tab k) 3) s149) xs H := by cases n <;> rfl
theorem cr149 (k n : Nat) (xs : List D) (H : List Ob) : (clOf (modsR tab (k + 1)) n).r 149 xs H = callQ false (evFun (clOf (modsR tab k) 3) s149) xs H := by cases n <;> rfl
theorem cw157 (k n : Nat) (xs : List D) (H : List Ob) : (clOf (modsR tab (k + 1)) n).w 157 xs H = callM true (evFun (clOf (modsR tab k) 3) s157) xs H := by cases n <;> rfl
theorem cr157 (k n : Nat) (xs : List D) (H : List Ob) : (clOf (modsR tab (k + 1)) n).r 157 xs H = callQ true (evFun (clOf (modsR tab k) 3) s157) xs H := by cases n <;> rfl
theorem cw141 (k n : Nat) (xs : List D) (H : List Ob) : (clOf (modsR tab (k + 1)) n).w 141 xs H = callM true (evFun (clOf (modsR tab k) 3) s141) xs H := by cases n <;> rfl
theorem cr141 (k n : Nat) (xs : List D) (H : List Ob) : (clOf (modsR tab (k + 1)) n).r 141 xs H = callQ true (evFun (clOf (modsR tab k) 3) s141) xs H := by cases n <;> rfl
theorem cw139 (k n : Nat) (xs : List D) (H : List Ob) : (clOf (modsR tab (k + 1)) n).w 139 xs H = callM true (evFun (clOf (modsR tab k) 3) s139) xs H := by cases n <;> rfl
theorem cr139 (k n : Nat) (xs : List D) (H : List Ob) : (clOf (modsR tab (k + 1)) n).r 139 xs H = callQ true (evFun (clOf (modsR tab k) 3) s139) xs H := by cases n <;> rfl
theorem cw146 (k n : Nat) (xs : List D) (H : List Ob) : (clOf (modsR tab (k + 1)) n).w 146 xs H = callM false (evFun (clOf (modsR tab k) 3) s146) xs H := by cases n <;> rfl
theorem cr146 (k n : Nat) (xs : List D) (H : List Ob) : (clOf (modsR tab (k + 1)) n).r 146 xs H = callQ false (evFun (clOf (modsR tab k) 3) s146) xs H := by cases n <;> rfl
theorem cw148 (k n : Nat) (xs : List D) (H : List Ob) : (clOf (modsR tab (k + 1)) n).w 148 xs H = callM true (evFun (clOf (modsR tab k) 3) s148) xs H := by cases n <;> rfl
theorem cr148 (k n : Nat) (xs : List D) (H : List Ob) : (clOf (modsR tab (k + 1)) n).r 148 xs H = callQ true (evFun (clOf (modsR tab k) 3) s148) xs H := by cases n <;> rfl
theorem cw459 (k n : Nat) (xs : List D) (H : List Ob) : (clOf (modsR tab (k + 1)) n).w 459 xs H = callM false (evFun (clOf (modsR tab k) 3) s459) xs H := by cases n <;> rfl
theorem cr459 (k n : Nat) (xs : List D) (H : List Ob) : (clOf (modsR tab (k + 1)) n).r 459 xs H = callQ false (evFun (clOf (modsR tab k) 3) s459) xs H := by cases n <;> rfl
theorem cw452 (k n : Nat) (xs : List D) (H : List Ob) : (clOf (modsR tab (k + 1)) n).w 452 xs H = callM false (evFun (clOf (modsR tab k) 3) s452) xs H := by cases n <;> rfl
theorem cr452 (k n : Nat) (xs : List D) (H : List Ob) : (clOf (modsR tab (k + 1)) n).r 452 xs H = callQ false (evFun (clOf (modsR tab k) 3) s452) xs H := by cases n <;> rfl
theorem cw140 (k n : Nat) (xs : List D) (H : List Ob) : (clOf (modsR tab (k + 1)) n).w 140 xs H = callM true (evFun (clOf (modsR tab k) 3) s140) xs H := by cases n <;> rfl
theorem cr140 (k n : Nat) (xs : List D) (H : List Ob) : (clOf (modsR tab (k + 1)) n).r 140 xs H = callQ true (evFun (clOf (modsR tab k) 3) s140) xs H := by cases n <;> rfl
theorem cw137 (k n : Nat) (xs : List D) (H : List Ob) : (clOf (modsR tab (k + 1)) n).w 137 xs H = callM true (evFun (clOf (modsR tab k) 3) s137) xs H := by cases n <;> rfl
theorem cr137 (k n : Nat) (xs : List D) (H : List Ob) : (clOf (modsR tab (k + 1)) n).r 137 xs H = callQ true (evFun (clOf (modsR tab k) 3) s137) xs H := by cases n <;> rfl
theorem cw403 (k n : Nat) (xs : List D) (H : List Ob) : (clOf (modsR tab (k + 1)) n).w 403 xs H = callM true (evFun (clOf (modsR tab k) 3) s403) xs H := by cases n <;> rfl
theorem cr403 (k n : Nat) (xs : List D) (H : List Ob) : (clOf (modsR tab (k + 1)) n).r 403 xs H = callQ true (evFun (clOf (modsR tab k) 3) s403) xs H := by cases n <;> rfl
theorem cw414 (k n : Nat) (xs : List D) (H : List Ob) : (clOf (modsR tab (k + 1)) n).w 414 xs H = callM true (evFun (clOf (modsR tab k) 3) s414) xs H := by cases n <;> rfl
theorem cr414 (k n : Nat) (xs : List D) (H : List Ob) : (clOf (modsR tab (k + 1)) n).r 414 xs H = callQ true (evFun (clOf (modsR tab k) 3) s414) xs H := by cases n <;> rfl
theorem cw348 (k n : Nat) (xs : List D) (H : List Ob) : (clOf (modsR tab (k + 1)) n).w 348 xs H = callM false (evFun (clOf (modsR tab k) 3) s348) xs H := by cases n <;> rfl
theorem cr348 (k n : Nat) (xs : List D) (H : List Ob) : (clOf (modsR tab (k + 1)) n).r 348 xs H = callQ false (evFun (clOf (modsR tab k) 3) s348) xs H := by cases n <;> rfl
theorem cw343 (k n : Nat) (xs : List D) (H : List Ob) : (clOf (modsR tab (k + 1)) n).w 343 xs H = callM false (evFun (clOf (modsR tab k) 3) s343) xs H := by cases n <;> rfl
theorem cr343 (k n : Nat) (xs : List D) (H : List Ob) : (clOf (modsR tab (k + 1)) n).r 343 xs H = callQ false (evFun (clOf (modsR tab k) 3) s343) xs H := by cases n <;> rfl
theorem cw345 (k n : Nat) (xs : List D) (H : List Ob) : (clOf (modsR tab (k + 1)) n).w 345 xs H = callM false (evFun (clOf (modsR tab k) 3) s345) xs H := by cases n <;> rfl
theorem cr345 (k n : Nat) (xs : List D) (H : List Ob) : (clOf (modsR tab (k + 1)) n).r 345 xs H = callQ false (evFun (clOf (modsR tab k) 3) s345) xs H := by cases n <;> rfl
theorem cw344 (k n : Nat) (xs : List D) (H : List Ob) : (clOf (modsR tab (k + 1)) n).w 344 xs H = callM false (evFun (clOf (modsR tab k) 3) s344) xs H := by cases n <;> rfl
theorem cr344 (k n : Nat) (xs : List D) (H : List Ob) : (clOf (modsR tab (k + 1)) n).r 344 xs H = callQ false (evFun (clOf (modsR tab k) 3) s344) xs H := by cases n <;> rfl
theorem cw346 (k n : Nat) (xs : List D) (H : List Ob) : (clOf (modsR tab (k + 1)) n).w 346 xs H = callM false (evFun (clOf (modsR tab k) 3) s346) xs H := by cases n <;> rfl
theorem cr346 (k n : Nat) (xs : List D) (H : List Ob) : (clOf (modsR tab (k + 1)) n).r 346 xs H = callQ false (evFun (clOf (modsR tab k) 3) s346) xs H := by cases n <;> rfl
theorem cw340 (k n : Nat) (xs : List D) (H : List Ob) : (clOf (modsR tab (k + 1)) n).w 340 xs H = callM false (evFun (clOf (modsR tab k) 3) s340) xs H := by cases n <;> rfl
theorem cr340 (k n : Nat) (xs : List D) (H : List Ob) : (clOf (modsR tab (k + 1)) n).r 340 xs H = callQ false (evFun (clOf (modsR tab k) 3) s340) xs H := by cases n <;> rfl
theorem cw412 (k n : Nat) (xs : List D) (H : List Ob) : (clOf (modsR tab (k + 1)) n).w 412 xs H = callM true (evFun (clOf (modsR tab k) 3) s412) xs H := by cases n <;> rfl
theorem cr412 (k n : Nat) (xs : List D) (H : List Ob) : (clOf (modsR tab (k + 1)) n).r 412 xs H = callQ true (evFun (clOf (modsR tab k) 3) s412) xs H := by cases n <;> rfl
theorem cw416 (k n : Nat) (xs : List D) (H : List Ob) : (clOf (modsR tab (k + 1)) n).w 416 xs H = callM false (evFun (clOf (modsR tab k) 3) s416) xs H := by cases n <;> rfl
theorem cr416 (k n : Nat) (xs : List D) (H : List Ob) : (clOf (modsR tab (k + 1)) n).r 416 xs H = callQ false (evFun (clOf (modsR tab k) 3) s416) xs H := by cases n <;> rfl
theorem cw408 (k n : Nat) (xs : List D) (H : List Ob) : (clOf (modsR tab (k + 1)) n).w 408 xs H = callM true (evFun (clOf (modsR tab k) 3) s408) xs H := by cases n <;> rfl
theorem cr408 (k n : Nat) (xs : List D) (H : List Ob) : (clOf (modsR tab (k + 1)) n).r 408 xs H = callQ true (evFun (clOf (modsR tab k) 3) s408) xs H := by cases n <;> rfl
theorem cw405 (k n : Nat) (xs : List D) (H : List Ob) : (clOf (modsR tab (k + 1)) n).w 405 xs H = callM true (evFun (clOf (modsR tab k) 3) s405) xs H := by cases n <;> rfl
theorem cr405 (k n : Nat) (xs : List D) (H : List Ob) : (clOf (modsR tab (k + 1)) n).r 405 xs H = callQ true (evFun (clOf (modsR tab k) 3) s405) xs H := by cases n <;> rfl
theorem cw400 (k n : Nat) (xs : List D) (H : List Ob) : (clOf (modsR tab (k + 1)) n).w 400 xs H = callM true (evFun (clOf (modsR tab k) 3) s400) xs H := by cases n <;> rfl
theorem cr400 (k n : Nat) (xs : List D) (H : List Ob) : (clOf (modsR tab (k + 1)) n).r 400 xs H = callQ true (evFun (clOf (modsR tab k) 3) s400) xs H := by cases n <;> rfl
theorem cw173 (k n : Nat) (xs : List D) (H : List Ob) : (clOf (modsR tab (k + 1)) n).w 173 xs H = callM false (evFun (clOf (modsR tab k) 3) s173) xs H := by cases n <;> rfl
theorem cr173 (k n : Nat) (xs : List D) (H : List Ob) : (clOf (modsR tab (k + 1)) n).r 173 xs H = callQ false (evFun (clOf (modsR tab k) 3) s173) xs H := by cases n <;> rfl
theorem cw177 (k n : Nat) (xs : List D) (H : List Ob) : (clOf (modsR tab (k + 1)) n).w 177 xs H = callM false (evFun (clOf (modsR tab k) 3) s177) xs H := by cases n <;> rfl
theorem cr177 (k n : Nat) (xs : List D) (H : List Ob) : (clOf (modsR tab (k + 1)) n).r 177 xs H = callQ false (evFun (clOf (modsR tab k) 3) s177) xs H := by cases n <;> rfl
theorem cw355 (k n : Nat) (xs : List D) (H : List Ob) : (clOf (modsR tab (k + 1)) n).w 355 xs H = callM false (evFun (clOf (modsR tab k) 3) s355) xs H := by cases n <;> rfl
theorem cr355 (k n : Nat) (xs : List D) (H : List Ob) : (clOf (modsR tab (k + 1)) n).r 355 xs H = callQ false (evFun (clOf (modsR tab k) 3) s355) xs H := by cases n <;> rfl
theorem cw199 (k n : Nat) (xs : List D) (H : List Ob) : (clOf (modsR tab (k + 1)) n).w 199 xs H = callM false (evFun (clOf (modsR tab k) 3) s199) xs H := by cases n <;> rfl
theorem cr199 (k n : Nat) (xs : List D) (H : List Ob) : (clOf (modsR tab (k + 1)) n).r 199 xs H = callQ false (evFun (clOf (modsR tab k) 3) s199) xs H := by cases n <;> rfl
theorem cw198 (k n : Nat) (xs : List D) (H : List Ob) : (clOf (modsR tab (k + 1)) n).w 198 xs H = callM false (evFun (clOf (modsR tab k) 3) s198) xs H := by cases n <;> rfl
theorem cr198 (k n : Nat) (xs : List D) (H : List Ob) : (clOf (modsR tab (k + 1)) n).r 198 xs H = callQ false (evFun (clOf (modsR tab k) 3) s198) xs H := by cases n <;> rfl
end Go.Proofs.YtbnpiancagebbaaGreatDoor.LgTab
