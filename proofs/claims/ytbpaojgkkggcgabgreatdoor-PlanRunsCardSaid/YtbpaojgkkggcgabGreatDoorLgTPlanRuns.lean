import Derived.Test.YtbpaojgkkggcgabGreatDoorLgTPlanRunsp0
import Derived.Test.YtbpaojgkkggcgabGreatDoorLgTPlanRunsp1
import Derived.Test.YtbpaojgkkggcgabGreatDoorRows
import Derived.Test.YtbpaojgkkggcgabGreatDoorLgW1
import Derived.RowKit
/-
  The seat's functions, as this work's tool printed them.
-/
namespace Go.Proofs.YtbpaojgkkggcgabGreatDoor.LgTPlanRuns
open Go Lg
set_option maxRecDepth 100000
def ns : List Nat := [441, 86, 87, 318, 222, 224, 218, 217, 326, 327, 440, 424, 372, 63, 400, 38, 383, 30, 332, 34, 333, 33, 374, 42, 325, 286, 437, 284, 436, 174, 66, 178, 271, 272, 262, 270, 152, 349, 259, 179, 351, 350, 331, 338, 134, 151, 107, 419, 370, 402, 410, 409, 405, 39, 384, 388, 11, 35, 36, 328, 31, 451, 329, 155, 376, 40, 288, 290, 297, 77, 72, 71, 69, 291, 305, 304, 302, 439, 438, 64, 65, 264, 257, 268, 261, 278, 273, 275, 158, 109, 162, 163, 161, 352, 364, 365, 367, 363, 247, 258, 280, 173, 373, 330, 353, 117, 116, 465, 106, 422, 407, 125, 404, 420, 406, 129, 128, 123, 421, 415, 413, 403, 414, 340, 412, 408, 381, 13, 356, 44, 387, 390, 394, 391, 398, 392, 395, 431, 100396, 389, 132, 425, 423, 122, 458, 283, 114, 76, 361, 73, 75, 359, 74, 70, 362, 244, 251, 285, 292, 300, 289, 314, 312, 282, 309, 310, 311, 306, 303, 294, 295, 298, 281, 308, 454, 181, 180, 245, 266, 279, 276, 269, 267, 112, 113, 150, 369, 368, 366, 382, 341, 386, 6, 7, 260, 277, 274, 154, 377, 119, 464, 115, 443, 142, 371, 418, 138, 337, 411, 130, 124, 126, 139, 141, 140, 137, 157, 343, 346, 127, 416, 21, 22, 24, 14, 17, 19, 20, 358, 357, 336, 46, 29, 45, 469, 393, 453, 457, 433, 100456, 397, 466, 471, 135, 133, 427, 428, 429, 455, 360, 256, 313, 315, 307, 301, 287, 316, 462, 246, 248, 110, 159, 450, 342, 8, 5, 9, 243, 160, 378, 108, 120, 444, 445, 147, 145, 417, 149, 144, 146, 148, 452, 143, 348, 344, 68, 339, 67, 15, 18, 23, 10, 104, 461, 434, 460, 95, 51, 55, 53, 136, 430, 335, 426, 463, 299, 249, 255, 345, 347, 253, 111, 121, 118, 459, 432, 435, 16, 449, 91, 94, 56, 57, 334, 102, 101, 97, 98, 89, 93, 100, 442, 96, 99, 446, 447, 448, 78, 79, 82, 83, 84, 85, 80, 81, 49, 50, 47, 48, 0, 60, 61, 12, 52, 59, 484, 485, 486, 487, 488, 88]
theorem nsND : ns.Nodup := by decide +kernel
def tab : List Row := [⟨107, 46, false, a107, .fn s107⟩, ⟨106, 108, false, a106, .fn s106⟩, ⟨444, 272, false, a444, .fn s444⟩, ⟨445, 273, false, a445, .fn s445⟩, ⟨443, 202, false, a443, .fn s443⟩, ⟨465, 107, false, a465, .fn s465⟩, ⟨151, 45, true, a151, .fn s151⟩, ⟨422, 109, false, a422, .fn s422⟩, ⟨419, 47, false, a419, .fn s419⟩, ⟨372, 12, true, a372, .fn s372⟩, ⟨270, 35, true, a270, .fn s270⟩, ⟨451, 61, false, a451, .nil n451⟩, ⟨158, 88, true, a158, .fn s158⟩, ⟨110, 260, false, a110, .fn s110⟩, ⟨112, 183, false, a112, .fn s112⟩, ⟨113, 184, false, a113, .fn s113⟩, ⟨109, 89, false, a109, .fn s109⟩, ⟨162, 90, false, a162, .fn s162⟩, ⟨163, 91, true, a163, .inl s163⟩, ⟨159, 261, false, a159, .fn s159⟩, ⟨150, 185, false, a150, .fn s150⟩, ⟨161, 92, true, a161, .inl s161⟩, ⟨152, 36, true, a152, .fn s152⟩, ⟨134, 44, false, a134, .fn s134⟩, ⟨111, 311, false, a111, .fn s111⟩, ⟨108, 270, false, a108, .fn s108⟩, ⟨160, 268, false, a160, .fn s160⟩, ⟨154, 197, false, a154, .fn s154⟩, ⟨378, 269, false, a378, .fn s378⟩, ⟨377, 198, false, a377, .fn s377⟩, ⟨373, 102, false, a373, .fn s373⟩, ⟨121, 312, false, a121, .fn s121⟩, ⟨118, 313, false, a118, .fn s118⟩, ⟨120, 271, false, a120, .fn s120⟩, ⟨119, 199, false, a119, .fn s119⟩, ⟨330, 103, false, a330, .fn s330⟩, ⟨115, 201, false, a115, .fn s115⟩, ⟨464, 200, false, a464, .fn s464⟩, ⟨117, 105, false, a117, .fn s117⟩, ⟨116, 106, false, a116, .fn s116⟩, ⟨331, 42, false, a331, .fn s331⟩, ⟨329, 62, false, a329, .fn s329⟩, ⟨353, 104, false, a353, .fn s353⟩, ⟨351, 40, false, a351, .fn s351⟩, ⟨352, 93, false, a352, .fn s352⟩, ⟨369, 186, false, a369, .fn s369⟩, ⟨102, 324, false, a102, .fn s102⟩, ⟨442, 331, false, a442, .fn s442⟩, ⟨100, 330, false, a100, .fn s100⟩, ⟨96, 332, false, a96, .fn s96⟩, ⟨101, 325, false, a101, .fn s101⟩, ⟨97, 326, false, a97, .fn s97⟩, ⟨99, 333, false, a99, .fn s99⟩, ⟨447, 335, false, a447, .fn s447⟩, ⟨448, 336, false, a448, .fn s448⟩, ⟨446, 334, false, a446, .fn s446⟩, ⟨98, 327, false, a98, .fn s98⟩, ⟨94, 320, false, a94, .fn s94⟩, ⟨95, 296, false, a95, .fn s95⟩, ⟨466, 241, false, a466, .fn s466⟩, ⟨368, 187, false, a368, .fn s368⟩, ⟨364, 94, false, a364, .fn s364⟩, ⟨345, 308, false, a345, .fn s345⟩, ⟨347, 309, false, a347, .fn s347⟩, ⟨342, 263, false, a342, .fn s342⟩, ⟨341, 190, false, a341, .fn s341⟩, ⟨457, 237, false, a457, .fn s457⟩, ⟨450, 262, false, a450, .nil n450⟩, ⟨382, 189, true, a382, .fn s382⟩, ⟨387, 130, false, a387, .fn s387⟩, ⟨398, 134, false, a398, .fn s398⟩, ⟨390, 131, false, a390, .fn s390⟩, ⟨394, 132, false, a394, .fn s394⟩, ⟨104, 292, false, a104, .fn s104⟩, ⟨469, 234, false, a469, .fn s469⟩, ⟨391, 133, false, a391, .fn s391⟩, ⟨461, 293, false, a461, .fn s461⟩, ⟨453, 236, false, a453, .fn s453⟩, ⟨393, 235, false, a393, .fn s393⟩, ⟨392, 135, false, a392, .fn s392⟩, ⟨395, 136, false, a395, .fn s395⟩, ⟨384, 54, false, a384, .fn s384⟩, ⟨434, 294, false, a434, .fn s434⟩, ⟨433, 238, false, a433, .fn s433⟩, ⟨431, 137, false, a431, .fn s431⟩, ⟨460, 295, false, a460, .fn s460⟩, ⟨100456, 239, true, a100456, .own s100456⟩, ⟨397, 240, false, a397, .fn s397⟩, ⟨100396, 138, true, a100396, .own s100396⟩, ⟨57, 322, true, a57, .fn s57⟩, ⟨51, 297, true, a51, .fn s51⟩, ⟨55, 298, true, a55, .fn s55⟩, ⟨53, 299, true, a53, .fn s53⟩, ⟨471, 242, false, a471, .fn s471⟩, ⟨389, 139, false, a389, .fn s389⟩, ⟨388, 55, false, a388, .fn s388⟩, ⟨383, 16, false, a383, .fn s383⟩, ⟨366, 188, false, a366, .fn s366⟩, ⟨365, 95, false, a365, .fn s365⟩, ⟨367, 96, false, a367, .fn s367⟩, ⟨386, 191, true, a386, .fn s386⟩, ⟨363, 97, false, a363, .fn s363⟩, ⟨349, 37, false, a349, .fn s349⟩, ⟨253, 310, false, a253, .fn s253⟩, ⟨8, 264, true, a8, .fn s8⟩, ⟨5, 265, true, a5, .fn s5⟩, ⟨9, 266, true, a9, .fn s9⟩, ⟨6, 192, true, a6, .fn s6⟩, ⟨243, 267, false, a243, .fn s243⟩, ⟨7, 193, true, a7, .fn s7⟩, ⟨247, 98, true, a247, .fn s247⟩, ⟨275, 87, false, a275, .fn s275⟩, ⟨260, 194, false, a260, .fn s260⟩, ⟨244, 155, false, a244, .fn s244⟩, ⟨256, 250, false, a256, .fn s256⟩, ⟨251, 156, false, a251, .fn s251⟩, ⟨301, 254, true, a301, .fn s301⟩, ⟨283, 145, false, a283, .fn s283⟩, ⟨288, 66, true, a288, .fn s288⟩, ⟨315, 252, true, a315, .fn s315⟩, ⟨313, 251, true, a313, .fn s313⟩, ⟨294, 169, true, a294, .fn s294⟩, ⟨300, 159, true, a300, .fn s300⟩, ⟨306, 167, false, a306, .fn s306⟩, ⟨285, 157, true, a285, .fn s285⟩, ⟨292, 158, true, a292, .fn s292⟩, ⟨291, 73, true, a291, .fn s291⟩, ⟨289, 160, false, a289, .fn s289⟩, ⟨305, 74, true, a305, .fn s305⟩, ⟨314, 161, true, a314, .fn s314⟩, ⟨312, 162, true, a312, .fn s312⟩, ⟨282, 163, true, a282, .fn s282⟩, ⟨290, 67, false, a290, .fn s290⟩, ⟨297, 68, false, a297, .fn s297⟩, ⟨286, 25, true, a286, .fn s286⟩, ⟨304, 75, true, a304, .fn s304⟩, ⟨308, 173, true, a308, .fn s308⟩, ⟨309, 164, true, a309, .fn s309⟩, ⟨311, 166, false, a311, .fn s311⟩, ⟨307, 253, true, a307, .fn s307⟩, ⟨310, 165, true, a310, .fn s310⟩, ⟨287, 255, false, a287, .fn s287⟩, ⟨298, 171, true, a298, .fn s298⟩, ⟨303, 168, true, a303, .fn s303⟩, ⟨295, 170, true, a295, .fn s295⟩, ⟨299, 305, false, a299, .fn s299⟩, ⟨316, 256, false, a316, .fn s316⟩, ⟨281, 172, false, a281, .fn s281⟩, ⟨302, 76, true, a302, .fn s302⟩, ⟨284, 27, true, a284, .fn s284⟩, ⟨277, 195, true, a277, .fn s277⟩, ⟨274, 196, false, a274, .fn s274⟩, ⟨258, 99, true, a258, .fn s258⟩, ⟨280, 100, false, a280, .fn s280⟩, ⟨259, 38, true, a259, .fn s259⟩, ⟨173, 101, false, a173, .fn s173⟩, ⟨179, 39, false, a179, .fn s179⟩, ⟨350, 41, false, a350, .fn s350⟩, ⟨218, 6, false, a218, .fn s218⟩]
theorem ok107 : RowOK Tryz.prog ns ⟨107, 46, false, a107, .fn s107⟩ := ⟨by kernel_rfl, by kernel_rfl, by show compF Tryz.prog (numOf ns) a107 46 = some s107; kernel_rfl⟩
theorem ok106 : RowOK Tryz.prog ns ⟨106, 108, false, a106, .fn s106⟩ := ⟨by kernel_rfl, by kernel_rfl, by show compF Tryz.prog (numOf ns) a106 108 = some s106; kernel_rfl⟩
theorem ok444 : RowOK Tryz.prog ns ⟨444, 272, false, a444, .fn s444⟩ := ⟨by kernel_rfl, by kernel_rfl, by show compF Tryz.prog (numOf ns) a444 272 = some s444; kernel_rfl⟩
theorem ok445 : RowOK Tryz.prog ns ⟨445, 273, false, a445, .fn s445⟩ := ⟨by kernel_rfl, by kernel_rfl, by show compF Tryz.prog (numOf ns) a445 273 = some s445; kernel_rfl⟩
theorem ok443 : RowOK Tryz.prog ns ⟨443, 202, false, a443, .fn s443⟩ := ⟨by kernel_rfl, by kernel_rfl, by show compF Tryz.prog (numOf ns) a443 202 = some s443; kernel_rfl⟩
theorem ok465 : RowOK Tryz.prog ns ⟨465, 107, false, a465, .fn s465⟩ := ⟨by kernel_rfl, by kernel_rfl, by show compF Tryz.prog (numOf ns) a465 107 = some s465; kernel_rfl⟩
theorem ok151 : RowOK Tryz.prog ns ⟨151, 45, true, a151, .fn s151⟩ := ⟨by kernel_rfl, by kernel_rfl, by show compF Tryz.prog (numOf ns) a151 45 = some s151; kernel_rfl⟩
theorem ok422 : RowOK Tryz.prog ns ⟨422, 109, false, a422, .fn s422⟩ := ⟨by kernel_rfl, by kernel_rfl, by show compF Tryz.prog (numOf ns) a422 109 = some s422; kernel_rfl⟩
theorem ok419 : RowOK Tryz.prog ns ⟨419, 47, false, a419, .fn s419⟩ := ⟨by kernel_rfl, by kernel_rfl, by show compF Tryz.prog (numOf ns) a419 47 = some s419; kernel_rfl⟩
theorem ok372 : RowOK Tryz.prog ns ⟨372, 12, true, a372, .fn s372⟩ := ⟨by kernel_rfl, by kernel_rfl, by show compF Tryz.prog (numOf ns) a372 12 = some s372; kernel_rfl⟩
theorem ok270 : RowOK Tryz.prog ns ⟨270, 35, true, a270, .fn s270⟩ := ⟨by kernel_rfl, by kernel_rfl, by show compF Tryz.prog (numOf ns) a270 35 = some s270; kernel_rfl⟩
theorem ok451 : RowOK Tryz.prog ns ⟨451, 61, false, a451, .nil n451⟩ := ⟨by kernel_rfl, by kernel_rfl, by show compN Tryz.prog (numOf ns) a451 61 = some n451; kernel_rfl⟩
theorem ok158 : RowOK Tryz.prog ns ⟨158, 88, true, a158, .fn s158⟩ := ⟨by kernel_rfl, by kernel_rfl, by show compF Tryz.prog (numOf ns) a158 88 = some s158; kernel_rfl⟩
theorem ok110 : RowOK Tryz.prog ns ⟨110, 260, false, a110, .fn s110⟩ := ⟨by kernel_rfl, by kernel_rfl, by show compF Tryz.prog (numOf ns) a110 260 = some s110; kernel_rfl⟩
theorem ok112 : RowOK Tryz.prog ns ⟨112, 183, false, a112, .fn s112⟩ := ⟨by kernel_rfl, by kernel_rfl, by show compF Tryz.prog (numOf ns) a112 183 = some s112; kernel_rfl⟩
theorem ok113 : RowOK Tryz.prog ns ⟨113, 184, false, a113, .fn s113⟩ := ⟨by kernel_rfl, by kernel_rfl, by show compF Tryz.prog (numOf ns) a113 184 = some s113; kernel_rfl⟩
theorem ok109 : RowOK Tryz.prog ns ⟨109, 89, false, a109, .fn s109⟩ := ⟨by kernel_rfl, by kernel_rfl, by show compF Tryz.prog (numOf ns) a109 89 = some s109; kernel_rfl⟩
theorem ok162 : RowOK Tryz.prog ns ⟨162, 90, false, a162, .fn s162⟩ := ⟨by kernel_rfl, by kernel_rfl, by show compF Tryz.prog (numOf ns) a162 90 = some s162; kernel_rfl⟩
theorem ok163 : RowOK Tryz.prog ns ⟨163, 91, true, a163, .inl s163⟩ := ⟨by kernel_rfl, by kernel_rfl, by show compF Tryz.prog (numOf ns) a163 91 = some s163; kernel_rfl⟩
theorem ok159 : RowOK Tryz.prog ns ⟨159, 261, false, a159, .fn s159⟩ := ⟨by kernel_rfl, by kernel_rfl, by show compF Tryz.prog (numOf ns) a159 261 = some s159; kernel_rfl⟩
theorem ok150 : RowOK Tryz.prog ns ⟨150, 185, false, a150, .fn s150⟩ := ⟨by kernel_rfl, by kernel_rfl, by show compF Tryz.prog (numOf ns) a150 185 = some s150; kernel_rfl⟩
theorem ok161 : RowOK Tryz.prog ns ⟨161, 92, true, a161, .inl s161⟩ := ⟨by kernel_rfl, by kernel_rfl, by show compF Tryz.prog (numOf ns) a161 92 = some s161; kernel_rfl⟩
theorem ok152 : RowOK Tryz.prog ns ⟨152, 36, true, a152, .fn s152⟩ := ⟨by kernel_rfl, by kernel_rfl, by show compF Tryz.prog (numOf ns) a152 36 = some s152; kernel_rfl⟩
theorem ok134 : RowOK Tryz.prog ns ⟨134, 44, false, a134, .fn s134⟩ := ⟨by kernel_rfl, by kernel_rfl, by show compF Tryz.prog (numOf ns) a134 44 = some s134; kernel_rfl⟩
theorem ok111 : RowOK Tryz.prog ns ⟨111, 311, false, a111, .fn s111⟩ := ⟨by kernel_rfl, by kernel_rfl, by show compF Tryz.prog (numOf ns) a111 311 = some s111; kernel_rfl⟩
theorem ok108 : RowOK Tryz.prog ns ⟨108, 270, false, a108, .fn s108⟩ := ⟨by kernel_rfl, by kernel_rfl, by show compF Tryz.prog (numOf ns) a108 270 = some s108; kernel_rfl⟩
theorem ok160 : RowOK Tryz.prog ns ⟨160, 268, false, a160, .fn s160⟩ := ⟨by kernel_rfl, by kernel_rfl, by show compF Tryz.prog (numOf ns) a160 268 = some s160; kernel_rfl⟩
theorem ok154 : RowOK Tryz.prog ns ⟨154, 197, false, a154, .fn s154⟩ := ⟨by kernel_rfl, by kernel_rfl, by show compF Tryz.prog (numOf ns) a154 197 = some s154; kernel_rfl⟩
theorem ok378 : RowOK Tryz.prog ns ⟨378, 269, false, a378, .fn s378⟩ := ⟨by kernel_rfl, by kernel_rfl, by show compF Tryz.prog (numOf ns) a378 269 = some s378; kernel_rfl⟩
theorem ok377 : RowOK Tryz.prog ns ⟨377, 198, false, a377, .fn s377⟩ := ⟨by kernel_rfl, by kernel_rfl, by show compF Tryz.prog (numOf ns) a377 198 = some s377; kernel_rfl⟩
theorem ok373 : RowOK Tryz.prog ns ⟨373, 102, false, a373, .fn s373⟩ := ⟨by kernel_rfl, by kernel_rfl, by show compF Tryz.prog (numOf ns) a373 102 = some s373; kernel_rfl⟩
theorem ok121 : RowOK Tryz.prog ns ⟨121, 312, false, a121, .fn s121⟩ := ⟨by kernel_rfl, by kernel_rfl, by show compF Tryz.prog (numOf ns) a121 312 = some s121; kernel_rfl⟩
theorem ok118 : RowOK Tryz.prog ns ⟨118, 313, false, a118, .fn s118⟩ := ⟨by kernel_rfl, by kernel_rfl, by show compF Tryz.prog (numOf ns) a118 313 = some s118; kernel_rfl⟩
theorem ok120 : RowOK Tryz.prog ns ⟨120, 271, false, a120, .fn s120⟩ := ⟨by kernel_rfl, by kernel_rfl, by show compF Tryz.prog (numOf ns) a120 271 = some s120; kernel_rfl⟩
theorem ok119 : RowOK Tryz.prog ns ⟨119, 199, false, a119, .fn s119⟩ := ⟨by kernel_rfl, by kernel_rfl, by show compF Tryz.prog (numOf ns) a119 199 = some s119; kernel_rfl⟩
theorem ok330 : RowOK Tryz.prog ns ⟨330, 103, false, a330, .fn s330⟩ := ⟨by kernel_rfl, by kernel_rfl, by show compF Tryz.prog (numOf ns) a330 103 = some s330; kernel_rfl⟩
theorem ok115 : RowOK Tryz.prog ns ⟨115, 201, false, a115, .fn s115⟩ := ⟨by kernel_rfl, by kernel_rfl, by show compF Tryz.prog (numOf ns) a115 201 = some s115; kernel_rfl⟩
theorem ok464 : RowOK Tryz.prog ns ⟨464, 200, false, a464, .fn s464⟩ := ⟨by kernel_rfl, by kernel_rfl, by show compF Tryz.prog (numOf ns) a464 200 = some s464; kernel_rfl⟩
theorem ok117 : RowOK Tryz.prog ns ⟨117, 105, false, a117, .fn s117⟩ := ⟨by kernel_rfl, by kernel_rfl, by show compF Tryz.prog (numOf ns) a117 105 = some s117; kernel_rfl⟩
theorem ok116 : RowOK Tryz.prog ns ⟨116, 106, false, a116, .fn s116⟩ := ⟨by kernel_rfl, by kernel_rfl, by show compF Tryz.prog (numOf ns) a116 106 = some s116; kernel_rfl⟩
theorem ok331 : RowOK Tryz.prog ns ⟨331, 42, false, a331, .fn s331⟩ := ⟨by kernel_rfl, by kernel_rfl, by show compF Tryz.prog (numOf ns) a331 42 = some s331; kernel_rfl⟩
theorem ok329 : RowOK Tryz.prog ns ⟨329, 62, false, a329, .fn s329⟩ := ⟨by kernel_rfl, by kernel_rfl, by show compF Tryz.prog (numOf ns) a329 62 = some s329; kernel_rfl⟩
theorem ok353 : RowOK Tryz.prog ns ⟨353, 104, false, a353, .fn s353⟩ := ⟨by kernel_rfl, by kernel_rfl, by show compF Tryz.prog (numOf ns) a353 104 = some s353; kernel_rfl⟩
theorem ok351 : RowOK Tryz.prog ns ⟨351, 40, false, a351, .fn s351⟩ := ⟨by kernel_rfl, by kernel_rfl, by show compF Tryz.prog (numOf ns) a351 40 = some s351; kernel_rfl⟩
theorem ok352 : RowOK Tryz.prog ns ⟨352, 93, false, a352, .fn s352⟩ := ⟨by kernel_rfl, by kernel_rfl, by show compF Tryz.prog (numOf ns) a352 93 = some s352; kernel_rfl⟩
theorem ok369 : RowOK Tryz.prog ns ⟨369, 186, false, a369, .fn s369⟩ := ⟨by kernel_rfl, by kernel_rfl, by show compF Tryz.prog (numOf ns) a369 186 = some s369; kernel_rfl⟩
theorem ok102 : RowOK Tryz.prog ns ⟨102, 324, false, a102, .fn s102⟩ := ⟨by kernel_rfl, by kernel_rfl, by show compF Tryz.prog (numOf ns) a102 324 = some s102; kernel_rfl⟩
theorem ok442 : RowOK Tryz.prog ns ⟨442, 331, false, a442, .fn s442⟩ := ⟨by kernel_rfl, by kernel_rfl, by show compF Tryz.prog (numOf ns) a442 331 = some s442; kernel_rfl⟩
theorem ok100 : RowOK Tryz.prog ns ⟨100, 330, false, a100, .fn s100⟩ := ⟨by kernel_rfl, by kernel_rfl, by show compF Tryz.prog (numOf ns) a100 330 = some s100; kernel_rfl⟩
theorem ok96 : RowOK Tryz.prog ns ⟨96, 332, false, a96, .fn s96⟩ := ⟨by kernel_rfl, by kernel_rfl, by show compF Tryz.prog (numOf ns) a96 332 = some s96; kernel_rfl⟩
theorem ok101 : RowOK Tryz.prog ns ⟨101, 325, false, a101, .fn s101⟩ := ⟨by kernel_rfl, by kernel_rfl, by show compF Tryz.prog (numOf ns) a101 325 = some s101; kernel_rfl⟩
theorem ok97 : RowOK Tryz.prog ns ⟨97, 326, false, a97, .fn s97⟩ := ⟨by kernel_rfl, by kernel_rfl, by show compF Tryz.prog (numOf ns) a97 326 = some s97; kernel_rfl⟩
theorem ok99 : RowOK Tryz.prog ns ⟨99, 333, false, a99, .fn s99⟩ := ⟨by kernel_rfl, by kernel_rfl, by show compF Tryz.prog (numOf ns) a99 333 = some s99; kernel_rfl⟩
theorem ok447 : RowOK Tryz.prog ns ⟨447, 335, false, a447, .fn s447⟩ := ⟨by kernel_rfl, by kernel_rfl, by show compF Tryz.prog (numOf ns) a447 335 = some s447; kernel_rfl⟩
theorem ok448 : RowOK Tryz.prog ns ⟨448, 336, false, a448, .fn s448⟩ := ⟨by kernel_rfl, by kernel_rfl, by show compF Tryz.prog (numOf ns) a448 336 = some s448; kernel_rfl⟩
theorem ok446 : RowOK Tryz.prog ns ⟨446, 334, false, a446, .fn s446⟩ := ⟨by kernel_rfl, by kernel_rfl, by show compF Tryz.prog (numOf ns) a446 334 = some s446; kernel_rfl⟩
theorem ok98 : RowOK Tryz.prog ns ⟨98, 327, false, a98, .fn s98⟩ := ⟨by kernel_rfl, by kernel_rfl, by show compF Tryz.prog (numOf ns) a98 327 = some s98; kernel_rfl⟩
theorem ok94 : RowOK Tryz.prog ns ⟨94, 320, false, a94, .fn s94⟩ := ⟨by kernel_rfl, by kernel_rfl, by show compF Tryz.prog (numOf ns) a94 320 = some s94; kernel_rfl⟩
theorem ok95 : RowOK Tryz.prog ns ⟨95, 296, false, a95, .fn s95⟩ := ⟨by kernel_rfl, by kernel_rfl, by show compF Tryz.prog (numOf ns) a95 296 = some s95; kernel_rfl⟩
theorem ok466 : RowOK Tryz.prog ns ⟨466, 241, false, a466, .fn s466⟩ := ⟨by kernel_rfl, by kernel_rfl, by show compF Tryz.prog (numOf ns) a466 241 = some s466; kernel_rfl⟩
theorem ok368 : RowOK Tryz.prog ns ⟨368, 187, false, a368, .fn s368⟩ := ⟨by kernel_rfl, by kernel_rfl, by show compF Tryz.prog (numOf ns) a368 187 = some s368; kernel_rfl⟩
theorem ok364 : RowOK Tryz.prog ns ⟨364, 94, false, a364, .fn s364⟩ := ⟨by kernel_rfl, by kernel_rfl, by show compF Tryz.prog (numOf ns) a364 94 = some s364; kernel_rfl⟩
theorem ok345 : RowOK Tryz.prog ns ⟨345, 308, false, a345, .fn s345⟩ := ⟨by kernel_rfl, by kernel_rfl, by show compF Tryz.prog (numOf ns) a345 308 = some s345; kernel_rfl⟩
theorem ok347 : RowOK Tryz.prog ns ⟨347, 309, false, a347, .fn s347⟩ := ⟨by kernel_rfl, by kernel_rfl, by show compF Tryz.prog (numOf ns) a347 309 = some s347; kernel_rfl⟩
theorem ok342 : RowOK Tryz.prog ns ⟨342, 263, false, a342, .fn s342⟩ := ⟨by kernel_rfl, by kernel_rfl, by show compF Tryz.prog (numOf ns) a342 263 = some s342; kernel_rfl⟩
theorem ok341 : RowOK Tryz.prog ns ⟨341, 190, false, a341, .fn s341⟩ := ⟨by kernel_rfl, by kernel_rfl, by show compF Tryz.prog (numOf ns) a341 190 = some s341; kernel_rfl⟩
theorem ok457 : RowOK Tryz.prog ns ⟨457, 237, false, a457, .fn s457⟩ := ⟨by kernel_rfl, by kernel_rfl, by show compF Tryz.prog (numOf ns) a457 237 = some s457; kernel_rfl⟩
theorem ok450 : RowOK Tryz.prog ns ⟨450, 262, false, a450, .nil n450⟩ := ⟨by kernel_rfl, by kernel_rfl, by show compN Tryz.prog (numOf ns) a450 262 = some n450; kernel_rfl⟩
theorem ok382 : RowOK Tryz.prog ns ⟨382, 189, true, a382, .fn s382⟩ := ⟨by kernel_rfl, by kernel_rfl, by show compF Tryz.prog (numOf ns) a382 189 = some s382; kernel_rfl⟩
theorem ok387 : RowOK Tryz.prog ns ⟨387, 130, false, a387, .fn s387⟩ := ⟨by kernel_rfl, by kernel_rfl, by show compF Tryz.prog (numOf ns) a387 130 = some s387; kernel_rfl⟩
theorem ok398 : RowOK Tryz.prog ns ⟨398, 134, false, a398, .fn s398⟩ := ⟨by kernel_rfl, by kernel_rfl, by show compF Tryz.prog (numOf ns) a398 134 = some s398; kernel_rfl⟩
theorem ok390 : RowOK Tryz.prog ns ⟨390, 131, false, a390, .fn s390⟩ := ⟨by kernel_rfl, by kernel_rfl, by show compF Tryz.prog (numOf ns) a390 131 = some s390; kernel_rfl⟩
theorem ok394 : RowOK Tryz.prog ns ⟨394, 132, false, a394, .fn s394⟩ := ⟨by kernel_rfl, by kernel_rfl, by show compF Tryz.prog (numOf ns) a394 132 = some s394; kernel_rfl⟩
theorem ok104 : RowOK Tryz.prog ns ⟨104, 292, false, a104, .fn s104⟩ := ⟨by kernel_rfl, by kernel_rfl, by show compF Tryz.prog (numOf ns) a104 292 = some s104; kernel_rfl⟩
theorem ok469 : RowOK Tryz.prog ns ⟨469, 234, false, a469, .fn s469⟩ := ⟨by kernel_rfl, by kernel_rfl, by show compF Tryz.prog (numOf ns) a469 234 = some s469; kernel_rfl⟩
theorem ok391 : RowOK Tryz.prog ns ⟨391, 133, false, a391, .fn s391⟩ := ⟨by kernel_rfl, by kernel_rfl, by show compF Tryz.prog (numOf ns) a391 133 = some s391; kernel_rfl⟩
theorem ok461 : RowOK Tryz.prog ns ⟨461, 293, false, a461, .fn s461⟩ := ⟨by kernel_rfl, by kernel_rfl, by show compF Tryz.prog (numOf ns) a461 293 = some s461; kernel_rfl⟩
theorem ok453 : RowOK Tryz.prog ns ⟨453, 236, false, a453, .fn s453⟩ := ⟨by kernel_rfl, by kernel_rfl, by show compF Tryz.prog (numOf ns) a453 236 = some s453; kernel_rfl⟩
theorem ok393 : RowOK Tryz.prog ns ⟨393, 235, false, a393, .fn s393⟩ := ⟨by kernel_rfl, by kernel_rfl, by show compF Tryz.prog (numOf ns) a393 235 = some s393; kernel_rfl⟩
theorem ok392 : RowOK Tryz.prog ns ⟨392, 135, false, a392, .fn s392⟩ := ⟨by kernel_rfl, by kernel_rfl, by show compF Tryz.prog (numOf ns) a392 135 = some s392; kernel_rfl⟩
theorem ok395 : RowOK Tryz.prog ns ⟨395, 136, false, a395, .fn s395⟩ := ⟨by kernel_rfl, by kernel_rfl, by show compF Tryz.prog (numOf ns) a395 136 = some s395; kernel_rfl⟩
theorem ok384 : RowOK Tryz.prog ns ⟨384, 54, false, a384, .fn s384⟩ := ⟨by kernel_rfl, by kernel_rfl, by show compF Tryz.prog (numOf ns) a384 54 = some s384; kernel_rfl⟩
theorem ok434 : RowOK Tryz.prog ns ⟨434, 294, false, a434, .fn s434⟩ := ⟨by kernel_rfl, by kernel_rfl, by show compF Tryz.prog (numOf ns) a434 294 = some s434; kernel_rfl⟩
theorem ok433 : RowOK Tryz.prog ns ⟨433, 238, false, a433, .fn s433⟩ := ⟨by kernel_rfl, by kernel_rfl, by show compF Tryz.prog (numOf ns) a433 238 = some s433; kernel_rfl⟩
theorem ok431 : RowOK Tryz.prog ns ⟨431, 137, false, a431, .fn s431⟩ := ⟨by kernel_rfl, by kernel_rfl, by show compF Tryz.prog (numOf ns) a431 137 = some s431; kernel_rfl⟩
theorem ok460 : RowOK Tryz.prog ns ⟨460, 295, false, a460, .fn s460⟩ := ⟨by kernel_rfl, by kernel_rfl, by show compF Tryz.prog (numOf ns) a460 295 = some s460; kernel_rfl⟩
theorem ok100456 : RowOK Tryz.prog ns ⟨100456, 239, true, a100456, .own s100456⟩ := ⟨by kernel_rfl, by kernel_rfl, by show compF Tryz.prog (numOf ns) a100456 239 = some s100456; kernel_rfl⟩
theorem ok397 : RowOK Tryz.prog ns ⟨397, 240, false, a397, .fn s397⟩ := ⟨by kernel_rfl, by kernel_rfl, by show compF Tryz.prog (numOf ns) a397 240 = some s397; kernel_rfl⟩
theorem ok100396 : RowOK Tryz.prog ns ⟨100396, 138, true, a100396, .own s100396⟩ := ⟨by kernel_rfl, by kernel_rfl, by show compF Tryz.prog (numOf ns) a100396 138 = some s100396; kernel_rfl⟩
theorem ok57 : RowOK Tryz.prog ns ⟨57, 322, true, a57, .fn s57⟩ := ⟨by kernel_rfl, by kernel_rfl, by show compF Tryz.prog (numOf ns) a57 322 = some s57; kernel_rfl⟩
theorem ok51 : RowOK Tryz.prog ns ⟨51, 297, true, a51, .fn s51⟩ := ⟨by kernel_rfl, by kernel_rfl, by show compF Tryz.prog (numOf ns) a51 297 = some s51; kernel_rfl⟩
theorem ok55 : RowOK Tryz.prog ns ⟨55, 298, true, a55, .fn s55⟩ := ⟨by kernel_rfl, by kernel_rfl, by show compF Tryz.prog (numOf ns) a55 298 = some s55; kernel_rfl⟩
theorem ok53 : RowOK Tryz.prog ns ⟨53, 299, true, a53, .fn s53⟩ := ⟨by kernel_rfl, by kernel_rfl, by show compF Tryz.prog (numOf ns) a53 299 = some s53; kernel_rfl⟩
theorem ok471 : RowOK Tryz.prog ns ⟨471, 242, false, a471, .fn s471⟩ := ⟨by kernel_rfl, by kernel_rfl, by show compF Tryz.prog (numOf ns) a471 242 = some s471; kernel_rfl⟩
theorem ok389 : RowOK Tryz.prog ns ⟨389, 139, false, a389, .fn s389⟩ := ⟨by kernel_rfl, by kernel_rfl, by show compF Tryz.prog (numOf ns) a389 139 = some s389; kernel_rfl⟩
theorem ok388 : RowOK Tryz.prog ns ⟨388, 55, false, a388, .fn s388⟩ := ⟨by kernel_rfl, by kernel_rfl, by show compF Tryz.prog (numOf ns) a388 55 = some s388; kernel_rfl⟩
theorem ok383 : RowOK Tryz.prog ns ⟨383, 16, false, a383, .fn s383⟩ := ⟨by kernel_rfl, by kernel_rfl, by show compF Tryz.prog (numOf ns) a383 16 = some s383; kernel_rfl⟩
theorem ok366 : RowOK Tryz.prog ns ⟨366, 188, false, a366, .fn s366⟩ := ⟨by kernel_rfl, by kernel_rfl, by show compF Tryz.prog (numOf ns) a366 188 = some s366; kernel_rfl⟩
theorem ok365 : RowOK Tryz.prog ns ⟨365, 95, false, a365, .fn s365⟩ := ⟨by kernel_rfl, by kernel_rfl, by show compF Tryz.prog (numOf ns) a365 95 = some s365; kernel_rfl⟩
theorem ok367 : RowOK Tryz.prog ns ⟨367, 96, false, a367, .fn s367⟩ := ⟨by kernel_rfl, by kernel_rfl, by show compF Tryz.prog (numOf ns) a367 96 = some s367; kernel_rfl⟩
theorem ok386 : RowOK Tryz.prog ns ⟨386, 191, true, a386, .fn s386⟩ := ⟨by kernel_rfl, by kernel_rfl, by show compF Tryz.prog (numOf ns) a386 191 = some s386; kernel_rfl⟩
theorem ok363 : RowOK Tryz.prog ns ⟨363, 97, false, a363, .fn s363⟩ := ⟨by kernel_rfl, by kernel_rfl, by show compF Tryz.prog (numOf ns) a363 97 = some s363; kernel_rfl⟩
theorem ok349 : RowOK Tryz.prog ns ⟨349, 37, false, a349, .fn s349⟩ := ⟨by kernel_rfl, by kernel_rfl, by show compF Tryz.prog (numOf ns) a349 37 = some s349; kernel_rfl⟩
theorem ok253 : RowOK Tryz.prog ns ⟨253, 310, false, a253, .fn s253⟩ := ⟨by kernel_rfl, by kernel_rfl, by show compF Tryz.prog (numOf ns) a253 310 = some s253; kernel_rfl⟩
theorem ok8 : RowOK Tryz.prog ns ⟨8, 264, true, a8, .fn s8⟩ := ⟨by kernel_rfl, by kernel_rfl, by show compF Tryz.prog (numOf ns) a8 264 = some s8; kernel_rfl⟩
theorem ok5 : RowOK Tryz.prog ns ⟨5, 265, true, a5, .fn s5⟩ := ⟨by kernel_rfl, by kernel_rfl, by show compF Tryz.prog (numOf ns) a5 265 = some s5; kernel_rfl⟩
theorem ok9 : RowOK Tryz.prog ns ⟨9, 266, true, a9, .fn s9⟩ := ⟨by kernel_rfl, by kernel_rfl, by show compF Tryz.prog (numOf ns) a9 266 = some s9; kernel_rfl⟩
theorem ok6 : RowOK Tryz.prog ns ⟨6, 192, true, a6, .fn s6⟩ := ⟨by kernel_rfl, by kernel_rfl, by show compF Tryz.prog (numOf ns) a6 192 = some s6; kernel_rfl⟩
theorem ok243 : RowOK Tryz.prog ns ⟨243, 267, false, a243, .fn s243⟩ := ⟨by kernel_rfl, by kernel_rfl, by show compF Tryz.prog (numOf ns) a243 267 = some s243; kernel_rfl⟩
theorem ok7 : RowOK Tryz.prog ns ⟨7, 193, true, a7, .fn s7⟩ := ⟨by kernel_rfl, by kernel_rfl, by show compF Tryz.prog (numOf ns) a7 193 = some s7; kernel_rfl⟩
theorem ok247 : RowOK Tryz.prog ns ⟨247, 98, true, a247, .fn s247⟩ := ⟨by kernel_rfl, by kernel_rfl, by show compF Tryz.prog (numOf ns) a247 98 = some s247; kernel_rfl⟩
theorem ok275 : RowOK Tryz.prog ns ⟨275, 87, false, a275, .fn s275⟩ := ⟨by kernel_rfl, by kernel_rfl, by show compF Tryz.prog (numOf ns) a275 87 = some s275; kernel_rfl⟩
theorem ok260 : RowOK Tryz.prog ns ⟨260, 194, false, a260, .fn s260⟩ := ⟨by kernel_rfl, by kernel_rfl, by show compF Tryz.prog (numOf ns) a260 194 = some s260; kernel_rfl⟩
theorem ok244 : RowOK Tryz.prog ns ⟨244, 155, false, a244, .fn s244⟩ := ⟨by kernel_rfl, by kernel_rfl, by show compF Tryz.prog (numOf ns) a244 155 = some s244; kernel_rfl⟩
theorem ok256 : RowOK Tryz.prog ns ⟨256, 250, false, a256, .fn s256⟩ := ⟨by kernel_rfl, by kernel_rfl, by show compF Tryz.prog (numOf ns) a256 250 = some s256; kernel_rfl⟩
theorem ok251 : RowOK Tryz.prog ns ⟨251, 156, false, a251, .fn s251⟩ := ⟨by kernel_rfl, by kernel_rfl, by show compF Tryz.prog (numOf ns) a251 156 = some s251; kernel_rfl⟩
theorem ok301 : RowOK Tryz.prog ns ⟨301, 254, true, a301, .fn s301⟩ := ⟨by kernel_rfl, by kernel_rfl, by show compF Tryz.prog (numOf ns) a301 254 = some s301; kernel_rfl⟩
theorem ok283 : RowOK Tryz.prog ns ⟨283, 145, false, a283, .fn s283⟩ := ⟨by kernel_rfl, by kernel_rfl, by show compF Tryz.prog (numOf ns) a283 145 = some s283; kernel_rfl⟩
theorem ok288 : RowOK Tryz.prog ns ⟨288, 66, true, a288, .fn s288⟩ := ⟨by kernel_rfl, by kernel_rfl, by show compF Tryz.prog (numOf ns) a288 66 = some s288; kernel_rfl⟩
theorem ok315 : RowOK Tryz.prog ns ⟨315, 252, true, a315, .fn s315⟩ := ⟨by kernel_rfl, by kernel_rfl, by show compF Tryz.prog (numOf ns) a315 252 = some s315; kernel_rfl⟩
theorem ok313 : RowOK Tryz.prog ns ⟨313, 251, true, a313, .fn s313⟩ := ⟨by kernel_rfl, by kernel_rfl, by show compF Tryz.prog (numOf ns) a313 251 = some s313; kernel_rfl⟩
theorem ok294 : RowOK Tryz.prog ns ⟨294, 169, true, a294, .fn s294⟩ := ⟨by kernel_rfl, by kernel_rfl, by show compF Tryz.prog (numOf ns) a294 169 = some s294; kernel_rfl⟩
theorem ok300 : RowOK Tryz.prog ns ⟨300, 159, true, a300, .fn s300⟩ := ⟨by kernel_rfl, by kernel_rfl, by show compF Tryz.prog (numOf ns) a300 159 = some s300; kernel_rfl⟩
theorem ok306 : RowOK Tryz.prog ns ⟨306, 167, false, a306, .fn s306⟩ := ⟨by kernel_rfl, by kernel_rfl, by show compF Tryz.prog (numOf ns) a306 167 = some s306; kernel_rfl⟩
theorem ok285 : RowOK Tryz.prog ns ⟨285, 157, true, a285, .fn s285⟩ := ⟨by kernel_rfl, by kernel_rfl, by show compF Tryz.prog (numOf ns) a285 157 = some s285; kernel_rfl⟩
theorem ok292 : RowOK Tryz.prog ns ⟨292, 158, true, a292, .fn s292⟩ := ⟨by kernel_rfl, by kernel_rfl, by show compF Tryz.prog (numOf ns) a292 158 = some s292; kernel_rfl⟩
theorem ok291 : RowOK Tryz.prog ns ⟨291, 73, true, a291, .fn s291⟩ := ⟨by kernel_rfl, by kernel_rfl, by show compF Tryz.prog (numOf ns) a291 73 = some s291; kernel_rfl⟩
theorem ok289 : RowOK Tryz.prog ns ⟨289, 160, false, a289, .fn s289⟩ := ⟨by kernel_rfl, by kernel_rfl, by show compF Tryz.prog (numOf ns) a289 160 = some s289; kernel_rfl⟩
theorem ok305 : RowOK Tryz.prog ns ⟨305, 74, true, a305, .fn s305⟩ := ⟨by kernel_rfl, by kernel_rfl, by show compF Tryz.prog (numOf ns) a305 74 = some s305; kernel_rfl⟩
theorem ok314 : RowOK Tryz.prog ns ⟨314, 161, true, a314, .fn s314⟩ := ⟨by kernel_rfl, by kernel_rfl, by show compF Tryz.prog (numOf ns) a314 161 = some s314; kernel_rfl⟩
theorem ok312 : RowOK Tryz.prog ns ⟨312, 162, true, a312, .fn s312⟩ := ⟨by kernel_rfl, by kernel_rfl, by show compF Tryz.prog (numOf ns) a312 162 = some s312; kernel_rfl⟩
theorem ok282 : RowOK Tryz.prog ns ⟨282, 163, true, a282, .fn s282⟩ := ⟨by kernel_rfl, by kernel_rfl, by show compF Tryz.prog (numOf ns) a282 163 = some s282; kernel_rfl⟩
theorem ok290 : RowOK Tryz.prog ns ⟨290, 67, false, a290, .fn s290⟩ := ⟨by kernel_rfl, by kernel_rfl, by show compF Tryz.prog (numOf ns) a290 67 = some s290; kernel_rfl⟩
theorem ok297 : RowOK Tryz.prog ns ⟨297, 68, false, a297, .fn s297⟩ := ⟨by kernel_rfl, by kernel_rfl, by show compF Tryz.prog (numOf ns) a297 68 = some s297; kernel_rfl⟩
theorem ok286 : RowOK Tryz.prog ns ⟨286, 25, true, a286, .fn s286⟩ := ⟨by kernel_rfl, by kernel_rfl, by show compF Tryz.prog (numOf ns) a286 25 = some s286; kernel_rfl⟩
theorem ok304 : RowOK Tryz.prog ns ⟨304, 75, true, a304, .fn s304⟩ := ⟨by kernel_rfl, by kernel_rfl, by show compF Tryz.prog (numOf ns) a304 75 = some s304; kernel_rfl⟩
theorem ok308 : RowOK Tryz.prog ns ⟨308, 173, true, a308, .fn s308⟩ := ⟨by kernel_rfl, by kernel_rfl, by show compF Tryz.prog (numOf ns) a308 173 = some s308; kernel_rfl⟩
theorem ok309 : RowOK Tryz.prog ns ⟨309, 164, true, a309, .fn s309⟩ := ⟨by kernel_rfl, by kernel_rfl, by show compF Tryz.prog (numOf ns) a309 164 = some s309; kernel_rfl⟩
theorem ok311 : RowOK Tryz.prog ns ⟨311, 166, false, a311, .fn s311⟩ := ⟨by kernel_rfl, by kernel_rfl, by show compF Tryz.prog (numOf ns) a311 166 = some s311; kernel_rfl⟩
theorem ok307 : RowOK Tryz.prog ns ⟨307, 253, true, a307, .fn s307⟩ := ⟨by kernel_rfl, by kernel_rfl, by show compF Tryz.prog (numOf ns) a307 253 = some s307; kernel_rfl⟩
theorem ok310 : RowOK Tryz.prog ns ⟨310, 165, true, a310, .fn s310⟩ := ⟨by kernel_rfl, by kernel_rfl, by show compF Tryz.prog (numOf ns) a310 165 = some s310; kernel_rfl⟩
theorem ok287 : RowOK Tryz.prog ns ⟨287, 255, false, a287, .fn s287⟩ := ⟨by kernel_rfl, by kernel_rfl, by show compF Tryz.prog (numOf ns) a287 255 = some s287; kernel_rfl⟩
theorem ok298 : RowOK Tryz.prog ns ⟨298, 171, true, a298, .fn s298⟩ := ⟨by kernel_rfl, by kernel_rfl, by show compF Tryz.prog (numOf ns) a298 171 = some s298; kernel_rfl⟩
theorem ok303 : RowOK Tryz.prog ns ⟨303, 168, true, a303, .fn s303⟩ := ⟨by kernel_rfl, by kernel_rfl, by show compF Tryz.prog (numOf ns) a303 168 = some s303; kernel_rfl⟩
theorem ok295 : RowOK Tryz.prog ns ⟨295, 170, true, a295, .fn s295⟩ := ⟨by kernel_rfl, by kernel_rfl, by show compF Tryz.prog (numOf ns) a295 170 = some s295; kernel_rfl⟩
theorem ok299 : RowOK Tryz.prog ns ⟨299, 305, false, a299, .fn s299⟩ := ⟨by kernel_rfl, by kernel_rfl, by show compF Tryz.prog (numOf ns) a299 305 = some s299; kernel_rfl⟩
theorem ok316 : RowOK Tryz.prog ns ⟨316, 256, false, a316, .fn s316⟩ := ⟨by kernel_rfl, by kernel_rfl, by show compF Tryz.prog (numOf ns) a316 256 = some s316; kernel_rfl⟩
theorem ok281 : RowOK Tryz.prog ns ⟨281, 172, false, a281, .fn s281⟩ := ⟨by kernel_rfl, by kernel_rfl, by show compF Tryz.prog (numOf ns) a281 172 = some s281; kernel_rfl⟩
theorem ok302 : RowOK Tryz.prog ns ⟨302, 76, true, a302, .fn s302⟩ := ⟨by kernel_rfl, by kernel_rfl, by show compF Tryz.prog (numOf ns) a302 76 = some s302; kernel_rfl⟩
theorem ok284 : RowOK Tryz.prog ns ⟨284, 27, true, a284, .fn s284⟩ := ⟨by kernel_rfl, by kernel_rfl, by show compF Tryz.prog (numOf ns) a284 27 = some s284; kernel_rfl⟩
theorem ok277 : RowOK Tryz.prog ns ⟨277, 195, true, a277, .fn s277⟩ := ⟨by kernel_rfl, by kernel_rfl, by show compF Tryz.prog (numOf ns) a277 195 = some s277; kernel_rfl⟩
theorem ok274 : RowOK Tryz.prog ns ⟨274, 196, false, a274, .fn s274⟩ := ⟨by kernel_rfl, by kernel_rfl, by show compF Tryz.prog (numOf ns) a274 196 = some s274; kernel_rfl⟩
theorem ok258 : RowOK Tryz.prog ns ⟨258, 99, true, a258, .fn s258⟩ := ⟨by kernel_rfl, by kernel_rfl, by show compF Tryz.prog (numOf ns) a258 99 = some s258; kernel_rfl⟩
theorem ok280 : RowOK Tryz.prog ns ⟨280, 100, false, a280, .fn s280⟩ := ⟨by kernel_rfl, by kernel_rfl, by show compF Tryz.prog (numOf ns) a280 100 = some s280; kernel_rfl⟩
theorem ok259 : RowOK Tryz.prog ns ⟨259, 38, true, a259, .fn s259⟩ := ⟨by kernel_rfl, by kernel_rfl, by show compF Tryz.prog (numOf ns) a259 38 = some s259; kernel_rfl⟩
theorem ok173 : RowOK Tryz.prog ns ⟨173, 101, false, a173, .fn s173⟩ := ⟨by kernel_rfl, by kernel_rfl, by show compF Tryz.prog (numOf ns) a173 101 = some s173; kernel_rfl⟩
theorem ok179 : RowOK Tryz.prog ns ⟨179, 39, false, a179, .fn s179⟩ := ⟨by kernel_rfl, by kernel_rfl, by show compF Tryz.prog (numOf ns) a179 39 = some s179; kernel_rfl⟩
theorem ok350 : RowOK Tryz.prog ns ⟨350, 41, false, a350, .fn s350⟩ := ⟨by kernel_rfl, by kernel_rfl, by show compF Tryz.prog (numOf ns) a350 41 = some s350; kernel_rfl⟩
theorem ok218 : RowOK Tryz.prog ns ⟨218, 6, false, a218, .fn s218⟩ := ⟨by kernel_rfl, by kernel_rfl, by show compF Tryz.prog (numOf ns) a218 6 = some s218; kernel_rfl⟩
theorem tabOK : ∀ r, r ∈ tab → RowOK Tryz.prog ns r := by
  intro r hr
  simp only [tab, List.mem_cons, List.not_mem_nil, or_false] at hr
  rcases hr with rfl | rfl | rfl | rfl | rfl | rfl | rfl | rfl | rfl | rfl | rfl | rfl | rfl | rfl | rfl | rfl | rfl | rfl | rfl | rfl | rfl | rfl | rfl | rfl | rfl | rfl | rfl | rfl | rfl | rfl | rfl | rfl | rfl | rfl | rfl | rfl | rfl | rfl | rfl | rfl | rfl | rfl | rfl | rfl | rfl | rfl | rfl | rfl | rfl | rfl | rfl | rfl | rfl | rfl | rfl | rfl | rfl | rfl | rfl | rfl | rfl | rfl | rfl | rfl | rfl | rfl | rfl | rfl | rfl | rfl | rfl | rfl | rfl | rfl | rfl | rfl | rfl | rfl | rfl | rfl | rfl | rfl | rfl | rfl | rfl | rfl | rfl | rfl | rfl | rfl | rfl | rfl | rfl | rfl | rfl | rfl | rfl | rfl | rfl | rfl | rfl | rfl | rfl | rfl | rfl | rfl | rfl | rfl | rfl | rfl | rfl | rfl | rfl | rfl | rfl | rfl | rfl | rfl | rfl | rfl | rfl | rfl | rfl | rfl | rfl | rfl | rfl | rfl | rfl | rfl | rfl | rfl | rfl | rfl | rfl | rfl | rfl | rfl | rfl | rfl | rfl | rfl | rfl | rfl | rfl | rfl | rfl | rfl | rfl | rfl | rfl | rfl | rfl | rfl | rfl | rfl | rfl | rfl | rfl
  · exact ok107
  · exact ok106
  · exact ok444
  · exact ok445
  · exact ok443
  · exact ok465
  · exact ok151
  · exact ok422
  · exact ok419
  · exact ok372
  · exact ok270
  · exact ok451
  · exact ok158
  · exact ok110
  · exact ok112
  · exact ok113
  · exact ok109
  · exact ok162
  · exact ok163
  · exact ok159
  · exact ok150
  · exact ok161
  · exact ok152
  · exact ok134
  · exact ok111
  · exact ok108
  · exact ok160
  · exact ok154
  · exact ok378
  · exact ok377
  · exact ok373
  · exact ok121
  · exact ok118
  · exact ok120
  · exact ok119
  · exact ok330
  · exact ok115
  · exact ok464
  · exact ok117
  · exact ok116
  · exact ok331
  · exact ok329
  · exact ok353
  · exact ok351
  · exact ok352
  · exact ok369
  · exact ok102
  · exact ok442
  · exact ok100
  · exact ok96
  · exact ok101
  · exact ok97
  · exact ok99
  · exact ok447
  · exact ok448
  · exact ok446
  · exact ok98
  · exact ok94
  · exact ok95
  · exact ok466
  · exact ok368
  · exact ok364
  · exact ok345
  · exact ok347
  · exact ok342
  · exact ok341
  · exact ok457
  · exact ok450
  · exact ok382
  · exact ok387
  · exact ok398
  · exact ok390
  · exact ok394
  · exact ok104
  · exact ok469
  · exact ok391
  · exact ok461
  · exact ok453
  · exact ok393
  · exact ok392
  · exact ok395
  · exact ok384
  · exact ok434
  · exact ok433
  · exact ok431
  · exact ok460
  · exact ok100456
  · exact ok397
  · exact ok100396
  · exact ok57
  · exact ok51
  · exact ok55
  · exact ok53
  · exact ok471
  · exact ok389
  · exact ok388
  · exact ok383
  · exact ok366
  · exact ok365
  · exact ok367
  · exact ok386
  · exact ok363
  · exact ok349
  · exact ok253
  · exact ok8
  · exact ok5
  · exact ok9
  · exact ok6
  · exact ok243
  · exact ok7
  · exact ok247
  · exact ok275
  · exact ok260
  · exact ok244
  · exact ok256
  · exact ok251
  · exact ok301
  · exact ok283
  · exact ok288
  · exact ok315
  · exact ok313
  · exact ok294
  · exact ok300
  · exact ok306
  · exact ok285
  · exact ok292
  · exact ok291
  · exact ok289
  · exact ok305
  · exact ok314
  · exact ok312
  · exact ok282
  · exact ok290
  · exact ok297
  · exact ok286
  · exact ok304
  · exact ok308
  · exact ok309
  · exact ok311
  · exact ok307
  · exact ok310
  · exact ok287
  · exact ok298
  · exact ok303
  · exact ok295
  · exact ok299
  · exact ok316
  · exact ok281
  · exact ok302
  · exact ok284
  · exact ok277
  · exact ok274
  · exact ok258
  · exact ok280
  · exact ok259
  · exact ok173
  · exact ok179
  · exact ok350
  · exact ok218
theorem mix : Tryz.prog.follows .mixedOrders = true := by kernel_rfl
theorem sound218 : SoundFn Tryz.prog (fidOf ns) 6 (evFun (clOf (modsR tab 14) 3) s218) :=
  fun_sound (num_fid nsND) mix (tab_sound nsND mix tabOK 14) 3 ok218.2.2
end Go.Proofs.YtbpaojgkkggcgabGreatDoor.LgTPlanRuns
