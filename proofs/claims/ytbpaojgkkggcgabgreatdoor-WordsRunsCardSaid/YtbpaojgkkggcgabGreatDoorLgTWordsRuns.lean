import Derived.Test.YtbpaojgkkggcgabGreatDoorLgTWordsRunsp0
import Derived.Test.YtbpaojgkkggcgabGreatDoorLgTWordsRunsp1
import Derived.Test.YtbpaojgkkggcgabGreatDoorRows
import Derived.Test.YtbpaojgkkggcgabGreatDoorLgW1
import Derived.RowKit
/-
  The seat's functions, as this work's tool printed them.
-/
namespace Go.Proofs.YtbpaojgkkggcgabGreatDoor.LgTWordsRuns
open Go Lg
set_option maxRecDepth 100000
def ns : List Nat := [441, 86, 87, 318, 222, 224, 218, 217, 326, 327, 440, 424, 372, 63, 400, 38, 383, 30, 332, 34, 333, 33, 374, 42, 325, 286, 437, 284, 436, 174, 66, 178, 271, 272, 262, 270, 152, 349, 259, 179, 351, 350, 331, 338, 134, 151, 107, 419, 370, 402, 410, 409, 405, 39, 384, 388, 11, 35, 36, 328, 31, 451, 329, 155, 376, 40, 288, 290, 297, 77, 72, 71, 69, 291, 305, 304, 302, 439, 438, 64, 65, 264, 257, 268, 261, 278, 273, 275, 158, 109, 162, 163, 161, 352, 364, 365, 367, 363, 247, 258, 280, 173, 373, 330, 353, 117, 116, 465, 106, 422, 407, 125, 404, 420, 406, 129, 128, 123, 421, 415, 413, 403, 414, 340, 412, 408, 381, 13, 356, 44, 387, 390, 394, 391, 398, 392, 395, 431, 100396, 389, 132, 425, 423, 122, 458, 283, 114, 76, 361, 73, 75, 359, 74, 70, 362, 244, 251, 285, 292, 300, 289, 314, 312, 282, 309, 310, 311, 306, 303, 294, 295, 298, 281, 308, 454, 181, 180, 245, 266, 279, 276, 269, 267, 112, 113, 150, 369, 368, 366, 382, 341, 386, 6, 7, 260, 277, 274, 154, 377, 119, 464, 115, 443, 142, 371, 418, 138, 337, 411, 130, 124, 126, 139, 141, 140, 137, 157, 343, 346, 127, 416, 21, 22, 24, 14, 17, 19, 20, 358, 357, 336, 46, 29, 45, 469, 393, 453, 457, 433, 100456, 397, 466, 471, 135, 133, 427, 428, 429, 455, 360, 256, 313, 315, 307, 301, 287, 316, 462, 246, 248, 110, 159, 450, 342, 8, 5, 9, 243, 160, 378, 108, 120, 444, 445, 147, 145, 417, 149, 144, 146, 148, 452, 143, 348, 344, 68, 339, 67, 15, 18, 23, 10, 104, 461, 434, 460, 95, 51, 55, 53, 136, 430, 335, 426, 463, 299, 249, 255, 345, 347, 253, 111, 121, 118, 459, 432, 435, 16, 449, 91, 94, 56, 57, 334, 102, 101, 97, 98, 89, 93, 100, 442, 96, 99, 446, 447, 448, 78, 79, 82, 83, 84, 85, 80, 81, 49, 50, 47, 48, 0, 60, 61, 12, 52, 59, 484, 485, 486, 487, 488, 88]
theorem nsND : ns.Nodup := by decide +kernel
def tab : List Row := [⟨290, 67, false, a290, .fn s290⟩, ⟨283, 145, false, a283, .fn s283⟩, ⟨288, 66, true, a288, .fn s288⟩, ⟨297, 68, false, a297, .fn s297⟩, ⟨286, 25, true, a286, .fn s286⟩, ⟨115, 201, false, a115, .fn s115⟩, ⟨114, 146, false, a114, .fn s114⟩, ⟨110, 260, false, a110, .fn s110⟩, ⟨112, 183, false, a112, .fn s112⟩, ⟨113, 184, false, a113, .fn s113⟩, ⟨109, 89, false, a109, .fn s109⟩, ⟨134, 44, false, a134, .fn s134⟩, ⟨345, 308, false, a345, .fn s345⟩, ⟨347, 309, false, a347, .fn s347⟩, ⟨342, 263, false, a342, .fn s342⟩, ⟨341, 190, false, a341, .fn s341⟩, ⟨457, 237, false, a457, .fn s457⟩, ⟨450, 262, false, a450, .nil n450⟩, ⟨382, 189, true, a382, .fn s382⟩, ⟨387, 130, false, a387, .fn s387⟩, ⟨398, 134, false, a398, .fn s398⟩, ⟨390, 131, false, a390, .fn s390⟩, ⟨394, 132, false, a394, .fn s394⟩, ⟨104, 292, false, a104, .fn s104⟩, ⟨469, 234, false, a469, .fn s469⟩, ⟨391, 133, false, a391, .fn s391⟩, ⟨461, 293, false, a461, .fn s461⟩, ⟨453, 236, false, a453, .fn s453⟩, ⟨393, 235, false, a393, .fn s393⟩, ⟨392, 135, false, a392, .fn s392⟩, ⟨395, 136, false, a395, .fn s395⟩, ⟨384, 54, false, a384, .fn s384⟩, ⟨434, 294, false, a434, .fn s434⟩, ⟨433, 238, false, a433, .fn s433⟩, ⟨431, 137, false, a431, .fn s431⟩, ⟨460, 295, false, a460, .fn s460⟩, ⟨100456, 239, true, a100456, .own s100456⟩, ⟨397, 240, false, a397, .fn s397⟩, ⟨100396, 138, true, a100396, .own s100396⟩, ⟨102, 324, false, a102, .fn s102⟩, ⟨442, 331, false, a442, .fn s442⟩, ⟨100, 330, false, a100, .fn s100⟩, ⟨96, 332, false, a96, .fn s96⟩, ⟨101, 325, false, a101, .fn s101⟩, ⟨97, 326, false, a97, .fn s97⟩, ⟨99, 333, false, a99, .fn s99⟩, ⟨447, 335, false, a447, .fn s447⟩, ⟨448, 336, false, a448, .fn s448⟩, ⟨446, 334, false, a446, .fn s446⟩, ⟨98, 327, false, a98, .fn s98⟩, ⟨94, 320, false, a94, .fn s94⟩, ⟨95, 296, false, a95, .fn s95⟩, ⟨466, 241, false, a466, .fn s466⟩, ⟨57, 322, true, a57, .fn s57⟩, ⟨51, 297, true, a51, .fn s51⟩, ⟨55, 298, true, a55, .fn s55⟩, ⟨53, 299, true, a53, .fn s53⟩, ⟨471, 242, false, a471, .fn s471⟩, ⟨389, 139, false, a389, .fn s389⟩, ⟨388, 55, false, a388, .fn s388⟩, ⟨383, 16, false, a383, .fn s383⟩, ⟨107, 46, false, a107, .fn s107⟩, ⟨121, 312, false, a121, .fn s121⟩, ⟨118, 313, false, a118, .fn s118⟩, ⟨120, 271, false, a120, .fn s120⟩, ⟨119, 199, false, a119, .fn s119⟩, ⟨330, 103, false, a330, .fn s330⟩, ⟨366, 188, false, a366, .fn s366⟩, ⟨365, 95, false, a365, .fn s365⟩, ⟨76, 147, false, a76, .fn s76⟩, ⟨361, 148, false, a361, .fn s361⟩, ⟨464, 200, false, a464, .fn s464⟩, ⟨117, 105, false, a117, .fn s117⟩, ⟨116, 106, false, a116, .fn s116⟩, ⟨331, 42, false, a331, .fn s331⟩, ⟨367, 96, false, a367, .fn s367⟩, ⟨77, 69, false, a77, .fn s77⟩, ⟨73, 149, false, a73, .fn s73⟩, ⟨369, 186, false, a369, .fn s369⟩, ⟨368, 187, false, a368, .fn s368⟩, ⟨364, 94, false, a364, .fn s364⟩, ⟨75, 150, false, a75, .fn s75⟩, ⟨72, 70, false, a72, .fn s72⟩, ⟨359, 151, false, a359, .fn s359⟩, ⟨71, 71, false, a71, .fn s71⟩, ⟨386, 191, true, a386, .fn s386⟩, ⟨363, 97, false, a363, .fn s363⟩, ⟨463, 304, false, a463, .fn s463⟩, ⟨455, 248, false, a455, .fn s455⟩, ⟨74, 152, false, a74, .fn s74⟩, ⟨462, 257, false, a462, .fn s462⟩, ⟨454, 174, false, a454, .fn s454⟩, ⟨439, 77, false, a439, .fn s439⟩, ⟨381, 126, false, a381, .fn s381⟩, ⟨360, 249, false, a360, .fn s360⟩, ⟨70, 153, false, a70, .fn s70⟩, ⟨362, 154, false, a362, .fn s362⟩, ⟨69, 72, false, a69, .fn s69⟩, ⟨451, 61, false, a451, .nil n451⟩, ⟨370, 48, true, a370, .fn s370⟩, ⟨437, 26, false, a437, .fn s437⟩, ⟨438, 78, false, a438, .fn s438⟩, ⟨436, 28, false, a436, .fn s436⟩, ⟨244, 155, false, a244, .fn s244⟩, ⟨256, 250, false, a256, .fn s256⟩, ⟨251, 156, false, a251, .fn s251⟩, ⟨301, 254, true, a301, .fn s301⟩, ⟨315, 252, true, a315, .fn s315⟩, ⟨313, 251, true, a313, .fn s313⟩, ⟨294, 169, true, a294, .fn s294⟩, ⟨300, 159, true, a300, .fn s300⟩, ⟨306, 167, false, a306, .fn s306⟩, ⟨285, 157, true, a285, .fn s285⟩, ⟨292, 158, true, a292, .fn s292⟩, ⟨291, 73, true, a291, .fn s291⟩, ⟨289, 160, false, a289, .fn s289⟩, ⟨305, 74, true, a305, .fn s305⟩, ⟨314, 161, true, a314, .fn s314⟩, ⟨312, 162, true, a312, .fn s312⟩, ⟨282, 163, true, a282, .fn s282⟩, ⟨304, 75, true, a304, .fn s304⟩, ⟨308, 173, true, a308, .fn s308⟩, ⟨309, 164, true, a309, .fn s309⟩, ⟨311, 166, false, a311, .fn s311⟩, ⟨307, 253, true, a307, .fn s307⟩, ⟨310, 165, true, a310, .fn s310⟩, ⟨287, 255, false, a287, .fn s287⟩, ⟨298, 171, true, a298, .fn s298⟩, ⟨303, 168, true, a303, .fn s303⟩, ⟨295, 170, true, a295, .fn s295⟩, ⟨299, 305, false, a299, .fn s299⟩, ⟨316, 256, false, a316, .fn s316⟩, ⟨281, 172, false, a281, .fn s281⟩, ⟨302, 76, true, a302, .fn s302⟩, ⟨284, 27, true, a284, .fn s284⟩, ⟨222, 4, false, a222, .fn s222⟩]
theorem ok290 : RowOK Tryz.prog ns ⟨290, 67, false, a290, .fn s290⟩ := ⟨by kernel_rfl, by kernel_rfl, by show compF Tryz.prog (numOf ns) a290 67 = some s290; kernel_rfl⟩
theorem ok283 : RowOK Tryz.prog ns ⟨283, 145, false, a283, .fn s283⟩ := ⟨by kernel_rfl, by kernel_rfl, by show compF Tryz.prog (numOf ns) a283 145 = some s283; kernel_rfl⟩
theorem ok288 : RowOK Tryz.prog ns ⟨288, 66, true, a288, .fn s288⟩ := ⟨by kernel_rfl, by kernel_rfl, by show compF Tryz.prog (numOf ns) a288 66 = some s288; kernel_rfl⟩
theorem ok297 : RowOK Tryz.prog ns ⟨297, 68, false, a297, .fn s297⟩ := ⟨by kernel_rfl, by kernel_rfl, by show compF Tryz.prog (numOf ns) a297 68 = some s297; kernel_rfl⟩
theorem ok286 : RowOK Tryz.prog ns ⟨286, 25, true, a286, .fn s286⟩ := ⟨by kernel_rfl, by kernel_rfl, by show compF Tryz.prog (numOf ns) a286 25 = some s286; kernel_rfl⟩
theorem ok115 : RowOK Tryz.prog ns ⟨115, 201, false, a115, .fn s115⟩ := ⟨by kernel_rfl, by kernel_rfl, by show compF Tryz.prog (numOf ns) a115 201 = some s115; kernel_rfl⟩
theorem ok114 : RowOK Tryz.prog ns ⟨114, 146, false, a114, .fn s114⟩ := ⟨by kernel_rfl, by kernel_rfl, by show compF Tryz.prog (numOf ns) a114 146 = some s114; kernel_rfl⟩
theorem ok110 : RowOK Tryz.prog ns ⟨110, 260, false, a110, .fn s110⟩ := ⟨by kernel_rfl, by kernel_rfl, by show compF Tryz.prog (numOf ns) a110 260 = some s110; kernel_rfl⟩
theorem ok112 : RowOK Tryz.prog ns ⟨112, 183, false, a112, .fn s112⟩ := ⟨by kernel_rfl, by kernel_rfl, by show compF Tryz.prog (numOf ns) a112 183 = some s112; kernel_rfl⟩
theorem ok113 : RowOK Tryz.prog ns ⟨113, 184, false, a113, .fn s113⟩ := ⟨by kernel_rfl, by kernel_rfl, by show compF Tryz.prog (numOf ns) a113 184 = some s113; kernel_rfl⟩
theorem ok109 : RowOK Tryz.prog ns ⟨109, 89, false, a109, .fn s109⟩ := ⟨by kernel_rfl, by kernel_rfl, by show compF Tryz.prog (numOf ns) a109 89 = some s109; kernel_rfl⟩
theorem ok134 : RowOK Tryz.prog ns ⟨134, 44, false, a134, .fn s134⟩ := ⟨by kernel_rfl, by kernel_rfl, by show compF Tryz.prog (numOf ns) a134 44 = some s134; kernel_rfl⟩
theorem ok345 : RowOK Tryz.prog ns ⟨345, 308, false, a345, .fn s345⟩ := ⟨by kernel_rfl, by kernel_rfl, by show compF Tryz.prog (numOf ns) a345 308 = some s345; kernel_rfl⟩
theorem ok347 : RowOK Tryz.prog ns ⟨347, 309, false, a347, .fn s347⟩ := ⟨by kernel_rfl, by kernel_rfl, by show compF Tryz.prog (numOf ns) a347 309 = some s347; kernel_rfl⟩
theorem ok342 : RowOK Tryz.prog ns ⟨342, 263, false, a342, .fn s342⟩ := ⟨by kernel_rfl, by kernel_rfl, by show compF Tryz.prog (numOf ns) a342 263 = some s342; kernel_rfl⟩
theorem ok341 : RowOK Tryz.prog ns ⟨341, 190, false, a341, .fn s341⟩ := ⟨by kernel_rfl, by kernel_rfl, by show compF Tryz.prog (numOf ns) a341 190 = some s341; kernel_rfl⟩
theorem ok457 : RowOK Tryz.prog ns ⟨457, 237, false, a457, .fn s457⟩ := ⟨by kernel_rfl, by kernel_rfl, by show compF Tryz.prog (numOf ns) a457 237 = some s457; kernel_rfl⟩
theorem ok450 : RowOK Tryz.prog ns ⟨450, 262, false, a450, .nil n450⟩ := ⟨by kernel_rfl, by kernel_rfl, by show compN Tryz.prog (numOf ns) a450 262 = some n450; kernel_rfl⟩
theorem ok382 : RowOK Tryz.prog ns ⟨382, 189, true, a382, .fn s382⟩ := ⟨by kernel_rfl, by kernel_rfl, by show compF Tryz.prog (numOf ns) a382 189 = some s382; kernel_rfl⟩
theorem ok387 : RowOK Tryz.prog ns ⟨387, 130, false, a387, .fn s387⟩ := ⟨by kernel_rfl, by kernel_rfl, by show compF Tryz.prog (numOf ns) a387 130 = some s387; kernel_rfl⟩
theorem ok398 : RowOK Tryz.prog ns ⟨398, 134, false, a398, .fn s398⟩ := ⟨by kernel_rfl, by kernel_rfl, by show compF Tryz.prog (numOf ns) a398 134 = some s398; kernel_rfl⟩
theorem ok390 : RowOK Tryz.prog ns ⟨390, 131, false, a390, .fn s390⟩ := ⟨by kernel_rfl, by kernel_rfl, by show compF Tryz.prog (numOf ns) a390 131 = some s390; kernel_rfl⟩
theorem ok394 : RowOK Tryz.prog ns ⟨394, 132, false, a394, .fn s394⟩ := ⟨by kernel_rfl, by kernel_rfl, by show compF Tryz.prog (numOf ns) a394 132 = some s394; kernel_rfl⟩
theorem ok104 : RowOK Tryz.prog ns ⟨104, 292, false, a104, .fn s104⟩ := ⟨by kernel_rfl, by kernel_rfl, by show compF Tryz.prog (numOf ns) a104 292 = some s104; kernel_rfl⟩
theorem ok469 : RowOK Tryz.prog ns ⟨469, 234, false, a469, .fn s469⟩ := ⟨by kernel_rfl, by kernel_rfl, by show compF Tryz.prog (numOf ns) a469 234 = some s469; kernel_rfl⟩
theorem ok391 : RowOK Tryz.prog ns ⟨391, 133, false, a391, .fn s391⟩ := ⟨by kernel_rfl, by kernel_rfl, by show compF Tryz.prog (numOf ns) a391 133 = some s391; kernel_rfl⟩
theorem ok461 : RowOK Tryz.prog ns ⟨461, 293, false, a461, .fn s461⟩ := ⟨by kernel_rfl, by kernel_rfl, by show compF Tryz.prog (numOf ns) a461 293 = some s461; kernel_rfl⟩
theorem ok453 : RowOK Tryz.prog ns ⟨453, 236, false, a453, .fn s453⟩ := ⟨by kernel_rfl, by kernel_rfl, by show compF Tryz.prog (numOf ns) a453 236 = some s453; kernel_rfl⟩
theorem ok393 : RowOK Tryz.prog ns ⟨393, 235, false, a393, .fn s393⟩ := ⟨by kernel_rfl, by kernel_rfl, by show compF Tryz.prog (numOf ns) a393 235 = some s393; kernel_rfl⟩
theorem ok392 : RowOK Tryz.prog ns ⟨392, 135, false, a392, .fn s392⟩ := ⟨by kernel_rfl, by kernel_rfl, by show compF Tryz.prog (numOf ns) a392 135 = some s392; kernel_rfl⟩
theorem ok395 : RowOK Tryz.prog ns ⟨395, 136, false, a395, .fn s395⟩ := ⟨by kernel_rfl, by kernel_rfl, by show compF Tryz.prog (numOf ns) a395 136 = some s395; kernel_rfl⟩
theorem ok384 : RowOK Tryz.prog ns ⟨384, 54, false, a384, .fn s384⟩ := ⟨by kernel_rfl, by kernel_rfl, by show compF Tryz.prog (numOf ns) a384 54 = some s384; kernel_rfl⟩
theorem ok434 : RowOK Tryz.prog ns ⟨434, 294, false, a434, .fn s434⟩ := ⟨by kernel_rfl, by kernel_rfl, by show compF Tryz.prog (numOf ns) a434 294 = some s434; kernel_rfl⟩
theorem ok433 : RowOK Tryz.prog ns ⟨433, 238, false, a433, .fn s433⟩ := ⟨by kernel_rfl, by kernel_rfl, by show compF Tryz.prog (numOf ns) a433 238 = some s433; kernel_rfl⟩
theorem ok431 : RowOK Tryz.prog ns ⟨431, 137, false, a431, .fn s431⟩ := ⟨by kernel_rfl, by kernel_rfl, by show compF Tryz.prog (numOf ns) a431 137 = some s431; kernel_rfl⟩
theorem ok460 : RowOK Tryz.prog ns ⟨460, 295, false, a460, .fn s460⟩ := ⟨by kernel_rfl, by kernel_rfl, by show compF Tryz.prog (numOf ns) a460 295 = some s460; kernel_rfl⟩
theorem ok100456 : RowOK Tryz.prog ns ⟨100456, 239, true, a100456, .own s100456⟩ := ⟨by kernel_rfl, by kernel_rfl, by show compF Tryz.prog (numOf ns) a100456 239 = some s100456; kernel_rfl⟩
theorem ok397 : RowOK Tryz.prog ns ⟨397, 240, false, a397, .fn s397⟩ := ⟨by kernel_rfl, by kernel_rfl, by show compF Tryz.prog (numOf ns) a397 240 = some s397; kernel_rfl⟩
theorem ok100396 : RowOK Tryz.prog ns ⟨100396, 138, true, a100396, .own s100396⟩ := ⟨by kernel_rfl, by kernel_rfl, by show compF Tryz.prog (numOf ns) a100396 138 = some s100396; kernel_rfl⟩
theorem ok102 : RowOK Tryz.prog ns ⟨102, 324, false, a102, .fn s102⟩ := ⟨by kernel_rfl, by kernel_rfl, by show compF Tryz.prog (numOf ns) a102 324 = some s102; kernel_rfl⟩
theorem ok442 : RowOK Tryz.prog ns ⟨442, 331, false, a442, .fn s442⟩ := ⟨by kernel_rfl, by kernel_rfl, by show compF Tryz.prog (numOf ns) a442 331 = some s442; kernel_rfl⟩
theorem ok100 : RowOK Tryz.prog ns ⟨100, 330, false, a100, .fn s100⟩ := ⟨by kernel_rfl, by kernel_rfl, by show compF Tryz.prog (numOf ns) a100 330 = some s100; kernel_rfl⟩
theorem ok96 : RowOK Tryz.prog ns ⟨96, 332, false, a96, .fn s96⟩ := ⟨by kernel_rfl, by kernel_rfl, by show compF Tryz.prog (numOf ns) a96 332 = some s96; kernel_rfl⟩
theorem ok101 : RowOK Tryz.prog ns ⟨101, 325, false, a101, .fn s101⟩ := ⟨by kernel_rfl, by kernel_rfl, by show compF Tryz.prog (numOf ns) a101 325 = some s101; kernel_rfl⟩
theorem ok97 : RowOK Tryz.prog ns ⟨97, 326, false, a97, .fn s97⟩ := ⟨by kernel_rfl, by kernel_rfl, by show compF Tryz.prog (numOf ns) a97 326 = some s97; kernel_rfl⟩
theorem ok99 : RowOK Tryz.prog ns ⟨99, 333, false, a99, .fn s99⟩ := ⟨by kernel_rfl, by kernel_rfl, by show compF Tryz.prog (numOf ns) a99 333 = some s99; kernel_rfl⟩
theorem ok447 : RowOK Tryz.prog ns ⟨447, 335, false, a447, .fn s447⟩ := ⟨by kernel_rfl, by kernel_rfl, by show compF Tryz.prog (numOf ns) a447 335 = some s447; kernel_rfl⟩
theorem ok448 : RowOK Tryz.prog ns ⟨448, 336, false, a448, .fn s448⟩ := ⟨by kernel_rfl, by kernel_rfl, by show compF Tryz.prog (numOf ns) a448 336 = some s448; kernel_rfl⟩
theorem ok446 : RowOK Tryz.prog ns ⟨446, 334, false, a446, .fn s446⟩ := ⟨by kernel_rfl, by kernel_rfl, by show compF Tryz.prog (numOf ns) a446 334 = some s446; kernel_rfl⟩
theorem ok98 : RowOK Tryz.prog ns ⟨98, 327, false, a98, .fn s98⟩ := ⟨by kernel_rfl, by kernel_rfl, by show compF Tryz.prog (numOf ns) a98 327 = some s98; kernel_rfl⟩
theorem ok94 : RowOK Tryz.prog ns ⟨94, 320, false, a94, .fn s94⟩ := ⟨by kernel_rfl, by kernel_rfl, by show compF Tryz.prog (numOf ns) a94 320 = some s94; kernel_rfl⟩
theorem ok95 : RowOK Tryz.prog ns ⟨95, 296, false, a95, .fn s95⟩ := ⟨by kernel_rfl, by kernel_rfl, by show compF Tryz.prog (numOf ns) a95 296 = some s95; kernel_rfl⟩
theorem ok466 : RowOK Tryz.prog ns ⟨466, 241, false, a466, .fn s466⟩ := ⟨by kernel_rfl, by kernel_rfl, by show compF Tryz.prog (numOf ns) a466 241 = some s466; kernel_rfl⟩
theorem ok57 : RowOK Tryz.prog ns ⟨57, 322, true, a57, .fn s57⟩ := ⟨by kernel_rfl, by kernel_rfl, by show compF Tryz.prog (numOf ns) a57 322 = some s57; kernel_rfl⟩
theorem ok51 : RowOK Tryz.prog ns ⟨51, 297, true, a51, .fn s51⟩ := ⟨by kernel_rfl, by kernel_rfl, by show compF Tryz.prog (numOf ns) a51 297 = some s51; kernel_rfl⟩
theorem ok55 : RowOK Tryz.prog ns ⟨55, 298, true, a55, .fn s55⟩ := ⟨by kernel_rfl, by kernel_rfl, by show compF Tryz.prog (numOf ns) a55 298 = some s55; kernel_rfl⟩
theorem ok53 : RowOK Tryz.prog ns ⟨53, 299, true, a53, .fn s53⟩ := ⟨by kernel_rfl, by kernel_rfl, by show compF Tryz.prog (numOf ns) a53 299 = some s53; kernel_rfl⟩
theorem ok471 : RowOK Tryz.prog ns ⟨471, 242, false, a471, .fn s471⟩ := ⟨by kernel_rfl, by kernel_rfl, by show compF Tryz.prog (numOf ns) a471 242 = some s471; kernel_rfl⟩
theorem ok389 : RowOK Tryz.prog ns ⟨389, 139, false, a389, .fn s389⟩ := ⟨by kernel_rfl, by kernel_rfl, by show compF Tryz.prog (numOf ns) a389 139 = some s389; kernel_rfl⟩
theorem ok388 : RowOK Tryz.prog ns ⟨388, 55, false, a388, .fn s388⟩ := ⟨by kernel_rfl, by kernel_rfl, by show compF Tryz.prog (numOf ns) a388 55 = some s388; kernel_rfl⟩
theorem ok383 : RowOK Tryz.prog ns ⟨383, 16, false, a383, .fn s383⟩ := ⟨by kernel_rfl, by kernel_rfl, by show compF Tryz.prog (numOf ns) a383 16 = some s383; kernel_rfl⟩
theorem ok107 : RowOK Tryz.prog ns ⟨107, 46, false, a107, .fn s107⟩ := ⟨by kernel_rfl, by kernel_rfl, by show compF Tryz.prog (numOf ns) a107 46 = some s107; kernel_rfl⟩
theorem ok121 : RowOK Tryz.prog ns ⟨121, 312, false, a121, .fn s121⟩ := ⟨by kernel_rfl, by kernel_rfl, by show compF Tryz.prog (numOf ns) a121 312 = some s121; kernel_rfl⟩
theorem ok118 : RowOK Tryz.prog ns ⟨118, 313, false, a118, .fn s118⟩ := ⟨by kernel_rfl, by kernel_rfl, by show compF Tryz.prog (numOf ns) a118 313 = some s118; kernel_rfl⟩
theorem ok120 : RowOK Tryz.prog ns ⟨120, 271, false, a120, .fn s120⟩ := ⟨by kernel_rfl, by kernel_rfl, by show compF Tryz.prog (numOf ns) a120 271 = some s120; kernel_rfl⟩
theorem ok119 : RowOK Tryz.prog ns ⟨119, 199, false, a119, .fn s119⟩ := ⟨by kernel_rfl, by kernel_rfl, by show compF Tryz.prog (numOf ns) a119 199 = some s119; kernel_rfl⟩
theorem ok330 : RowOK Tryz.prog ns ⟨330, 103, false, a330, .fn s330⟩ := ⟨by kernel_rfl, by kernel_rfl, by show compF Tryz.prog (numOf ns) a330 103 = some s330; kernel_rfl⟩
theorem ok366 : RowOK Tryz.prog ns ⟨366, 188, false, a366, .fn s366⟩ := ⟨by kernel_rfl, by kernel_rfl, by show compF Tryz.prog (numOf ns) a366 188 = some s366; kernel_rfl⟩
theorem ok365 : RowOK Tryz.prog ns ⟨365, 95, false, a365, .fn s365⟩ := ⟨by kernel_rfl, by kernel_rfl, by show compF Tryz.prog (numOf ns) a365 95 = some s365; kernel_rfl⟩
theorem ok76 : RowOK Tryz.prog ns ⟨76, 147, false, a76, .fn s76⟩ := ⟨by kernel_rfl, by kernel_rfl, by show compF Tryz.prog (numOf ns) a76 147 = some s76; kernel_rfl⟩
theorem ok361 : RowOK Tryz.prog ns ⟨361, 148, false, a361, .fn s361⟩ := ⟨by kernel_rfl, by kernel_rfl, by show compF Tryz.prog (numOf ns) a361 148 = some s361; kernel_rfl⟩
theorem ok464 : RowOK Tryz.prog ns ⟨464, 200, false, a464, .fn s464⟩ := ⟨by kernel_rfl, by kernel_rfl, by show compF Tryz.prog (numOf ns) a464 200 = some s464; kernel_rfl⟩
theorem ok117 : RowOK Tryz.prog ns ⟨117, 105, false, a117, .fn s117⟩ := ⟨by kernel_rfl, by kernel_rfl, by show compF Tryz.prog (numOf ns) a117 105 = some s117; kernel_rfl⟩
theorem ok116 : RowOK Tryz.prog ns ⟨116, 106, false, a116, .fn s116⟩ := ⟨by kernel_rfl, by kernel_rfl, by show compF Tryz.prog (numOf ns) a116 106 = some s116; kernel_rfl⟩
theorem ok331 : RowOK Tryz.prog ns ⟨331, 42, false, a331, .fn s331⟩ := ⟨by kernel_rfl, by kernel_rfl, by show compF Tryz.prog (numOf ns) a331 42 = some s331; kernel_rfl⟩
theorem ok367 : RowOK Tryz.prog ns ⟨367, 96, false, a367, .fn s367⟩ := ⟨by kernel_rfl, by kernel_rfl, by show compF Tryz.prog (numOf ns) a367 96 = some s367; kernel_rfl⟩
theorem ok77 : RowOK Tryz.prog ns ⟨77, 69, false, a77, .fn s77⟩ := ⟨by kernel_rfl, by kernel_rfl, by show compF Tryz.prog (numOf ns) a77 69 = some s77; kernel_rfl⟩
theorem ok73 : RowOK Tryz.prog ns ⟨73, 149, false, a73, .fn s73⟩ := ⟨by kernel_rfl, by kernel_rfl, by show compF Tryz.prog (numOf ns) a73 149 = some s73; kernel_rfl⟩
theorem ok369 : RowOK Tryz.prog ns ⟨369, 186, false, a369, .fn s369⟩ := ⟨by kernel_rfl, by kernel_rfl, by show compF Tryz.prog (numOf ns) a369 186 = some s369; kernel_rfl⟩
theorem ok368 : RowOK Tryz.prog ns ⟨368, 187, false, a368, .fn s368⟩ := ⟨by kernel_rfl, by kernel_rfl, by show compF Tryz.prog (numOf ns) a368 187 = some s368; kernel_rfl⟩
theorem ok364 : RowOK Tryz.prog ns ⟨364, 94, false, a364, .fn s364⟩ := ⟨by kernel_rfl, by kernel_rfl, by show compF Tryz.prog (numOf ns) a364 94 = some s364; kernel_rfl⟩
theorem ok75 : RowOK Tryz.prog ns ⟨75, 150, false, a75, .fn s75⟩ := ⟨by kernel_rfl, by kernel_rfl, by show compF Tryz.prog (numOf ns) a75 150 = some s75; kernel_rfl⟩
theorem ok72 : RowOK Tryz.prog ns ⟨72, 70, false, a72, .fn s72⟩ := ⟨by kernel_rfl, by kernel_rfl, by show compF Tryz.prog (numOf ns) a72 70 = some s72; kernel_rfl⟩
theorem ok359 : RowOK Tryz.prog ns ⟨359, 151, false, a359, .fn s359⟩ := ⟨by kernel_rfl, by kernel_rfl, by show compF Tryz.prog (numOf ns) a359 151 = some s359; kernel_rfl⟩
theorem ok71 : RowOK Tryz.prog ns ⟨71, 71, false, a71, .fn s71⟩ := ⟨by kernel_rfl, by kernel_rfl, by show compF Tryz.prog (numOf ns) a71 71 = some s71; kernel_rfl⟩
theorem ok386 : RowOK Tryz.prog ns ⟨386, 191, true, a386, .fn s386⟩ := ⟨by kernel_rfl, by kernel_rfl, by show compF Tryz.prog (numOf ns) a386 191 = some s386; kernel_rfl⟩
theorem ok363 : RowOK Tryz.prog ns ⟨363, 97, false, a363, .fn s363⟩ := ⟨by kernel_rfl, by kernel_rfl, by show compF Tryz.prog (numOf ns) a363 97 = some s363; kernel_rfl⟩
theorem ok463 : RowOK Tryz.prog ns ⟨463, 304, false, a463, .fn s463⟩ := ⟨by kernel_rfl, by kernel_rfl, by show compF Tryz.prog (numOf ns) a463 304 = some s463; kernel_rfl⟩
theorem ok455 : RowOK Tryz.prog ns ⟨455, 248, false, a455, .fn s455⟩ := ⟨by kernel_rfl, by kernel_rfl, by show compF Tryz.prog (numOf ns) a455 248 = some s455; kernel_rfl⟩
theorem ok74 : RowOK Tryz.prog ns ⟨74, 152, false, a74, .fn s74⟩ := ⟨by kernel_rfl, by kernel_rfl, by show compF Tryz.prog (numOf ns) a74 152 = some s74; kernel_rfl⟩
theorem ok462 : RowOK Tryz.prog ns ⟨462, 257, false, a462, .fn s462⟩ := ⟨by kernel_rfl, by kernel_rfl, by show compF Tryz.prog (numOf ns) a462 257 = some s462; kernel_rfl⟩
theorem ok454 : RowOK Tryz.prog ns ⟨454, 174, false, a454, .fn s454⟩ := ⟨by kernel_rfl, by kernel_rfl, by show compF Tryz.prog (numOf ns) a454 174 = some s454; kernel_rfl⟩
theorem ok439 : RowOK Tryz.prog ns ⟨439, 77, false, a439, .fn s439⟩ := ⟨by kernel_rfl, by kernel_rfl, by show compF Tryz.prog (numOf ns) a439 77 = some s439; kernel_rfl⟩
theorem ok381 : RowOK Tryz.prog ns ⟨381, 126, false, a381, .fn s381⟩ := ⟨by kernel_rfl, by kernel_rfl, by show compF Tryz.prog (numOf ns) a381 126 = some s381; kernel_rfl⟩
theorem ok360 : RowOK Tryz.prog ns ⟨360, 249, false, a360, .fn s360⟩ := ⟨by kernel_rfl, by kernel_rfl, by show compF Tryz.prog (numOf ns) a360 249 = some s360; kernel_rfl⟩
theorem ok70 : RowOK Tryz.prog ns ⟨70, 153, false, a70, .fn s70⟩ := ⟨by kernel_rfl, by kernel_rfl, by show compF Tryz.prog (numOf ns) a70 153 = some s70; kernel_rfl⟩
theorem ok362 : RowOK Tryz.prog ns ⟨362, 154, false, a362, .fn s362⟩ := ⟨by kernel_rfl, by kernel_rfl, by show compF Tryz.prog (numOf ns) a362 154 = some s362; kernel_rfl⟩
theorem ok69 : RowOK Tryz.prog ns ⟨69, 72, false, a69, .fn s69⟩ := ⟨by kernel_rfl, by kernel_rfl, by show compF Tryz.prog (numOf ns) a69 72 = some s69; kernel_rfl⟩
theorem ok451 : RowOK Tryz.prog ns ⟨451, 61, false, a451, .nil n451⟩ := ⟨by kernel_rfl, by kernel_rfl, by show compN Tryz.prog (numOf ns) a451 61 = some n451; kernel_rfl⟩
theorem ok370 : RowOK Tryz.prog ns ⟨370, 48, true, a370, .fn s370⟩ := ⟨by kernel_rfl, by kernel_rfl, by show compF Tryz.prog (numOf ns) a370 48 = some s370; kernel_rfl⟩
theorem ok437 : RowOK Tryz.prog ns ⟨437, 26, false, a437, .fn s437⟩ := ⟨by kernel_rfl, by kernel_rfl, by show compF Tryz.prog (numOf ns) a437 26 = some s437; kernel_rfl⟩
theorem ok438 : RowOK Tryz.prog ns ⟨438, 78, false, a438, .fn s438⟩ := ⟨by kernel_rfl, by kernel_rfl, by show compF Tryz.prog (numOf ns) a438 78 = some s438; kernel_rfl⟩
theorem ok436 : RowOK Tryz.prog ns ⟨436, 28, false, a436, .fn s436⟩ := ⟨by kernel_rfl, by kernel_rfl, by show compF Tryz.prog (numOf ns) a436 28 = some s436; kernel_rfl⟩
theorem ok244 : RowOK Tryz.prog ns ⟨244, 155, false, a244, .fn s244⟩ := ⟨by kernel_rfl, by kernel_rfl, by show compF Tryz.prog (numOf ns) a244 155 = some s244; kernel_rfl⟩
theorem ok256 : RowOK Tryz.prog ns ⟨256, 250, false, a256, .fn s256⟩ := ⟨by kernel_rfl, by kernel_rfl, by show compF Tryz.prog (numOf ns) a256 250 = some s256; kernel_rfl⟩
theorem ok251 : RowOK Tryz.prog ns ⟨251, 156, false, a251, .fn s251⟩ := ⟨by kernel_rfl, by kernel_rfl, by show compF Tryz.prog (numOf ns) a251 156 = some s251; kernel_rfl⟩
theorem ok301 : RowOK Tryz.prog ns ⟨301, 254, true, a301, .fn s301⟩ := ⟨by kernel_rfl, by kernel_rfl, by show compF Tryz.prog (numOf ns) a301 254 = some s301; kernel_rfl⟩
theorem ok315 : RowOK Tryz.prog ns ⟨315, 252, true, a315, .fn s315⟩ := ⟨by kernel_rfl, by kernel_rfl, by show compF Tryz.prog (numOf ns) a315 252 = some s315; kernel_rfl⟩
theorem ok313 : RowOK Tryz.prog ns ⟨313, 251, true, a313, .fn s313⟩ := ⟨by kernel_rfl, by kernel_rfl, by show compF Tryz.prog (numOf ns) a313 251 = some s313; kernel_rfl⟩
theorem ok294 : RowOK Tryz.prog ns ⟨294, 169, true, a294, .fn s294⟩ := ⟨by kernel_rfl, by kernel_rfl, by show compF Tryz.prog (numOf ns) a294 169 = some s294; kernel_rfl⟩
theorem ok300 : RowOK Tryz.prog ns ⟨300, 159, true, a300, .fn s300⟩ := ⟨by kernel_rfl, by kernel_rfl, by show compF Tryz.prog (numOf ns) a300 159 = some s300; kernel_rfl⟩
theorem ok306 : RowOK Tryz.prog ns ⟨306, 167, false, a306, .fn s306⟩ := ⟨by kernel_rfl, by kernel_rfl, by show compF Tryz.prog (numOf ns) a306 167 = some s306; kernel_rfl⟩
theorem ok285 : RowOK Tryz.prog ns ⟨285, 157, true, a285, .fn s285⟩ := ⟨by kernel_rfl, by kernel_rfl, by show compF Tryz.prog (numOf ns) a285 157 = some s285; kernel_rfl⟩
theorem ok292 : RowOK Tryz.prog ns ⟨292, 158, true, a292, .fn s292⟩ := ⟨by kernel_rfl, by kernel_rfl, by show compF Tryz.prog (numOf ns) a292 158 = some s292; kernel_rfl⟩
theorem ok291 : RowOK Tryz.prog ns ⟨291, 73, true, a291, .fn s291⟩ := ⟨by kernel_rfl, by kernel_rfl, by show compF Tryz.prog (numOf ns) a291 73 = some s291; kernel_rfl⟩
theorem ok289 : RowOK Tryz.prog ns ⟨289, 160, false, a289, .fn s289⟩ := ⟨by kernel_rfl, by kernel_rfl, by show compF Tryz.prog (numOf ns) a289 160 = some s289; kernel_rfl⟩
theorem ok305 : RowOK Tryz.prog ns ⟨305, 74, true, a305, .fn s305⟩ := ⟨by kernel_rfl, by kernel_rfl, by show compF Tryz.prog (numOf ns) a305 74 = some s305; kernel_rfl⟩
theorem ok314 : RowOK Tryz.prog ns ⟨314, 161, true, a314, .fn s314⟩ := ⟨by kernel_rfl, by kernel_rfl, by show compF Tryz.prog (numOf ns) a314 161 = some s314; kernel_rfl⟩
theorem ok312 : RowOK Tryz.prog ns ⟨312, 162, true, a312, .fn s312⟩ := ⟨by kernel_rfl, by kernel_rfl, by show compF Tryz.prog (numOf ns) a312 162 = some s312; kernel_rfl⟩
theorem ok282 : RowOK Tryz.prog ns ⟨282, 163, true, a282, .fn s282⟩ := ⟨by kernel_rfl, by kernel_rfl, by show compF Tryz.prog (numOf ns) a282 163 = some s282; kernel_rfl⟩
theorem ok304 : RowOK Tryz.prog ns ⟨304, 75, true, a304, .fn s304⟩ := ⟨by kernel_rfl, by kernel_rfl, by show compF Tryz.prog (numOf ns) a304 75 = some s304; kernel_rfl⟩
theorem ok308 : RowOK Tryz.prog ns ⟨308, 173, true, a308, .fn s308⟩ := ⟨by kernel_rfl, by kernel_rfl, by show compF Tryz.prog (numOf ns) a308 173 = some s308; kernel_rfl⟩
theorem ok309 : RowOK Tryz.prog ns ⟨309, 164, true, a309, .fn s309⟩ := ⟨by kernel_rfl, by kernel_rfl, by show compF Tryz.prog (numOf ns) a309 164 = some s309; kernel_rfl⟩
theorem ok311 : RowOK Tryz.prog ns ⟨311, 166, false, a311, .fn s311⟩ := ⟨by kernel_rfl, by kernel_rfl, by show compF Tryz.prog (numOf ns) a311 166 = some s311; kernel_rfl⟩
theorem ok307 : RowOK Tryz.prog ns ⟨307, 253, true, a307, .fn s307⟩ := ⟨by kernel_rfl, by kernel_rfl, by show compF Tryz.prog (numOf ns) a307 253 = some s307; kernel_rfl⟩
theorem ok310 : RowOK Tryz.prog ns ⟨310, 165, true, a310, .fn s310⟩ := ⟨by kernel_rfl, by kernel_rfl, by show compF Tryz.prog (numOf ns) a310 165 = some s310; kernel_rfl⟩
theorem ok287 : RowOK Tryz.prog ns ⟨287, 255, false, a287, .fn s287⟩ := ⟨by kernel_rfl, by kernel_rfl, by show compF Tryz.prog (numOf ns) a287 255 = some s287; kernel_rfl⟩
theorem ok298 : RowOK Tryz.prog ns ⟨298, 171, true, a298, .fn s298⟩ := ⟨by kernel_rfl, by kernel_rfl, by show compF Tryz.prog (numOf ns) a298 171 = some s298; kernel_rfl⟩
theorem ok303 : RowOK Tryz.prog ns ⟨303, 168, true, a303, .fn s303⟩ := ⟨by kernel_rfl, by kernel_rfl, by show compF Tryz.prog (numOf ns) a303 168 = some s303; kernel_rfl⟩
theorem ok295 : RowOK Tryz.prog ns ⟨295, 170, true, a295, .fn s295⟩ := ⟨by kernel_rfl, by kernel_rfl, by show compF Tryz.prog (numOf ns) a295 170 = some s295; kernel_rfl⟩
theorem ok299 : RowOK Tryz.prog ns ⟨299, 305, false, a299, .fn s299⟩ := ⟨by kernel_rfl, by kernel_rfl, by show compF Tryz.prog (numOf ns) a299 305 = some s299; kernel_rfl⟩
theorem ok316 : RowOK Tryz.prog ns ⟨316, 256, false, a316, .fn s316⟩ := ⟨by kernel_rfl, by kernel_rfl, by show compF Tryz.prog (numOf ns) a316 256 = some s316; kernel_rfl⟩
theorem ok281 : RowOK Tryz.prog ns ⟨281, 172, false, a281, .fn s281⟩ := ⟨by kernel_rfl, by kernel_rfl, by show compF Tryz.prog (numOf ns) a281 172 = some s281; kernel_rfl⟩
theorem ok302 : RowOK Tryz.prog ns ⟨302, 76, true, a302, .fn s302⟩ := ⟨by kernel_rfl, by kernel_rfl, by show compF Tryz.prog (numOf ns) a302 76 = some s302; kernel_rfl⟩
theorem ok284 : RowOK Tryz.prog ns ⟨284, 27, true, a284, .fn s284⟩ := ⟨by kernel_rfl, by kernel_rfl, by show compF Tryz.prog (numOf ns) a284 27 = some s284; kernel_rfl⟩
theorem ok222 : RowOK Tryz.prog ns ⟨222, 4, false, a222, .fn s222⟩ := ⟨by kernel_rfl, by kernel_rfl, by show compF Tryz.prog (numOf ns) a222 4 = some s222; kernel_rfl⟩
theorem tabOK : ∀ r, r ∈ tab → RowOK Tryz.prog ns r := by
  intro r hr
  simp only [tab, List.mem_cons, List.not_mem_nil, or_false] at hr
  rcases hr with rfl | rfl | rfl | rfl | rfl | rfl | rfl | rfl | rfl | rfl | rfl | rfl | rfl | rfl | rfl | rfl | rfl | rfl | rfl | rfl | rfl | rfl | rfl | rfl | rfl | rfl | rfl | rfl | rfl | rfl | rfl | rfl | rfl | rfl | rfl | rfl | rfl | rfl | rfl | rfl | rfl | rfl | rfl | rfl | rfl | rfl | rfl | rfl | rfl | rfl | rfl | rfl | rfl | rfl | rfl | rfl | rfl | rfl | rfl | rfl | rfl | rfl | rfl | rfl | rfl | rfl | rfl | rfl | rfl | rfl | rfl | rfl | rfl | rfl | rfl | rfl | rfl | rfl | rfl | rfl | rfl | rfl | rfl | rfl | rfl | rfl | rfl | rfl | rfl | rfl | rfl | rfl | rfl | rfl | rfl | rfl | rfl | rfl | rfl | rfl | rfl | rfl | rfl | rfl | rfl | rfl | rfl | rfl | rfl | rfl | rfl | rfl | rfl | rfl | rfl | rfl | rfl | rfl | rfl | rfl | rfl | rfl | rfl | rfl | rfl | rfl | rfl | rfl | rfl | rfl | rfl | rfl | rfl | rfl | rfl | rfl
  · exact ok290
  · exact ok283
  · exact ok288
  · exact ok297
  · exact ok286
  · exact ok115
  · exact ok114
  · exact ok110
  · exact ok112
  · exact ok113
  · exact ok109
  · exact ok134
  · exact ok345
  · exact ok347
  · exact ok342
  · exact ok341
  · exact ok457
  · exact ok450
  · exact ok382
  · exact ok387
  · exact ok398
  · exact ok390
  · exact ok394
  · exact ok104
  · exact ok469
  · exact ok391
  · exact ok461
  · exact ok453
  · exact ok393
  · exact ok392
  · exact ok395
  · exact ok384
  · exact ok434
  · exact ok433
  · exact ok431
  · exact ok460
  · exact ok100456
  · exact ok397
  · exact ok100396
  · exact ok102
  · exact ok442
  · exact ok100
  · exact ok96
  · exact ok101
  · exact ok97
  · exact ok99
  · exact ok447
  · exact ok448
  · exact ok446
  · exact ok98
  · exact ok94
  · exact ok95
  · exact ok466
  · exact ok57
  · exact ok51
  · exact ok55
  · exact ok53
  · exact ok471
  · exact ok389
  · exact ok388
  · exact ok383
  · exact ok107
  · exact ok121
  · exact ok118
  · exact ok120
  · exact ok119
  · exact ok330
  · exact ok366
  · exact ok365
  · exact ok76
  · exact ok361
  · exact ok464
  · exact ok117
  · exact ok116
  · exact ok331
  · exact ok367
  · exact ok77
  · exact ok73
  · exact ok369
  · exact ok368
  · exact ok364
  · exact ok75
  · exact ok72
  · exact ok359
  · exact ok71
  · exact ok386
  · exact ok363
  · exact ok463
  · exact ok455
  · exact ok74
  · exact ok462
  · exact ok454
  · exact ok439
  · exact ok381
  · exact ok360
  · exact ok70
  · exact ok362
  · exact ok69
  · exact ok451
  · exact ok370
  · exact ok437
  · exact ok438
  · exact ok436
  · exact ok244
  · exact ok256
  · exact ok251
  · exact ok301
  · exact ok315
  · exact ok313
  · exact ok294
  · exact ok300
  · exact ok306
  · exact ok285
  · exact ok292
  · exact ok291
  · exact ok289
  · exact ok305
  · exact ok314
  · exact ok312
  · exact ok282
  · exact ok304
  · exact ok308
  · exact ok309
  · exact ok311
  · exact ok307
  · exact ok310
  · exact ok287
  · exact ok298
  · exact ok303
  · exact ok295
  · exact ok299
  · exact ok316
  · exact ok281
  · exact ok302
  · exact ok284
  · exact ok222
theorem mix : Tryz.prog.follows .mixedOrders = true := by kernel_rfl
theorem sound222 : SoundFn Tryz.prog (fidOf ns) 4 (evFun (clOf (modsR tab 14) 3) s222) :=
  fun_sound (num_fid nsND) mix (tab_sound nsND mix tabOK 14) 3 ok222.2.2
end Go.Proofs.YtbpaojgkkggcgabGreatDoor.LgTWordsRuns
