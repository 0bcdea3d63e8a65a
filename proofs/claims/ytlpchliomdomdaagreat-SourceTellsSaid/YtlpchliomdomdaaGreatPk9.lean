import Derived.Test.YtlpchliomdomdaaGreatPk8
namespace Go.Proofs.YtlpchliomdomdaaGreat.LgTab
open Go Lg
set_option maxRecDepth 100000
set_option linter.defProp false
def r174 : Row := ⟨174,18,false,a174,.fn s174⟩
def r181 : Row := ⟨181,84,false,a181,.fn s181⟩
def r180 : Row := ⟨180,85,false,a180,.fn s180⟩
def r65 : Row := ⟨65,42,false,a65,.fn s65⟩
def r64 : Row := ⟨64,41,true,a64,.fn s64⟩
def r66 : Row := ⟨66,9,true,a66,.fn s66⟩
def r252 : Row := ⟨252,43,false,a252,.fn s252⟩
def r254 : Row := ⟨254,44,false,a254,.fn s254⟩
def r250 : Row := ⟨250,10,false,a250,.fn s250⟩
def r63 : Row := ⟨63,11,true,a63,.fn s63⟩
def r451 : Row := ⟨451,45,false,a451,.nil n451⟩
def r370 : Row := ⟨370,12,true,a370,.fn s370⟩
def r115 : Row := ⟨115,198,false,a115,.fn s115⟩
def r114 : Row := ⟨114,154,false,a114,.fn s114⟩
def r407 : Row := ⟨407,86,false,a407,.fn s407⟩
def r110 : Row := ⟨110,199,false,a110,.fn s110⟩
def r112 : Row := ⟨112,155,false,a112,.fn s112⟩
def r113 : Row := ⟨113,156,false,a113,.fn s113⟩
def r109 : Row := ⟨109,87,false,a109,.fn s109⟩
def r122 : Row := ⟨122,146,true,a122,.fn s122⟩
def r404 : Row := ⟨404,89,true,a404,.fn s404⟩
def r144 : Row := ⟨144,204,true,a144,.fn s144⟩
def r106 : Row := ⟨106,131,false,a106,.fn s106⟩
def r444 : Row := ⟨444,214,false,a444,.fn s444⟩
def r445 : Row := ⟨445,215,false,a445,.fn s445⟩
def r443 : Row := ⟨443,185,false,a443,.fn s443⟩
def r465 : Row := ⟨465,130,false,a465,.fn s465⟩
def r143 : Row := ⟨143,208,false,a143,.fn s143⟩
def r147 : Row := ⟨147,200,true,a147,.fn s147⟩
def r145 : Row := ⟨145,201,false,a145,.fn s145⟩
def r142 : Row := ⟨142,157,true,a142,.fn s142⟩
def r371 : Row := ⟨371,158,false,a371,.fn s371⟩
def r125 : Row := ⟨125,88,true,a125,.fn s125⟩
def r158 : Row := ⟨158,159,true,a158,.fn s158⟩
def r162 : Row := ⟨162,127,false,a162,.fn s162⟩
def r163 : Row := ⟨163,124,true,a163,.inl s163⟩
def r159 : Row := ⟨159,181,false,a159,.fn s159⟩
def r150 : Row := ⟨150,202,false,a150,.fn s150⟩
def r161 : Row := ⟨161,160,true,a161,.inl s161⟩
def r152 : Row := ⟨152,90,true,a152,.fn s152⟩
def r402 : Row := ⟨402,46,true,a402,.fn s402⟩
def r422 : Row := ⟨422,132,false,a422,.fn s422⟩
def r417 : Row := ⟨417,203,false,a417,.fn s417⟩
def r418 : Row := ⟨418,161,false,a418,.fn s418⟩
def r420 : Row := ⟨420,91,false,a420,.fn s420⟩
def r410 : Row := ⟨410,47,true,a410,.fn s410⟩
def r406 : Row := ⟨406,92,true,a406,.fn s406⟩
def r129 : Row := ⟨129,93,true,a129,.fn s129⟩
def r128 : Row := ⟨128,94,true,a128,.fn s128⟩
def r138 : Row := ⟨138,162,true,a138,.fn s138⟩
def r123 : Row := ⟨123,95,true,a123,.fn s123⟩
def r421 : Row := ⟨421,96,false,a421,.fn s421⟩
def r107 : Row := ⟨107,59,false,a107,.fn s107⟩
def r151 : Row := ⟨151,58,true,a151,.fn s151⟩
def r419 : Row := ⟨419,60,false,a419,.fn s419⟩
def r372 : Row := ⟨372,19,true,a372,.fn s372⟩
def r409 : Row := ⟨409,48,true,a409,.fn s409⟩
def r127 : Row := ⟨127,175,true,a127,.fn s127⟩
def r337 : Row := ⟨337,163,true,a337,.fn s337⟩
def r415 : Row := ⟨415,97,true,a415,.fn s415⟩
def r381 : Row := ⟨381,104,false,a381,.fn s381⟩
def r411 : Row := ⟨411,164,false,a411,.fn s411⟩
def r130 : Row := ⟨130,165,true,a130,.fn s130⟩
def r124 : Row := ⟨124,166,true,a124,.fn s124⟩
def r126 : Row := ⟨126,167,true,a126,.fn s126⟩
def r413 : Row := ⟨413,98,true,a413,.fn s413⟩
def r149 : Row := ⟨149,75,false,a149,.fn s149⟩
def r157 : Row := ⟨157,172,true,a157,.fn s157⟩
def r141 : Row := ⟨141,169,true,a141,.fn s141⟩
def r139 : Row := ⟨139,168,true,a139,.fn s139⟩
def r146 : Row := ⟨146,205,false,a146,.fn s146⟩
def r148 : Row := ⟨148,206,true,a148,.fn s148⟩
def r459 : Row := ⟨459,224,false,a459,.fn s459⟩
def r452 : Row := ⟨452,207,false,a452,.fn s452⟩
def r140 : Row := ⟨140,170,true,a140,.fn s140⟩
def r137 : Row := ⟨137,171,true,a137,.fn s137⟩
def r403 : Row := ⟨403,99,true,a403,.fn s403⟩
def r414 : Row := ⟨414,100,true,a414,.fn s414⟩
def r348 : Row := ⟨348,209,false,a348,.fn s348⟩
def r343 : Row := ⟨343,173,false,a343,.fn s343⟩
def r345 : Row := ⟨345,225,false,a345,.fn s345⟩
def r344 : Row := ⟨344,210,false,a344,.fn s344⟩
def r346 : Row := ⟨346,174,false,a346,.fn s346⟩
def r340 : Row := ⟨340,101,false,a340,.fn s340⟩
def r412 : Row := ⟨412,102,true,a412,.fn s412⟩
def r416 : Row := ⟨416,176,false,a416,.fn s416⟩
def r408 : Row := ⟨408,103,true,a408,.fn s408⟩
def r405 : Row := ⟨405,49,true,a405,.fn s405⟩
def r400 : Row := ⟨400,13,true,a400,.fn s400⟩
def r244 : Row := ⟨244,105,false,a244,.fn s244⟩
def r256 : Row := ⟨256,177,false,a256,.fn s256⟩
def r251 : Row := ⟨251,106,false,a251,.fn s251⟩
def r301 : Row := ⟨301,179,true,a301,.fn s301⟩
def r283 : Row := ⟨283,133,false,a283,.fn s283⟩
def r288 : Row := ⟨288,61,true,a288,.fn s288⟩
def r315 : Row := ⟨315,152,true,a315,.fn s315⟩
def r313 : Row := ⟨313,151,true,a313,.fn s313⟩
def r294 : Row := ⟨294,118,true,a294,.fn s294⟩
def r300 : Row := ⟨300,83,true,a300,.fn s300⟩
def r306 : Row := ⟨306,116,false,a306,.fn s306⟩
def r285 : Row := ⟨285,107,true,a285,.fn s285⟩
def r292 : Row := ⟨292,108,true,a292,.fn s292⟩
def r291 : Row := ⟨291,51,true,a291,.fn s291⟩
def r289 : Row := ⟨289,109,false,a289,.fn s289⟩
def r305 : Row := ⟨305,52,true,a305,.fn s305⟩
def r314 : Row := ⟨314,110,true,a314,.fn s314⟩
def r312 : Row := ⟨312,111,true,a312,.fn s312⟩
def r282 : Row := ⟨282,112,true,a282,.fn s282⟩
def r290 : Row := ⟨290,62,false,a290,.fn s290⟩
def r297 : Row := ⟨297,63,false,a297,.fn s297⟩
def r286 : Row := ⟨286,20,true,a286,.fn s286⟩
def r304 : Row := ⟨304,53,true,a304,.fn s304⟩
def r308 : Row := ⟨308,122,true,a308,.fn s308⟩
def r309 : Row := ⟨309,113,true,a309,.fn s309⟩
def r311 : Row := ⟨311,115,false,a311,.fn s311⟩
def r307 : Row := ⟨307,178,true,a307,.fn s307⟩
def r310 : Row := ⟨310,114,true,a310,.fn s310⟩
def r287 : Row := ⟨287,153,false,a287,.fn s287⟩
def r298 : Row := ⟨298,120,true,a298,.fn s298⟩
def r303 : Row := ⟨303,117,true,a303,.fn s303⟩
def r295 : Row := ⟨295,119,true,a295,.fn s295⟩
def r299 : Row := ⟨299,211,false,a299,.fn s299⟩
def r316 : Row := ⟨316,180,false,a316,.fn s316⟩
def r281 : Row := ⟨281,121,false,a281,.fn s281⟩
def r302 : Row := ⟨302,54,true,a302,.fn s302⟩
def r284 : Row := ⟨284,15,true,a284,.fn s284⟩
def r173 : Row := ⟨173,50,false,a173,.fn s173⟩
def r177 : Row := ⟨177,14,false,a177,.fn s177⟩
def r111 : Row := ⟨111,182,false,a111,.fn s111⟩
def r108 : Row := ⟨108,126,false,a108,.fn s108⟩
def r160 : Row := ⟨160,123,false,a160,.fn s160⟩
def r154 : Row := ⟨154,55,false,a154,.fn s154⟩
def r378 : Row := ⟨378,125,false,a378,.fn s378⟩
def r377 : Row := ⟨377,56,false,a377,.fn s377⟩
def r373 : Row := ⟨373,16,false,a373,.fn s373⟩
def r338 : Row := ⟨338,23,true,a338,.fn s338⟩
def r67 : Row := ⟨67,218,false,a67,.fn s67⟩
def r432 : Row := ⟨432,226,false,a432,.fn s432⟩
def r435 : Row := ⟨435,227,false,a435,.fn s435⟩
def r68 : Row := ⟨68,216,false,a68,.fn s68⟩
def r339 : Row := ⟨339,217,true,a339,.fn s339⟩
def r14 : Row := ⟨14,189,true,a14,.fn s14⟩
def r21 : Row := ⟨21,186,true,a21,.fn s21⟩
def r24 : Row := ⟨24,188,true,a24,.fn s24⟩
def r22 : Row := ⟨22,187,true,a22,.fn s22⟩
def r17 : Row := ⟨17,190,true,a17,.fn s17⟩
def r15 : Row := ⟨15,219,true,a15,.fn s15⟩
def r16 : Row := ⟨16,228,true,a16,.fn s16⟩
def r18 : Row := ⟨18,220,true,a18,.fn s18⟩
def r23 : Row := ⟨23,221,true,a23,.fn s23⟩
def r450 : Row := ⟨450,148,false,a450,.nil n450⟩
def r19 : Row := ⟨19,191,true,a19,.fn s19⟩
def r20 : Row := ⟨20,192,true,a20,.fn s20⟩
def r13 : Row := ⟨13,135,true,a13,.fn s13⟩
def r11 : Row := ⟨11,66,true,a11,.fn s11⟩
def r399 : Row := ⟨399,22,true,a399,.fn s399⟩
def r401 : Row := ⟨401,24,true,a401,.fn s401⟩
def r193 : Row := ⟨193,17,false,a193,.fn s193⟩
def r195 : Row := ⟨195,3,true,a195,.fn s195⟩
def r458 : Row := ⟨458,134,false,a458,.fn s458⟩
def r155 : Row := ⟨155,64,false,a155,.fn s155⟩
def r376 : Row := ⟨376,65,false,a376,.fn s376⟩
def r374 : Row := ⟨374,21,false,a374,.fn s374⟩
def r191 : Row := ⟨191,4,true,a191,.fn s191⟩
def r253 : Row := ⟨253,193,false,a253,.fn s253⟩
def r8 : Row := ⟨8,136,true,a8,.fn s8⟩
def r5 : Row := ⟨5,137,true,a5,.fn s5⟩
def r9 : Row := ⟨9,138,true,a9,.fn s9⟩
def r6 : Row := ⟨6,67,true,a6,.fn s6⟩
def r243 : Row := ⟨243,139,false,a243,.fn s243⟩
def r7 : Row := ⟨7,68,true,a7,.fn s7⟩
def r247 : Row := ⟨247,25,true,a247,.fn s247⟩
def r187 : Row := ⟨187,5,true,a187,.fn s187⟩
def r134 : Row := ⟨134,76,false,a134,.fn s134⟩
def r136 : Row := ⟨136,194,false,a136,.fn s136⟩
def r135 : Row := ⟨135,140,true,a135,.fn s135⟩
def r133 : Row := ⟨133,141,false,a133,.fn s133⟩
def r132 : Row := ⟨132,69,false,a132,.fn s132⟩
def r426 : Row := ⟨426,142,true,a426,.fn s426⟩
def r429 : Row := ⟨429,70,true,a429,.fn s429⟩
def r463 : Row := ⟨463,222,false,a463,.fn s463⟩
def r455 : Row := ⟨455,195,false,a455,.fn s455⟩
def r430 : Row := ⟨430,196,false,a430,.fn s430⟩
def r427 : Row := ⟨427,143,false,a427,.fn s427⟩
def r334 : Row := ⟨334,223,false,a334,.fn s334⟩
def r335 : Row := ⟨335,197,false,a335,.fn s335⟩
def r428 : Row := ⟨428,144,false,a428,.fn s428⟩
def r425 : Row := ⟨425,71,false,a425,.fn s425⟩
def r423 : Row := ⟨423,26,true,a423,.fn s423⟩
def r424 : Row := ⟨424,29,true,a424,.fn s424⟩
def r35 : Row := ⟨35,77,true,a35,.fn s35⟩
def r36 : Row := ⟨36,78,true,a36,.fn s36⟩
def r30 : Row := ⟨30,30,true,a30,.fn s30⟩
def r31 : Row := ⟨31,34,true,a31,.fn s31⟩
def r34 : Row := ⟨34,37,true,a34,.fn s34⟩
def r33 : Row := ⟨33,35,true,a33,.fn s33⟩
def r209 : Row := ⟨209,28,true,a209,.fn s209⟩
def r275 : Row := ⟨275,145,false,a275,.fn s275⟩
def r260 : Row := ⟨260,72,false,a260,.fn s260⟩
def r277 : Row := ⟨277,73,true,a277,.fn s277⟩
def r274 : Row := ⟨274,74,false,a274,.fn s274⟩
def r258 : Row := ⟨258,27,true,a258,.fn s258⟩
def r205 : Row := ⟨205,6,true,a205,.fn s205⟩
def r449 : Row := ⟨449,147,false,a449,.nil n449⟩
def r10 : Row := ⟨10,79,true,a10,.fn s10⟩
def r29 : Row := ⟨29,31,true,a29,.fn s29⟩
def r263 : Row := ⟨263,33,true,a263,.fn s263⟩
def r280 : Row := ⟨280,80,false,a280,.fn s280⟩
def r259 : Row := ⟨259,32,true,a259,.fn s259⟩
def r270 : Row := ⟨270,38,true,a270,.fn s270⟩
def r179 : Row := ⟨179,36,false,a179,.fn s179⟩
def r153 : Row := ⟨153,149,true,a153,.fn s153⟩
def r379 : Row := ⟨379,150,true,a379,.fn s379⟩
def r375 : Row := ⟨375,81,true,a375,.fn s375⟩
def r32 : Row := ⟨32,39,true,a32,.fn s32⟩
def r293 : Row := ⟨293,82,true,a293,.fn s293⟩
def r296 : Row := ⟨296,40,true,a296,.fn s296⟩
def r206 : Row := ⟨206,7,true,a206,.fn s206⟩
def r208 : Row := ⟨208,8,true,a208,.fn s208⟩
def r156 : Row := ⟨156,57,false,⟨[],[],[],[]⟩,.ext Lg.textM⟩
--CUT
def ns : List Nat := [441,86,87,195,191,187,205,206,208,66,250,63,370,400,177,284,373,193,174,372,286,374,399,338,401,247,423,258,209,424,30,29,259,263,31,33,179,34,270,32,296,64,65,252,254,451,402,410,409,405,173,291,305,304,302,154,377,156,151,107,419,288,290,297,155,376,11,6,7,132,429,425,260,277,274,149,134,35,36,10,280,375,293,300,181,180,407,109,125,404,152,420,406,129,128,123,421,415,413,403,414,340,412,408,381,244,251,285,292,289,314,312,282,309,310,311,306,303,294,295,298,281,308,160,163,378,108,162,54,53,465,106,422,283,458,13,8,5,9,243,135,133,426,427,428,275,122,449,450,153,379,313,315,287,114,112,113,142,371,158,161,418,138,337,411,130,124,126,139,141,140,137,157,343,346,127,416,256,307,301,316,159,111,56,477,443,21,22,24,14,17,19,20,253,136,455,430,335,115,110,147,145,150,417,144,146,148,452,143,348,344,299,89,482,444,445,68,339,67,15,18,23,463,334,459,345,432,435,16,78,79,82,83,84,85,80,81,49,50,47,48,0,60,61,12,52,59]
theorem nsND : ns.Nodup := by decide +kernel
abbrev K := RowOK Tryz.prog ns
theorem ok174 : K r174 := okF (by kernel_rfl) (by kernel_rfl)
theorem ok181 : K r181 := okF (by kernel_rfl) (by kernel_rfl)
theorem ok180 : K r180 := okF (by kernel_rfl) (by kernel_rfl)
theorem ok65 : K r65 := okF (by kernel_rfl) (by kernel_rfl)
theorem ok64 : K r64 := okF (by kernel_rfl) (by kernel_rfl)
theorem ok66 : K r66 := okF (by kernel_rfl) (by kernel_rfl)
theorem ok252 : K r252 := okF (by kernel_rfl) (by kernel_rfl)
theorem ok254 : K r254 := okF (by kernel_rfl) (by kernel_rfl)
theorem ok250 : K r250 := okF (by kernel_rfl) (by kernel_rfl)
theorem ok63 : K r63 := okF (by kernel_rfl) (by kernel_rfl)
theorem ok451 : K r451 := okN (by kernel_rfl) (by kernel_rfl)
theorem ok370 : K r370 := okF (by kernel_rfl) (by kernel_rfl)
theorem ok115 : K r115 := okF (by kernel_rfl) (by kernel_rfl)
theorem ok114 : K r114 := okF (by kernel_rfl) (by kernel_rfl)
theorem ok407 : K r407 := okF (by kernel_rfl) (by kernel_rfl)
theorem ok110 : K r110 := okF (by kernel_rfl) (by kernel_rfl)
theorem ok112 : K r112 := okF (by kernel_rfl) (by kernel_rfl)
theorem ok113 : K r113 := okF (by kernel_rfl) (by kernel_rfl)
theorem ok109 : K r109 := okF (by kernel_rfl) (by kernel_rfl)
theorem ok122 : K r122 := okF (by kernel_rfl) (by kernel_rfl)
theorem ok404 : K r404 := okF (by kernel_rfl) (by kernel_rfl)
theorem ok144 : K r144 := okF (by kernel_rfl) (by kernel_rfl)
theorem ok106 : K r106 := okF (by kernel_rfl) (by kernel_rfl)
theorem ok444 : K r444 := okF (by kernel_rfl) (by kernel_rfl)
theorem ok445 : K r445 := okF (by kernel_rfl) (by kernel_rfl)
theorem ok443 : K r443 := okF (by kernel_rfl) (by kernel_rfl)
theorem ok465 : K r465 := okF (by kernel_rfl) (by kernel_rfl)
theorem ok143 : K r143 := okF (by kernel_rfl) (by kernel_rfl)
theorem ok147 : K r147 := okF (by kernel_rfl) (by kernel_rfl)
theorem ok145 : K r145 := okF (by kernel_rfl) (by kernel_rfl)
theorem ok142 : K r142 := okF (by kernel_rfl) (by kernel_rfl)
theorem ok371 : K r371 := okF (by kernel_rfl) (by kernel_rfl)
theorem ok125 : K r125 := okF (by kernel_rfl) (by kernel_rfl)
theorem ok158 : K r158 := okF (by kernel_rfl) (by kernel_rfl)
theorem ok162 : K r162 := okF (by kernel_rfl) (by kernel_rfl)
theorem ok163 : K r163 := okI (by kernel_rfl) (by kernel_rfl)
theorem ok159 : K r159 := okF (by kernel_rfl) (by kernel_rfl)
theorem ok150 : K r150 := okF (by kernel_rfl) (by kernel_rfl)
theorem ok161 : K r161 := okI (by kernel_rfl) (by kernel_rfl)
theorem ok152 : K r152 := okF (by kernel_rfl) (by kernel_rfl)
theorem ok402 : K r402 := okF (by kernel_rfl) (by kernel_rfl)
theorem ok422 : K r422 := okF (by kernel_rfl) (by kernel_rfl)
theorem ok417 : K r417 := okF (by kernel_rfl) (by kernel_rfl)
theorem ok418 : K r418 := okF (by kernel_rfl) (by kernel_rfl)
theorem ok420 : K r420 := okF (by kernel_rfl) (by kernel_rfl)
theorem ok410 : K r410 := okF (by kernel_rfl) (by kernel_rfl)
theorem ok406 : K r406 := okF (by kernel_rfl) (by kernel_rfl)
theorem ok129 : K r129 := okF (by kernel_rfl) (by kernel_rfl)
theorem ok128 : K r128 := okF (by kernel_rfl) (by kernel_rfl)
theorem ok138 : K r138 := okF (by kernel_rfl) (by kernel_rfl)
theorem ok123 : K r123 := okF (by kernel_rfl) (by kernel_rfl)
theorem ok421 : K r421 := okF (by kernel_rfl) (by kernel_rfl)
theorem ok107 : K r107 := okF (by kernel_rfl) (by kernel_rfl)
theorem ok151 : K r151 := okF (by kernel_rfl) (by kernel_rfl)
theorem ok419 : K r419 := okF (by kernel_rfl) (by kernel_rfl)
theorem ok372 : K r372 := okF (by kernel_rfl) (by kernel_rfl)
theorem ok409 : K r409 := okF (by kernel_rfl) (by kernel_rfl)
theorem ok127 : K r127 := okF (by kernel_rfl) (by kernel_rfl)
theorem ok337 : K r337 := okF (by kernel_rfl) (by kernel_rfl)
theorem ok415 : K r415 := okF (by kernel_rfl) (by kernel_rfl)
theorem ok381 : K r381 := okF (by kernel_rfl) (by kernel_rfl)
theorem ok411 : K r411 := okF (by kernel_rfl) (by kernel_rfl)
theorem ok130 : K r130 := okF (by kernel_rfl) (by kernel_rfl)
theorem ok124 : K r124 := okF (by kernel_rfl) (by kernel_rfl)
theorem ok126 : K r126 := okF (by kernel_rfl) (by kernel_rfl)
theorem ok413 : K r413 := okF (by kernel_rfl) (by kernel_rfl)
theorem ok149 : K r149 := okF (by kernel_rfl) (by kernel_rfl)
theorem ok157 : K r157 := okF (by kernel_rfl) (by kernel_rfl)
theorem ok141 : K r141 := okF (by kernel_rfl) (by kernel_rfl)
theorem ok139 : K r139 := okF (by kernel_rfl) (by kernel_rfl)
theorem ok146 : K r146 := okF (by kernel_rfl) (by kernel_rfl)
theorem ok148 : K r148 := okF (by kernel_rfl) (by kernel_rfl)
theorem ok459 : K r459 := okF (by kernel_rfl) (by kernel_rfl)
theorem ok452 : K r452 := okF (by kernel_rfl) (by kernel_rfl)
theorem ok140 : K r140 := okF (by kernel_rfl) (by kernel_rfl)
theorem ok137 : K r137 := okF (by kernel_rfl) (by kernel_rfl)
theorem ok403 : K r403 := okF (by kernel_rfl) (by kernel_rfl)
theorem ok414 : K r414 := okF (by kernel_rfl) (by kernel_rfl)
theorem ok348 : K r348 := okF (by kernel_rfl) (by kernel_rfl)
theorem ok343 : K r343 := okF (by kernel_rfl) (by kernel_rfl)
theorem ok345 : K r345 := okF (by kernel_rfl) (by kernel_rfl)
theorem ok344 : K r344 := okF (by kernel_rfl) (by kernel_rfl)
theorem ok346 : K r346 := okF (by kernel_rfl) (by kernel_rfl)
theorem ok340 : K r340 := okF (by kernel_rfl) (by kernel_rfl)
theorem ok412 : K r412 := okF (by kernel_rfl) (by kernel_rfl)
theorem ok416 : K r416 := okF (by kernel_rfl) (by kernel_rfl)
theorem ok408 : K r408 := okF (by kernel_rfl) (by kernel_rfl)
theorem ok405 : K r405 := okF (by kernel_rfl) (by kernel_rfl)
theorem ok400 : K r400 := okF (by kernel_rfl) (by kernel_rfl)
theorem ok244 : K r244 := okF (by kernel_rfl) (by kernel_rfl)
theorem ok256 : K r256 := okF (by kernel_rfl) (by kernel_rfl)
theorem ok251 : K r251 := okF (by kernel_rfl) (by kernel_rfl)
theorem ok301 : K r301 := okF (by kernel_rfl) (by kernel_rfl)
theorem ok283 : K r283 := okF (by kernel_rfl) (by kernel_rfl)
theorem ok288 : K r288 := okF (by kernel_rfl) (by kernel_rfl)
theorem ok315 : K r315 := okF (by kernel_rfl) (by kernel_rfl)
theorem ok313 : K r313 := okF (by kernel_rfl) (by kernel_rfl)
theorem ok294 : K r294 := okF (by kernel_rfl) (by kernel_rfl)
theorem ok300 : K r300 := okF (by kernel_rfl) (by kernel_rfl)
theorem ok306 : K r306 := okF (by kernel_rfl) (by kernel_rfl)
theorem ok285 : K r285 := okF (by kernel_rfl) (by kernel_rfl)
theorem ok292 : K r292 := okF (by kernel_rfl) (by kernel_rfl)
theorem ok291 : K r291 := okF (by kernel_rfl) (by kernel_rfl)
theorem ok289 : K r289 := okF (by kernel_rfl) (by kernel_rfl)
theorem ok305 : K r305 := okF (by kernel_rfl) (by kernel_rfl)
theorem ok314 : K r314 := okF (by kernel_rfl) (by kernel_rfl)
theorem ok312 : K r312 := okF (by kernel_rfl) (by kernel_rfl)
theorem ok282 : K r282 := okF (by kernel_rfl) (by kernel_rfl)
theorem ok290 : K r290 := okF (by kernel_rfl) (by kernel_rfl)
theorem ok297 : K r297 := okF (by kernel_rfl) (by kernel_rfl)
theorem ok286 : K r286 := okF (by kernel_rfl) (by kernel_rfl)
theorem ok304 : K r304 := okF (by kernel_rfl) (by kernel_rfl)
theorem ok308 : K r308 := okF (by kernel_rfl) (by kernel_rfl)
theorem ok309 : K r309 := okF (by kernel_rfl) (by kernel_rfl)
theorem ok311 : K r311 := okF (by kernel_rfl) (by kernel_rfl)
theorem ok307 : K r307 := okF (by kernel_rfl) (by kernel_rfl)
theorem ok310 : K r310 := okF (by kernel_rfl) (by kernel_rfl)
theorem ok287 : K r287 := okF (by kernel_rfl) (by kernel_rfl)
theorem ok298 : K r298 := okF (by kernel_rfl) (by kernel_rfl)
theorem ok303 : K r303 := okF (by kernel_rfl) (by kernel_rfl)
theorem ok295 : K r295 := okF (by kernel_rfl) (by kernel_rfl)
theorem ok299 : K r299 := okF (by kernel_rfl) (by kernel_rfl)
theorem ok316 : K r316 := okF (by kernel_rfl) (by kernel_rfl)
theorem ok281 : K r281 := okF (by kernel_rfl) (by kernel_rfl)
theorem ok302 : K r302 := okF (by kernel_rfl) (by kernel_rfl)
theorem ok284 : K r284 := okF (by kernel_rfl) (by kernel_rfl)
theorem ok173 : K r173 := okF (by kernel_rfl) (by kernel_rfl)
theorem ok177 : K r177 := okF (by kernel_rfl) (by kernel_rfl)
theorem ok111 : K r111 := okF (by kernel_rfl) (by kernel_rfl)
theorem ok108 : K r108 := okF (by kernel_rfl) (by kernel_rfl)
theorem ok160 : K r160 := okF (by kernel_rfl) (by kernel_rfl)
theorem ok154 : K r154 := okF (by kernel_rfl) (by kernel_rfl)
theorem ok378 : K r378 := okF (by kernel_rfl) (by kernel_rfl)
theorem ok377 : K r377 := okF (by kernel_rfl) (by kernel_rfl)
theorem ok373 : K r373 := okF (by kernel_rfl) (by kernel_rfl)
theorem ok338 : K r338 := okF (by kernel_rfl) (by kernel_rfl)
theorem ok67 : K r67 := okF (by kernel_rfl) (by kernel_rfl)
theorem ok432 : K r432 := okF (by kernel_rfl) (by kernel_rfl)
theorem ok435 : K r435 := okF (by kernel_rfl) (by kernel_rfl)
theorem ok68 : K r68 := okF (by kernel_rfl) (by kernel_rfl)
theorem ok339 : K r339 := okF (by kernel_rfl) (by kernel_rfl)
theorem ok14 : K r14 := okF (by kernel_rfl) (by kernel_rfl)
theorem ok21 : K r21 := okF (by kernel_rfl) (by kernel_rfl)
theorem ok24 : K r24 := okF (by kernel_rfl) (by kernel_rfl)
theorem ok22 : K r22 := okF (by kernel_rfl) (by kernel_rfl)
theorem ok17 : K r17 := okF (by kernel_rfl) (by kernel_rfl)
theorem ok15 : K r15 := okF (by kernel_rfl) (by kernel_rfl)
theorem ok16 : K r16 := okF (by kernel_rfl) (by kernel_rfl)
theorem ok18 : K r18 := okF (by kernel_rfl) (by kernel_rfl)
theorem ok23 : K r23 := okF (by kernel_rfl) (by kernel_rfl)
theorem ok450 : K r450 := okN (by kernel_rfl) (by kernel_rfl)
theorem ok19 : K r19 := okF (by kernel_rfl) (by kernel_rfl)
theorem ok20 : K r20 := okF (by kernel_rfl) (by kernel_rfl)
theorem ok13 : K r13 := okF (by kernel_rfl) (by kernel_rfl)
theorem ok11 : K r11 := okF (by kernel_rfl) (by kernel_rfl)
theorem ok399 : K r399 := okF (by kernel_rfl) (by kernel_rfl)
theorem ok401 : K r401 := okF (by kernel_rfl) (by kernel_rfl)
theorem ok193 : K r193 := okF (by kernel_rfl) (by kernel_rfl)
theorem ok195 : K r195 := okF (by kernel_rfl) (by kernel_rfl)
theorem ok458 : K r458 := okF (by kernel_rfl) (by kernel_rfl)
theorem ok155 : K r155 := okF (by kernel_rfl) (by kernel_rfl)
theorem ok376 : K r376 := okF (by kernel_rfl) (by kernel_rfl)
theorem ok374 : K r374 := okF (by kernel_rfl) (by kernel_rfl)
theorem ok191 : K r191 := okF (by kernel_rfl) (by kernel_rfl)
theorem ok253 : K r253 := okF (by kernel_rfl) (by kernel_rfl)
theorem ok8 : K r8 := okF (by kernel_rfl) (by kernel_rfl)
theorem ok5 : K r5 := okF (by kernel_rfl) (by kernel_rfl)
theorem ok9 : K r9 := okF (by kernel_rfl) (by kernel_rfl)
theorem ok6 : K r6 := okF (by kernel_rfl) (by kernel_rfl)
theorem ok243 : K r243 := okF (by kernel_rfl) (by kernel_rfl)
theorem ok7 : K r7 := okF (by kernel_rfl) (by kernel_rfl)
theorem ok247 : K r247 := okF (by kernel_rfl) (by kernel_rfl)
theorem ok187 : K r187 := okF (by kernel_rfl) (by kernel_rfl)
theorem ok134 : K r134 := okF (by kernel_rfl) (by kernel_rfl)
theorem ok136 : K r136 := okF (by kernel_rfl) (by kernel_rfl)
theorem ok135 : K r135 := okF (by kernel_rfl) (by kernel_rfl)
theorem ok133 : K r133 := okF (by kernel_rfl) (by kernel_rfl)
theorem ok132 : K r132 := okF (by kernel_rfl) (by kernel_rfl)
theorem ok426 : K r426 := okF (by kernel_rfl) (by kernel_rfl)
theorem ok429 : K r429 := okF (by kernel_rfl) (by kernel_rfl)
theorem ok463 : K r463 := okF (by kernel_rfl) (by kernel_rfl)
theorem ok455 : K r455 := okF (by kernel_rfl) (by kernel_rfl)
theorem ok430 : K r430 := okF (by kernel_rfl) (by kernel_rfl)
theorem ok427 : K r427 := okF (by kernel_rfl) (by kernel_rfl)
theorem ok334 : K r334 := okF (by kernel_rfl) (by kernel_rfl)
theorem ok335 : K r335 := okF (by kernel_rfl) (by kernel_rfl)
theorem ok428 : K r428 := okF (by kernel_rfl) (by kernel_rfl)
theorem ok425 : K r425 := okF (by kernel_rfl) (by kernel_rfl)
theorem ok423 : K r423 := okF (by kernel_rfl) (by kernel_rfl)
theorem ok424 : K r424 := okF (by kernel_rfl) (by kernel_rfl)
theorem ok35 : K r35 := okF (by kernel_rfl) (by kernel_rfl)
theorem ok36 : K r36 := okF (by kernel_rfl) (by kernel_rfl)
theorem ok30 : K r30 := okF (by kernel_rfl) (by kernel_rfl)
theorem ok31 : K r31 := okF (by kernel_rfl) (by kernel_rfl)
theorem ok34 : K r34 := okF (by kernel_rfl) (by kernel_rfl)
theorem ok33 : K r33 := okF (by kernel_rfl) (by kernel_rfl)
theorem ok209 : K r209 := okF (by kernel_rfl) (by kernel_rfl)
theorem ok275 : K r275 := okF (by kernel_rfl) (by kernel_rfl)
theorem ok260 : K r260 := okF (by kernel_rfl) (by kernel_rfl)
theorem ok277 : K r277 := okF (by kernel_rfl) (by kernel_rfl)
theorem ok274 : K r274 := okF (by kernel_rfl) (by kernel_rfl)
theorem ok258 : K r258 := okF (by kernel_rfl) (by kernel_rfl)
theorem ok205 : K r205 := okF (by kernel_rfl) (by kernel_rfl)
theorem ok449 : K r449 := okN (by kernel_rfl) (by kernel_rfl)
theorem ok10 : K r10 := okF (by kernel_rfl) (by kernel_rfl)
theorem ok29 : K r29 := okF (by kernel_rfl) (by kernel_rfl)
theorem ok263 : K r263 := okF (by kernel_rfl) (by kernel_rfl)
theorem ok280 : K r280 := okF (by kernel_rfl) (by kernel_rfl)
theorem ok259 : K r259 := okF (by kernel_rfl) (by kernel_rfl)
theorem ok270 : K r270 := okF (by kernel_rfl) (by kernel_rfl)
theorem ok179 : K r179 := okF (by kernel_rfl) (by kernel_rfl)
theorem ok153 : K r153 := okF (by kernel_rfl) (by kernel_rfl)
theorem ok379 : K r379 := okF (by kernel_rfl) (by kernel_rfl)
theorem ok375 : K r375 := okF (by kernel_rfl) (by kernel_rfl)
theorem ok32 : K r32 := okF (by kernel_rfl) (by kernel_rfl)
theorem ok293 : K r293 := okF (by kernel_rfl) (by kernel_rfl)
theorem ok296 : K r296 := okF (by kernel_rfl) (by kernel_rfl)
theorem ok206 : K r206 := okF (by kernel_rfl) (by kernel_rfl)
theorem ok208 : K r208 := okF (by kernel_rfl) (by kernel_rfl)
theorem ok156 : K r156 := okX (by kernel_rfl) (LgText.text_ok _)
def tab : List Row := [r174,r181,r180,r65,r64,r66,r252,r254,r250,r63,r451,r370,r115,r114,r407,r110,r112,r113,r109,r122,r404,r144,r106,r444,r445,r443,r465,r143,r147,r145,r142,r371,r125,r158,r162,r163,r159,r150,r161,r152,r402,r422,r417,r418,r420,r410,r406,r129,r128,r138,r123,r421,r107,r151,r419,r372,r409,r127,r337,r415,r381,r411,r130,r124,r126,r413,r149,r157,r141,r139,r146,r148,r459,r452,r140,r137,r403,r414,r348,r343,r345,r344,r346,r340,r412,r416,r408,r405,r400,r244,r256,r251,r301,r283,r288,r315,r313,r294,r300,r306,r285,r292,r291,r289,r305,r314,r312,r282,r290,r297,r286,r304,r308,r309,r311,r307,r310,r287,r298,r303,r295,r299,r316,r281,r302,r284,r173,r177,r111,r108,r160,r154,r378,r377,r373,r338,r67,r432,r435,r68,r339,r14,r21,r24,r22,r17,r15,r16,r18,r23,r450,r19,r20,r13,r11,r399,r401,r193,r195,r458,r155,r376,r374,r191,r253,r8,r5,r9,r6,r243,r7,r247,r187,r134,r136,r135,r133,r132,r426,r429,r463,r455,r430,r427,r334,r335,r428,r425,r423,r424,r35,r36,r30,r31,r34,r33,r209,r275,r260,r277,r274,r258,r205,r449,r10,r29,r263,r280,r259,r270,r179,r153,r379,r375,r32,r293,r296,r206,r208,r156]
theorem tabOK : ∀ r, r ∈ tab → K r := allK (.cons ok174 (.cons ok181 (.cons ok180 (.cons ok65 (.cons ok64 (.cons ok66 (.cons ok252 (.cons ok254 (.cons ok250 (.cons ok63 (.cons ok451 (.cons ok370 (.cons ok115 (.cons ok114 (.cons ok407 (.cons ok110 (.cons ok112 (.cons ok113 (.cons ok109 (.cons ok122 (.cons ok404 (.cons ok144 (.cons ok106 (.cons ok444 (.cons ok445 (.cons ok443 (.cons ok465 (.cons ok143 (.cons ok147 (.cons ok145 (.cons ok142 (.cons ok371 (.cons ok125 (.cons ok158 (.cons ok162 (.cons ok163 (.cons ok159 (.cons ok150 (.cons ok161 (.cons ok152 (.cons ok402 (.cons ok422 (.cons ok417 (.cons ok418 (.cons ok420 (.cons ok410 (.cons ok406 (.cons ok129 (.cons ok128 (.cons ok138 (.cons ok123 (.cons ok421 (.cons ok107 (.cons ok151 (.cons ok419 (.cons ok372 (.cons ok409 (.cons ok127 (.cons ok337 (.cons ok415 (.cons ok381 (.cons ok411 (.cons ok130 (.cons ok124 (.cons ok126 (.cons ok413 (.cons ok149 (.cons ok157 (.cons ok141 (.cons ok139 (.cons ok146 (.cons ok148 (.cons ok459 (.cons ok452 (.cons ok140 (.cons ok137 (.cons ok403 (.cons ok414 (.cons ok348 (.cons ok343 (.cons ok345 (.cons ok344 (.cons ok346 (.cons ok340 (.cons ok412 (.cons ok416 (.cons ok408 (.cons ok405 (.cons ok400 (.cons ok244 (.cons ok256 (.cons ok251 (.cons ok301 (.cons ok283 (.cons ok288 (.cons ok315 (.cons ok313 (.cons ok294 (.cons ok300 (.cons ok306 (.cons ok285 (.cons ok292 (.cons ok291 (.cons ok289 (.cons ok305 (.cons ok314 (.cons ok312 (.cons ok282 (.cons ok290 (.cons ok297 (.cons ok286 (.cons ok304 (.cons ok308 (.cons ok309 (.cons ok311 (.cons ok307 (.cons ok310 (.cons ok287 (.cons ok298 (.cons ok303 (.cons ok295 (.cons ok299 (.cons ok316 (.cons ok281 (.cons ok302 (.cons ok284 (.cons ok173 (.cons ok177 (.cons ok111 (.cons ok108 (.cons ok160 (.cons ok154 (.cons ok378 (.cons ok377 (.cons ok373 (.cons ok338 (.cons ok67 (.cons ok432 (.cons ok435 (.cons ok68 (.cons ok339 (.cons ok14 (.cons ok21 (.cons ok24 (.cons ok22 (.cons ok17 (.cons ok15 (.cons ok16 (.cons ok18 (.cons ok23 (.cons ok450 (.cons ok19 (.cons ok20 (.cons ok13 (.cons ok11 (.cons ok399 (.cons ok401 (.cons ok193 (.cons ok195 (.cons ok458 (.cons ok155 (.cons ok376 (.cons ok374 (.cons ok191 (.cons ok253 (.cons ok8 (.cons ok5 (.cons ok9 (.cons ok6 (.cons ok243 (.cons ok7 (.cons ok247 (.cons ok187 (.cons ok134 (.cons ok136 (.cons ok135 (.cons ok133 (.cons ok132 (.cons ok426 (.cons ok429 (.cons ok463 (.cons ok455 (.cons ok430 (.cons ok427 (.cons ok334 (.cons ok335 (.cons ok428 (.cons ok425 (.cons ok423 (.cons ok424 (.cons ok35 (.cons ok36 (.cons ok30 (.cons ok31 (.cons ok34 (.cons ok33 (.cons ok209 (.cons ok275 (.cons ok260 (.cons ok277 (.cons ok274 (.cons ok258 (.cons ok205 (.cons ok449 (.cons ok10 (.cons ok29 (.cons ok263 (.cons ok280 (.cons ok259 (.cons ok270 (.cons ok179 (.cons ok153 (.cons ok379 (.cons ok375 (.cons ok32 (.cons ok293 (.cons ok296 (.cons ok206 (.cons ok208 (.cons ok156 (.nil)))))))))))))))))))))))))))))))))))))))))))))))))))))))))))))))))))))))))))))))))))))))))))))))))))))))))))))))))))))))))))))))))))))))))))))))))))))))))))))))))))))))))))))))))))))))))))))))))))))))))))))))))))))))))))))
theorem mix : Tryz.prog.follows .mixedOrders = true := by kernel_rfl
def cw174 := @cwF tab 174 _ _ _ _ (show findRow tab 174 = some r174 by kernel_rfl)
def cr174 := @crF tab 174 _ _ _ _ (show findRow tab 174 = some r174 by kernel_rfl)
def cw181 := @cwF tab 181 _ _ _ _ (show findRow tab 181 = some r181 by kernel_rfl)
def cr180 := @crF tab 180 _ _ _ _ (show findRow tab 180 = some r180 by kernel_rfl)
def cw65 := @cwF tab 65 _ _ _ _ (show findRow tab 65 = some r65 by kernel_rfl)
def cr65 := @crF tab 65 _ _ _ _ (show findRow tab 65 = some r65 by kernel_rfl)
def cw64 := @cwF tab 64 _ _ _ _ (show findRow tab 64 = some r64 by kernel_rfl)
def cw66 := @cwF tab 66 _ _ _ _ (show findRow tab 66 = some r66 by kernel_rfl)
def cw252 := @cwF tab 252 _ _ _ _ (show findRow tab 252 = some r252 by kernel_rfl)
def cr252 := @crF tab 252 _ _ _ _ (show findRow tab 252 = some r252 by kernel_rfl)
def cw254 := @cwF tab 254 _ _ _ _ (show findRow tab 254 = some r254 by kernel_rfl)
def cr254 := @crF tab 254 _ _ _ _ (show findRow tab 254 = some r254 by kernel_rfl)
def cw250 := @cwF tab 250 _ _ _ _ (show findRow tab 250 = some r250 by kernel_rfl)
def cr250 := @crF tab 250 _ _ _ _ (show findRow tab 250 = some r250 by kernel_rfl)
def cw63 := @cwF tab 63 _ _ _ _ (show findRow tab 63 = some r63 by kernel_rfl)
def cr63 := @crF tab 63 _ _ _ _ (show findRow tab 63 = some r63 by kernel_rfl)
def cw451 := @cwN tab 451 _ _ _ _ (show findRow tab 451 = some r451 by kernel_rfl)
def cw370 := @cwF tab 370 _ _ _ _ (show findRow tab 370 = some r370 by kernel_rfl)
def cr370 := @crF tab 370 _ _ _ _ (show findRow tab 370 = some r370 by kernel_rfl)
def cw115 := @cwF tab 115 _ _ _ _ (show findRow tab 115 = some r115 by kernel_rfl)
def cw114 := @cwF tab 114 _ _ _ _ (show findRow tab 114 = some r114 by kernel_rfl)
def cw407 := @cwF tab 407 _ _ _ _ (show findRow tab 407 = some r407 by kernel_rfl)
def cw110 := @cwF tab 110 _ _ _ _ (show findRow tab 110 = some r110 by kernel_rfl)
def cr110 := @crF tab 110 _ _ _ _ (show findRow tab 110 = some r110 by kernel_rfl)
def cw112 := @cwF tab 112 _ _ _ _ (show findRow tab 112 = some r112 by kernel_rfl)
def cw113 := @cwF tab 113 _ _ _ _ (show findRow tab 113 = some r113 by kernel_rfl)
def cw109 := @cwF tab 109 _ _ _ _ (show findRow tab 109 = some r109 by kernel_rfl)
def cr109 := @crF tab 109 _ _ _ _ (show findRow tab 109 = some r109 by kernel_rfl)
def cw122 := @cwF tab 122 _ _ _ _ (show findRow tab 122 = some r122 by kernel_rfl)
def cw404 := @cwF tab 404 _ _ _ _ (show findRow tab 404 = some r404 by kernel_rfl)
def cw144 := @cwF tab 144 _ _ _ _ (show findRow tab 144 = some r144 by kernel_rfl)
def cw106 := @cwF tab 106 _ _ _ _ (show findRow tab 106 = some r106 by kernel_rfl)
def cr106 := @crF tab 106 _ _ _ _ (show findRow tab 106 = some r106 by kernel_rfl)
def cw445 := @cwF tab 445 _ _ _ _ (show findRow tab 445 = some r445 by kernel_rfl)
def cw443 := @cwF tab 443 _ _ _ _ (show findRow tab 443 = some r443 by kernel_rfl)
def cw465 := @cwF tab 465 _ _ _ _ (show findRow tab 465 = some r465 by kernel_rfl)
def cw143 := @cwF tab 143 _ _ _ _ (show findRow tab 143 = some r143 by kernel_rfl)
def cr143 := @crF tab 143 _ _ _ _ (show findRow tab 143 = some r143 by kernel_rfl)
def cw147 := @cwF tab 147 _ _ _ _ (show findRow tab 147 = some r147 by kernel_rfl)
def cr145 := @crF tab 145 _ _ _ _ (show findRow tab 145 = some r145 by kernel_rfl)
def cw142 := @cwF tab 142 _ _ _ _ (show findRow tab 142 = some r142 by kernel_rfl)
def cw371 := @cwF tab 371 _ _ _ _ (show findRow tab 371 = some r371 by kernel_rfl)
def cr371 := @crF tab 371 _ _ _ _ (show findRow tab 371 = some r371 by kernel_rfl)
def cw125 := @cwF tab 125 _ _ _ _ (show findRow tab 125 = some r125 by kernel_rfl)
def cw158 := @cwF tab 158 _ _ _ _ (show findRow tab 158 = some r158 by kernel_rfl)
def cw162 := @cwF tab 162 _ _ _ _ (show findRow tab 162 = some r162 by kernel_rfl)
def cw163 := @cwI tab 163 _ _ _ _ (show findRow tab 163 = some r163 by kernel_rfl)
def cr163 := @crI tab 163 _ _ _ _ (show findRow tab 163 = some r163 by kernel_rfl)
def cw159 := @cwF tab 159 _ _ _ _ (show findRow tab 159 = some r159 by kernel_rfl)
def cr159 := @crF tab 159 _ _ _ _ (show findRow tab 159 = some r159 by kernel_rfl)
def cw150 := @cwF tab 150 _ _ _ _ (show findRow tab 150 = some r150 by kernel_rfl)
def cr150 := @crF tab 150 _ _ _ _ (show findRow tab 150 = some r150 by kernel_rfl)
def cw161 := @cwI tab 161 _ _ _ _ (show findRow tab 161 = some r161 by kernel_rfl)
def cw152 := @cwF tab 152 _ _ _ _ (show findRow tab 152 = some r152 by kernel_rfl)
def cw402 := @cwF tab 402 _ _ _ _ (show findRow tab 402 = some r402 by kernel_rfl)
def cw422 := @cwF tab 422 _ _ _ _ (show findRow tab 422 = some r422 by kernel_rfl)
def cw417 := @cwF tab 417 _ _ _ _ (show findRow tab 417 = some r417 by kernel_rfl)
def cw418 := @cwF tab 418 _ _ _ _ (show findRow tab 418 = some r418 by kernel_rfl)
def cr420 := @crF tab 420 _ _ _ _ (show findRow tab 420 = some r420 by kernel_rfl)
def cw410 := @cwF tab 410 _ _ _ _ (show findRow tab 410 = some r410 by kernel_rfl)
def cw406 := @cwF tab 406 _ _ _ _ (show findRow tab 406 = some r406 by kernel_rfl)
def cw129 := @cwF tab 129 _ _ _ _ (show findRow tab 129 = some r129 by kernel_rfl)
def cw128 := @cwF tab 128 _ _ _ _ (show findRow tab 128 = some r128 by kernel_rfl)
def cw138 := @cwF tab 138 _ _ _ _ (show findRow tab 138 = some r138 by kernel_rfl)
def cw123 := @cwF tab 123 _ _ _ _ (show findRow tab 123 = some r123 by kernel_rfl)
def cw421 := @cwF tab 421 _ _ _ _ (show findRow tab 421 = some r421 by kernel_rfl)
def cw107 := @cwF tab 107 _ _ _ _ (show findRow tab 107 = some r107 by kernel_rfl)
def cr107 := @crF tab 107 _ _ _ _ (show findRow tab 107 = some r107 by kernel_rfl)
def cw151 := @cwF tab 151 _ _ _ _ (show findRow tab 151 = some r151 by kernel_rfl)
def cr419 := @crF tab 419 _ _ _ _ (show findRow tab 419 = some r419 by kernel_rfl)
def cw372 := @cwF tab 372 _ _ _ _ (show findRow tab 372 = some r372 by kernel_rfl)
def cr372 := @crF tab 372 _ _ _ _ (show findRow tab 372 = some r372 by kernel_rfl)
def cw409 := @cwF tab 409 _ _ _ _ (show findRow tab 409 = some r409 by kernel_rfl)
def cw127 := @cwF tab 127 _ _ _ _ (show findRow tab 127 = some r127 by kernel_rfl)
def cw337 := @cwF tab 337 _ _ _ _ (show findRow tab 337 = some r337 by kernel_rfl)
def cw415 := @cwF tab 415 _ _ _ _ (show findRow tab 415 = some r415 by kernel_rfl)
def cw381 := @cwF tab 381 _ _ _ _ (show findRow tab 381 = some r381 by kernel_rfl)
def cr381 := @crF tab 381 _ _ _ _ (show findRow tab 381 = some r381 by kernel_rfl)
def cw411 := @cwF tab 411 _ _ _ _ (show findRow tab 411 = some r411 by kernel_rfl)
def cr411 := @crF tab 411 _ _ _ _ (show findRow tab 411 = some r411 by kernel_rfl)
def cw130 := @cwF tab 130 _ _ _ _ (show findRow tab 130 = some r130 by kernel_rfl)
def cw124 := @cwF tab 124 _ _ _ _ (show findRow tab 124 = some r124 by kernel_rfl)
def cw126 := @cwF tab 126 _ _ _ _ (show findRow tab 126 = some r126 by kernel_rfl)
def cw413 := @cwF tab 413 _ _ _ _ (show findRow tab 413 = some r413 by kernel_rfl)
def cw149 := @cwF tab 149 _ _ _ _ (show findRow tab 149 = some r149 by kernel_rfl)
def cw157 := @cwF tab 157 _ _ _ _ (show findRow tab 157 = some r157 by kernel_rfl)
def cw141 := @cwF tab 141 _ _ _ _ (show findRow tab 141 = some r141 by kernel_rfl)
def cw139 := @cwF tab 139 _ _ _ _ (show findRow tab 139 = some r139 by kernel_rfl)
def cw146 := @cwF tab 146 _ _ _ _ (show findRow tab 146 = some r146 by kernel_rfl)
def cw148 := @cwF tab 148 _ _ _ _ (show findRow tab 148 = some r148 by kernel_rfl)
def cw459 := @cwF tab 459 _ _ _ _ (show findRow tab 459 = some r459 by kernel_rfl)
def cr452 := @crF tab 452 _ _ _ _ (show findRow tab 452 = some r452 by kernel_rfl)
def cw140 := @cwF tab 140 _ _ _ _ (show findRow tab 140 = some r140 by kernel_rfl)
def cw137 := @cwF tab 137 _ _ _ _ (show findRow tab 137 = some r137 by kernel_rfl)
def cw403 := @cwF tab 403 _ _ _ _ (show findRow tab 403 = some r403 by kernel_rfl)
def cw414 := @cwF tab 414 _ _ _ _ (show findRow tab 414 = some r414 by kernel_rfl)
def cw348 := @cwF tab 348 _ _ _ _ (show findRow tab 348 = some r348 by kernel_rfl)
def cw343 := @cwF tab 343 _ _ _ _ (show findRow tab 343 = some r343 by kernel_rfl)
def cw345 := @cwF tab 345 _ _ _ _ (show findRow tab 345 = some r345 by kernel_rfl)
def cr344 := @crF tab 344 _ _ _ _ (show findRow tab 344 = some r344 by kernel_rfl)
def cw346 := @cwF tab 346 _ _ _ _ (show findRow tab 346 = some r346 by kernel_rfl)
def cw340 := @cwF tab 340 _ _ _ _ (show findRow tab 340 = some r340 by kernel_rfl)
def cw412 := @cwF tab 412 _ _ _ _ (show findRow tab 412 = some r412 by kernel_rfl)
def cw416 := @cwF tab 416 _ _ _ _ (show findRow tab 416 = some r416 by kernel_rfl)
def cw408 := @cwF tab 408 _ _ _ _ (show findRow tab 408 = some r408 by kernel_rfl)
def cw405 := @cwF tab 405 _ _ _ _ (show findRow tab 405 = some r405 by kernel_rfl)
def cw400 := @cwF tab 400 _ _ _ _ (show findRow tab 400 = some r400 by kernel_rfl)
def cr400 := @crF tab 400 _ _ _ _ (show findRow tab 400 = some r400 by kernel_rfl)
def cw244 := @cwF tab 244 _ _ _ _ (show findRow tab 244 = some r244 by kernel_rfl)
def cr244 := @crF tab 244 _ _ _ _ (show findRow tab 244 = some r244 by kernel_rfl)
def cw256 := @cwF tab 256 _ _ _ _ (show findRow tab 256 = some r256 by kernel_rfl)
def cr256 := @crF tab 256 _ _ _ _ (show findRow tab 256 = some r256 by kernel_rfl)
def cw251 := @cwF tab 251 _ _ _ _ (show findRow tab 251 = some r251 by kernel_rfl)
def cr251 := @crF tab 251 _ _ _ _ (show findRow tab 251 = some r251 by kernel_rfl)
def cw301 := @cwF tab 301 _ _ _ _ (show findRow tab 301 = some r301 by kernel_rfl)
def cw283 := @cwF tab 283 _ _ _ _ (show findRow tab 283 = some r283 by kernel_rfl)
def cr283 := @crF tab 283 _ _ _ _ (show findRow tab 283 = some r283 by kernel_rfl)
def cw288 := @cwF tab 288 _ _ _ _ (show findRow tab 288 = some r288 by kernel_rfl)
def cr288 := @crF tab 288 _ _ _ _ (show findRow tab 288 = some r288 by kernel_rfl)
def cw315 := @cwF tab 315 _ _ _ _ (show findRow tab 315 = some r315 by kernel_rfl)
def cr315 := @crF tab 315 _ _ _ _ (show findRow tab 315 = some r315 by kernel_rfl)
def cw313 := @cwF tab 313 _ _ _ _ (show findRow tab 313 = some r313 by kernel_rfl)
def cr313 := @crF tab 313 _ _ _ _ (show findRow tab 313 = some r313 by kernel_rfl)
def cw294 := @cwF tab 294 _ _ _ _ (show findRow tab 294 = some r294 by kernel_rfl)
def cr294 := @crF tab 294 _ _ _ _ (show findRow tab 294 = some r294 by kernel_rfl)
def cw300 := @cwF tab 300 _ _ _ _ (show findRow tab 300 = some r300 by kernel_rfl)
def cr300 := @crF tab 300 _ _ _ _ (show findRow tab 300 = some r300 by kernel_rfl)
def cw306 := @cwF tab 306 _ _ _ _ (show findRow tab 306 = some r306 by kernel_rfl)
def cr306 := @crF tab 306 _ _ _ _ (show findRow tab 306 = some r306 by kernel_rfl)
def cw285 := @cwF tab 285 _ _ _ _ (show findRow tab 285 = some r285 by kernel_rfl)
def cr285 := @crF tab 285 _ _ _ _ (show findRow tab 285 = some r285 by kernel_rfl)
def cw292 := @cwF tab 292 _ _ _ _ (show findRow tab 292 = some r292 by kernel_rfl)
def cr292 := @crF tab 292 _ _ _ _ (show findRow tab 292 = some r292 by kernel_rfl)
def cw291 := @cwF tab 291 _ _ _ _ (show findRow tab 291 = some r291 by kernel_rfl)
def cr291 := @crF tab 291 _ _ _ _ (show findRow tab 291 = some r291 by kernel_rfl)
def cw289 := @cwF tab 289 _ _ _ _ (show findRow tab 289 = some r289 by kernel_rfl)
def cr289 := @crF tab 289 _ _ _ _ (show findRow tab 289 = some r289 by kernel_rfl)
def cw305 := @cwF tab 305 _ _ _ _ (show findRow tab 305 = some r305 by kernel_rfl)
def cr305 := @crF tab 305 _ _ _ _ (show findRow tab 305 = some r305 by kernel_rfl)
def cw314 := @cwF tab 314 _ _ _ _ (show findRow tab 314 = some r314 by kernel_rfl)
def cr314 := @crF tab 314 _ _ _ _ (show findRow tab 314 = some r314 by kernel_rfl)
def cw312 := @cwF tab 312 _ _ _ _ (show findRow tab 312 = some r312 by kernel_rfl)
def cr312 := @crF tab 312 _ _ _ _ (show findRow tab 312 = some r312 by kernel_rfl)
def cw282 := @cwF tab 282 _ _ _ _ (show findRow tab 282 = some r282 by kernel_rfl)
def cr282 := @crF tab 282 _ _ _ _ (show findRow tab 282 = some r282 by kernel_rfl)
def cw290 := @cwF tab 290 _ _ _ _ (show findRow tab 290 = some r290 by kernel_rfl)
def cr290 := @crF tab 290 _ _ _ _ (show findRow tab 290 = some r290 by kernel_rfl)
def cw297 := @cwF tab 297 _ _ _ _ (show findRow tab 297 = some r297 by kernel_rfl)
def cr297 := @crF tab 297 _ _ _ _ (show findRow tab 297 = some r297 by kernel_rfl)
def cw286 := @cwF tab 286 _ _ _ _ (show findRow tab 286 = some r286 by kernel_rfl)
def cr286 := @crF tab 286 _ _ _ _ (show findRow tab 286 = some r286 by kernel_rfl)
def cw304 := @cwF tab 304 _ _ _ _ (show findRow tab 304 = some r304 by kernel_rfl)
def cr304 := @crF tab 304 _ _ _ _ (show findRow tab 304 = some r304 by kernel_rfl)
def cw308 := @cwF tab 308 _ _ _ _ (show findRow tab 308 = some r308 by kernel_rfl)
def cr308 := @crF tab 308 _ _ _ _ (show findRow tab 308 = some r308 by kernel_rfl)
def cw309 := @cwF tab 309 _ _ _ _ (show findRow tab 309 = some r309 by kernel_rfl)
def cr309 := @crF tab 309 _ _ _ _ (show findRow tab 309 = some r309 by kernel_rfl)
def cw311 := @cwF tab 311 _ _ _ _ (show findRow tab 311 = some r311 by kernel_rfl)
def cr311 := @crF tab 311 _ _ _ _ (show findRow tab 311 = some r311 by kernel_rfl)
def cw307 := @cwF tab 307 _ _ _ _ (show findRow tab 307 = some r307 by kernel_rfl)
def cr307 := @crF tab 307 _ _ _ _ (show findRow tab 307 = some r307 by kernel_rfl)
def cw310 := @cwF tab 310 _ _ _ _ (show findRow tab 310 = some r310 by kernel_rfl)
def cr310 := @crF tab 310 _ _ _ _ (show findRow tab 310 = some r310 by kernel_rfl)
def cw287 := @cwF tab 287 _ _ _ _ (show findRow tab 287 = some r287 by kernel_rfl)
def cr287 := @crF tab 287 _ _ _ _ (show findRow tab 287 = some r287 by kernel_rfl)
def cw298 := @cwF tab 298 _ _ _ _ (show findRow tab 298 = some r298 by kernel_rfl)
def cr298 := @crF tab 298 _ _ _ _ (show findRow tab 298 = some r298 by kernel_rfl)
def cw303 := @cwF tab 303 _ _ _ _ (show findRow tab 303 = some r303 by kernel_rfl)
def cr303 := @crF tab 303 _ _ _ _ (show findRow tab 303 = some r303 by kernel_rfl)
def cw295 := @cwF tab 295 _ _ _ _ (show findRow tab 295 = some r295 by kernel_rfl)
def cr295 := @crF tab 295 _ _ _ _ (show findRow tab 295 = some r295 by kernel_rfl)
def cw299 := @cwF tab 299 _ _ _ _ (show findRow tab 299 = some r299 by kernel_rfl)
def cr299 := @crF tab 299 _ _ _ _ (show findRow tab 299 = some r299 by kernel_rfl)
def cw316 := @cwF tab 316 _ _ _ _ (show findRow tab 316 = some r316 by kernel_rfl)
def cr316 := @crF tab 316 _ _ _ _ (show findRow tab 316 = some r316 by kernel_rfl)
def cw281 := @cwF tab 281 _ _ _ _ (show findRow tab 281 = some r281 by kernel_rfl)
def cr281 := @crF tab 281 _ _ _ _ (show findRow tab 281 = some r281 by kernel_rfl)
def cw302 := @cwF tab 302 _ _ _ _ (show findRow tab 302 = some r302 by kernel_rfl)
def cr302 := @crF tab 302 _ _ _ _ (show findRow tab 302 = some r302 by kernel_rfl)
def cw284 := @cwF tab 284 _ _ _ _ (show findRow tab 284 = some r284 by kernel_rfl)
def cr284 := @crF tab 284 _ _ _ _ (show findRow tab 284 = some r284 by kernel_rfl)
def cw173 := @cwF tab 173 _ _ _ _ (show findRow tab 173 = some r173 by kernel_rfl)
def cw177 := @cwF tab 177 _ _ _ _ (show findRow tab 177 = some r177 by kernel_rfl)
def cr177 := @crF tab 177 _ _ _ _ (show findRow tab 177 = some r177 by kernel_rfl)
def cw111 := @cwF tab 111 _ _ _ _ (show findRow tab 111 = some r111 by kernel_rfl)
def cw108 := @cwF tab 108 _ _ _ _ (show findRow tab 108 = some r108 by kernel_rfl)
def cr108 := @crF tab 108 _ _ _ _ (show findRow tab 108 = some r108 by kernel_rfl)
def cw160 := @cwF tab 160 _ _ _ _ (show findRow tab 160 = some r160 by kernel_rfl)
def cw154 := @cwF tab 154 _ _ _ _ (show findRow tab 154 = some r154 by kernel_rfl)
def cw378 := @cwF tab 378 _ _ _ _ (show findRow tab 378 = some r378 by kernel_rfl)
def cw377 := @cwF tab 377 _ _ _ _ (show findRow tab 377 = some r377 by kernel_rfl)
def cw373 := @cwF tab 373 _ _ _ _ (show findRow tab 373 = some r373 by kernel_rfl)
def cr373 := @crF tab 373 _ _ _ _ (show findRow tab 373 = some r373 by kernel_rfl)
def cw399 := @cwF tab 399 _ _ _ _ (show findRow tab 399 = some r399 by kernel_rfl)
def cr399 := @crF tab 399 _ _ _ _ (show findRow tab 399 = some r399 by kernel_rfl)
def cw193 := @cwF tab 193 _ _ _ _ (show findRow tab 193 = some r193 by kernel_rfl)
def cr193 := @crF tab 193 _ _ _ _ (show findRow tab 193 = some r193 by kernel_rfl)
def cw458 := @cwF tab 458 _ _ _ _ (show findRow tab 458 = some r458 by kernel_rfl)
def cw155 := @cwF tab 155 _ _ _ _ (show findRow tab 155 = some r155 by kernel_rfl)
def cr155 := @crF tab 155 _ _ _ _ (show findRow tab 155 = some r155 by kernel_rfl)
def cw376 := @cwF tab 376 _ _ _ _ (show findRow tab 376 = some r376 by kernel_rfl)
def cr376 := @crF tab 376 _ _ _ _ (show findRow tab 376 = some r376 by kernel_rfl)
def cw374 := @cwF tab 374 _ _ _ _ (show findRow tab 374 = some r374 by kernel_rfl)
def cr374 := @crF tab 374 _ _ _ _ (show findRow tab 374 = some r374 by kernel_rfl)
theorem sound195 (k : Nat) : SoundFn Tryz.prog (fidOf ns) 3 (evFun (clOf (modsR tab k) 3) s195) :=
  fun_sound (num_fid nsND) mix (tab_sound nsND mix tabOK k) 3 (show compF Tryz.prog (numOf ns) a195 3 = some s195 by kernel_rfl)
theorem sound191 (k : Nat) : SoundFn Tryz.prog (fidOf ns) 4 (evFun (clOf (modsR tab k) 3) s191) :=
  fun_sound (num_fid nsND) mix (tab_sound nsND mix tabOK k) 3 (show compF Tryz.prog (numOf ns) a191 4 = some s191 by kernel_rfl)
attribute [simp] z0 z1 z2 z3 z4 z5 z6 z7
end Go.Proofs.YtlpchliomdomdaaGreat.LgTab
