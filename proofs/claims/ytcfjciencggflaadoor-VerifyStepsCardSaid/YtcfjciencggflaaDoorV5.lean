import Derived.Test.YtcfjciencggflaaDoorShaS
import Derived.Test.YtcfjciencggflaaDoorV4
set_option linter.unusedVariables false
set_option linter.unusedSimpArgs false
/- The sums of the keys, step by step. Printed by gen_keys.py. -/
namespace Go.Proofs.YtcfjciencggflaaDoor

theorem sched_sched (m : List UInt32) (n : Nat) : ∀ k, sched m (n + k) = sched (sched m n) k
  | 0 => rfl
  | k + 1 => by
    show sched m (n + k) ++ [nextW (sched m (n + k))] = sched (sched m n) k ++ [nextW (sched (sched m n) k)]
    rw [sched_sched m n k]
def fold8 (s : List UInt32) (l : List (UInt32 × UInt32)) : List UInt32 := l.foldl (fun s kw => step kw.1 kw.2 s) s
theorem rounds_fold (m : List UInt32) (hm : m.length = 16) (s : List UInt32) : ∀ n, n ≤ 64 → rounds m n s = fold8 s ((roundK.zip (sched m 48)).take n)
  | 0, _ => rfl
  | n + 1, h => by
    have hl := sched_length m hm 48
    have hz : (roundK.zip (sched m 48)).length = 64 := by rw [List.length_zip, hl]; rfl
    rw [List.take_succ_eq_append_getElem (by omega)]
    unfold fold8
    rw [List.foldl_append]
    show step (roundK.getD n 0) (W m n) (rounds m n s) = _
    rw [rounds_fold m hm s n (by omega)]
    have hk : n < roundK.length := by show n < 64; omega
    have hw : n < (sched m 48).length := by omega
    simp [fold8, W, List.getD_eq_getElem?_getD, hk, hw]
theorem fold8_append (s : List UInt32) (a b : List (UInt32 × UInt32)) : fold8 s (a ++ b) = fold8 (fold8 s a) b := List.foldl_append
def oct (W : List UInt32) (j : Nat) : List (UInt32 × UInt32) := ((roundK.zip W).drop j).take 8
theorem sched6 {a b c d e f g : List UInt32} (h0 : sched a 8 = b) (h1 : sched b 8 = c) (h2 : sched c 8 = d) (h3 : sched d 8 = e) (h4 : sched e 8 = f) (h5 : sched f 8 = g) : sched a 48 = g := by
  rw [show (48 : Nat) = 8 + 40 from rfl, sched_sched, h0, show (40 : Nat) = 8 + 32 from rfl, sched_sched, h1, show (32 : Nat) = 8 + 24 from rfl, sched_sched, h2, show (24 : Nat) = 8 + 16 from rfl, sched_sched, h3, show (16 : Nat) = 8 + 8 from rfl, sched_sched, h4, h5]
theorem fold64 {l l0 l1 l2 l3 l4 l5 l6 l7 : List (UInt32 × UInt32)} {s1 s2 s3 s4 s5 s6 s7 s8 : List UInt32} (h0 : fold8 [1779033703, 3144134277, 1013904242, 2773480762, 1359893119, 2600822924, 528734635, 1541459225] l0 = s1) (h1 : fold8 s1 l1 = s2) (h2 : fold8 s2 l2 = s3) (h3 : fold8 s3 l3 = s4) (h4 : fold8 s4 l4 = s5) (h5 : fold8 s5 l5 = s6) (h6 : fold8 s6 l6 = s7) (h7 : fold8 s7 l7 = s8) (e : l.take 64 = l0 ++ (l1 ++ (l2 ++ (l3 ++ (l4 ++ (l5 ++ (l6 ++ l7))))))) : fold8 first (l.take 64) = s8 := by
  rw [e]
  refine (show fold8 first _ = fold8 [1779033703, 3144134277, 1013904242, 2773480762, 1359893119, 2600822924, 528734635, 1541459225] _ from rfl).trans ?_
  rw [fold8_append, h0, fold8_append, h1, fold8_append, h2, fold8_append, h3, fold8_append, h4, fold8_append, h5, fold8_append, h6, h7]
theorem sum_of {p P : List UInt8} {M W S o : List UInt32} (hp : padded p = P ∧ P.length = 64) (hw : wordsOf P = M) (hM : M.length = 16) (hs : sched M 48 = W) (hr : fold8 first ((roundK.zip W).take 64) = S) (ho : List.zipWith wAdd first S = o) : sum256 p = bytesOf o := by
  obtain ⟨hp, hl⟩ := hp
  unfold sum256
  rw [hp, run_block (by rw [hl]; exact Nat.le_refl _), List.take_of_length_le (by rw [hl]; exact Nat.le_refl _), hw, run_short (by rw [List.length_drop, hl]; decide)]
  show bytesOf (List.zipWith wAdd first (rounds M 64 first)) = _
  rw [rounds_fold M hM first 64 (Nat.le_refl _), hs, hr, ho]
def k0_a : List UInt32 := [1795194880, 0, 0, 0, 0, 0, 0, 0, 0, 0, 0, 0, 0, 0, 0, 16]
def k0_b : List UInt32 := k0_a ++ [1795194880, 655360, 1343944896, 1073742468, 594289840, 16951296, 2529611490, 1811988491]
def k0_c : List UInt32 := k0_b ++ [3197282312, 3359298672, 1093332661, 1408276575, 731834891, 4126641794, 877844243, 586485118]
def k0_d : List UInt32 := k0_c ++ [3835924616, 2631980555, 1587079061, 1250543212, 850765288, 1972141927, 1264341318, 2912151536]
def k0_e : List UInt32 := k0_d ++ [1268242188, 2399878088, 804791604, 722140515, 2958588204, 4153492603, 3502987844, 3801829901]
def k0_f : List UInt32 := k0_e ++ [1798621519, 2833539492, 664253609, 1996032873, 915572648, 2093524457, 1312410850, 1128668349]
def k0_g : List UInt32 := k0_f ++ [579365924, 3916089295, 1593763903, 3991038965, 2385842706, 62131970, 311375580, 761828694]
theorem k0_w0 : sched k0_a 8 = k0_b := by decide +kernel
theorem k0_w1 : sched k0_b 8 = k0_c := by decide +kernel
theorem k0_w2 : sched k0_c 8 = k0_d := by decide +kernel
theorem k0_w3 : sched k0_d 8 = k0_e := by decide +kernel
theorem k0_w4 : sched k0_e 8 = k0_f := by decide +kernel
theorem k0_w5 : sched k0_f 8 = k0_g := by decide +kernel
theorem k0_s : sched k0_a 48 = k0_g := sched6 k0_w0 k0_w1 k0_w2 k0_w3 k0_w4 k0_w5
def k0_t1 : List UInt32 := [2635519388, 4271044344, 557205749, 3227966613, 2548877449, 2145177667, 1172372811, 3802331688]
def k0_t2 : List UInt32 := [796839888, 2038669727, 1268198047, 456563609, 2186981389, 1488196219, 821167182, 2966900502]
def k0_t3 : List UInt32 := [137288586, 1119020681, 930815567, 3558420408, 3041850041, 1613311685, 896772315, 2991298002]
def k0_t4 : List UInt32 := [1914725305, 1673855594, 1893917374, 1125009001, 4186416563, 3527238665, 1212375918, 3695051900]
def k0_t5 : List UInt32 := [4066949338, 284323312, 1825560124, 3045359762, 1612629513, 2397724823, 2277481389, 2358348645]
def k0_t6 : List UInt32 := [2723567588, 2379434162, 3367070951, 3842638385, 1258273471, 1473269251, 55213958, 2541705221]
def k0_t7 : List UInt32 := [3079821432, 505486918, 3237440301, 1761177109, 1172923407, 262193839, 3329605581, 768451391]
def k0_t8 : List UInt32 := [3324951738, 3025301520, 555858538, 995592204, 1826695378, 887491350, 1410646205, 2226332940]
theorem k0_r0 : fold8 [1779033703, 3144134277, 1013904242, 2773480762, 1359893119, 2600822924, 528734635, 1541459225] (oct k0_g 0) = k0_t1 := by decide +kernel
theorem k0_r1 : fold8 k0_t1 (oct k0_g 8) = k0_t2 := by decide +kernel
theorem k0_r2 : fold8 k0_t2 (oct k0_g 16) = k0_t3 := by decide +kernel
theorem k0_r3 : fold8 k0_t3 (oct k0_g 24) = k0_t4 := by decide +kernel
theorem k0_r4 : fold8 k0_t4 (oct k0_g 32) = k0_t5 := by decide +kernel
theorem k0_r5 : fold8 k0_t5 (oct k0_g 40) = k0_t6 := by decide +kernel
theorem k0_r6 : fold8 k0_t6 (oct k0_g 48) = k0_t7 := by decide +kernel
theorem k0_r7 : fold8 k0_t7 (oct k0_g 56) = k0_t8 := by decide +kernel
theorem k0_m : sum256 [107, 0] = bytesOf [809018145, 1874468501, 1569762780, 3769072966, 3186588497, 3488314274, 1939380840, 3767792165] := sum_of (P := [107, 0, 128] ++ List.replicate 60 0 ++ [16]) (M := k0_a) (W := k0_g) (S := k0_t8) (by decide +kernel) (by decide +kernel) (by decide +kernel) k0_s (fold64 (l := roundK.zip k0_g) k0_r0 k0_r1 k0_r2 k0_r3 k0_r4 k0_r5 k0_r6 k0_r7 (by decide +kernel)) (by decide +kernel)
def k1_a : List UInt32 := [1795260416, 0, 0, 0, 0, 0, 0, 0, 0, 0, 0, 0, 0, 0, 0, 16]
def k1_b : List UInt32 := k1_a ++ [1795260416, 655360, 4028299392, 1073742468, 594305200, 16951296, 3158757075, 1812054027]
def k1_c : List UInt32 := k1_b ++ [3198597144, 3359298672, 3407930285, 1408291935, 1855208652, 754421382, 636084132, 1660276718]
def k1_d : List UInt32 := k1_c ++ [2272105648, 3405806315, 3172754802, 1555429466, 3099495802, 1835174828, 567518253, 2430070356]
def k1_e : List UInt32 := k1_d ++ [2110623845, 171268326, 600206881, 2925092648, 3241779816, 239462548, 1064030122, 1055768647]
def k1_f : List UInt32 := k1_e ++ [2059689, 846252042, 2282795079, 3694157984, 212547182, 2696179861, 2674509732, 3905100716]
def k1_g : List UInt32 := k1_f ++ [648716727, 1586949333, 406412982, 137080319, 980093339, 4050338275, 131135555, 3086209455]
theorem k1_w0 : sched k1_a 8 = k1_b := by decide +kernel
theorem k1_w1 : sched k1_b 8 = k1_c := by decide +kernel
theorem k1_w2 : sched k1_c 8 = k1_d := by decide +kernel
theorem k1_w3 : sched k1_d 8 = k1_e := by decide +kernel
theorem k1_w4 : sched k1_e 8 = k1_f := by decide +kernel
theorem k1_w5 : sched k1_f 8 = k1_g := by decide +kernel
theorem k1_s : sched k1_a 48 = k1_g := sched6 k1_w0 k1_w1 k1_w2 k1_w3 k1_w4 k1_w5
def k1_t1 : List UInt32 := [417539362, 199077959, 1152252239, 2859691318, 3800129393, 1992492817, 218559646, 382264635]
def k1_t2 : List UInt32 := [3467982465, 196306958, 2481921704, 3315955696, 3429111123, 3049652289, 1169512322, 2939035372]
def k1_t3 : List UInt32 := [371571078, 3788500769, 1161715635, 3643496866, 1480335747, 1320138149, 748200784, 2325366495]
def k1_t4 : List UInt32 := [103188893, 1430780480, 3300119322, 2502134080, 2671500318, 4078188091, 1880164261, 3869260887]
def k1_t5 : List UInt32 := [1302273762, 78161234, 4051207669, 2141379324, 1733091587, 4260441717, 559945478, 1250118794]
def k1_t6 : List UInt32 := [848539834, 1499415281, 1657363719, 536812175, 3783167335, 3086345967, 1257079940, 4135573167]
def k1_t7 : List UInt32 := [3113991557, 3143624599, 3089589924, 1864335831, 3170467588, 2782650928, 2880814301, 2044579464]
def k1_t8 : List UInt32 := [621520324, 4200473792, 1527712115, 4066795754, 4220916277, 661825423, 4258471972, 715784095]
theorem k1_r0 : fold8 [1779033703, 3144134277, 1013904242, 2773480762, 1359893119, 2600822924, 528734635, 1541459225] (oct k1_g 0) = k1_t1 := by decide +kernel
theorem k1_r1 : fold8 k1_t1 (oct k1_g 8) = k1_t2 := by decide +kernel
theorem k1_r2 : fold8 k1_t2 (oct k1_g 16) = k1_t3 := by decide +kernel
theorem k1_r3 : fold8 k1_t3 (oct k1_g 24) = k1_t4 := by decide +kernel
theorem k1_r4 : fold8 k1_t4 (oct k1_g 32) = k1_t5 := by decide +kernel
theorem k1_r5 : fold8 k1_t5 (oct k1_g 40) = k1_t6 := by decide +kernel
theorem k1_r6 : fold8 k1_t6 (oct k1_g 48) = k1_t7 := by decide +kernel
theorem k1_r7 : fold8 k1_t7 (oct k1_g 56) = k1_t8 := by decide +kernel
theorem k1_m : sum256 [107, 1] = bytesOf [2400554027, 3049640773, 2541616357, 2545309220, 1285842100, 3262648347, 492239311, 2257243320] := sum_of (P := [107, 1, 128] ++ List.replicate 60 0 ++ [16]) (M := k1_a) (W := k1_g) (S := k1_t8) (by decide +kernel) (by decide +kernel) (by decide +kernel) k1_s (fold64 (l := roundK.zip k1_g) k1_r0 k1_r1 k1_r2 k1_r3 k1_r4 k1_r5 k1_r6 k1_r7 (by decide +kernel)) (by decide +kernel)
def k2_a : List UInt32 := [1795325952, 0, 0, 0, 0, 0, 0, 0, 0, 0, 0, 0, 0, 0, 0, 16]
def k2_b : List UInt32 := k2_a ++ [1795325952, 655360, 270202945, 1073742468, 590130352, 16951296, 3284590312, 1812119563]
def k2_c : List UInt32 := k2_b ++ [3030616108, 1211814770, 4114540203, 1458704478, 2965402497, 234372107, 3282280049, 2078372168]
def k2_d : List UInt32 := k2_c ++ [4026849462, 3390038137, 1587527720, 1272027591, 4081957943, 1119184374, 1420077905, 676526163]
def k2_e : List UInt32 := k2_d ++ [2564214871, 3136017806, 628866766, 3828473881, 3033765627, 1262677596, 1767907597, 2239556791]
def k2_f : List UInt32 := k2_e ++ [3531178276, 2262621331, 351293523, 354551153, 509990493, 1897066700, 1230143105, 695139629]
def k2_g : List UInt32 := k2_f ++ [2407631270, 3899365888, 2276090208, 3311362842, 2903379014, 305297652, 2664981487, 3154212310]
theorem k2_w0 : sched k2_a 8 = k2_b := by decide +kernel
theorem k2_w1 : sched k2_b 8 = k2_c := by decide +kernel
theorem k2_w2 : sched k2_c 8 = k2_d := by decide +kernel
theorem k2_w3 : sched k2_d 8 = k2_e := by decide +kernel
theorem k2_w4 : sched k2_e 8 = k2_f := by decide +kernel
theorem k2_w5 : sched k2_f 8 = k2_g := by decide +kernel
theorem k2_s : sched k2_a 48 = k2_g := sched6 k2_w0 k2_w1 k2_w2 k2_w3 k2_w4 k2_w5
def k2_t1 : List UInt32 := [1636701523, 191398515, 2218164254, 3570053389, 3721958281, 153649565, 1576171739, 3366873800]
def k2_t2 : List UInt32 := [3141798209, 1903809763, 999634329, 2324097039, 2836901023, 514086908, 630499390, 3908387018]
def k2_t3 : List UInt32 := [3276504683, 2052892262, 2353062331, 835712150, 3271023866, 245404189, 3429565226, 3307023749]
def k2_t4 : List UInt32 := [3740427435, 4162442896, 1220316875, 3061796435, 1298812880, 1828607549, 1251731656, 672957097]
def k2_t5 : List UInt32 := [78700703, 1628136416, 4029588808, 251228014, 269071329, 2858540255, 3985187424, 2719078685]
def k2_t6 : List UInt32 := [387095261, 1727111507, 739482029, 2919876663, 1704481575, 2364291451, 1970513936, 2826540847]
def k2_t7 : List UInt32 := [2205718969, 3954810859, 1570487516, 1683073039, 3132714017, 972249208, 4175302696, 930277545]
def k2_t8 : List UInt32 := [260454934, 1733684081, 2024927082, 1335685788, 2698901372, 2223763338, 1954653425, 929923956]
theorem k2_r0 : fold8 [1779033703, 3144134277, 1013904242, 2773480762, 1359893119, 2600822924, 528734635, 1541459225] (oct k2_g 0) = k2_t1 := by decide +kernel
theorem k2_r1 : fold8 k2_t1 (oct k2_g 8) = k2_t2 := by decide +kernel
theorem k2_r2 : fold8 k2_t2 (oct k2_g 16) = k2_t3 := by decide +kernel
theorem k2_r3 : fold8 k2_t3 (oct k2_g 24) = k2_t4 := by decide +kernel
theorem k2_r4 : fold8 k2_t4 (oct k2_g 32) = k2_t5 := by decide +kernel
theorem k2_r5 : fold8 k2_t5 (oct k2_g 40) = k2_t6 := by decide +kernel
theorem k2_r6 : fold8 k2_t6 (oct k2_g 48) = k2_t7 := by decide +kernel
theorem k2_r7 : fold8 k2_t7 (oct k2_g 56) = k2_t8 := by decide +kernel
theorem k2_m : sum256 [107, 2] = bytesOf [2039488637, 582851062, 3038831324, 4109166550, 4058794491, 529618966, 2483388060, 2471383181] := sum_of (P := [107, 2, 128] ++ List.replicate 60 0 ++ [16]) (M := k2_a) (W := k2_g) (S := k2_t8) (by decide +kernel) (by decide +kernel) (by decide +kernel) k2_s (fold64 (l := roundK.zip k2_g) k2_r0 k2_r1 k2_r2 k2_r3 k2_r4 k2_r5 k2_r6 k2_r7 (by decide +kernel)) (by decide +kernel)
def k3_a : List UInt32 := [1795391488, 0, 0, 0, 0, 0, 0, 0, 0, 0, 0, 0, 0, 0, 0, 16]
def k3_b : List UInt32 := k3_a ++ [1795391488, 655360, 2954557441, 1073742468, 590145712, 16951296, 3913735897, 1812185099]
def k3_c : List UInt32 := k3_b ++ [3029833788, 1211814770, 2134174659, 1458719838, 3918054726, 1492663309, 104434641, 3151970168]
def k3_d : List UInt32 := k3_c ++ [668128557, 2736762900, 929634394, 3048773078, 3581082604, 2030387798, 3007278971, 659241276]
def k3_e : List UInt32 := k3_d ++ [193029689, 792485040, 4197121841, 1943984376, 2709254738, 2213965709, 3735197409, 2910251210]
def k3_f : List UInt32 := k3_e ++ [1103859618, 993495765, 2546320, 158535453, 46838185, 2029441673, 578839644, 1191961754]
def k3_g : List UInt32 := k3_f ++ [4160495351, 2175817071, 3638133421, 3839691148, 2621597637, 1243024889, 3753018432, 3155593188]
theorem k3_w0 : sched k3_a 8 = k3_b := by decide +kernel
theorem k3_w1 : sched k3_b 8 = k3_c := by decide +kernel
theorem k3_w2 : sched k3_c 8 = k3_d := by decide +kernel
theorem k3_w3 : sched k3_d 8 = k3_e := by decide +kernel
theorem k3_w4 : sched k3_e 8 = k3_f := by decide +kernel
theorem k3_w5 : sched k3_f 8 = k3_g := by decide +kernel
theorem k3_s : sched k3_a 48 = k3_g := sched6 k3_w0 k3_w1 k3_w2 k3_w3 k3_w4 k3_w5
def k3_t1 : List UInt32 := [3657424785, 170785072, 3161579873, 630394179, 2426356572, 3295952601, 2818838101, 2115595486]
def k3_t2 : List UInt32 := [3696994357, 1458304384, 1045157969, 873358562, 1029390513, 3913039814, 1464830183, 2886035243]
def k3_t3 : List UInt32 := [133899521, 1794986465, 1462903620, 1480617225, 159976700, 2909999286, 781916440, 2589273228]
def k3_t4 : List UInt32 := [2587880308, 612752121, 4121645768, 396943155, 2547487520, 2472537137, 2588246112, 3166108748]
def k3_t5 : List UInt32 := [860097373, 329968697, 697277772, 3161547376, 2351030737, 2338731777, 640111744, 3810663906]
def k3_t6 : List UInt32 := [2137359818, 1415222437, 3254095000, 3748536263, 1238496338, 2015378548, 764769353, 1134065564]
def k3_t7 : List UInt32 := [3012458777, 819322204, 2323481983, 791896111, 2289416312, 235905856, 2458477524, 1167302245]
def k3_t8 : List UInt32 := [135342359, 1217975886, 1324141572, 1750127275, 429999743, 2834641276, 3626089816, 4013301295]
theorem k3_r0 : fold8 [1779033703, 3144134277, 1013904242, 2773480762, 1359893119, 2600822924, 528734635, 1541459225] (oct k3_g 0) = k3_t1 := by decide +kernel
theorem k3_r1 : fold8 k3_t1 (oct k3_g 8) = k3_t2 := by decide +kernel
theorem k3_r2 : fold8 k3_t2 (oct k3_g 16) = k3_t3 := by decide +kernel
theorem k3_r3 : fold8 k3_t3 (oct k3_g 24) = k3_t4 := by decide +kernel
theorem k3_r4 : fold8 k3_t4 (oct k3_g 32) = k3_t5 := by decide +kernel
theorem k3_r5 : fold8 k3_t5 (oct k3_g 40) = k3_t6 := by decide +kernel
theorem k3_r6 : fold8 k3_t6 (oct k3_g 48) = k3_t7 := by decide +kernel
theorem k3_r7 : fold8 k3_t7 (oct k3_g 56) = k3_t8 := by decide +kernel
theorem k3_m : sum256 [107, 3] = bytesOf [1914376062, 67142867, 2338045814, 228640741, 1789892862, 1140496904, 4154824451, 1259793224] := sum_of (P := [107, 3, 128] ++ List.replicate 60 0 ++ [16]) (M := k3_a) (W := k3_g) (S := k3_t8) (by decide +kernel) (by decide +kernel) (by decide +kernel) k3_s (fold64 (l := roundK.zip k3_g) k3_r0 k3_r1 k3_r2 k3_r3 k3_r4 k3_r5 k3_r6 k3_r7 (by decide +kernel)) (by decide +kernel)
def k4_a : List UInt32 := [1795457024, 0, 0, 0, 0, 0, 0, 0, 0, 0, 0, 0, 0, 0, 0, 16]
def k4_b : List UInt32 := k4_a ++ [1795457024, 655360, 3491428802, 1073742468, 602748080, 16951296, 1019670230, 1812250635]
def k4_c : List UInt32 := k4_b ++ [2865293376, 3359298676, 2835543179, 1416898655, 637634844, 3455601812, 2175588271, 141225313]
def k4_d : List UInt32 := k4_c ++ [2755855436, 4127167195, 121047262, 3391355720, 24961043, 369382288, 1553458784, 1646523287]
def k4_e : List UInt32 := k4_d ++ [4131231843, 375678003, 2958602968, 1935062282, 2921529132, 832960657, 2087641116, 2396204269]
def k4_f : List UInt32 := k4_e ++ [3030188674, 419436274, 298578844, 2685513654, 4041562136, 2804709426, 3506721698, 2301294649]
def k4_g : List UInt32 := k4_f ++ [817603810, 3611795973, 2937764431, 2097594200, 3121157288, 443866007, 2961588421, 162069635]
theorem k4_w0 : sched k4_a 8 = k4_b := by decide +kernel
theorem k4_w1 : sched k4_b 8 = k4_c := by decide +kernel
theorem k4_w2 : sched k4_c 8 = k4_d := by decide +kernel
theorem k4_w3 : sched k4_d 8 = k4_e := by decide +kernel
theorem k4_w4 : sched k4_e 8 = k4_f := by decide +kernel
theorem k4_w5 : sched k4_f 8 = k4_g := by decide +kernel
theorem k4_s : sched k4_a 48 = k4_g := sched6 k4_w0 k4_w1 k4_w2 k4_w3 k4_w4 k4_w5
def k4_t1 : List UInt32 := [1008753960, 2973424076, 174331483, 519045054, 2220896933, 361336697, 4086029647, 839393689]
def k4_t2 : List UInt32 := [1513912135, 311719382, 3016535618, 1223810482, 2030419133, 121454245, 2345213508, 3398605299]
def k4_t3 : List UInt32 := [316757398, 2920516367, 2812973834, 1624405144, 3224502757, 1612387078, 1680258725, 3856303096]
def k4_t4 : List UInt32 := [572571083, 4223830952, 407378050, 365970385, 3327146211, 2275131887, 3397635408, 1639578832]
def k4_t5 : List UInt32 := [20438748, 2372087698, 983903152, 2828301252, 3530003563, 1820922913, 1352015103, 2116630863]
def k4_t6 : List UInt32 := [3619153559, 3128973952, 3451693489, 2116960442, 275823686, 541751922, 1368011998, 2096704895]
def k4_t7 : List UInt32 := [2966373255, 5856728, 2942831533, 4159676468, 1158576120, 3539224613, 1452123245, 3744174765]
def k4_t8 : List UInt32 := [1137912551, 3877926872, 497900581, 2815324784, 2545674039, 2138727487, 2226136602, 899424021]
theorem k4_r0 : fold8 [1779033703, 3144134277, 1013904242, 2773480762, 1359893119, 2600822924, 528734635, 1541459225] (oct k4_g 0) = k4_t1 := by decide +kernel
theorem k4_r1 : fold8 k4_t1 (oct k4_g 8) = k4_t2 := by decide +kernel
theorem k4_r2 : fold8 k4_t2 (oct k4_g 16) = k4_t3 := by decide +kernel
theorem k4_r3 : fold8 k4_t3 (oct k4_g 24) = k4_t4 := by decide +kernel
theorem k4_r4 : fold8 k4_t4 (oct k4_g 32) = k4_t5 := by decide +kernel
theorem k4_r5 : fold8 k4_t5 (oct k4_g 40) = k4_t6 := by decide +kernel
theorem k4_r6 : fold8 k4_t6 (oct k4_g 48) = k4_t7 := by decide +kernel
theorem k4_r7 : fold8 k4_t7 (oct k4_g 56) = k4_t8 := by decide +kernel
theorem k4_m : sum256 [107, 4] = bytesOf [2916946254, 2727093853, 1511804823, 1293838250, 3905567158, 444583115, 2754871237, 2440883246] := sum_of (P := [107, 4, 128] ++ List.replicate 60 0 ++ [16]) (M := k4_a) (W := k4_g) (S := k4_t8) (by decide +kernel) (by decide +kernel) (by decide +kernel) k4_s (fold64 (l := roundK.zip k4_g) k4_r0 k4_r1 k4_r2 k4_r3 k4_r4 k4_r5 k4_r6 k4_r7 (by decide +kernel)) (by decide +kernel)
def k5_a : List UInt32 := [1795522560, 0, 0, 0, 0, 0, 0, 0, 0, 0, 0, 0, 0, 0, 0, 16]
def k5_b : List UInt32 := k5_a ++ [1795522560, 655360, 1880816002, 1073742468, 602763440, 16951296, 373747431, 1812316171]
def k5_c : List UInt32 := k5_b ++ [2863986768, 3359298676, 587788214, 1416914015, 1797767134, 3573042324, 3021467941, 1213819153]
def k5_d : List UInt32 := k5_c ++ [3118273003, 1901036024, 4019669703, 337486812, 4010343743, 2450046618, 721324242, 4172629943]
def k5_e : List UInt32 := k5_d ++ [4144531186, 380621379, 938683444, 3039741537, 282438777, 1567373740, 2187634141, 1602872449]
def k5_f : List UInt32 := k5_e ++ [3048751092, 3097907360, 2404138439, 1691265223, 4004626007, 2567862399, 2490192008, 2084028404]
def k5_g : List UInt32 := k5_f ++ [579304392, 1941199518, 1404006867, 3842374228, 1579652499, 3060954873, 2809605054, 3888196770]
theorem k5_w0 : sched k5_a 8 = k5_b := by decide +kernel
theorem k5_w1 : sched k5_b 8 = k5_c := by decide +kernel
theorem k5_w2 : sched k5_c 8 = k5_d := by decide +kernel
theorem k5_w3 : sched k5_d 8 = k5_e := by decide +kernel
theorem k5_w4 : sched k5_e 8 = k5_f := by decide +kernel
theorem k5_w5 : sched k5_f 8 = k5_g := by decide +kernel
theorem k5_s : sched k5_a 48 = k5_g := sched6 k5_w0 k5_w1 k5_w2 k5_w3 k5_w4 k5_w5
def k5_t1 : List UInt32 := [648647585, 52077004, 1157414312, 2607985529, 1438878429, 817871855, 1833416296, 4224470119]
def k5_t2 : List UInt32 := [3523901175, 2168330545, 212899183, 1244243489, 3204866771, 3884635666, 1244644687, 3718581124]
def k5_t3 : List UInt32 := [3739533329, 2411964773, 1133323428, 1929978815, 1102104245, 2945793692, 1851907352, 1208098907]
def k5_t4 : List UInt32 := [1445550461, 4262181527, 3004714750, 1860878443, 953481572, 588875220, 1100688289, 77646154]
def k5_t5 : List UInt32 := [3480629776, 986078794, 327590924, 919348967, 177729138, 4159343904, 2098017334, 2358344737]
def k5_t6 : List UInt32 := [724951876, 2109831232, 3511811098, 2989731090, 1936544495, 4027487387, 3578213193, 1220797240]
def k5_t7 : List UInt32 := [2952412524, 2636705049, 303411945, 311136623, 342013828, 3674834640, 1957114668, 4205035102]
def k5_t8 : List UInt32 := [2333714347, 3015213304, 3260900607, 1220353663, 1408277287, 1080153115, 977711924, 4138777169]
theorem k5_r0 : fold8 [1779033703, 3144134277, 1013904242, 2773480762, 1359893119, 2600822924, 528734635, 1541459225] (oct k5_g 0) = k5_t1 := by decide +kernel
theorem k5_r1 : fold8 k5_t1 (oct k5_g 8) = k5_t2 := by decide +kernel
theorem k5_r2 : fold8 k5_t2 (oct k5_g 16) = k5_t3 := by decide +kernel
theorem k5_r3 : fold8 k5_t3 (oct k5_g 24) = k5_t4 := by decide +kernel
theorem k5_r4 : fold8 k5_t4 (oct k5_g 32) = k5_t5 := by decide +kernel
theorem k5_r5 : fold8 k5_t5 (oct k5_g 40) = k5_t6 := by decide +kernel
theorem k5_r6 : fold8 k5_t6 (oct k5_g 48) = k5_t7 := by decide +kernel
theorem k5_r7 : fold8 k5_t7 (oct k5_g 56) = k5_t8 := by decide +kernel
theorem k5_m : sum256 [107, 5] = bytesOf [4112748050, 1864380285, 4274804849, 3993834425, 2768170406, 3680976039, 1506446559, 1385269098] := sum_of (P := [107, 5, 128] ++ List.replicate 60 0 ++ [16]) (M := k5_a) (W := k5_g) (S := k5_t8) (by decide +kernel) (by decide +kernel) (by decide +kernel) k5_s (fold64 (l := roundK.zip k5_g) k5_r0 k5_r1 k5_r2 k5_r3 k5_r4 k5_r5 k5_r6 k5_r7 (by decide +kernel)) (by decide +kernel)
def k6_a : List UInt32 := [1795588096, 0, 0, 0, 0, 0, 0, 0, 0, 0, 0, 0, 0, 0, 0, 16]
def k6_b : List UInt32 := k6_a ++ [1795588096, 655360, 2417686851, 1073742468, 598588592, 16951296, 1774649052, 1812381707]
def k6_c : List UInt32 := k6_b ++ [2696530020, 1211814774, 488041661, 1467326558, 2899382418, 3455597336, 914028483, 1766625666]
def k6_d : List UInt32 := k6_c ++ [1482099399, 595568196, 1272904921, 533872979, 1034797827, 2858287261, 3629920497, 874849640]
def k6_e : List UInt32 := k6_d ++ [3017075863, 2363858233, 121033553, 2267241713, 836060259, 2842627636, 2733455852, 3408114122]
def k6_f : List UInt32 := k6_e ++ [2262313408, 3732905539, 445475555, 4287872346, 2910860553, 3943450565, 1598376486, 1750512604]
def k6_g : List UInt32 := k6_f ++ [2757745558, 1296018090, 1110535916, 3858268477, 2005845678, 3700940466, 660834273, 534917739]
theorem k6_w0 : sched k6_a 8 = k6_b := by decide +kernel
theorem k6_w1 : sched k6_b 8 = k6_c := by decide +kernel
theorem k6_w2 : sched k6_c 8 = k6_d := by decide +kernel
theorem k6_w3 : sched k6_d 8 = k6_e := by decide +kernel
theorem k6_w4 : sched k6_e 8 = k6_f := by decide +kernel
theorem k6_w5 : sched k6_f 8 = k6_g := by decide +kernel
theorem k6_s : sched k6_a 48 = k6_g := sched6 k6_w0 k6_w1 k6_w2 k6_w3 k6_w4 k6_w5
def k6_t1 : List UInt32 := [3939967723, 3085156071, 146802521, 2372726128, 2776168982, 4062839451, 1733132230, 2579436418]
def k6_t2 : List UInt32 := [1262986686, 626884701, 3538493794, 3802452520, 3350746777, 1505346653, 2080050040, 1111905129]
def k6_t3 : List UInt32 := [1054646142, 1083934714, 2444558770, 1822684615, 4171480206, 2167237762, 264940175, 2277646296]
def k6_t4 : List UInt32 := [2349848347, 4189607138, 3794277064, 2036380102, 4064690960, 582935481, 558636811, 4232517899]
def k6_t5 : List UInt32 := [3713858678, 2765377903, 3413846101, 2182770252, 903653942, 2746372712, 3747340086, 3681606135]
def k6_t6 : List UInt32 := [4023669289, 2014413700, 1594896434, 2188288519, 3368484496, 297140620, 711779588, 3680641860]
def k6_t7 : List UInt32 := [2081112169, 42308605, 1393215111, 1591584940, 2770439446, 3021684443, 3314767885, 2353529235]
def k6_t8 : List UInt32 := [3565321943, 1380516169, 184846144, 3977948060, 1492314817, 1712055513, 3910877314, 3714344639]
theorem k6_r0 : fold8 [1779033703, 3144134277, 1013904242, 2773480762, 1359893119, 2600822924, 528734635, 1541459225] (oct k6_g 0) = k6_t1 := by decide +kernel
theorem k6_r1 : fold8 k6_t1 (oct k6_g 8) = k6_t2 := by decide +kernel
theorem k6_r2 : fold8 k6_t2 (oct k6_g 16) = k6_t3 := by decide +kernel
theorem k6_r3 : fold8 k6_t3 (oct k6_g 24) = k6_t4 := by decide +kernel
theorem k6_r4 : fold8 k6_t4 (oct k6_g 32) = k6_t5 := by decide +kernel
theorem k6_r5 : fold8 k6_t5 (oct k6_g 40) = k6_t6 := by decide +kernel
theorem k6_r6 : fold8 k6_t6 (oct k6_g 48) = k6_t7 := by decide +kernel
theorem k6_r7 : fold8 k6_t7 (oct k6_g 56) = k6_t8 := by decide +kernel
theorem k6_m : sum256 [107, 6] = bytesOf [1049388350, 229683150, 1198750386, 2456461526, 2852207936, 17911141, 144644653, 960836568] := sum_of (P := [107, 6, 128] ++ List.replicate 60 0 ++ [16]) (M := k6_a) (W := k6_g) (S := k6_t8) (by decide +kernel) (by decide +kernel) (by decide +kernel) k6_s (fold64 (l := roundK.zip k6_g) k6_r0 k6_r1 k6_r2 k6_r3 k6_r4 k6_r5 k6_r6 k6_r7 (by decide +kernel)) (by decide +kernel)
def k7_a : List UInt32 := [1795653632, 0, 0, 0, 0, 0, 0, 0, 0, 0, 0, 0, 0, 0, 0, 16]
def k7_b : List UInt32 := k7_a ++ [1795653632, 655360, 807074051, 1073742468, 598603952, 16951296, 1128726253, 1812447243]
def k7_c : List UInt32 := k7_b ++ [2697320564, 1211814774, 2535258000, 1467341918, 3861005904, 2566404880, 4159154001, 2840141746]
def k7_d : List UInt32 := k7_c ++ [1522721886, 22016558, 3060022326, 1200867410, 7903425, 57795083, 929237300, 525531814]
def k7_e : List UInt32 := k7_d ++ [3641822727, 784903043, 2130565545, 3309628292, 2122131804, 228996561, 2154556749, 1839664278]
def k7_f : List UInt32 := k7_e ++ [3042696342, 1555972322, 1879560745, 1389026877, 2421589474, 1702570959, 686858943, 742900780]
def k7_g : List UInt32 := k7_f ++ [2755046348, 3836813119, 2118297875, 4282438869, 344481574, 398799734, 3010515229, 512905781]
theorem k7_w0 : sched k7_a 8 = k7_b := by decide +kernel
theorem k7_w1 : sched k7_b 8 = k7_c := by decide +kernel
theorem k7_w2 : sched k7_c 8 = k7_d := by decide +kernel
theorem k7_w3 : sched k7_d 8 = k7_e := by decide +kernel
theorem k7_w4 : sched k7_e 8 = k7_f := by decide +kernel
theorem k7_w5 : sched k7_f 8 = k7_g := by decide +kernel
theorem k7_s : sched k7_a 48 = k7_g := sched6 k7_w0 k7_w1 k7_w2 k7_w3 k7_w4 k7_w5
def k7_t1 : List UInt32 := [3758075168, 1184308336, 2686024234, 3515797688, 1696748992, 1480400270, 1835952537, 3133449596]
def k7_t2 : List UInt32 := [3531055946, 3214084917, 592665037, 1337056622, 2323768452, 1526002811, 1583801160, 3965368324]
def k7_t3 : List UInt32 := [953332714, 843749944, 1472583275, 3194914870, 3170832723, 1970505516, 2761320193, 2537033456]
def k7_t4 : List UInt32 := [1712856733, 475522877, 1402912451, 3794357380, 3961246213, 3733593717, 5837405, 3543623087]
def k7_t5 : List UInt32 := [4126078059, 3206295688, 3708564292, 2187983564, 2345186645, 3729758010, 3600784236, 1240899543]
def k7_t6 : List UInt32 := [221218094, 1539735629, 1363659481, 2887841200, 1364403851, 1211598915, 1350760775, 2510657130]
def k7_t7 : List UInt32 := [2112648660, 1649995274, 1395252016, 802407957, 3673801170, 3938897205, 2013991146, 3096288260]
def k7_t8 : List UInt32 := [2688284320, 2375811289, 1545385588, 376155208, 3990878073, 2172098855, 4091758828, 2523986239]
theorem k7_r0 : fold8 [1779033703, 3144134277, 1013904242, 2773480762, 1359893119, 2600822924, 528734635, 1541459225] (oct k7_g 0) = k7_t1 := by decide +kernel
theorem k7_r1 : fold8 k7_t1 (oct k7_g 8) = k7_t2 := by decide +kernel
theorem k7_r2 : fold8 k7_t2 (oct k7_g 16) = k7_t3 := by decide +kernel
theorem k7_r3 : fold8 k7_t3 (oct k7_g 24) = k7_t4 := by decide +kernel
theorem k7_r4 : fold8 k7_t4 (oct k7_g 32) = k7_t5 := by decide +kernel
theorem k7_r5 : fold8 k7_t5 (oct k7_g 40) = k7_t6 := by decide +kernel
theorem k7_r6 : fold8 k7_t6 (oct k7_g 48) = k7_t7 := by decide +kernel
theorem k7_r7 : fold8 k7_t7 (oct k7_g 56) = k7_t8 := by decide +kernel
theorem k7_m : sum256 [107, 7] = bytesOf [172350727, 1224978270, 2559289830, 3149635970, 1055803896, 477954483, 325526167, 4065445464] := sum_of (P := [107, 7, 128] ++ List.replicate 60 0 ++ [16]) (M := k7_a) (W := k7_g) (S := k7_t8) (by decide +kernel) (by decide +kernel) (by decide +kernel) k7_s (fold64 (l := roundK.zip k7_g) k7_r0 k7_r1 k7_r2 k7_r3 k7_r4 k7_r5 k7_r6 k7_r7 (by decide +kernel)) (by decide +kernel)
def k8_a : List UInt32 := [1795719168, 0, 0, 0, 0, 0, 0, 0, 0, 0, 0, 0, 0, 0, 0, 16]
def k8_b : List UInt32 := k8_a ++ [1795719168, 655360, 1343945413, 1073742468, 573441200, 16951296, 3267796707, 1812512779]
def k8_c : List UInt32 := k8_b ++ [2628200604, 3359298682, 2977625745, 1387149407, 649680943, 2650244975, 321427946, 4259022098]
def k8_d : List UInt32 := k8_c ++ [319892051, 2712374515, 1397846809, 62307530, 37958605, 378379324, 3952977949, 3712000441]
def k8_e : List UInt32 := k8_d ++ [4178838159, 3914503188, 1900104147, 2050341229, 4168446947, 3847525762, 3810611945, 3188246176]
def k8_f : List UInt32 := k8_e ++ [2411696884, 4070799883, 1137811551, 627310870, 3921687653, 3337843447, 111643318, 1149776441]
def k8_g : List UInt32 := k8_f ++ [2982262013, 1194153285, 1062988912, 3893913726, 2267232357, 3223248765, 2313054136, 1082231276]
theorem k8_w0 : sched k8_a 8 = k8_b := by decide +kernel
theorem k8_w1 : sched k8_b 8 = k8_c := by decide +kernel
theorem k8_w2 : sched k8_c 8 = k8_d := by decide +kernel
theorem k8_w3 : sched k8_d 8 = k8_e := by decide +kernel
theorem k8_w4 : sched k8_e 8 = k8_f := by decide +kernel
theorem k8_w5 : sched k8_f 8 = k8_g := by decide +kernel
theorem k8_s : sched k8_a 48 = k8_g := sched6 k8_w0 k8_w1 k8_w2 k8_w3 k8_w4 k8_w5
def k8_t1 : List UInt32 := [4242585693, 3210271677, 3707346108, 1383779915, 884397948, 3080527041, 1944389540, 689477065]
def k8_t2 : List UInt32 := [3078389502, 2522681795, 3870302336, 3734360476, 4197943690, 1650263741, 518478202, 937320944]
def k8_t3 : List UInt32 := [328475606, 2887444127, 1924827488, 2310449736, 1910604022, 1798603565, 1254032225, 2992779852]
def k8_t4 : List UInt32 := [298923073, 1444060594, 4144001307, 101413166, 1335768441, 3818126330, 497360531, 3573420016]
def k8_t5 : List UInt32 := [2485389902, 587299950, 2385564611, 2681689882, 662441607, 1370245398, 1844745929, 1336099733]
def k8_t6 : List UInt32 := [2330932931, 1797929692, 822922107, 4291660441, 2020795998, 1926978154, 940034530, 231511995]
def k8_t7 : List UInt32 := [2268216609, 1883310861, 2540058360, 811250957, 1374088261, 663533619, 3018199721, 1562733292]
def k8_t8 : List UInt32 := [1790212550, 3493461569, 1361395868, 3769572285, 1767895915, 310384176, 2971850293, 2839344129]
theorem k8_r0 : fold8 [1779033703, 3144134277, 1013904242, 2773480762, 1359893119, 2600822924, 528734635, 1541459225] (oct k8_g 0) = k8_t1 := by decide +kernel
theorem k8_r1 : fold8 k8_t1 (oct k8_g 8) = k8_t2 := by decide +kernel
theorem k8_r2 : fold8 k8_t2 (oct k8_g 16) = k8_t3 := by decide +kernel
theorem k8_r3 : fold8 k8_t3 (oct k8_g 24) = k8_t4 := by decide +kernel
theorem k8_r4 : fold8 k8_t4 (oct k8_g 32) = k8_t5 := by decide +kernel
theorem k8_r5 : fold8 k8_t5 (oct k8_g 40) = k8_t6 := by decide +kernel
theorem k8_r6 : fold8 k8_t6 (oct k8_g 48) = k8_t7 := by decide +kernel
theorem k8_r7 : fold8 k8_t7 (oct k8_g 56) = k8_t8 := by decide +kernel
theorem k8_m : sum256 [107, 8] = bytesOf [3569246253, 2342628550, 2375300110, 2248085751, 3127789034, 2911207100, 3500584928, 85836058] := sum_of (P := [107, 8, 128] ++ List.replicate 60 0 ++ [16]) (M := k8_a) (W := k8_g) (S := k8_t8) (by decide +kernel) (by decide +kernel) (by decide +kernel) k8_s (fold64 (l := roundK.zip k8_g) k8_r0 k8_r1 k8_r2 k8_r3 k8_r4 k8_r5 k8_r6 k8_r7 (by decide +kernel)) (by decide +kernel)
def k9_a : List UInt32 := [1795784704, 0, 0, 0, 0, 0, 0, 0, 0, 0, 0, 0, 0, 0, 0, 16]
def k9_b : List UInt32 := k9_a ++ [1795784704, 655360, 4028299909, 1073742468, 573456560, 16951296, 3896942290, 1812578315]
def k9_c : List UInt32 := k9_b ++ [2626893964, 3359298682, 997260185, 1387164767, 1672744680, 3707209585, 314544316, 1034705506]
def k9_d : List UInt32 := k9_c ++ [3985821032, 2368685233, 2181861121, 3805244011, 2139654805, 2339331222, 3847674830, 1679835844]
def k9_e : List UInt32 := k9_d ++ [972297757, 2137639511, 3521835917, 2378267212, 815922383, 4076377054, 237536846, 1383846105]
def k9_f : List UInt32 := k9_e ++ [1685961219, 570637889, 2335004246, 335346797, 1604523529, 3001780029, 3064097628, 3032348450]
def k9_g : List UInt32 := k9_f ++ [2825252481, 225264717, 114521868, 3747069159, 1078008668, 2411627319, 3197767426, 4052233741]
theorem k9_w0 : sched k9_a 8 = k9_b := by decide +kernel
theorem k9_w1 : sched k9_b 8 = k9_c := by decide +kernel
theorem k9_w2 : sched k9_c 8 = k9_d := by decide +kernel
theorem k9_w3 : sched k9_d 8 = k9_e := by decide +kernel
theorem k9_w4 : sched k9_e 8 = k9_f := by decide +kernel
theorem k9_w5 : sched k9_f 8 = k9_g := by decide +kernel
theorem k9_s : sched k9_a 48 = k9_g := sched6 k9_w0 k9_w1 k9_w2 k9_w3 k9_w4 k9_w5
def k9_t1 : List UInt32 := [1836542168, 3930061819, 2660944457, 2107519063, 3442038189, 3185772680, 498956887, 2072873884]
def k9_t2 : List UInt32 := [697930794, 4027996893, 2412039550, 960608229, 3216584311, 2072188575, 3836130331, 345796961]
def k9_t3 : List UInt32 := [1593521580, 1797378805, 1671173466, 2339785112, 3009651444, 4064269765, 1426401316, 2957138422]
def k9_t4 : List UInt32 := [1776499163, 1943054421, 305663214, 1763185994, 2054845189, 635438471, 4204692273, 1024154160]
def k9_t5 : List UInt32 := [4039729951, 807057850, 4251704952, 597949116, 562373463, 3955724323, 3307825198, 1364770848]
def k9_t6 : List UInt32 := [1985114764, 2398671152, 1057196103, 2501031195, 3629026804, 173752339, 834890779, 3718649080]
def k9_t7 : List UInt32 := [2754812870, 2426618303, 1788518378, 2452327271, 2996297378, 2827343756, 1278433162, 1631117560]
def k9_t8 : List UInt32 := [1523834193, 261519041, 4235671470, 2520073890, 3303675797, 3130910598, 3694286530, 1714501840]
theorem k9_r0 : fold8 [1779033703, 3144134277, 1013904242, 2773480762, 1359893119, 2600822924, 528734635, 1541459225] (oct k9_g 0) = k9_t1 := by decide +kernel
theorem k9_r1 : fold8 k9_t1 (oct k9_g 8) = k9_t2 := by decide +kernel
theorem k9_r2 : fold8 k9_t2 (oct k9_g 16) = k9_t3 := by decide +kernel
theorem k9_r3 : fold8 k9_t3 (oct k9_g 24) = k9_t4 := by decide +kernel
theorem k9_r4 : fold8 k9_t4 (oct k9_g 32) = k9_t5 := by decide +kernel
theorem k9_r5 : fold8 k9_t5 (oct k9_g 40) = k9_t6 := by decide +kernel
theorem k9_r6 : fold8 k9_t6 (oct k9_g 48) = k9_t7 := by decide +kernel
theorem k9_r7 : fold8 k9_t7 (oct k9_g 56) = k9_t8 := by decide +kernel
theorem k9_m : sum256 [107, 9] = bytesOf [3302867896, 3405653318, 954608416, 998587356, 368601620, 1436766226, 4223021165, 3255961065] := sum_of (P := [107, 9, 128] ++ List.replicate 60 0 ++ [16]) (M := k9_a) (W := k9_g) (S := k9_t8) (by decide +kernel) (by decide +kernel) (by decide +kernel) k9_s (fold64 (l := roundK.zip k9_g) k9_r0 k9_r1 k9_r2 k9_r3 k9_r4 k9_r5 k9_r6 k9_r7 (by decide +kernel)) (by decide +kernel)
def k10_a : List UInt32 := [1795850240, 0, 0, 0, 0, 0, 0, 0, 0, 0, 0, 0, 0, 0, 0, 16]
def k10_b : List UInt32 := k10_a ++ [1795850240, 655360, 270203460, 1073742468, 577670320, 16951296, 2546372329, 1812643851]
def k10_c : List UInt32 := k10_b ++ [2526415032, 1211814776, 91160223, 1445965918, 2711609765, 3321362727, 2564604689, 1205063749]
def k10_d : List UInt32 := k10_c ++ [756248511, 3429330240, 1083110119, 67128993, 969425361, 718423765, 3016933246, 3869932815]
def k10_e : List UInt32 := k10_d ++ [3099799291, 2062167795, 1450845650, 2311784034, 3426093472, 1587046293, 3150134939, 3755876914]
def k10_f : List UInt32 := k10_e ++ [3824290163, 1920166472, 1630122647, 1575410361, 3323750182, 3782533326, 4015194485, 3803874784]
def k10_g : List UInt32 := k10_f ++ [1845135103, 362793636, 3721296672, 1180826432, 3640220873, 7220202, 454196644, 2554749601]
theorem k10_w0 : sched k10_a 8 = k10_b := by decide +kernel
theorem k10_w1 : sched k10_b 8 = k10_c := by decide +kernel
theorem k10_w2 : sched k10_c 8 = k10_d := by decide +kernel
theorem k10_w3 : sched k10_d 8 = k10_e := by decide +kernel
theorem k10_w4 : sched k10_e 8 = k10_f := by decide +kernel
theorem k10_w5 : sched k10_f 8 = k10_g := by decide +kernel
theorem k10_s : sched k10_a 48 = k10_g := sched6 k10_w0 k10_w1 k10_w2 k10_w3 k10_w4 k10_w5
def k10_t1 : List UInt32 := [1103344181, 423412374, 4275089261, 846494587, 2469724532, 2590240552, 1939585633, 3900021139]
def k10_t2 : List UInt32 := [1691325084, 2818338069, 837286777, 1799539991, 645911886, 272143869, 3669542324, 371797719]
def k10_t3 : List UInt32 := [4100854461, 1196948932, 806770862, 1079266662, 1717539968, 879721321, 2610701073, 464803740]
def k10_t4 : List UInt32 := [3490167922, 3502103105, 343744095, 2875447350, 4244268066, 1557967056, 1793920365, 1410363543]
def k10_t5 : List UInt32 := [3463683473, 1970881157, 3436837365, 143048391, 2938232292, 579907390, 348301996, 3922957525]
def k10_t6 : List UInt32 := [2273395011, 91229653, 1422410198, 2880758356, 3203370512, 2240813601, 3621817981, 865885593]
def k10_t7 : List UInt32 := [3660911364, 4064506650, 3661869960, 2254592802, 3375524372, 3023429604, 1056259406, 2209544569]
def k10_t8 : List UInt32 := [2942911257, 455609979, 4179302107, 4074010460, 3002230271, 3030202965, 911720211, 3479314515]
theorem k10_r0 : fold8 [1779033703, 3144134277, 1013904242, 2773480762, 1359893119, 2600822924, 528734635, 1541459225] (oct k10_g 0) = k10_t1 := by decide +kernel
theorem k10_r1 : fold8 k10_t1 (oct k10_g 8) = k10_t2 := by decide +kernel
theorem k10_r2 : fold8 k10_t2 (oct k10_g 16) = k10_t3 := by decide +kernel
theorem k10_r3 : fold8 k10_t3 (oct k10_g 24) = k10_t4 := by decide +kernel
theorem k10_r4 : fold8 k10_t4 (oct k10_g 32) = k10_t5 := by decide +kernel
theorem k10_r5 : fold8 k10_t5 (oct k10_g 40) = k10_t6 := by decide +kernel
theorem k10_r6 : fold8 k10_t6 (oct k10_g 48) = k10_t7 := by decide +kernel
theorem k10_r7 : fold8 k10_t7 (oct k10_g 56) = k10_t8 := by decide +kernel
theorem k10_m : sum256 [107, 10] = bytesOf [426977664, 3599744256, 898239053, 2552523926, 67156094, 1336058593, 1440454846, 725806444] := sum_of (P := [107, 10, 128] ++ List.replicate 60 0 ++ [16]) (M := k10_a) (W := k10_g) (S := k10_t8) (by decide +kernel) (by decide +kernel) (by decide +kernel) k10_s (fold64 (l := roundK.zip k10_g) k10_r0 k10_r1 k10_r2 k10_r3 k10_r4 k10_r5 k10_r6 k10_r7 (by decide +kernel)) (by decide +kernel)
def k11_a : List UInt32 := [1795915776, 0, 0, 0, 0, 0, 0, 0, 0, 0, 0, 0, 0, 0, 0, 16]
def k11_b : List UInt32 := k11_a ++ [1795915776, 655360, 2954557956, 1073742468, 577685680, 16951296, 3175517912, 1812709387]
def k11_c : List UInt32 := k11_b ++ [2527205544, 1211814776, 2405757831, 1445981278, 3901986658, 3371694337, 1165413835, 2280421141]
def k11_d : List UInt32 := k11_c ++ [4069867296, 3868901967, 1052031246, 940592944, 1630701411, 2051934331, 1137986190, 3919602595]
def k11_e : List UInt32 := k11_d ++ [1988900160, 3869450960, 2970161449, 3918146292, 4065243053, 2319561868, 3614326314, 4226654617]
def k11_f : List UInt32 := k11_e ++ [3853246768, 843939673, 696520726, 2783385787, 4045107313, 3346978655, 1474044788, 70159641]
def k11_g : List UInt32 := k11_f ++ [3024627309, 2824812636, 3978695665, 1140565640, 3943342375, 1248681421, 622241562, 984969664]
theorem k11_w0 : sched k11_a 8 = k11_b := by decide +kernel
theorem k11_w1 : sched k11_b 8 = k11_c := by decide +kernel
theorem k11_w2 : sched k11_c 8 = k11_d := by decide +kernel
theorem k11_w3 : sched k11_d 8 = k11_e := by decide +kernel
theorem k11_w4 : sched k11_e 8 = k11_f := by decide +kernel
theorem k11_w5 : sched k11_f 8 = k11_g := by decide +kernel
theorem k11_s : sched k11_a 48 = k11_g := sched6 k11_w0 k11_w1 k11_w2 k11_w3 k11_w4 k11_w5
def k11_t1 : List UInt32 := [981881631, 684453049, 3019736698, 2354577739, 1075385622, 3144253433, 2452006485, 1166955085]
def k11_t2 : List UInt32 := [2285543048, 717587242, 930079902, 3740973656, 163932620, 3503641765, 921005896, 3078799545]
def k11_t3 : List UInt32 := [3579348855, 2142289610, 1540578426, 3015663936, 3169729241, 779945975, 1999904247, 403444342]
def k11_t4 : List UInt32 := [1394028725, 2026088282, 1695433331, 2038322055, 2875030346, 2310239905, 2678454181, 630991280]
def k11_t5 : List UInt32 := [3541700160, 2793977313, 114276893, 946473202, 3976545722, 80183763, 2507793973, 775388115]
def k11_t6 : List UInt32 := [3075353128, 2933703446, 1706893463, 949369292, 2741143680, 1139878733, 1269149543, 3369116767]
def k11_t7 : List UInt32 := [88812388, 1564426114, 295648953, 836788409, 199269972, 3754633915, 3389492731, 3040178887]
def k11_t8 : List UInt32 := [3108141008, 3758855637, 3453777957, 959169124, 3894850046, 31008212, 1263642629, 424582504]
theorem k11_r0 : fold8 [1779033703, 3144134277, 1013904242, 2773480762, 1359893119, 2600822924, 528734635, 1541459225] (oct k11_g 0) = k11_t1 := by decide +kernel
theorem k11_r1 : fold8 k11_t1 (oct k11_g 8) = k11_t2 := by decide +kernel
theorem k11_r2 : fold8 k11_t2 (oct k11_g 16) = k11_t3 := by decide +kernel
theorem k11_r3 : fold8 k11_t3 (oct k11_g 24) = k11_t4 := by decide +kernel
theorem k11_r4 : fold8 k11_t4 (oct k11_g 32) = k11_t5 := by decide +kernel
theorem k11_r5 : fold8 k11_t5 (oct k11_g 40) = k11_t6 := by decide +kernel
theorem k11_r6 : fold8 k11_t6 (oct k11_g 48) = k11_t7 := by decide +kernel
theorem k11_r7 : fold8 k11_t7 (oct k11_g 56) = k11_t8 := by decide +kernel
theorem k11_m : sum256 [107, 11] = bytesOf [592207415, 2608022618, 172714903, 3732649886, 959775869, 2631831136, 1792377264, 1966041729] := sum_of (P := [107, 11, 128] ++ List.replicate 60 0 ++ [16]) (M := k11_a) (W := k11_g) (S := k11_t8) (by decide +kernel) (by decide +kernel) (by decide +kernel) k11_s (fold64 (l := roundK.zip k11_g) k11_r0 k11_r1 k11_r2 k11_r3 k11_r4 k11_r5 k11_r6 k11_r7 (by decide +kernel)) (by decide +kernel)
end Go.Proofs.YtcfjciencggflaaDoor

/- The sums of the other keys. Printed by gen_keys.py. -/
namespace Go.Proofs.YtcfjciencggflaaDoor

def k12_a : List UInt32 := [1795981312, 0, 0, 0, 0, 0, 0, 0, 0, 0, 0, 0, 0, 0, 0, 16]
def k12_b : List UInt32 := k12_a ++ [1795981312, 655360, 3491429319, 1073742468, 581899440, 16951296, 1757855447, 1812774923]
def k12_c : List UInt32 := k12_b ++ [2293590228, 3359298686, 1498610330, 1395771487, 587914045, 1173835363, 3271735135, 89764925]
def k12_d : List UInt32 := k12_c ++ [3233645004, 1900547469, 2489166756, 196269667, 1934394098, 42002447, 1790407301, 2013522151]
def k12_e : List UInt32 := k12_d ++ [2727266651, 1732788495, 3918226936, 3089489601, 565355686, 259475086, 1501896005, 3580073009]
def k12_f : List UInt32 := k12_e ++ [1825240968, 1154033585, 3836449074, 2933442885, 1637919253, 3033183217, 3157598289, 96266969]
def k12_g : List UInt32 := k12_f ++ [499783505, 1774641066, 3312364930, 2942126835, 638664649, 2659965929, 3009477785, 712956432]
theorem k12_w0 : sched k12_a 8 = k12_b := by decide +kernel
theorem k12_w1 : sched k12_b 8 = k12_c := by decide +kernel
theorem k12_w2 : sched k12_c 8 = k12_d := by decide +kernel
theorem k12_w3 : sched k12_d 8 = k12_e := by decide +kernel
theorem k12_w4 : sched k12_e 8 = k12_f := by decide +kernel
theorem k12_w5 : sched k12_f 8 = k12_g := by decide +kernel
theorem k12_s : sched k12_a 48 = k12_g := sched6 k12_w0 k12_w1 k12_w2 k12_w3 k12_w4 k12_w5
def k12_t1 : List UInt32 := [3807350883, 3834691927, 1453113654, 1846303073, 3454193773, 132167567, 2237030350, 1527314841]
def k12_t2 : List UInt32 := [1965508030, 1407978323, 984425757, 1492183300, 2876800402, 429873746, 1058414858, 4140341579]
def k12_t3 : List UInt32 := [34247006, 494305488, 2607959617, 1877329940, 1295036180, 1311511801, 581189, 2784894173]
def k12_t4 : List UInt32 := [1653636853, 1782176089, 2515324145, 2133588472, 4290102474, 1248565730, 1498854634, 2814674447]
def k12_t5 : List UInt32 := [3713297741, 942274598, 2019923706, 1272038384, 3870412495, 2754312131, 1436085456, 1524354851]
def k12_t6 : List UInt32 := [885246181, 1699261467, 966816121, 685340641, 680596115, 4214803725, 3898004030, 3151246484]
def k12_t7 : List UInt32 := [3062797421, 992108533, 211610765, 1127879440, 647907943, 4268728278, 1388011450, 3504546837]
def k12_t8 : List UInt32 := [2366068180, 2641076031, 2846859113, 1030043190, 109159588, 1856536336, 118110231, 3565731971]
theorem k12_r0 : fold8 [1779033703, 3144134277, 1013904242, 2773480762, 1359893119, 2600822924, 528734635, 1541459225] (oct k12_g 0) = k12_t1 := by decide +kernel
theorem k12_r1 : fold8 k12_t1 (oct k12_g 8) = k12_t2 := by decide +kernel
theorem k12_r2 : fold8 k12_t2 (oct k12_g 16) = k12_t3 := by decide +kernel
theorem k12_r3 : fold8 k12_t3 (oct k12_g 24) = k12_t4 := by decide +kernel
theorem k12_r4 : fold8 k12_t4 (oct k12_g 32) = k12_t5 := by decide +kernel
theorem k12_r5 : fold8 k12_t5 (oct k12_g 40) = k12_t6 := by decide +kernel
theorem k12_r6 : fold8 k12_t6 (oct k12_g 48) = k12_t7 := by decide +kernel
theorem k12_r7 : fold8 k12_t7 (oct k12_g 56) = k12_t8 := by decide +kernel
theorem k12_m : sum256 [107, 12] = bytesOf [4145101883, 1490243012, 3860763355, 3803523952, 1469052707, 162391964, 646844866, 812223900] := sum_of (P := [107, 12, 128] ++ List.replicate 60 0 ++ [16]) (M := k12_a) (W := k12_g) (S := k12_t8) (by decide +kernel) (by decide +kernel) (by decide +kernel) k12_s (fold64 (l := roundK.zip k12_g) k12_r0 k12_r1 k12_r2 k12_r3 k12_r4 k12_r5 k12_r6 k12_r7 (by decide +kernel)) (by decide +kernel)
def k13_a : List UInt32 := [1796046848, 0, 0, 0, 0, 0, 0, 0, 0, 0, 0, 0, 0, 0, 0, 16]
def k13_b : List UInt32 := k13_a ++ [1796046848, 655360, 1880816519, 1073742468, 581914800, 16951296, 1111932646, 1812840459]
def k13_c : List UInt32 := k13_b ++ [2294905028, 3359298686, 3545819559, 1395786847, 1792437757, 2230799972, 2272095671, 1163991501]
def k13_d : List UInt32 := k13_c ++ [3465973888, 1093923458, 1574038392, 3792982240, 445464652, 2520434755, 4213997180, 1038755790]
def k13_e : List UInt32 := k13_d ++ [3428135515, 3972185064, 714782146, 3848395731, 393433952, 2069707264, 1569135450, 142933575]
def k13_f : List UInt32 := k13_e ++ [439278358, 3466032766, 3286345575, 448951214, 2773886279, 1685277754, 3960016919, 169960578]
def k13_g : List UInt32 := k13_f ++ [2816121812, 2079267025, 833117365, 272429948, 3804493939, 3373877624, 2605191608, 3618952823]
theorem k13_w0 : sched k13_a 8 = k13_b := by decide +kernel
theorem k13_w1 : sched k13_b 8 = k13_c := by decide +kernel
theorem k13_w2 : sched k13_c 8 = k13_d := by decide +kernel
theorem k13_w3 : sched k13_d 8 = k13_e := by decide +kernel
theorem k13_w4 : sched k13_e 8 = k13_f := by decide +kernel
theorem k13_w5 : sched k13_f 8 = k13_g := by decide +kernel
theorem k13_s : sched k13_a 48 = k13_g := sched6 k13_w0 k13_w1 k13_w2 k13_w3 k13_w4 k13_w5
def k13_t1 : List UInt32 := [81641327, 2360832977, 2044210883, 435792309, 4067035287, 2602682416, 2311288605, 2113688429]
def k13_t2 : List UInt32 := [3304299464, 30054403, 89372510, 939597446, 417008181, 649015880, 203036943, 3569082883]
def k13_t3 : List UInt32 := [117903574, 867472952, 1111405191, 3412563223, 564804134, 2206845620, 3572615473, 1204522939]
def k13_t4 : List UInt32 := [2374406812, 1545236537, 2718208846, 1207656058, 2278443641, 2664654032, 541474971, 2837741145]
def k13_t5 : List UInt32 := [888135788, 3273446257, 2296945162, 1028529823, 2801163508, 2155920247, 1635129294, 3985880883]
def k13_t6 : List UInt32 := [1619312991, 1723356788, 3150199284, 1934912140, 861139154, 2047187881, 2179061065, 1109453071]
def k13_t7 : List UInt32 := [1797657080, 1001075615, 3119684264, 622132473, 3314025169, 3205936572, 2466391384, 3401967855]
def k13_t8 : List UInt32 := [213599598, 479741374, 871882145, 2819581600, 107076839, 3300748244, 2311814162, 3896405047]
theorem k13_r0 : fold8 [1779033703, 3144134277, 1013904242, 2773480762, 1359893119, 2600822924, 528734635, 1541459225] (oct k13_g 0) = k13_t1 := by decide +kernel
theorem k13_r1 : fold8 k13_t1 (oct k13_g 8) = k13_t2 := by decide +kernel
theorem k13_r2 : fold8 k13_t2 (oct k13_g 16) = k13_t3 := by decide +kernel
theorem k13_r3 : fold8 k13_t3 (oct k13_g 24) = k13_t4 := by decide +kernel
theorem k13_r4 : fold8 k13_t4 (oct k13_g 32) = k13_t5 := by decide +kernel
theorem k13_r5 : fold8 k13_t5 (oct k13_g 40) = k13_t6 := by decide +kernel
theorem k13_r6 : fold8 k13_t6 (oct k13_g 48) = k13_t7 := by decide +kernel
theorem k13_r7 : fold8 k13_t7 (oct k13_g 56) = k13_t8 := by decide +kernel
theorem k13_m : sum256 [107, 13] = bytesOf [1992633301, 3623875651, 1885786387, 1298095066, 1466969958, 1606603872, 2840548797, 1142896976] := sum_of (P := [107, 13, 128] ++ List.replicate 60 0 ++ [16]) (M := k13_a) (W := k13_g) (S := k13_t8) (by decide +kernel) (by decide +kernel) (by decide +kernel) k13_s (fold64 (l := roundK.zip k13_g) k13_r0 k13_r1 k13_r2 k13_r3 k13_r4 k13_r5 k13_r6 k13_r7 (by decide +kernel)) (by decide +kernel)
def k14_a : List UInt32 := [1796112384, 0, 0, 0, 0, 0, 0, 0, 0, 0, 0, 0, 0, 0, 0, 16]
def k14_b : List UInt32 := k14_a ++ [1796112384, 655360, 2417687366, 1073742468, 586128560, 16951296, 1036431069, 1812905995]
def k14_c : List UInt32 := k14_b ++ [2193901808, 1211814780, 3980845740, 1454587998, 2923127475, 100138044, 1765207055, 840245373]
def k14_d : List UInt32 := k14_c ++ [3739663236, 1132555076, 1903466746, 172610357, 2995262638, 1420583455, 606411500, 3954182312]
def k14_e : List UInt32 := k14_d ++ [967872971, 3154402275, 3100633298, 1511386813, 2482966104, 498336879, 1877236676, 2869092467]
def k14_f : List UInt32 := k14_e ++ [462592477, 90282722, 183450918, 3935615525, 1982634670, 695569274, 4224898620, 827485425]
def k14_g : List UInt32 := k14_f ++ [922333085, 2335920153, 2414798670, 4080926401, 1232615277, 3990698855, 145411937, 1007893783]
theorem k14_w0 : sched k14_a 8 = k14_b := by decide +kernel
theorem k14_w1 : sched k14_b 8 = k14_c := by decide +kernel
theorem k14_w2 : sched k14_c 8 = k14_d := by decide +kernel
theorem k14_w3 : sched k14_d 8 = k14_e := by decide +kernel
theorem k14_w4 : sched k14_e 8 = k14_f := by decide +kernel
theorem k14_w5 : sched k14_f 8 = k14_g := by decide +kernel
theorem k14_s : sched k14_a 48 = k14_g := sched6 k14_w0 k14_w1 k14_w2 k14_w3 k14_w4 k14_w5
def k14_t1 : List UInt32 := [3547450468, 1066035702, 3972921675, 1426064949, 2260362682, 1417791526, 1131384322, 1139993539]
def k14_t2 : List UInt32 := [3475938291, 2608072963, 1610278145, 2020828782, 2746284510, 2784271703, 2588910878, 2086934116]
def k14_t3 : List UInt32 := [2528419590, 258905312, 3989494878, 2978041032, 2704981570, 1679348645, 3684953716, 2349017378]
def k14_t4 : List UInt32 := [3197743548, 847510959, 174643207, 2384425538, 3699117406, 2230098943, 415991627, 4139118246]
def k14_t5 : List UInt32 := [975328822, 2469066856, 4240125768, 46179490, 3089488280, 2859167449, 2829410519, 222544783]
def k14_t6 : List UInt32 := [1402640204, 1622906878, 2925150834, 3326166063, 3185339697, 3530351995, 4241940293, 1873320897]
def k14_t7 : List UInt32 := [4132589095, 2920887226, 2959099425, 118433779, 71151345, 1892843446, 517424651, 1538182659]
def k14_t8 : List UInt32 := [535423740, 3193171812, 151635599, 846100338, 1280113533, 3795472902, 3127932548, 267698291]
theorem k14_r0 : fold8 [1779033703, 3144134277, 1013904242, 2773480762, 1359893119, 2600822924, 528734635, 1541459225] (oct k14_g 0) = k14_t1 := by decide +kernel
theorem k14_r1 : fold8 k14_t1 (oct k14_g 8) = k14_t2 := by decide +kernel
theorem k14_r2 : fold8 k14_t2 (oct k14_g 16) = k14_t3 := by decide +kernel
theorem k14_r3 : fold8 k14_t3 (oct k14_g 24) = k14_t4 := by decide +kernel
theorem k14_r4 : fold8 k14_t4 (oct k14_g 32) = k14_t5 := by decide +kernel
theorem k14_r5 : fold8 k14_t5 (oct k14_g 40) = k14_t6 := by decide +kernel
theorem k14_r6 : fold8 k14_t6 (oct k14_g 48) = k14_t7 := by decide +kernel
theorem k14_r7 : fold8 k14_t7 (oct k14_g 56) = k14_t8 := by decide +kernel
theorem k14_m : sum256 [107, 14] = bytesOf [2314457443, 2042338793, 1165539841, 3619581100, 2640006652, 2101328530, 3656667183, 1809157516] := sum_of (P := [107, 14, 128] ++ List.replicate 60 0 ++ [16]) (M := k14_a) (W := k14_g) (S := k14_t8) (by decide +kernel) (by decide +kernel) (by decide +kernel) k14_s (fold64 (l := roundK.zip k14_g) k14_r0 k14_r1 k14_r2 k14_r3 k14_r4 k14_r5 k14_r6 k14_r7 (by decide +kernel)) (by decide +kernel)
def k15_a : List UInt32 := [1796177920, 0, 0, 0, 0, 0, 0, 0, 0, 0, 0, 0, 0, 0, 0, 16]
def k15_b : List UInt32 := k15_a ++ [1796177920, 655360, 807074566, 1073742468, 586143920, 16951296, 390508268, 1812971531]
def k15_c : List UInt32 := k15_b ++ [2193119456, 1211814780, 1733099937, 1454603358, 570422287, 3908566076, 2426522442, 1913922381]
def k15_d : List UInt32 := k15_c ++ [271833524, 2983033457, 517476002, 110018608, 3163365296, 3141628097, 2696378699, 3657707350]
def k15_e : List UInt32 := k15_d ++ [3446839979, 131693899, 4118553185, 2345499244, 239282731, 2448456735, 4151271789, 226106714]
def k15_f : List UInt32 := k15_e ++ [544886602, 949808358, 3921319892, 834174379, 802612551, 1092799768, 424892802, 576463842]
def k15_g : List UInt32 := k15_f ++ [2544697227, 1559681251, 2654669170, 276658311, 1731236962, 3690175044, 2773708153, 1730174127]
theorem k15_w0 : sched k15_a 8 = k15_b := by decide +kernel
theorem k15_w1 : sched k15_b 8 = k15_c := by decide +kernel
theorem k15_w2 : sched k15_c 8 = k15_d := by decide +kernel
theorem k15_w3 : sched k15_d 8 = k15_e := by decide +kernel
theorem k15_w4 : sched k15_e 8 = k15_f := by decide +kernel
theorem k15_w5 : sched k15_f 8 = k15_g := by decide +kernel
theorem k15_s : sched k15_a 48 = k15_g := sched6 k15_w0 k15_w1 k15_w2 k15_w3 k15_w4 k15_w5
def k15_t1 : List UInt32 := [703213521, 2794826120, 2656339915, 3845504056, 1796956537, 3007336382, 2711233613, 2178077375]
def k15_t2 : List UInt32 := [1465982867, 1291694509, 59558897, 2765358482, 2668370211, 2764195803, 823628566, 1289203750]
def k15_t3 : List UInt32 := [2567724264, 3107295354, 2661210496, 1669322572, 3439053161, 1495555880, 910318016, 1767495287]
def k15_t4 : List UInt32 := [28888663, 1397137970, 112552843, 1110457340, 1735180974, 288006105, 116211418, 427328869]
def k15_t5 : List UInt32 := [2448712449, 2700951778, 2607254087, 1364834489, 93475229, 999009085, 2801726190, 1542858257]
def k15_t6 : List UInt32 := [3567467673, 2251199233, 2348978856, 2050988149, 1473034696, 1173780141, 874451708, 3574350428]
def k15_t7 : List UInt32 := [4108382271, 3311010369, 522090158, 1428352714, 1135330826, 3837370137, 2776711630, 2080305208]
def k15_t8 : List UInt32 := [4032094320, 241910848, 3802843641, 3586394458, 3163402316, 1948439445, 3632066552, 3637169806]
theorem k15_r0 : fold8 [1779033703, 3144134277, 1013904242, 2773480762, 1359893119, 2600822924, 528734635, 1541459225] (oct k15_g 0) = k15_t1 := by decide +kernel
theorem k15_r1 : fold8 k15_t1 (oct k15_g 8) = k15_t2 := by decide +kernel
theorem k15_r2 : fold8 k15_t2 (oct k15_g 16) = k15_t3 := by decide +kernel
theorem k15_r3 : fold8 k15_t3 (oct k15_g 24) = k15_t4 := by decide +kernel
theorem k15_r4 : fold8 k15_t4 (oct k15_g 32) = k15_t5 := by decide +kernel
theorem k15_r5 : fold8 k15_t5 (oct k15_g 40) = k15_t6 := by decide +kernel
theorem k15_r6 : fold8 k15_t6 (oct k15_g 48) = k15_t7 := by decide +kernel
theorem k15_r7 : fold8 k15_t7 (oct k15_g 56) = k15_t8 := by decide +kernel
theorem k15_m : sum256 [107, 15] = bytesOf [1516160727, 3386045125, 521780587, 2064907924, 228328139, 254295073, 4160801187, 883661735] := sum_of (P := [107, 15, 128] ++ List.replicate 60 0 ++ [16]) (M := k15_a) (W := k15_g) (S := k15_t8) (by decide +kernel) (by decide +kernel) (by decide +kernel) k15_s (fold64 (l := roundK.zip k15_g) k15_r0 k15_r1 k15_r2 k15_r3 k15_r4 k15_r5 k15_r6 k15_r7 (by decide +kernel)) (by decide +kernel)
def k16_a : List UInt32 := [1796243456, 0, 0, 0, 0, 0, 0, 0, 0, 0, 0, 0, 0, 0, 0, 16]
def k16_b : List UInt32 := k16_a ++ [1796243456, 655360, 1343945930, 1073742468, 568878257, 16951296, 1053216480, 1813037067]
def k16_c : List UInt32 := k16_b ++ [3199052040, 3359300740, 2710234733, 1472813150, 819310157, 3321356843, 4009216808, 4190354585]
def k16_d : List UInt32 := k16_c ++ [3491203037, 1829279753, 3676749157, 1330060793, 455816772, 3513265828, 1641001531, 3150295634]
def k16_e : List UInt32 := k16_d ++ [45026410, 2308486978, 952900464, 3091748116, 1221978214, 110598892, 3084444702, 2062719859]
def k16_f : List UInt32 := k16_e ++ [30086080, 1143606809, 3138372326, 633191648, 2464873497, 2308652312, 3708363556, 3454548097]
def k16_g : List UInt32 := k16_f ++ [3062585296, 1103115482, 1258716075, 665579243, 59248840, 2161433768, 3753273652, 1814711479]
theorem k16_w0 : sched k16_a 8 = k16_b := by decide +kernel
theorem k16_w1 : sched k16_b 8 = k16_c := by decide +kernel
theorem k16_w2 : sched k16_c 8 = k16_d := by decide +kernel
theorem k16_w3 : sched k16_d 8 = k16_e := by decide +kernel
theorem k16_w4 : sched k16_e 8 = k16_f := by decide +kernel
theorem k16_w5 : sched k16_f 8 = k16_g := by decide +kernel
theorem k16_s : sched k16_a 48 = k16_g := sched6 k16_w0 k16_w1 k16_w2 k16_w3 k16_w4 k16_w5
def k16_t1 : List UInt32 := [437708988, 3351544876, 4231751205, 3813520657, 3308793819, 186271206, 2260742637, 818101167]
def k16_t2 : List UInt32 := [1406100643, 1223576530, 2657455904, 921061527, 214545711, 3820606849, 2871212128, 3078331705]
def k16_t3 : List UInt32 := [4197371804, 1581288089, 3817205385, 2343166088, 3348577677, 3915138248, 4084242159, 705918830]
def k16_t4 : List UInt32 := [2004000678, 527139343, 2838861047, 1312950988, 48796220, 3862020955, 1510931961, 2431720747]
def k16_t5 : List UInt32 := [3570929225, 547643718, 2385946603, 2321852619, 2934394040, 3878268718, 3051975970, 2960894167]
def k16_t6 : List UInt32 := [2237483030, 2420781448, 587861227, 2591767765, 349742397, 1069616925, 3210503318, 697578164]
def k16_t7 : List UInt32 := [2958760093, 2075943939, 116679191, 3880976328, 2033938725, 1041444573, 1518401464, 1973434540]
def k16_t8 : List UInt32 := [3157090043, 1005927546, 1117305464, 1909642619, 2721661678, 655856872, 1109076913, 1688953213]
theorem k16_r0 : fold8 [1779033703, 3144134277, 1013904242, 2773480762, 1359893119, 2600822924, 528734635, 1541459225] (oct k16_g 0) = k16_t1 := by decide +kernel
theorem k16_r1 : fold8 k16_t1 (oct k16_g 8) = k16_t2 := by decide +kernel
theorem k16_r2 : fold8 k16_t2 (oct k16_g 16) = k16_t3 := by decide +kernel
theorem k16_r3 : fold8 k16_t3 (oct k16_g 24) = k16_t4 := by decide +kernel
theorem k16_r4 : fold8 k16_t4 (oct k16_g 32) = k16_t5 := by decide +kernel
theorem k16_r5 : fold8 k16_t5 (oct k16_g 40) = k16_t6 := by decide +kernel
theorem k16_r6 : fold8 k16_t6 (oct k16_g 48) = k16_t7 := by decide +kernel
theorem k16_r7 : fold8 k16_t7 (oct k16_g 56) = k16_t8 := by decide +kernel
theorem k16_m : sum256 [107, 16] = bytesOf [641156450, 4150061823, 2131209706, 388156085, 4081554797, 3256679796, 1637811548, 3230412438] := sum_of (P := [107, 16, 128] ++ List.replicate 60 0 ++ [16]) (M := k16_a) (W := k16_g) (S := k16_t8) (by decide +kernel) (by decide +kernel) (by decide +kernel) k16_s (fold64 (l := roundK.zip k16_g) k16_r0 k16_r1 k16_r2 k16_r3 k16_r4 k16_r5 k16_r6 k16_r7 (by decide +kernel)) (by decide +kernel)
def k17_a : List UInt32 := [1796308992, 0, 0, 0, 0, 0, 0, 0, 0, 0, 0, 0, 0, 0, 0, 16]
def k17_b : List UInt32 := k17_a ++ [1796308992, 655360, 4028300426, 1073742468, 568860849, 16951296, 340184785, 1813102603]
def k17_c : List UInt32 := k17_b ++ [3200366872, 3359300740, 729873242, 1472795742, 1674533006, 3170361897, 3546533461, 972330761]
def k17_d : List UInt32 := k17_c ++ [1377975220, 3115882665, 2730315032, 1905360140, 2550807876, 2025216592, 314639338, 3985880699]
def k17_e : List UInt32 := k17_d ++ [3250415968, 2830347695, 2852107626, 1505315993, 3307580871, 2715982425, 1425083871, 101626973]
def k17_f : List UInt32 := k17_e ++ [75854418, 1722935828, 1567297150, 342406295, 1514688843, 2970288525, 1130477447, 1457601730]
def k17_g : List UInt32 := k17_f ++ [3066027495, 3980540360, 1047329252, 205973781, 1541124384, 2251267725, 1917822331, 4052922376]
theorem k17_w0 : sched k17_a 8 = k17_b := by decide +kernel
theorem k17_w1 : sched k17_b 8 = k17_c := by decide +kernel
theorem k17_w2 : sched k17_c 8 = k17_d := by decide +kernel
theorem k17_w3 : sched k17_d 8 = k17_e := by decide +kernel
theorem k17_w4 : sched k17_e 8 = k17_f := by decide +kernel
theorem k17_w5 : sched k17_f 8 = k17_g := by decide +kernel
theorem k17_s : sched k17_a 48 = k17_g := sched6 k17_w0 k17_w1 k17_w2 k17_w3 k17_w4 k17_w5
def k17_t1 : List UInt32 := [4264099389, 44554858, 4260095807, 2369533416, 2503337180, 331341913, 3310346384, 4256098495]
def k17_t2 : List UInt32 := [13040180, 267504227, 3827010905, 533711500, 3938280014, 2662350746, 2119073489, 2631701291]
def k17_t3 : List UInt32 := [3500668834, 3019005737, 4109476022, 3025512868, 2846860647, 3779477740, 1223793240, 2051994496]
def k17_t4 : List UInt32 := [1505875050, 267001313, 2700586268, 3998533493, 2596917781, 2136885316, 3129222580, 1196045681]
def k17_t5 : List UInt32 := [3348493699, 3812564300, 3279071843, 3826849371, 1706284223, 119614694, 3381243653, 801550904]
def k17_t6 : List UInt32 := [585896634, 1308607761, 265086089, 1749377204, 3592239622, 1875756625, 1093999180, 1794746125]
def k17_t7 : List UInt32 := [1025368518, 3885634824, 4263157077, 209749980, 1911395625, 645240819, 4093968196, 3860631322]
def k17_t8 : List UInt32 := [4144213623, 2520744792, 379293336, 2439816273, 3707103589, 2040314313, 1635042988, 2782988708]
theorem k17_r0 : fold8 [1779033703, 3144134277, 1013904242, 2773480762, 1359893119, 2600822924, 528734635, 1541459225] (oct k17_g 0) = k17_t1 := by decide +kernel
theorem k17_r1 : fold8 k17_t1 (oct k17_g 8) = k17_t2 := by decide +kernel
theorem k17_r2 : fold8 k17_t2 (oct k17_g 16) = k17_t3 := by decide +kernel
theorem k17_r3 : fold8 k17_t3 (oct k17_g 24) = k17_t4 := by decide +kernel
theorem k17_r4 : fold8 k17_t4 (oct k17_g 32) = k17_t5 := by decide +kernel
theorem k17_r5 : fold8 k17_t5 (oct k17_g 40) = k17_t6 := by decide +kernel
theorem k17_r6 : fold8 k17_t6 (oct k17_g 48) = k17_t7 := by decide +kernel
theorem k17_r7 : fold8 k17_t7 (oct k17_g 56) = k17_t8 := by decide +kernel
theorem k17_m : sum256 [107, 17] = bytesOf [1628280030, 1369911773, 1393197578, 918329739, 772029412, 346169941, 2163777623, 29480637] := sum_of (P := [107, 17, 128] ++ List.replicate 60 0 ++ [16]) (M := k17_a) (W := k17_g) (S := k17_t8) (by decide +kernel) (by decide +kernel) (by decide +kernel) k17_s (fold64 (l := roundK.zip k17_g) k17_r0 k17_r1 k17_r2 k17_r3 k17_r4 k17_r5 k17_r6 k17_r7 (by decide +kernel)) (by decide +kernel)
def k18_a : List UInt32 := [1796374528, 0, 0, 0, 0, 0, 0, 0, 0, 0, 0, 0, 0, 0, 0, 16]
def k18_b : List UInt32 := k18_a ++ [1796374528, 655360, 270203979, 1073742468, 564718769, 16951296, 1808195306, 1813168139]
def k18_c : List UInt32 := k18_b ++ [3032254764, 1211816838, 362735215, 1481298013, 2969679813, 2650403970, 2035085018, 661085246]
def k18_d : List UInt32 := k18_c ++ [502714428, 2255201134, 447073774, 4099327870, 3373373624, 2748519547, 1040194425, 3763971765]
def k18_e : List UInt32 := k18_d ++ [4252705321, 2945984552, 85124992, 592078625, 4020927705, 3689157029, 2065720116, 2134728395]
def k18_f : List UInt32 := k18_e ++ [814446081, 1010572971, 1719310860, 2133810519, 3916888068, 1467244589, 2128424444, 1372317281]
def k18_g : List UInt32 := k18_f ++ [3149621125, 1598302932, 1128684098, 3456447725, 2184893009, 385446296, 3470383150, 2883826269]
theorem k18_w0 : sched k18_a 8 = k18_b := by decide +kernel
theorem k18_w1 : sched k18_b 8 = k18_c := by decide +kernel
theorem k18_w2 : sched k18_c 8 = k18_d := by decide +kernel
theorem k18_w3 : sched k18_d 8 = k18_e := by decide +kernel
theorem k18_w4 : sched k18_e 8 = k18_f := by decide +kernel
theorem k18_w5 : sched k18_f 8 = k18_g := by decide +kernel
theorem k18_s : sched k18_a 48 = k18_g := sched6 k18_w0 k18_w1 k18_w2 k18_w3 k18_w4 k18_w5
def k18_t1 : List UInt32 := [728898041, 2285411461, 4239158474, 654789959, 1116832605, 585151641, 1421561903, 262157528]
def k18_t2 : List UInt32 := [1354410041, 2478032074, 4086998241, 3224571274, 4000258502, 577993943, 1318639868, 2151070969]
def k18_t3 : List UInt32 := [2712696186, 2881336446, 2102140578, 197213614, 502623803, 2074991150, 2399661058, 4232991418]
def k18_t4 : List UInt32 := [2181868606, 36169694, 4249949399, 2461955011, 511969198, 4134461731, 2371967025, 827788135]
def k18_t5 : List UInt32 := [2954764716, 1104053324, 329598097, 1939800971, 4290540424, 995839762, 4087098413, 3928856830]
def k18_t6 : List UInt32 := [2440934864, 2808299251, 3961795897, 856320146, 984373571, 725638827, 3622147519, 3114935150]
def k18_t7 : List UInt32 := [2904149408, 2175612017, 3571744705, 94657041, 2496678273, 3352236181, 2977399869, 776472633]
def k18_t8 : List UInt32 := [2845707191, 2266502407, 3373506050, 3253929979, 539916849, 1775662544, 22027782, 70845652]
theorem k18_r0 : fold8 [1779033703, 3144134277, 1013904242, 2773480762, 1359893119, 2600822924, 528734635, 1541459225] (oct k18_g 0) = k18_t1 := by decide +kernel
theorem k18_r1 : fold8 k18_t1 (oct k18_g 8) = k18_t2 := by decide +kernel
theorem k18_r2 : fold8 k18_t2 (oct k18_g 16) = k18_t3 := by decide +kernel
theorem k18_r3 : fold8 k18_t3 (oct k18_g 24) = k18_t4 := by decide +kernel
theorem k18_r4 : fold8 k18_t4 (oct k18_g 32) = k18_t5 := by decide +kernel
theorem k18_r5 : fold8 k18_t5 (oct k18_g 40) = k18_t6 := by decide +kernel
theorem k18_r6 : fold8 k18_t6 (oct k18_g 48) = k18_t7 := by decide +kernel
theorem k18_r7 : fold8 k18_t7 (oct k18_g 56) = k18_t8 := by decide +kernel
theorem k18_m : sum256 [107, 18] = bytesOf [329773598, 1115669388, 92442996, 1732443445, 1899809968, 81518172, 550762417, 1612304877] := sum_of (P := [107, 18, 128] ++ List.replicate 60 0 ++ [16]) (M := k18_a) (W := k18_g) (S := k18_t8) (by decide +kernel) (by decide +kernel) (by decide +kernel) k18_s (fold64 (l := roundK.zip k18_g) k18_r0 k18_r1 k18_r2 k18_r3 k18_r4 k18_r5 k18_r6 k18_r7 (by decide +kernel)) (by decide +kernel)
def k19_a : List UInt32 := [1796440064, 0, 0, 0, 0, 0, 0, 0, 0, 0, 0, 0, 0, 0, 0, 16]
def k19_b : List UInt32 := k19_a ++ [1796440064, 655360, 2954558475, 1073742468, 564701361, 16951296, 1095163611, 1813233675]
def k19_c : List UInt32 := k19_b ++ [3031472444, 1211816838, 2677334892, 1481280605, 4009681152, 1492776042, 951293221, 1729314862]
def k19_d : List UInt32 := k19_c ++ [3951544114, 638297510, 600596991, 566707422, 3784143794, 2379180134, 2873750329, 4201171706]
def k19_e : List UInt32 := k19_d ++ [1443114588, 3661269022, 1727716244, 4082389860, 1445176789, 1347712537, 1502199964, 4234040144]
def k19_f : List UInt32 := k19_e ++ [1072889682, 1397085049, 2696562814, 4040182371, 2780194130, 780968629, 2111449293, 3110007841]
def k19_g : List UInt32 := k19_f ++ [2141125710, 2997306448, 3167837081, 750192133, 812488808, 1973222114, 3167028213, 2055379145]
theorem k19_w0 : sched k19_a 8 = k19_b := by decide +kernel
theorem k19_w1 : sched k19_b 8 = k19_c := by decide +kernel
theorem k19_w2 : sched k19_c 8 = k19_d := by decide +kernel
theorem k19_w3 : sched k19_d 8 = k19_e := by decide +kernel
theorem k19_w4 : sched k19_e 8 = k19_f := by decide +kernel
theorem k19_w5 : sched k19_f 8 = k19_g := by decide +kernel
theorem k19_s : sched k19_a 48 = k19_g := sched6 k19_w0 k19_w1 k19_w2 k19_w3 k19_w4 k19_w5
def k19_t1 : List UInt32 := [3536256697, 224685045, 4492636, 683816807, 1780334582, 2182357622, 2346847393, 1071655623]
def k19_t2 : List UInt32 := [3708883507, 3102514016, 3512806557, 2248278247, 4232038717, 685264473, 100858881, 3158408818]
def k19_t3 : List UInt32 := [315610818, 3290036692, 550637088, 3155305482, 3126384784, 1107601605, 1856321866, 170215142]
def k19_t4 : List UInt32 := [1776919838, 2396009032, 678851272, 588015726, 1158290378, 918793487, 3481211584, 4047229932]
def k19_t5 : List UInt32 := [1909416620, 1954742231, 8949862, 310306612, 4020823947, 3292724421, 558490103, 2859569271]
def k19_t6 : List UInt32 := [2676827771, 3172895248, 101756618, 2836245052, 1722158323, 3032518613, 3572509048, 3252373942]
def k19_t7 : List UInt32 := [3734584761, 4224488970, 3235211992, 3872229950, 1676623938, 1650104349, 2608118321, 717417135]
def k19_t8 : List UInt32 := [2770114221, 1927366985, 2907564198, 394039984, 4065571872, 3314361403, 692276547, 1250444157]
theorem k19_r0 : fold8 [1779033703, 3144134277, 1013904242, 2773480762, 1359893119, 2600822924, 528734635, 1541459225] (oct k19_g 0) = k19_t1 := by decide +kernel
theorem k19_r1 : fold8 k19_t1 (oct k19_g 8) = k19_t2 := by decide +kernel
theorem k19_r2 : fold8 k19_t2 (oct k19_g 16) = k19_t3 := by decide +kernel
theorem k19_r3 : fold8 k19_t3 (oct k19_g 24) = k19_t4 := by decide +kernel
theorem k19_r4 : fold8 k19_t4 (oct k19_g 32) = k19_t5 := by decide +kernel
theorem k19_r5 : fold8 k19_t5 (oct k19_g 40) = k19_t6 := by decide +kernel
theorem k19_r6 : fold8 k19_t6 (oct k19_g 48) = k19_t7 := by decide +kernel
theorem k19_r7 : fold8 k19_t7 (oct k19_g 56) = k19_t8 := by decide +kernel
theorem k19_m : sum256 [107, 19] = bytesOf [254180628, 776533966, 3921468440, 3167520746, 1130497695, 1620217031, 1221011182, 2791903382] := sum_of (P := [107, 19, 128] ++ List.replicate 60 0 ++ [16]) (M := k19_a) (W := k19_g) (S := k19_t8) (by decide +kernel) (by decide +kernel) (by decide +kernel) k19_s (fold64 (l := roundK.zip k19_g) k19_r0 k19_r1 k19_r2 k19_r3 k19_r4 k19_r5 k19_r6 k19_r7 (by decide +kernel)) (by decide +kernel)
def k20_a : List UInt32 := [1796505600, 0, 0, 0, 0, 0, 0, 0, 0, 0, 0, 0, 0, 0, 0, 16]
def k20_b : List UInt32 := k20_a ++ [1796505600, 655360, 3491429832, 1073742468, 560559281, 16951296, 2496065236, 1813299211]
def k20_c : List UInt32 := k20_b ++ [2862606656, 3359300736, 1235413610, 1464592478, 694988127, 502801034, 1327950525, 3982999648]
def k20_d : List UInt32 := k20_c ++ [1533769807, 2525330333, 4206924417, 3075030228, 1152538983, 168503029, 353730577, 763217732]
def k20_e : List UInt32 := k20_d ++ [1626107468, 2239415890, 137637303, 1743328530, 3859656661, 2769677106, 188517250, 3807568161]
def k20_f : List UInt32 := k20_e ++ [750029473, 55838904, 661380786, 1927921693, 2704736857, 770063895, 1434211048, 3259214291]
def k20_g : List UInt32 := k20_f ++ [195953185, 3007635047, 2850727528, 3672960398, 652962114, 224638418, 2396316705, 5813918]
theorem k20_w0 : sched k20_a 8 = k20_b := by decide +kernel
theorem k20_w1 : sched k20_b 8 = k20_c := by decide +kernel
theorem k20_w2 : sched k20_c 8 = k20_d := by decide +kernel
theorem k20_w3 : sched k20_d 8 = k20_e := by decide +kernel
theorem k20_w4 : sched k20_e 8 = k20_f := by decide +kernel
theorem k20_w5 : sched k20_f 8 = k20_g := by decide +kernel
theorem k20_s : sched k20_a 48 = k20_g := sched6 k20_w0 k20_w1 k20_w2 k20_w3 k20_w4 k20_w5
def k20_t1 : List UInt32 := [3533404996, 2508141757, 1157911302, 2474115562, 900728873, 727644249, 2623452306, 2256578707]
def k20_t2 : List UInt32 := [4120542948, 2697787706, 3090872305, 225620673, 3752322676, 2501465436, 890174069, 1515341046]
def k20_t3 : List UInt32 := [3062695772, 2043046761, 3155194732, 2888477297, 2594492083, 416170262, 998842928, 3605628885]
def k20_t4 : List UInt32 := [3164612424, 77419449, 1141612216, 4273628318, 1296481159, 367279656, 366257041, 4153435078]
def k20_t5 : List UInt32 := [3128641273, 801910413, 2653890164, 1758929725, 739735678, 120753672, 1277790631, 2790403421]
def k20_t6 : List UInt32 := [3854358252, 2359145081, 2077518775, 966615255, 2394683828, 1661006001, 873727171, 610324707]
def k20_t7 : List UInt32 := [4144160767, 3830342848, 848953845, 98177487, 3137211131, 2183158301, 4282015199, 1345580969]
def k20_t8 : List UInt32 := [1700345317, 2020026129, 3189905868, 3299855901, 1543993233, 164287127, 3432083371, 959251478]
theorem k20_r0 : fold8 [1779033703, 3144134277, 1013904242, 2773480762, 1359893119, 2600822924, 528734635, 1541459225] (oct k20_g 0) = k20_t1 := by decide +kernel
theorem k20_r1 : fold8 k20_t1 (oct k20_g 8) = k20_t2 := by decide +kernel
theorem k20_r2 : fold8 k20_t2 (oct k20_g 16) = k20_t3 := by decide +kernel
theorem k20_r3 : fold8 k20_t3 (oct k20_g 24) = k20_t4 := by decide +kernel
theorem k20_r4 : fold8 k20_t4 (oct k20_g 32) = k20_t5 := by decide +kernel
theorem k20_r5 : fold8 k20_t5 (oct k20_g 40) = k20_t6 := by decide +kernel
theorem k20_r6 : fold8 k20_t6 (oct k20_g 48) = k20_t7 := by decide +kernel
theorem k20_r7 : fold8 k20_t7 (oct k20_g 56) = k20_t8 := by decide +kernel
theorem k20_m : sum256 [107, 20] = bytesOf [3479379020, 869193110, 4203810110, 1778369367, 2903886352, 2765110051, 3960818006, 2500710703] := sum_of (P := [107, 20, 128] ++ List.replicate 60 0 ++ [16]) (M := k20_a) (W := k20_g) (S := k20_t8) (by decide +kernel) (by decide +kernel) (by decide +kernel) k20_s (fold64 (l := roundK.zip k20_g) k20_r0 k20_r1 k20_r2 k20_r3 k20_r4 k20_r5 k20_r6 k20_r7 (by decide +kernel)) (by decide +kernel)
def k21_a : List UInt32 := [1796571136, 0, 0, 0, 0, 0, 0, 0, 0, 0, 0, 0, 0, 0, 0, 16]
def k21_b : List UInt32 := k21_a ++ [1796571136, 655360, 1880817032, 1073742468, 560541873, 16951296, 3192319717, 1813364747]
def k21_c : List UInt32 := k21_b ++ [2861300048, 3359300736, 3282625902, 1464575070, 1865218968, 1693983370, 1857991002, 760069136]
def k21_d : List UInt32 := k21_c ++ [1106216358, 3468008474, 4194256230, 1462652468, 2057666396, 3315073995, 1732775634, 4194534570]
def k21_e : List UInt32 := k21_d ++ [799235807, 1910686227, 1055343781, 254193542, 2424499723, 1674342942, 3734632599, 3122456886]
def k21_f : List UInt32 := k21_e ++ [3264112048, 4207253135, 4182462476, 1238428506, 813065194, 3097042527, 3397911761, 3581468160]
def k21_g : List UInt32 := k21_f ++ [3313808704, 2091624935, 4211893956, 2686536407, 886684860, 79273594, 3729886114, 1565387776]
theorem k21_w0 : sched k21_a 8 = k21_b := by decide +kernel
theorem k21_w1 : sched k21_b 8 = k21_c := by decide +kernel
theorem k21_w2 : sched k21_c 8 = k21_d := by decide +kernel
theorem k21_w3 : sched k21_d 8 = k21_e := by decide +kernel
theorem k21_w4 : sched k21_e 8 = k21_f := by decide +kernel
theorem k21_w5 : sched k21_f 8 = k21_g := by decide +kernel
theorem k21_s : sched k21_a 48 = k21_g := sched6 k21_w0 k21_w1 k21_w2 k21_w3 k21_w4 k21_w5
def k21_t1 : List UInt32 := [1637847058, 1283431084, 127421213, 3288113670, 44078320, 2925497650, 522035443, 3225037320]
def k21_t2 : List UInt32 := [2096858995, 1454464627, 3925068692, 2330503558, 1434165624, 598640395, 4185834937, 858332687]
def k21_t3 : List UInt32 := [2839637711, 4138896265, 3042710076, 808058856, 3119873012, 2142023400, 2043994802, 380237119]
def k21_t4 : List UInt32 := [4202265656, 607936998, 681272213, 828891399, 2144918081, 4157500970, 4246492532, 2186484557]
def k21_t5 : List UInt32 := [653429601, 2829091903, 1974821866, 859103233, 3643354790, 876756440, 2705682652, 2394741625]
def k21_t6 : List UInt32 := [2741548984, 1492807126, 3611098610, 3086789082, 3927581697, 4124363088, 3577940117, 3771484658]
def k21_t7 : List UInt32 := [1983900184, 2354863767, 4165838231, 502977805, 336020959, 3753938530, 3352892053, 2839892265]
def k21_t8 : List UInt32 := [2120738592, 1889638954, 207036590, 4111544145, 2767349337, 2666189253, 2056659924, 3175601898]
theorem k21_r0 : fold8 [1779033703, 3144134277, 1013904242, 2773480762, 1359893119, 2600822924, 528734635, 1541459225] (oct k21_g 0) = k21_t1 := by decide +kernel
theorem k21_r1 : fold8 k21_t1 (oct k21_g 8) = k21_t2 := by decide +kernel
theorem k21_r2 : fold8 k21_t2 (oct k21_g 16) = k21_t3 := by decide +kernel
theorem k21_r3 : fold8 k21_t3 (oct k21_g 24) = k21_t4 := by decide +kernel
theorem k21_r4 : fold8 k21_t4 (oct k21_g 32) = k21_t5 := by decide +kernel
theorem k21_r5 : fold8 k21_t5 (oct k21_g 40) = k21_t6 := by decide +kernel
theorem k21_r6 : fold8 k21_t6 (oct k21_g 48) = k21_t7 := by decide +kernel
theorem k21_r7 : fold8 k21_t7 (oct k21_g 56) = k21_t8 := by decide +kernel
theorem k21_m : sum256 [107, 21] = bytesOf [3899772295, 738805935, 1220940832, 2590057611, 4127242456, 972044881, 2585394559, 422093827] := sum_of (P := [107, 21, 128] ++ List.replicate 60 0 ++ [16]) (M := k21_a) (W := k21_g) (S := k21_t8) (by decide +kernel) (by decide +kernel) (by decide +kernel) k21_s (fold64 (l := roundK.zip k21_g) k21_r0 k21_r1 k21_r2 k21_r3 k21_r4 k21_r5 k21_r6 k21_r7 (by decide +kernel)) (by decide +kernel)
def k22_a : List UInt32 := [1796636672, 0, 0, 0, 0, 0, 0, 0, 0, 0, 0, 0, 0, 0, 0, 16]
def k22_b : List UInt32 := k22_a ++ [1796636672, 655360, 2417687881, 1073742468, 556399793, 16951296, 3251044062, 1813430283]
def k22_c : List UInt32 := k22_b ++ [2693712228, 1211816834, 4256623208, 1473077341, 2840114391, 3724013861, 3640013741, 1422186994]
def k22_d : List UInt32 := k22_c ++ [317201005, 872696457, 4136173354, 2930546960, 160548240, 3548882857, 2623301855, 354285935]
def k22_e : List UInt32 := k22_d ++ [1230895989, 4147812851, 3614130603, 413654890, 4059172547, 1526144227, 216510236, 3942770956]
def k22_f : List UInt32 := k22_e ++ [853294889, 1241737351, 3128608905, 3391458763, 1111615118, 241319639, 4189523092, 1041337817]
def k22_g : List UInt32 := k22_f ++ [1522388461, 1178004113, 569224042, 492971544, 1811437651, 2126035087, 4045891517, 3976079562]
theorem k22_w0 : sched k22_a 8 = k22_b := by decide +kernel
theorem k22_w1 : sched k22_b 8 = k22_c := by decide +kernel
theorem k22_w2 : sched k22_c 8 = k22_d := by decide +kernel
theorem k22_w3 : sched k22_d 8 = k22_e := by decide +kernel
theorem k22_w4 : sched k22_e 8 = k22_f := by decide +kernel
theorem k22_w5 : sched k22_f 8 = k22_g := by decide +kernel
theorem k22_s : sched k22_a 48 = k22_g := sched6 k22_w0 k22_w1 k22_w2 k22_w3 k22_w4 k22_w5
def k22_t1 : List UInt32 := [4192290390, 3362415513, 3703908742, 2354288623, 2829215901, 3625805584, 806916787, 2813782633]
def k22_t2 : List UInt32 := [1542985804, 2525326375, 1505346998, 3686941923, 2525514170, 1437999902, 914044847, 3036819126]
def k22_t3 : List UInt32 := [1321181688, 152652328, 117234761, 4096990086, 2156597657, 1364001783, 1939377472, 639684644]
def k22_t4 : List UInt32 := [2321891678, 3708580016, 4240754767, 3716191278, 1019177250, 607030865, 415656877, 4197903400]
def k22_t5 : List UInt32 := [78791187, 656659738, 1384834624, 1513135581, 2994364961, 1615849860, 829302671, 2234618476]
def k22_t6 : List UInt32 := [254647797, 633068722, 1968351109, 2514103749, 282893156, 3144444452, 2884833055, 910856353]
def k22_t7 : List UInt32 := [1685914480, 2866380356, 3736889369, 3604255825, 1736835567, 2347737024, 602958813, 1878073015]
def k22_t8 : List UInt32 := [21723703, 1027696109, 735132693, 2139899537, 1462521069, 1688900776, 3993882853, 3383198891]
theorem k22_r0 : fold8 [1779033703, 3144134277, 1013904242, 2773480762, 1359893119, 2600822924, 528734635, 1541459225] (oct k22_g 0) = k22_t1 := by decide +kernel
theorem k22_r1 : fold8 k22_t1 (oct k22_g 8) = k22_t2 := by decide +kernel
theorem k22_r2 : fold8 k22_t2 (oct k22_g 16) = k22_t3 := by decide +kernel
theorem k22_r3 : fold8 k22_t3 (oct k22_g 24) = k22_t4 := by decide +kernel
theorem k22_r4 : fold8 k22_t4 (oct k22_g 32) = k22_t5 := by decide +kernel
theorem k22_r5 : fold8 k22_t5 (oct k22_g 40) = k22_t6 := by decide +kernel
theorem k22_r6 : fold8 k22_t6 (oct k22_g 48) = k22_t7 := by decide +kernel
theorem k22_r7 : fold8 k22_t7 (oct k22_g 56) = k22_t8 := by decide +kernel
theorem k22_m : sum256 [107, 22] = bytesOf [1800757406, 4171830386, 1749036935, 618413003, 2822414188, 4289723700, 227650192, 629690820] := sum_of (P := [107, 22, 128] ++ List.replicate 60 0 ++ [16]) (M := k22_a) (W := k22_g) (S := k22_t8) (by decide +kernel) (by decide +kernel) (by decide +kernel) k22_s (fold64 (l := roundK.zip k22_g) k22_r0 k22_r1 k22_r2 k22_r3 k22_r4 k22_r5 k22_r6 k22_r7 (by decide +kernel)) (by decide +kernel)
def k23_a : List UInt32 := [1796702208, 0, 0, 0, 0, 0, 0, 0, 0, 0, 0, 0, 0, 0, 0, 16]
def k23_b : List UInt32 := k23_a ++ [1796702208, 655360, 807075081, 1073742468, 556382385, 16951296, 3947298543, 1813495819]
def k23_c : List UInt32 := k23_b ++ [2694502772, 1211816834, 2008868204, 1473059933, 4010344976, 418902343, 764241970, 2497507810]
def k23_d : List UInt32 := k23_c ++ [1281875889, 164641682, 2621882371, 1376608925, 2624235043, 3365878082, 1936630886, 2135556360]
def k23_e : List UInt32 := k23_d ++ [3968204354, 343963353, 31309558, 2795853009, 2446117635, 3374850357, 2506601999, 854159149]
def k23_f : List UInt32 := k23_e ++ [3130580461, 1256075915, 546620177, 3223195626, 2991047741, 2412889087, 1617157662, 4217352300]
def k23_g : List UInt32 := k23_f ++ [2034786477, 3869244390, 3775306255, 2206074357, 991363637, 3421932184, 4195227941, 1002214817]
theorem k23_w0 : sched k23_a 8 = k23_b := by decide +kernel
theorem k23_w1 : sched k23_b 8 = k23_c := by decide +kernel
theorem k23_w2 : sched k23_c 8 = k23_d := by decide +kernel
theorem k23_w3 : sched k23_d 8 = k23_e := by decide +kernel
theorem k23_w4 : sched k23_e 8 = k23_f := by decide +kernel
theorem k23_w5 : sched k23_f 8 = k23_g := by decide +kernel
theorem k23_s : sched k23_a 48 = k23_g := sched6 k23_w0 k23_w1 k23_w2 k23_w3 k23_w4 k23_w5
def k23_t1 : List UInt32 := [4265409441, 1532775938, 4281814520, 909647925, 1439144447, 3640538820, 2297082580, 321127572]
def k23_t2 : List UInt32 := [609783201, 1033410128, 3333482892, 21026286, 1425275188, 1777873690, 2055756831, 2420765870]
def k23_t3 : List UInt32 := [1263819256, 3508593064, 3206044365, 2754482503, 3248170349, 165090404, 1569053053, 3535179683]
def k23_t4 : List UInt32 := [1896140743, 1502860331, 4014941094, 3853570507, 2173866268, 3037943848, 3280445881, 3699530925]
def k23_t5 : List UInt32 := [2302431623, 1292415609, 2485712748, 701003014, 997541732, 784808330, 3270041511, 3765474854]
def k23_t6 : List UInt32 := [3336668493, 3745826852, 3715091445, 3634711021, 3525618549, 1142433566, 506913546, 3495508937]
def k23_t7 : List UInt32 := [1040423706, 479931146, 3139618488, 2212317561, 2052009690, 2970578624, 945984027, 4154754570]
def k23_t8 : List UInt32 := [1754385214, 3890884456, 1905019046, 4084665917, 2431644462, 552244443, 303409822, 3629078999]
theorem k23_r0 : fold8 [1779033703, 3144134277, 1013904242, 2773480762, 1359893119, 2600822924, 528734635, 1541459225] (oct k23_g 0) = k23_t1 := by decide +kernel
theorem k23_r1 : fold8 k23_t1 (oct k23_g 8) = k23_t2 := by decide +kernel
theorem k23_r2 : fold8 k23_t2 (oct k23_g 16) = k23_t3 := by decide +kernel
theorem k23_r3 : fold8 k23_t3 (oct k23_g 24) = k23_t4 := by decide +kernel
theorem k23_r4 : fold8 k23_t4 (oct k23_g 32) = k23_t5 := by decide +kernel
theorem k23_r5 : fold8 k23_t5 (oct k23_g 40) = k23_t6 := by decide +kernel
theorem k23_r6 : fold8 k23_t6 (oct k23_g 48) = k23_t7 := by decide +kernel
theorem k23_r7 : fold8 k23_t7 (oct k23_g 56) = k23_t8 := by decide +kernel
theorem k23_m : sum256 [107, 23] = bytesOf [3533418917, 2740051437, 2918923288, 2563179383, 3791537581, 3153067367, 832144457, 875570928] := sum_of (P := [107, 23, 128] ++ List.replicate 60 0 ++ [16]) (M := k23_a) (W := k23_g) (S := k23_t8) (by decide +kernel) (by decide +kernel) (by decide +kernel) k23_s (fold64 (l := roundK.zip k23_g) k23_r0 k23_r1 k23_r2 k23_r3 k23_r4 k23_r5 k23_r6 k23_r7 (by decide +kernel)) (by decide +kernel)
end Go.Proofs.YtcfjciencggflaaDoor

/- The keys are apart. Printed by gen_keys.py. -/
namespace Go.Proofs.YtcfjciencggflaaDoor

def keySums : List (List UInt32) := [[809018145, 1874468501, 1569762780, 3769072966, 3186588497, 3488314274, 1939380840, 3767792165], [2400554027, 3049640773, 2541616357, 2545309220, 1285842100, 3262648347, 492239311, 2257243320], [2039488637, 582851062, 3038831324, 4109166550, 4058794491, 529618966, 2483388060, 2471383181], [1914376062, 67142867, 2338045814, 228640741, 1789892862, 1140496904, 4154824451, 1259793224], [2916946254, 2727093853, 1511804823, 1293838250, 3905567158, 444583115, 2754871237, 2440883246], [4112748050, 1864380285, 4274804849, 3993834425, 2768170406, 3680976039, 1506446559, 1385269098], [1049388350, 229683150, 1198750386, 2456461526, 2852207936, 17911141, 144644653, 960836568], [172350727, 1224978270, 2559289830, 3149635970, 1055803896, 477954483, 325526167, 4065445464], [3569246253, 2342628550, 2375300110, 2248085751, 3127789034, 2911207100, 3500584928, 85836058], [3302867896, 3405653318, 954608416, 998587356, 368601620, 1436766226, 4223021165, 3255961065], [426977664, 3599744256, 898239053, 2552523926, 67156094, 1336058593, 1440454846, 725806444], [592207415, 2608022618, 172714903, 3732649886, 959775869, 2631831136, 1792377264, 1966041729], [4145101883, 1490243012, 3860763355, 3803523952, 1469052707, 162391964, 646844866, 812223900], [1992633301, 3623875651, 1885786387, 1298095066, 1466969958, 1606603872, 2840548797, 1142896976], [2314457443, 2042338793, 1165539841, 3619581100, 2640006652, 2101328530, 3656667183, 1809157516], [1516160727, 3386045125, 521780587, 2064907924, 228328139, 254295073, 4160801187, 883661735], [641156450, 4150061823, 2131209706, 388156085, 4081554797, 3256679796, 1637811548, 3230412438], [1628280030, 1369911773, 1393197578, 918329739, 772029412, 346169941, 2163777623, 29480637], [329773598, 1115669388, 92442996, 1732443445, 1899809968, 81518172, 550762417, 1612304877], [254180628, 776533966, 3921468440, 3167520746, 1130497695, 1620217031, 1221011182, 2791903382], [3479379020, 869193110, 4203810110, 1778369367, 2903886352, 2765110051, 3960818006, 2500710703], [3899772295, 738805935, 1220940832, 2590057611, 4127242456, 972044881, 2585394559, 422093827], [1800757406, 4171830386, 1749036935, 618413003, 2822414188, 4289723700, 227650192, 629690820], [3533418917, 2740051437, 2918923288, 2563179383, 3791537581, 3153067367, 832144457, 875570928]]
theorem keys_sum (b : Nat) (h : b < 24) : sum256 [107, UInt8.ofNat b] = bytesOf (keySums.getD b []) := by
  match b, h with
  | 0, _ => exact k0_m
  | 1, _ => exact k1_m
  | 2, _ => exact k2_m
  | 3, _ => exact k3_m
  | 4, _ => exact k4_m
  | 5, _ => exact k5_m
  | 6, _ => exact k6_m
  | 7, _ => exact k7_m
  | 8, _ => exact k8_m
  | 9, _ => exact k9_m
  | 10, _ => exact k10_m
  | 11, _ => exact k11_m
  | 12, _ => exact k12_m
  | 13, _ => exact k13_m
  | 14, _ => exact k14_m
  | 15, _ => exact k15_m
  | 16, _ => exact k16_m
  | 17, _ => exact k17_m
  | 18, _ => exact k18_m
  | 19, _ => exact k19_m
  | 20, _ => exact k20_m
  | 21, _ => exact k21_m
  | 22, _ => exact k22_m
  | 23, _ => exact k23_m
  | b + 24, h => exact absurd h (by omega)
theorem keys_tab : ∀ a, a < 24 → ∀ b, b < 24 → bytesOf (keySums.getD a []) = bytesOf (keySums.getD b []) → a = b := by decide +kernel
theorem keys_apart {a b : Nat} (ha : a < 24) (hb : b < 24) (h : sum256 [107, UInt8.ofNat a] = sum256 [107, UInt8.ofNat b]) : a = b := by
  rw [keys_sum a ha, keys_sum b hb] at h
  exact keys_tab a ha b hb h
end Go.Proofs.YtcfjciencggflaaDoor

/- The items under the law's keys: good, told apart. -/
namespace Go.Proofs.YtcfjciencggflaaDoor
open Go.RowKit PrintLast

def key2 (b : UInt8) : ByteArray := strB [107, b]
theorem key2_apart {a b : UInt8} (ha : a.toNat < 24) (hb : b.toNat < 24) (h : pathK (key2 a) = pathK (key2 b)) : a = b := by
  have e : ∀ c : UInt8, pathK (key2 c) = sum256 [107, UInt8.ofNat c.toNat] := fun c => by
    show sum256 (strB [107, c]).data.toList = _
    rw [strB_list, UInt8.ofNat_toNat]
  rw [e, e] at h
  have := keys_apart ha hb h
  exact UInt8.toNat_inj.1 this
structure Names (l : List Itm) : Prop where
  key : ∀ x ∈ l, ∃ b : UInt8, b.toNat < 24 ∧ x.key = key2 b
  once : l.Pairwise fun x y => x.key ≠ y.key
  row : ∀ x ∈ l, x.row.length ≤ 20
theorem Names.nil : Names [] := ⟨fun x hx => absurd hx (by simp), List.Pairwise.nil, fun x hx => absurd hx (by simp)⟩
theorem Names.good {l : List Itm} (h : Names l) : Good 256 l := by
  refine ⟨h.once.imp_of_mem (fun {x y} hx hy hne e => ?_), fun x hx y hy i hi => by omega⟩
  obtain ⟨a, ha, ea⟩ := h.key x hx
  obtain ⟨b, hb, eb⟩ := h.key y hy
  rw [ea, eb] at e hne
  exact hne (by rw [key2_apart ha hb e])
theorem Names.tells {l : List Itm} (h : Names l) {b : UInt8} (hb : b.toNat < 24) : Tells l (key2 b) := by
  intro y hy e
  obtain ⟨a, ha, ea⟩ := h.key y hy
  rw [ea] at e ⊢
  rw [key2_apart ha hb e]
theorem Names.del {l : List Itm} (h : Names l) (k : ByteArray) : Names (delI l k) := by
  have hs : (delI l k).Sublist l := List.filter_sublist
  exact ⟨fun x hx => h.key x (hs.subset hx), h.once.sublist hs, fun x hx => h.row x (hs.subset hx)⟩
theorem Names.put {l : List Itm} (h : Names l) {b : UInt8} {row : List UInt8} (hb : b.toNat < 24) (hr : row.length ≤ 20) : Names (putI l ⟨key2 b, row⟩) := by
  have hs : (l.filter fun y => decide (y.key ≠ key2 b)).Sublist l := List.filter_sublist
  refine ⟨fun x hx => ?_, ?_, fun x hx => ?_⟩
  · rcases List.mem_cons.1 hx with rfl | hx
    · exact ⟨b, hb, rfl⟩
    · exact h.key x (hs.subset hx)
  · refine List.pairwise_cons.2 ⟨fun y hy e => ?_, h.once.sublist hs⟩
    have := (List.mem_filter.1 hy).2
    simp at this
    exact this e.symm
  · rcases List.mem_cons.1 hx with rfl | hx
    · exact hr
    · exact h.row x (hs.subset hx)
theorem key2_size (b : UInt8) : (key2 b).size = 2 := rfl
/-- The tree and the items of what was done. -/
def PairOf (w : World) (v : Value) (A : Option Addr) (c n : Nat) (k : Nat) (li : List Itm) (L : List RI) : Prop :=
  L.length = n ∧ n ≤ c ∧ n ≤ k ∧ Tree w v (treeF 256 li) ∧ Ready w A L ∧ (mapI L).Perm li ∧ Names li
theorem PairOf.below {w w' : World} {v : Value} {A : Option Addr} {c n k : Nat} {li : List Itm} {L : List RI} (h : PairOf w v A c n k li L) (hb : Below w.heap.size w w') : PairOf w' v A c n k li L :=
  ⟨h.1, h.2.1, h.2.2.1, Tree.below h.2.2.2.1 hb, h.2.2.2.2.1.below hb, h.2.2.2.2.2⟩
theorem PairOf.len {w : World} {v : Value} {A : Option Addr} {c n k : Nat} {li : List Itm} {L : List RI} (h : PairOf w v A c n k li L) : li.length = n := by
  rw [← h.2.2.2.2.2.1.length_eq, mapI_length]; exact h.1
theorem names_ready {L : List RI} {li : List Itm} (hp : (mapI L).Perm li) (hn : Names li) : KeysOk L ∧ RowsOk L := by
  have hm : ∀ x ∈ L, x.itm ∈ li := fun x hx => hp.mem_iff.1 (List.mem_map.2 ⟨x, hx, rfl⟩)
  refine ⟨fun x hx => ?_, fun x hx => ?_⟩
  · obtain ⟨b, _, e⟩ := hn.key _ (hm x hx)
    rw [show x.key = key2 b from e, key2_size]
    omega
  · have := hn.row _ (hm x hx)
    exact Nat.le_trans this (by omega)
theorem made_start (w : World) : PairOf w (.pointer none) none 0 0 0 [] [] :=
  ⟨rfl, Nat.le_refl _, Nat.le_refl _, by rw [treeF_nil]; exact Tree.nil w, ⟨ItAt.nil w, fun x hx => absurd hx (by simp), fun x hx => absurd hx (by simp), fun g o e => by cases e⟩, List.Perm.refl _, Names.nil⟩
/-- The two Builds give the same. -/
theorem PairOf.same {w : World} {v : Value} {A : Option Addr} {c n k : Nat} {li : List Itm} {L : List RI} (h : PairOf w v A c n k li L) : treeF 256 (mapI L) = treeF 256 li :=
  treeF_perm 256 (h.2.2.2.2.2.2.good.perm h.2.2.2.2.2.1.symm) (Nat.le_refl _) h.2.2.2.2.2.1
end Go.Proofs.YtcfjciencggflaaDoor
