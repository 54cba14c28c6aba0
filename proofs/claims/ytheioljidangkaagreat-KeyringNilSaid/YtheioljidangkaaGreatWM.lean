/- Walk: KeyringNil. No conditions. -/
import Derived.Test.YtheioljidangkaaGreatWN
import Derived.Test.YtheioljidangkaaGreatW20
import Derived.Test.YtheioljidangkaaGreatOpn
import Derived.Test.YtheioljidangkaaGreatFx
namespace Go.Proofs.YtheioljidangkaaGreat
open Go Go.RowKit Go.Sx
set_option linter.unusedSimpArgs false
set_option linter.unusedVariables false

section
variable {σ : Slots} {φ : Heap} {dst : Option Tmp} {ty : TypeId} {pos : String} {aft : Array Edge} {g : Option (Nat × Bool)}
theorem rd_kkeq_t {U : TypeId} {x y : Operand} {a b : KK} (hx : ev σ x = some (kkK a)) (hy : ev σ y = some (kkK b)) (h : a = b) : Rd Tryz.prog σ φ ⟨dst, .binOp .eql 39 x y U, ty, pos, aft, g⟩ (.bool true) := by
  have := rd_eql39 (U := U) (φ := φ) (dst := dst) (ty := ty) (pos := pos) (aft := aft) (g := g) hx hy
  rwa [decide_eq_true h] at this
end
set_option maxRecDepth 100000 in
set_option maxHeartbeats 2000000 in
theorem nil_ret (m : MV) (number : Int) (w : World) : Ret Tryz.prog 4 [mvK m, I number] w [] (fun u _ => u = .bool true) := by
  refine enter (n := 132) (args := [mvK m, I number]) [] [] Tryz.func4 rfl rfl rfl (HpOK.nil w) (by simp) ?_
  refine wc_seq ?_
  refine wc_plain [(0, .x true), (1, .x true)] (by kernel_rfl) ?_
  refine ws_box rfl rfl rfl rfl ?_
  intro b2 hb2
  refine ws_l rfl rfl rfl rfl (rd_assign rfl) ?_
  refine ws_nil ?_
  refine qe_then ?_
  refine wc_seq ?_
  refine wc_plain [(0, .x true)] (by kernel_rfl) ?_
  refine ws_l rfl rfl rfl rfl (rd_assign rfl) ?_
  refine ws_nil ?_
  refine qe_then ?_
  refine wc_seq ?_
  refine wc_plain [(0, .x true), (1, .x true), (2, .x true), (3, .x true), (4, .x true), (5, .x true), (6, .x true), (7, .x true), (8, .x true), (9, .x true)] (by kernel_rfl) ?_
  refine ws_l rfl rfl rfl rfl (rd_load rfl) ?_
  refine ws_callp rfl rfl rfl rfl rfl (En.go) (fun w hp hn ho => rekey_ret m w) ?_
  refine ws_l rfl rfl rfl rfl (rd_move rfl) ?_
  refine ws_l rfl rfl rfl rfl (rd_extract rfl) ?_
  refine ws_l rfl rfl rfl rfl (rd_extract rfl) ?_
  refine ws_l rfl rfl rfl rfl (rd_extract rfl) ?_
  refine ws_alloc rfl rfl rfl ?_
  intro b6 hb6
  refine ws_store rfl rfl rfl rfl (by first | exact .inl (by assumption) | exact .inr (by simp)) (fun _ h _ => by first | (cases h; done) | exact List.mem_cons_of_mem _ h | exact List.mem_cons_of_mem _ (List.mem_cons_of_mem _ h) | (simp at h ⊢; simp [h])) ?_
  refine ws_l rfl rfl rfl rfl (rd_assign rfl) ?_
  refine ws_l rfl rfl rfl rfl (rd_assign rfl) ?_
  refine ws_nil ?_
  refine qe_then ?_
  refine wc_keep [(1, _), (4, _), (5, _), (6, _), (7, _), (8, _)] rfl ?_
  refine wc_seq ?_
  refine wc_plain [(0, .x true), (1, .x true), (2, .x true), (3, .x true), (4, .x true), (5, .x true), (6, .x true), (7, .x true), (8, .x true), (9, .x true), (10, .x true)] (by kernel_rfl) ?_
  refine ws_l rfl rfl rfl rfl (rd_move rfl) ?_
  refine ws_l rfl rfl rfl rfl (rd_fieldAddr rfl) ?_
  refine ws_l rfl rfl rfl rfl (rd_load rfl) ?_
  refine ws_l rfl rfl rfl rfl (rd_move rfl) ?_
  refine ws_callp rfl rfl rfl rfl rfl (En.go) (fun w hp hn ho => key_nil _ _ w) ?_
  refine ws_l rfl rfl rfl rfl (rd_move rfl) ?_
  refine ws_l rfl rfl rfl rfl (rd_extract rfl) ?_
  refine ws_l rfl rfl rfl rfl (rd_extract rfl) ?_
  refine ws_alloc rfl rfl rfl ?_
  intro b9 hb9
  refine ws_store rfl rfl rfl rfl (by first | exact .inl (by assumption) | exact .inr (by simp)) (fun _ h _ => by first | (cases h; done) | exact List.mem_cons_of_mem _ h | exact List.mem_cons_of_mem _ (List.mem_cons_of_mem _ h) | (simp at h ⊢; simp [h])) ?_
  refine ws_l rfl rfl rfl rfl (rd_assign rfl) ?_
  refine ws_nil ?_
  refine qe_then ?_
  refine wc_keep [(1, _), (4, _), (5, _), (6, _), (7, _), (8, _), (9, _), (10, _)] rfl ?_
  refine wc_seq ?_
  refine wc_drawn mixedT _ (fun _ h => h) [(0, .x false), (1, .r), (2, .r), (3, .r), (4, .r), (5, .r), (6, .r), (7, .r), (8, .r), (9, .r), (10, .r), (12, .r), (13, .r), (15, .r), (16, .r), (17, .r), (18, .r), (11, .x false), (14, .r), (19, .x false), (20, .r), (21, .x false), (22, .r), (23, .r), (24, .r), (25, .r), (26, .r), (27, .r), (28, .x false), (29, .r), (30, .r), (31, .r), (32, .r), (33, .x false), (34, .r), (35, .r), (36, .r), (37, .r), (38, .r), (39, .r), (40, .x false), (41, .r), (42, .r), (43, .r), (44, .r), (45, .r), (46, .r), (47, .r), (48, .r), (49, .r), (50, .r), (51, .r), (52, .r), (53, .r), (54, .r), (55, .r), (56, .r), (57, .r), (58, .r), (59, .r), (61, .r), (62, .r), (63, .r), (64, .r), (60, .x false), (65, .x false), (66, .r), (67, .r), (68, .r), (69, .r), (70, .x false), (71, .r), (72, .r), (73, .r), (74, .r), (75, .r), (76, .x false), (77, .r), (78, .r), (79, .r), (80, .r), (81, .r), (82, .x false), (83, .x false), (84, .r), (85, .r), (86, .r), (88, .r), (87, .x false), (89, .x false), (90, .r), (91, .r), (92, .r), (93, .r), (94, .x false), (95, .r), (96, .r), (97, .r), (98, .r), (99, .x false), (100, .r), (101, .r), (102, .r), (103, .x false), (104, .x false), (105, .r), (106, .r), (107, .x false)] (okD_fast [⟨some 25, [], []⟩, ⟨some 26, [25], [0, 0]⟩, ⟨some 27, [5, 26], [1]⟩, ⟨some 28, [6, 26], [1]⟩, ⟨some 29, [28, 26], [3, 1]⟩, ⟨some 30, [6, 26], [1]⟩, ⟨some 31, [30, 26], [5, 1]⟩, ⟨some 32, [6, 26], [1]⟩, ⟨some 33, [32, 26], [7, 1]⟩, ⟨some 34, [6, 26], [1]⟩, ⟨some 35, [34, 26], [9, 1]⟩, ⟨some 36, [35, 26], [10, 1, 1]⟩, ⟨some 37, [6, 26], [1]⟩, ⟨some 38, [37, 26], [12, 1]⟩, ⟨some 39, [31, 33, 36, 38, 26], [6, 8, 11, 13, 1]⟩, ⟨some 40, [7, 26], [1]⟩, ⟨some 41, [8, 26], [1]⟩, ⟨some 42, [6, 26], [1]⟩, ⟨some 43, [42, 26], [17, 1]⟩, ⟨some 44, [43, 26], [18, 11, 1]⟩, ⟨some 45, [40, 41, 44, 26], [15, 16, 19, 1]⟩, ⟨some 46, [27, 29, 39, 45, 26], [2, 4, 14, 20, 19, 1]⟩, ⟨some 47, [46, 26], [21, 1]⟩, ⟨some 48, [26, 47], [1, 22]⟩, ⟨some 49, [48], [23, 21]⟩, ⟨some 50, [5, 49], [24]⟩, ⟨some 51, [6, 49], [24]⟩, ⟨some 52, [51, 49], [26, 24]⟩, ⟨some 53, [50, 52, 49], [25, 27, 24, 24]⟩, ⟨some 54, [53, 49], [28, 24]⟩, ⟨some 55, [49, 54], [24, 29]⟩, ⟨some 56, [55], [30, 28]⟩, ⟨some 57, [5, 56], [31]⟩, ⟨some 58, [57, 56], [32, 31, 31]⟩, ⟨some 59, [58, 56], [33, 31]⟩, ⟨some 60, [56, 59], [31, 34]⟩, ⟨some 61, [60], [35, 33]⟩, ⟨some 62, [5, 61], [36]⟩, ⟨some 63, [6, 61], [36]⟩, ⟨some 64, [63, 61], [38, 36]⟩, ⟨some 65, [62, 64, 61], [37, 39, 36, 36]⟩, ⟨some 66, [65, 61], [40, 36]⟩, ⟨some 67, [66, 61], [41, 36]⟩, ⟨some 68, [61, 67], [36, 42]⟩, ⟨some 69, [68], [43, 40]⟩, ⟨some 70, [9, 69], [44]⟩, ⟨some 71, [69], [44]⟩, ⟨some 72, [70, 71, 69], [45, 46, 44]⟩, ⟨some 73, [69, 72], [44, 47]⟩, ⟨some 74, [73], [48, 44]⟩, ⟨some 75, [10, 74], [49]⟩, ⟨some 76, [75, 74], [50, 49]⟩, ⟨some 77, [74, 76], [49, 51]⟩, ⟨some 78, [77], [52, 49]⟩, ⟨some 79, [5, 78], [53]⟩, ⟨some 80, [6, 78], [53]⟩, ⟨some 81, [80, 78], [55, 53]⟩, ⟨some 82, [1, 78], [53]⟩, ⟨some 83, [6, 78], [53]⟩, ⟨some 84, [83, 78], [58, 53]⟩, ⟨some 85, [84, 78], [59, 53, 53]⟩, ⟨some 86, [6, 78], [53]⟩, ⟨some 87, [86, 78], [61, 53]⟩, ⟨some 88, [6, 78], [53]⟩, ⟨some 89, [88, 78], [63, 53]⟩, ⟨some 90, [79, 81, 82, 85, 87, 89, 78], [54, 56, 57, 60, 62, 64, 60, 53]⟩, ⟨some 91, [90, 78], [65, 53]⟩, ⟨some 92, [78, 91], [53, 66]⟩, ⟨some 93, [92], [67, 65]⟩, ⟨some 94, [5, 93], [68]⟩, ⟨some 95, [94, 93], [69, 68, 68]⟩, ⟨some 96, [95, 93], [70, 68]⟩, ⟨some 97, [96, 93], [71, 68]⟩, ⟨some 98, [93, 97], [68, 72]⟩, ⟨some 99, [98], [73, 70]⟩, ⟨some 100, [5, 99], [74]⟩, ⟨some 101, [100, 99], [75, 74, 74]⟩, ⟨some 102, [101, 99], [76, 74]⟩, ⟨some 103, [102, 99], [77, 74]⟩, ⟨some 104, [99, 103], [74, 78]⟩, ⟨some 105, [104], [79, 76]⟩, ⟨some 106, [5, 105], [80]⟩, ⟨some 107, [105], [80, 80]⟩, ⟨some 108, [106, 107, 105], [81, 82, 82, 80]⟩, ⟨some 109, [108, 105], [83, 80]⟩, ⟨some 110, [105, 109], [80, 84]⟩, ⟨some 111, [110], [85, 83]⟩, ⟨some 112, [111], [86, 86]⟩, ⟨some 113, [5, 111], [86]⟩, ⟨some 114, [112, 113, 111], [87, 88, 87, 86]⟩, ⟨some 115, [114, 111], [89, 86]⟩, ⟨some 116, [111, 115], [86, 90]⟩, ⟨some 117, [116], [91, 89]⟩, ⟨some 118, [5, 117], [92]⟩, ⟨some 119, [118, 117], [93, 92, 92]⟩, ⟨some 120, [119, 117], [94, 92]⟩, ⟨some 121, [117, 120], [92, 95]⟩, ⟨some 122, [121], [96, 94]⟩, ⟨some 123, [5, 122], [97]⟩, ⟨some 124, [123, 122], [98, 97, 97]⟩, ⟨some 125, [122, 124], [97, 99]⟩, ⟨some 126, [125], [100, 99]⟩, ⟨some 127, [5, 126], [101]⟩, ⟨some 128, [126], [101, 101]⟩, ⟨some 129, [127, 128, 126], [102, 103, 103, 101]⟩, ⟨some 130, [129, 126], [104, 101]⟩, ⟨some 131, [126, 130], [101, 105]⟩, ⟨some 4, [131], [106, 104, 0, 1, 2, 3, 4, 5, 6, 7, 8, 9, 10, 11, 12, 13, 14, 15, 16, 17, 18, 19, 20, 21, 22, 23, 24, 25, 26, 27, 28, 29, 30, 31, 32, 33, 34, 35, 36, 37, 38, 39, 40, 41, 42, 43, 44, 45, 46, 47, 48, 49, 50, 51, 52, 53, 54, 55, 56, 57, 58, 59, 60, 61, 62, 63, 64, 65, 66, 67, 68, 69, 70, 71, 72, 73, 74, 75, 76, 77, 78, 79, 80, 81, 82, 83, 84, 85, 86, 87, 88, 89, 90, 91, 92, 93, 94, 95, 96, 97, 98, 99, 100, 101, 102, 103, 104, 105, 106]⟩] (by kernel_rfl) (by kernel_rfl) (by kernel_rfl) (by kernel_rfl) (by kernel_rfl) (by kernel_rfl) (by kernel_rfl)) ?_
  refine ws_callp rfl rfl rfl rfl rfl (En.go) (fun w hp hn ho => known_ret w) ?_
  refine ws_r rfl rfl rfl rfl (rd_move rfl) ?_
  refine ws_r rfl rfl rfl rfl (rd_move rfl) ?_
  refine ws_r rfl rfl rfl rfl (rd_fieldAddr rfl) ?_
  refine ws_r rfl rfl rfl rfl (rd_load rfl) ?_
  refine ws_r rfl rfl rfl rfl (rd_fieldAddr rfl) ?_
  refine ws_r rfl rfl rfl rfl (rd_load rfl) ?_
  refine ws_r rfl rfl rfl rfl (rd_fieldAddr rfl) ?_
  refine ws_r rfl rfl rfl rfl (rd_load rfl) ?_
  refine ws_r rfl rfl rfl rfl (rd_fieldAddr rfl) ?_
  refine ws_r rfl rfl rfl rfl (rd_load rfl) ?_
  refine ws_r rfl rfl rfl rfl (rd_fieldAddr rfl) ?_
  refine ws_r rfl rfl rfl rfl (rd_load rfl) ?_
  refine ws_r rfl rfl rfl rfl (rd_move rfl) ?_
  refine ws_r rfl rfl rfl rfl (rd_move rfl) ?_
  refine ws_r rfl rfl rfl rfl (rd_fieldAddr rfl) ?_
  refine ws_r rfl rfl rfl rfl (rd_load rfl) ?_
  refine ws_callp rfl rfl rfl rfl rfl (En.go) (fun w hp hn ho => to_ret _ w) ?_
  refine ws_r rfl rfl rfl rfl (rd_build rfl) ?_
  refine ws_callp rfl rfl rfl rfl rfl (En.go) (fun w hp hn ho => to_ret _ w) ?_
  refine ws_r rfl rfl rfl rfl (rd_build rfl) ?_
  refine ws_callp rfl rfl rfl rfl rfl (En.go) (fun w hp hn ho => add_nil _ _ _ w) ?_
  refine ws_r rfl rfl rfl rfl (rd_cmp_t rfl rfl rfl (by simp [cmpP])) ?_
  refine ws_r rfl rfl rfl rfl (rd_pick_t rfl rfl) ?_
  refine ws_r rfl rfl rfl rfl (rd_move rfl) ?_
  refine ws_r rfl rfl rfl rfl (rd_move rfl) ?_
  refine ws_r rfl rfl rfl rfl (rd_fieldAddr rfl) ?_
  refine ws_r rfl rfl rfl rfl (rd_load rfl) ?_
  refine ws_callp rfl rfl rfl rfl rfl (En.go) (fun w hp hn ho => has_nil _ w) ?_
  refine ws_r rfl rfl rfl rfl (rd_not rfl) ?_
  refine ws_r rfl rfl rfl rfl (rd_pick_t rfl rfl) ?_
  refine ws_r rfl rfl rfl rfl (rd_move rfl) ?_
  refine ws_r rfl rfl rfl rfl (rd_move rfl) ?_
  refine ws_callp rfl rfl rfl rfl rfl (En.go) (fun w hp hn ho => len_nil w) ?_
  refine ws_r rfl rfl rfl rfl (rd_cmp_t rfl rfl rfl (by simp [cmpP])) ?_
  refine ws_r rfl rfl rfl rfl (rd_pick_t rfl rfl) ?_
  refine ws_r rfl rfl rfl rfl (rd_move rfl) ?_
  refine ws_r rfl rfl rfl rfl (rd_move rfl) ?_
  refine ws_r rfl rfl rfl rfl (rd_fieldAddr rfl) ?_
  refine ws_r rfl rfl rfl rfl (rd_load rfl) ?_
  refine ws_callp rfl rfl rfl rfl rfl (En.go) (fun w hp hn ho => chain_nil _ w) ?_
  refine ws_r rfl rfl rfl rfl (rd_len rfl Tryz.underlying47) ?_
  refine ws_r rfl rfl rfl rfl (rd_cmp_t rfl rfl rfl (by simp [cmpP])) ?_
  refine ws_r rfl rfl rfl rfl (rd_pick_t rfl rfl) ?_
  refine ws_r rfl rfl rfl rfl (rd_move rfl) ?_
  refine ws_r rfl rfl rfl rfl (rd_load rfl) ?_
  refine ws_r rfl rfl rfl rfl (rd_build rfl) ?_
  refine ws_r rfl rfl rfl rfl (rd_kkeq_t rfl rfl rfl) ?_
  refine ws_r rfl rfl rfl rfl (rd_pick_t rfl rfl) ?_
  refine ws_r rfl rfl rfl rfl (rd_move rfl) ?_
  refine ws_r rfl rfl rfl rfl (rd_move rfl) ?_
  refine ws_r rfl rfl rfl rfl (rd_not rfl) ?_
  refine ws_r rfl rfl rfl rfl (rd_pick_t rfl rfl) ?_
  refine ws_r rfl rfl rfl rfl (rd_move rfl) ?_
  refine ws_r rfl rfl rfl rfl (rd_move rfl) ?_
  refine ws_r rfl rfl rfl rfl (rd_fieldAddr rfl) ?_
  refine ws_r rfl rfl rfl rfl (rd_load rfl) ?_
  refine ws_r rfl rfl rfl rfl (rd_move rfl) ?_
  refine ws_r rfl rfl rfl rfl (rd_fieldAddr rfl) ?_
  refine ws_r rfl rfl rfl rfl (rd_load rfl) ?_
  refine ws_r rfl rfl rfl rfl (rd_fieldAddr rfl) ?_
  refine ws_r rfl rfl rfl rfl (rd_load rfl) ?_
  refine ws_r rfl rfl rfl rfl (rd_fieldAddr rfl) ?_
  refine ws_r rfl rfl rfl rfl (rd_load rfl) ?_
  refine ws_callp rfl rfl rfl rfl rfl (En.go) (fun w hp hn ho => to_ret _ w) ?_
  refine ws_callp rfl rfl rfl rfl rfl (En.go) (fun w hp hn ho => judge_nil _ _ _ _ _ w) ?_
  refine ws_r rfl rfl rfl rfl (rd_cmp_t rfl rfl rfl (by simp [cmpP])) ?_
  refine ws_r rfl rfl rfl rfl (rd_pick_t rfl rfl) ?_
  refine ws_r rfl rfl rfl rfl (rd_move rfl) ?_
  refine ws_r rfl rfl rfl rfl (rd_move rfl) ?_
  refine ws_callp rfl rfl rfl rfl rfl (En.go) (fun w hp hn ho => authors_nil w) ?_
  refine ws_r rfl rfl rfl rfl (rd_len rfl Tryz.underlying63) ?_
  refine ws_r rfl rfl rfl rfl (rd_cmp_t rfl rfl rfl (by simp [cmpP])) ?_
  refine ws_r rfl rfl rfl rfl (rd_pick_t rfl rfl) ?_
  refine ws_r rfl rfl rfl rfl (rd_move rfl) ?_
  refine ws_r rfl rfl rfl rfl (rd_move rfl) ?_
  refine ws_callp rfl rfl rfl rfl rfl (En.go) (fun w hp hn ho => counting_nil w) ?_
  refine ws_r rfl rfl rfl rfl (rd_len rfl Tryz.underlying42) ?_
  refine ws_r rfl rfl rfl rfl (rd_cmp_t rfl rfl rfl (by simp [cmpP])) ?_
  refine ws_r rfl rfl rfl rfl (rd_pick_t rfl rfl) ?_
  refine ws_r rfl rfl rfl rfl (rd_move rfl) ?_
  refine ws_r rfl rfl rfl rfl (rd_move rfl) ?_
  refine ws_call rfl rfl rfl rfl rfl (En.go) (fun w hp hn ho => new_ret w) (fun _ h => by cases h) (fun hh q h => by first | (cases h; done) | exact hh q h) ?_
  rintro v107 wa wb hpo hon hon2 hp1 ⟨pa, ma, ka, rfl, hpa, hma, hka, hnda, hpha⟩
  refine ⟨_, hpha, by simpa using hnda, fun b hb => by simp at hb; rcases hb with rfl | rfl | rfl; exact .inl hpa; exact .inl hma; exact .inl hka, ?_⟩
  replace hpa := Nat.le_trans hon.size hpa
  replace hma := Nat.le_trans hon.size hma
  replace hka := Nat.le_trans hon.size hka
  simp only [List.cons_append, List.nil_append]
  refine ws_callp rfl rfl rfl rfl rfl (En.go) (fun w hp hn ho => merge_nil _ w) ?_
  refine ws_r rfl rfl rfl rfl (rd_cmp_t rfl rfl rfl (by simp [cmpP])) ?_
  refine ws_r rfl rfl rfl rfl (rd_pick_t rfl rfl) ?_
  refine ws_r rfl rfl rfl rfl (rd_move rfl) ?_
  refine ws_r rfl rfl rfl rfl (rd_move rfl) ?_
  refine ws_call rfl rfl rfl rfl rfl (En.go) (fun w hp hn ho => new_ret w) (fun _ h => by cases h) (fun hh q h => by first | (cases h; done) | exact hh q h) ?_
  rintro v112 wa wb hpo hon hon2 hp1 ⟨pb, mb, kb, rfl, hpb, hmb, hkb, hndb, hphb⟩
  refine ⟨_, hphb, by simpa using hndb, fun b hb => by simp at hb; rcases hb with rfl | rfl | rfl; exact .inl hpb; exact .inl hmb; exact .inl hkb, ?_⟩
  replace hpb := Nat.le_trans hon.size hpb
  replace hmb := Nat.le_trans hon.size hmb
  replace hkb := Nat.le_trans hon.size hkb
  simp only [List.cons_append, List.nil_append]
  refine ws_callp rfl rfl rfl rfl rfl (En.go) (fun w hp hn ho => merge_nil2 _ w) ?_
  refine ws_r rfl rfl rfl rfl (rd_cmp_t rfl rfl rfl (by simp [cmpP])) ?_
  refine ws_r rfl rfl rfl rfl (rd_pick_t rfl rfl) ?_
  refine ws_r rfl rfl rfl rfl (rd_move rfl) ?_
  refine ws_r rfl rfl rfl rfl (rd_move rfl) ?_
  refine ws_callp rfl rfl rfl rfl rfl (En.go) (fun w hp hn ho => clone_nil w) ?_
  refine ws_r rfl rfl rfl rfl (rd_nil_nil rfl rfl Tryz.underlying24 rfl) ?_
  refine ws_r rfl rfl rfl rfl (rd_pick_t rfl rfl) ?_
  refine ws_r rfl rfl rfl rfl (rd_move rfl) ?_
  refine ws_r rfl rfl rfl rfl (rd_move rfl) ?_
  refine ws_callp rfl rfl rfl rfl rfl (En.go) (fun w hp hn ho => equal_nil w) ?_
  refine ws_r rfl rfl rfl rfl (rd_pick_t rfl rfl) ?_
  refine ws_r rfl rfl rfl rfl (rd_move rfl) ?_
  refine ws_r rfl rfl rfl rfl (rd_move rfl) ?_
  refine ws_call rfl rfl rfl rfl rfl (En.go) (fun w hp hn ho => new_ret w) (fun _ h => by cases h) (fun hh q h => by first | (cases h; done) | exact hh q h) ?_
  rintro v128 wa wb hpo hon hon2 hp1 ⟨pc, mc, kc, rfl, hpc, hmc, hkc, hndc, hphc⟩
  refine ⟨_, hphc, by simpa using hndc, fun b hb => by simp at hb; rcases hb with rfl | rfl | rfl; exact .inl hpc; exact .inl hmc; exact .inl hkc, ?_⟩
  replace hpc := Nat.le_trans hon.size hpc
  replace hmc := Nat.le_trans hon.size hmc
  replace hkc := Nat.le_trans hon.size hkc
  simp only [List.cons_append, List.nil_append]
  refine ws_callp rfl rfl rfl rfl rfl (En.go) (fun w hp hn ho => equal_nil2 _ w) ?_
  refine ws_r rfl rfl rfl rfl (rd_not rfl) ?_
  refine ws_r rfl rfl rfl rfl (rd_pick_t rfl rfl) ?_
  refine ws_l rfl rfl rfl rfl (rd_assign rfl) ?_
  refine ws_nil ?_
  refine qe_then ?_
  refine wc_keep [(4, _)] rfl ?_
  refine wc_ret ?_
  refine qe_body _ (.inl rfl) (res1 rfl (RV.tmp rfl)) ?_
  exact ret_end fun w hp hn ho => rfl

end Go.Proofs.YtheioljidangkaaGreat
