/- Walks: the literal words. No conditions. -/
import Derived.Test.YtheioljidangkaaGreatW1
namespace Go.Proofs.YtheioljidangkaaGreat
open Go Go.RowKit Go.Sx
set_option linter.unusedSimpArgs false
set_option linter.unusedVariables false

def kK : WV 64 := #v[1116352408, 1899447441, 3049323471, 3921009573, 961987163, 1508970993, 2453635748, 2870763221, 3624381080, 310598401, 607225278, 1426881987, 1925078388, 2162078206, 2614888103, 3248222580, 3835390401, 4022224774, 264347078, 604807628, 770255983, 1249150122, 1555081692, 1996064986, 2554220882, 2821834349, 2952996808, 3210313671, 3336571891, 3584528711, 113926993, 338241895, 666307205, 773529912, 1294757372, 1396182291, 1695183700, 1986661051, 2177026350, 2456956037, 2730485921, 2820302411, 3259730800, 3345764771, 3516065817, 3600352804, 4094571909, 275423344, 430227734, 506948616, 659060556, 883997877, 958139571, 1322822218, 1537002063, 1747873779, 1955562222, 2024104815, 2227730452, 2361852424, 2428436474, 2756734187, 3204031479, 3329325298]
def kI : WV 8 := #v[1779033703, 3144134277, 1013904242, 2773480762, 1359893119, 2600822924, 528734635, 1541459225]
set_option maxRecDepth 100000 in
instance : Builds Tryz.prog 153 [(0, .int .u32 1116352408), (1, .int .u32 1899447441), (2, .int .u32 3049323471), (3, .int .u32 3921009573), (4, .int .u32 961987163), (5, .int .u32 1508970993), (6, .int .u32 2453635748), (7, .int .u32 2870763221), (8, .int .u32 3624381080), (9, .int .u32 310598401), (10, .int .u32 607225278), (11, .int .u32 1426881987), (12, .int .u32 1925078388), (13, .int .u32 2162078206), (14, .int .u32 2614888103), (15, .int .u32 3248222580), (16, .int .u32 3835390401), (17, .int .u32 4022224774), (18, .int .u32 264347078), (19, .int .u32 604807628), (20, .int .u32 770255983), (21, .int .u32 1249150122), (22, .int .u32 1555081692), (23, .int .u32 1996064986), (24, .int .u32 2554220882), (25, .int .u32 2821834349), (26, .int .u32 2952996808), (27, .int .u32 3210313671), (28, .int .u32 3336571891), (29, .int .u32 3584528711), (30, .int .u32 113926993), (31, .int .u32 338241895), (32, .int .u32 666307205), (33, .int .u32 773529912), (34, .int .u32 1294757372), (35, .int .u32 1396182291), (36, .int .u32 1695183700), (37, .int .u32 1986661051), (38, .int .u32 2177026350), (39, .int .u32 2456956037), (40, .int .u32 2730485921), (41, .int .u32 2820302411), (42, .int .u32 3259730800), (43, .int .u32 3345764771), (44, .int .u32 3516065817), (45, .int .u32 3600352804), (46, .int .u32 4094571909), (47, .int .u32 275423344), (48, .int .u32 430227734), (49, .int .u32 506948616), (50, .int .u32 659060556), (51, .int .u32 883997877), (52, .int .u32 958139571), (53, .int .u32 1322822218), (54, .int .u32 1537002063), (55, .int .u32 1747873779), (56, .int .u32 1955562222), (57, .int .u32 2024104815), (58, .int .u32 2227730452), (59, .int .u32 2361852424), (60, .int .u32 2428436474), (61, .int .u32 2756734187), (62, .int .u32 3204031479), (63, .int .u32 3329325298)] (wC kK) := Builds.array (k := 1) inferInstance Tryz.underlying153 Tryz.sizeOf149 [(0, #[.int .u32 1116352408]), (1, #[.int .u32 1899447441]), (2, #[.int .u32 3049323471]), (3, #[.int .u32 3921009573]), (4, #[.int .u32 961987163]), (5, #[.int .u32 1508970993]), (6, #[.int .u32 2453635748]), (7, #[.int .u32 2870763221]), (8, #[.int .u32 3624381080]), (9, #[.int .u32 310598401]), (10, #[.int .u32 607225278]), (11, #[.int .u32 1426881987]), (12, #[.int .u32 1925078388]), (13, #[.int .u32 2162078206]), (14, #[.int .u32 2614888103]), (15, #[.int .u32 3248222580]), (16, #[.int .u32 3835390401]), (17, #[.int .u32 4022224774]), (18, #[.int .u32 264347078]), (19, #[.int .u32 604807628]), (20, #[.int .u32 770255983]), (21, #[.int .u32 1249150122]), (22, #[.int .u32 1555081692]), (23, #[.int .u32 1996064986]), (24, #[.int .u32 2554220882]), (25, #[.int .u32 2821834349]), (26, #[.int .u32 2952996808]), (27, #[.int .u32 3210313671]), (28, #[.int .u32 3336571891]), (29, #[.int .u32 3584528711]), (30, #[.int .u32 113926993]), (31, #[.int .u32 338241895]), (32, #[.int .u32 666307205]), (33, #[.int .u32 773529912]), (34, #[.int .u32 1294757372]), (35, #[.int .u32 1396182291]), (36, #[.int .u32 1695183700]), (37, #[.int .u32 1986661051]), (38, #[.int .u32 2177026350]), (39, #[.int .u32 2456956037]), (40, #[.int .u32 2730485921]), (41, #[.int .u32 2820302411]), (42, #[.int .u32 3259730800]), (43, #[.int .u32 3345764771]), (44, #[.int .u32 3516065817]), (45, #[.int .u32 3600352804]), (46, #[.int .u32 4094571909]), (47, #[.int .u32 275423344]), (48, #[.int .u32 430227734]), (49, #[.int .u32 506948616]), (50, #[.int .u32 659060556]), (51, #[.int .u32 883997877]), (52, #[.int .u32 958139571]), (53, #[.int .u32 1322822218]), (54, #[.int .u32 1537002063]), (55, #[.int .u32 1747873779]), (56, #[.int .u32 1955562222]), (57, #[.int .u32 2024104815]), (58, #[.int .u32 2227730452]), (59, #[.int .u32 2361852424]), (60, #[.int .u32 2428436474]), (61, #[.int .u32 2756734187]), (62, #[.int .u32 3204031479]), (63, #[.int .u32 3329325298])] (by kernel_rfl) (by decide +kernel) (by kernel_rfl)
set_option maxRecDepth 100000 in
instance : Builds Tryz.prog 152 [(0, .int .u32 1779033703), (1, .int .u32 3144134277), (2, .int .u32 1013904242), (3, .int .u32 2773480762), (4, .int .u32 1359893119), (5, .int .u32 2600822924), (6, .int .u32 528734635), (7, .int .u32 1541459225)] (wC kI) := Builds.array (k := 1) inferInstance Tryz.underlying152 Tryz.sizeOf149 [(0, #[.int .u32 1779033703]), (1, #[.int .u32 3144134277]), (2, #[.int .u32 1013904242]), (3, #[.int .u32 2773480762]), (4, #[.int .u32 1359893119]), (5, #[.int .u32 2600822924]), (6, #[.int .u32 528734635]), (7, #[.int .u32 1541459225])] (by kernel_rfl) (by decide +kernel) (by kernel_rfl)
set_option maxRecDepth 100000 in
instance : Builds Tryz.prog 184 [(0, .int .u32 1779033703), (1, .int .u32 3144134277), (2, .int .u32 1013904242), (3, .int .u32 2773480762), (4, .int .u32 1359893119), (5, .int .u32 2600822924), (6, .int .u32 528734635), (7, .int .u32 1541459225)] (wC kI) := Builds.struct inferInstance Tryz.underlying184 (by kernel_rfl) #[(0, 1), (1, 1), (2, 1), (3, 1), (4, 1), (5, 1), (6, 1), (7, 1)] (by kernel_rfl) [(0, #[.int .u32 1779033703]), (1, #[.int .u32 3144134277]), (2, #[.int .u32 1013904242]), (3, #[.int .u32 2773480762]), (4, #[.int .u32 1359893119]), (5, #[.int .u32 2600822924]), (6, #[.int .u32 528734635]), (7, #[.int .u32 1541459225])] (by kernel_rfl) (by decide +kernel) (by kernel_rfl)
set_option maxRecDepth 100000 in
set_option maxHeartbeats 1000000 in
theorem const_ref (w : World) : Ret Tryz.prog 83 [] w [] (fun r _ => r = wK kK) := by
  refine enter (n := 2) (args := []) [] [] Tryz.func83 rfl rfl rfl (HpOK.nil w) (by simp) ?_
  refine wc_seq ?_
  refine wc_plain [(0, .x true)] (by kernel_rfl) ?_
  refine ws_alloc rfl rfl rfl ?_
  intro b0 hb0
  refine ws_nil ?_
  refine qe_then ?_
  refine wc_seq ?_
  refine wc_plain [(0, .x true), (1, .x true)] (by kernel_rfl) ?_
  refine ws_l rfl rfl rfl rfl (rd_build rfl) ?_
  refine ws_store rfl rfl rfl rfl (by first | exact .inl (by assumption) | exact .inr (by simp)) (fun _ h _ => by first | (cases h; done) | exact List.mem_cons_of_mem _ h | exact List.mem_cons_of_mem _ (List.mem_cons_of_mem _ h) | (simp at h ⊢; simp [h])) ?_
  refine ws_nil ?_
  refine qe_then ?_
  refine wc_ret ?_
  refine qe_body _ (.inl rfl) (res1 rfl (RV.cell rfl)) ?_
  exact ret_end fun w hp hn ho => rfl
set_option maxRecDepth 100000 in
set_option maxHeartbeats 1000000 in
theorem const_ret (w : World) : Ret Tryz.prog 117 [] w [] (fun r _ => r = wK kK) := by
  refine enter (n := 2) (args := []) [] [] Tryz.func117 rfl rfl rfl (HpOK.nil w) (by simp) ?_
  refine wc_seq ?_
  refine wc_plain [(0, .x true)] (by kernel_rfl) ?_
  refine ws_alloc rfl rfl rfl ?_
  intro b0 hb0
  refine ws_nil ?_
  refine qe_then ?_
  refine wc_seq ?_
  refine wc_plain [(0, .x true), (1, .x true)] (by kernel_rfl) ?_
  refine ws_l rfl rfl rfl rfl (rd_build rfl) ?_
  refine ws_store rfl rfl rfl rfl (by first | exact .inl (by assumption) | exact .inr (by simp)) (fun _ h _ => by first | (cases h; done) | exact List.mem_cons_of_mem _ h | exact List.mem_cons_of_mem _ (List.mem_cons_of_mem _ h) | (simp at h ⊢; simp [h])) ?_
  refine ws_nil ?_
  refine qe_then ?_
  refine wc_ret ?_
  refine qe_body _ (.inl rfl) (res1 rfl (RV.cell rfl)) ?_
  exact ret_end fun w hp hn ho => rfl
set_option maxRecDepth 100000 in
set_option maxHeartbeats 1000000 in
theorem initial_ret (w : World) : Ret Tryz.prog 111 [] w [] (fun r _ => r = wK kI) := by
  refine enter (n := 2) (args := []) [] [] Tryz.func111 rfl rfl rfl (HpOK.nil w) (by simp) ?_
  refine wc_seq ?_
  refine wc_plain [(0, .x true)] (by kernel_rfl) ?_
  refine ws_alloc rfl rfl rfl ?_
  intro b0 hb0
  refine ws_nil ?_
  refine qe_then ?_
  refine wc_seq ?_
  refine wc_plain [(0, .x true), (1, .x true)] (by kernel_rfl) ?_
  refine ws_l rfl rfl rfl rfl (rd_build rfl) ?_
  refine ws_store rfl rfl rfl rfl (by first | exact .inl (by assumption) | exact .inr (by simp)) (fun _ h _ => by first | (cases h; done) | exact List.mem_cons_of_mem _ h | exact List.mem_cons_of_mem _ (List.mem_cons_of_mem _ h) | (simp at h ⊢; simp [h])) ?_
  refine ws_nil ?_
  refine qe_then ?_
  refine wc_ret ?_
  refine qe_body _ (.inl rfl) (res1 rfl (RV.cell rfl)) ?_
  exact ret_end fun w hp hn ho => rfl

end Go.Proofs.YtheioljidangkaaGreat
