/- The walk: floats.Do at each op that cuts off to whole numbers, and at those that make numbers with a point of whole ones. -/
import Derived.Test.YtdfjkollehhljaaDo
namespace Go.Proofs.Ytdfjkollehhljaa
open Go.RowKit
@[go_sem] theorem run_store_float {P : Program} (w : World) (a : Addr) (m : Mode) (k : FloatKind) (n : Nat) : (store a (.float k n) m).run P w = stored P w a (.float k n) m := run_store P w a _ m rfl
theorem grown_drewN {W w : World} (h : Grown W w) (n : Nat) : Grown W (w.drewN n) := h

theorem form_170 (w : World) : Calls Try.prog 27 #[.int .i64 170] w fun e w' => e = .returned (.agg #[.int .i64 32, .bool true, .float .f64 13970166044103278592, .float .f64 4746794007248502784]) ∧ w' = w.alloc (.cells #[.int .i64 32, .bool true, .float .f64 13970166044103278592, .float .f64 4746794007248502784] 45) := by
  go_enter Try.func27, Try.ntmps27
  go_wp2
  exact bodyPost_ret (v := .agg #[.int .i64 32, .bool true, .float .f64 13970166044103278592, .float .f64 4746794007248502784]) (by simp [results, Try.results27, go_sem]) rfl ⟨rfl, rfl⟩
theorem form_64514 (w : World) : Calls Try.prog 27 #[.int .i64 64514] w fun e w' => e = .returned (.agg #[.int .i64 32, .bool true, .float .f64 13970166044103278592, .float .f64 4746794007248502784]) ∧ w' = w.alloc (.cells #[.int .i64 32, .bool true, .float .f64 13970166044103278592, .float .f64 4746794007248502784] 45) := by
  go_enter Try.func27, Try.ntmps27
  go_wp2
  exact bodyPost_ret (v := .agg #[.int .i64 32, .bool true, .float .f64 13970166044103278592, .float .f64 4746794007248502784]) (by simp [results, Try.results27, go_sem]) rfl ⟨rfl, rfl⟩
theorem form_171 (w : World) : Calls Try.prog 27 #[.int .i64 171] w fun e w' => e = .returned (.agg #[.int .i64 32, .bool false, .float .f64 0, .float .f64 4751297606875873280]) ∧ w' = w.alloc (.cells #[.int .i64 32, .bool false, .float .f64 0, .float .f64 4751297606875873280] 45) := by
  go_enter Try.func27, Try.ntmps27
  go_wp2
  exact bodyPost_ret (v := .agg #[.int .i64 32, .bool false, .float .f64 0, .float .f64 4751297606875873280]) (by simp [results, Try.results27, go_sem]) rfl ⟨rfl, rfl⟩
theorem form_64515 (w : World) : Calls Try.prog 27 #[.int .i64 64515] w fun e w' => e = .returned (.agg #[.int .i64 32, .bool false, .float .f64 0, .float .f64 4751297606875873280]) ∧ w' = w.alloc (.cells #[.int .i64 32, .bool false, .float .f64 0, .float .f64 4751297606875873280] 45) := by
  go_enter Try.func27, Try.ntmps27
  go_wp2
  exact bodyPost_ret (v := .agg #[.int .i64 32, .bool false, .float .f64 0, .float .f64 4751297606875873280]) (by simp [results, Try.results27, go_sem]) rfl ⟨rfl, rfl⟩
theorem form_176 (w : World) : Calls Try.prog 27 #[.int .i64 176] w fun e w' => e = .returned (.agg #[.int .i64 64, .bool true, .float .f64 14114281232179134464, .float .f64 4890909195324358656]) ∧ w' = w.alloc (.cells #[.int .i64 64, .bool true, .float .f64 14114281232179134464, .float .f64 4890909195324358656] 45) := by
  go_enter Try.func27, Try.ntmps27
  go_wp2
  exact bodyPost_ret (v := .agg #[.int .i64 64, .bool true, .float .f64 14114281232179134464, .float .f64 4890909195324358656]) (by simp [results, Try.results27, go_sem]) rfl ⟨rfl, rfl⟩
theorem form_64518 (w : World) : Calls Try.prog 27 #[.int .i64 64518] w fun e w' => e = .returned (.agg #[.int .i64 64, .bool true, .float .f64 14114281232179134464, .float .f64 4890909195324358656]) ∧ w' = w.alloc (.cells #[.int .i64 64, .bool true, .float .f64 14114281232179134464, .float .f64 4890909195324358656] 45) := by
  go_enter Try.func27, Try.ntmps27
  go_wp2
  exact bodyPost_ret (v := .agg #[.int .i64 64, .bool true, .float .f64 14114281232179134464, .float .f64 4890909195324358656]) (by simp [results, Try.results27, go_sem]) rfl ⟨rfl, rfl⟩
theorem form_177 (w : World) : Calls Try.prog 27 #[.int .i64 177] w fun e w' => e = .returned (.agg #[.int .i64 64, .bool false, .float .f64 0, .float .f64 4895412794951729152]) ∧ w' = w.alloc (.cells #[.int .i64 64, .bool false, .float .f64 0, .float .f64 4895412794951729152] 45) := by
  go_enter Try.func27, Try.ntmps27
  go_wp2
  exact bodyPost_ret (v := .agg #[.int .i64 64, .bool false, .float .f64 0, .float .f64 4895412794951729152]) (by simp [results, Try.results27, go_sem]) rfl ⟨rfl, rfl⟩
theorem form_64519 (w : World) : Calls Try.prog 27 #[.int .i64 64519] w fun e w' => e = .returned (.agg #[.int .i64 64, .bool false, .float .f64 0, .float .f64 4895412794951729152]) ∧ w' = w.alloc (.cells #[.int .i64 64, .bool false, .float .f64 0, .float .f64 4895412794951729152] 45) := by
  go_enter Try.func27, Try.ntmps27
  go_wp2
  exact bodyPost_ret (v := .agg #[.int .i64 64, .bool false, .float .f64 0, .float .f64 4895412794951729152]) (by simp [results, Try.results27, go_sem]) rfl ⟨rfl, rfl⟩
theorem of_s32 (t : Nat) (n : Int) (w : World) (h : floatToIntVal .f64 t .i64 = some n) : Calls Try.prog 28 #[.agg #[.int .i64 32, .bool true, .float .f64 13970166044103278592, .float .f64 4746794007248502784], .float .f64 t] w fun e w' => e = .returned (.int .u64 (IntKind.u64.wrap (IntKind.u64.wrap n * 4294967296) / 4294967296)) ∧ ∃ m, w' = (w.alloc (.cells #[.int .i64 32, .bool true, .float .f64 13970166044103278592, .float .f64 4746794007248502784] 45)).drewN m := by
  skip
  have hr := fun (w : World) => run_convert_float_int (P := Try.prog) w 32 2 .f64 .i64 t n (by kernel_rfl) (by kernel_rfl) h
  clear h
  go_enter Try.func28, Try.ntmps28
  go_wp2
  go_quiet (fail)
  go_wp2
  go_ret
  exact ⟨by simp, _, rfl⟩
theorem of_u32 (t : Nat) (n : Int) (w : World) (h : floatToIntVal .f64 t .i64 = some n) (hg : (FloatKind.f64.format.order t 4890909195324358656 == some .gt || FloatKind.f64.format.order t 4890909195324358656 == some .eq) = false) : Calls Try.prog 28 #[.agg #[.int .i64 32, .bool false, .float .f64 0, .float .f64 4751297606875873280], .float .f64 t] w fun e w' => e = .returned (.int .u64 (IntKind.u64.wrap (IntKind.u64.wrap n * 4294967296) / 4294967296)) ∧ ∃ m, w' = (w.alloc (.cells #[.int .i64 32, .bool false, .float .f64 0, .float .f64 4751297606875873280] 45)).drewN m := by
  skip
  have hr := fun (w : World) => run_convert_float_int (P := Try.prog) w 32 2 .f64 .i64 t n (by kernel_rfl) (by kernel_rfl) h
  clear h
  go_enter Try.func28, Try.ntmps28
  go_wp2
  go_quiet (fail)
  go_wp2
  go_ret
  exact ⟨by simp, _, rfl⟩
theorem of_s64 (t : Nat) (n : Int) (w : World) (h : floatToIntVal .f64 t .i64 = some n) : Calls Try.prog 28 #[.agg #[.int .i64 64, .bool true, .float .f64 14114281232179134464, .float .f64 4890909195324358656], .float .f64 t] w fun e w' => e = .returned (.int .u64 (IntKind.u64.wrap (IntKind.u64.wrap n))) ∧ ∃ m, w' = (w.alloc (.cells #[.int .i64 64, .bool true, .float .f64 14114281232179134464, .float .f64 4890909195324358656] 45)).drewN m := by
  skip
  have hr := fun (w : World) => run_convert_float_int (P := Try.prog) w 32 2 .f64 .i64 t n (by kernel_rfl) (by kernel_rfl) h
  clear h
  go_enter Try.func28, Try.ntmps28
  go_wp2
  go_quiet (fail)
  go_wp2
  go_ret
  exact ⟨by simp, _, rfl⟩
theorem of_u64 (t : Nat) (n : Int) (w : World) (h : floatToIntVal .f64 t .i64 = some n) (hg : (FloatKind.f64.format.order t 4890909195324358656 == some .gt || FloatKind.f64.format.order t 4890909195324358656 == some .eq) = false) : Calls Try.prog 28 #[.agg #[.int .i64 64, .bool false, .float .f64 0, .float .f64 4895412794951729152], .float .f64 t] w fun e w' => e = .returned (.int .u64 (IntKind.u64.wrap (IntKind.u64.wrap n))) ∧ ∃ m, w' = (w.alloc (.cells #[.int .i64 64, .bool false, .float .f64 0, .float .f64 4895412794951729152] 45)).drewN m := by
  skip
  have hr := fun (w : World) => run_convert_float_int (P := Try.prog) w 32 2 .f64 .i64 t n (by kernel_rfl) (by kernel_rfl) h
  clear h
  go_enter Try.func28, Try.ntmps28
  go_wp2
  go_quiet (fail)
  go_wp2
  go_ret
  exact ⟨by simp, _, rfl⟩
theorem of_u64b (t : Nat) (n : Int) (w : World) (r : Nat) (hs : Ieee.double.sub t 4890909195324358656 = some r) (h : floatToIntVal .f64 r .i64 = some n) (hg : (FloatKind.f64.format.order t 4890909195324358656 == some .gt || FloatKind.f64.format.order t 4890909195324358656 == some .eq) = true) : Calls Try.prog 28 #[.agg #[.int .i64 64, .bool false, .float .f64 0, .float .f64 4895412794951729152], .float .f64 t] w fun e w' => e = .returned (.int .u64 (IntKind.u64.wrap (IntKind.u64.wrap (IntKind.u64.wrap n + 9223372036854775808)))) ∧ ∃ m, w' = (w.alloc (.cells #[.int .i64 64, .bool false, .float .f64 0, .float .f64 4895412794951729152] 45)).drewN m := by
  have hb := fun (w : World) => run_float_arith (P := Try.prog) w .sub 32 .f64 t 4890909195324358656 r hs
  have hr := fun (w : World) => run_convert_float_int (P := Try.prog) w 32 2 .f64 .i64 r n (by kernel_rfl) (by kernel_rfl) h
  clear h hs
  go_enter Try.func28, Try.ntmps28
  go_wp2
  go_quiet (fail)
  go_wp2
  go_ret
  exact ⟨by simp, _, rfl⟩
theorem edge_s32_true (w : World) : Calls Try.prog 29 #[.agg #[.int .i64 32, .bool true, .float .f64 13970166044103278592, .float .f64 4746794007248502784], .bool true] w fun e w' => e = .returned (.int .u64 2147483647) ∧ w' = w.alloc (.cells #[.int .i64 32, .bool true, .float .f64 13970166044103278592, .float .f64 4746794007248502784] 45) := by
  go_enter Try.func29, Try.ntmps29
  go_wp2
  go_ret
  exact ⟨rfl, rfl⟩
theorem edge_s32_false (w : World) : Calls Try.prog 29 #[.agg #[.int .i64 32, .bool true, .float .f64 13970166044103278592, .float .f64 4746794007248502784], .bool false] w fun e w' => e = .returned (.int .u64 2147483648) ∧ w' = w.alloc (.cells #[.int .i64 32, .bool true, .float .f64 13970166044103278592, .float .f64 4746794007248502784] 45) := by
  go_enter Try.func29, Try.ntmps29
  go_wp2
  go_ret
  exact ⟨rfl, rfl⟩
theorem edge_u32_true (w : World) : Calls Try.prog 29 #[.agg #[.int .i64 32, .bool false, .float .f64 0, .float .f64 4751297606875873280], .bool true] w fun e w' => e = .returned (.int .u64 4294967295) ∧ w' = w.alloc (.cells #[.int .i64 32, .bool false, .float .f64 0, .float .f64 4751297606875873280] 45) := by
  go_enter Try.func29, Try.ntmps29
  go_wp2
  go_ret
  exact ⟨rfl, rfl⟩
theorem edge_u32_false (w : World) : Calls Try.prog 29 #[.agg #[.int .i64 32, .bool false, .float .f64 0, .float .f64 4751297606875873280], .bool false] w fun e w' => e = .returned (.int .u64 0) ∧ w' = w.alloc (.cells #[.int .i64 32, .bool false, .float .f64 0, .float .f64 4751297606875873280] 45) := by
  go_enter Try.func29, Try.ntmps29
  go_wp2
  go_ret
  exact ⟨rfl, rfl⟩
theorem edge_s64_true (w : World) : Calls Try.prog 29 #[.agg #[.int .i64 64, .bool true, .float .f64 14114281232179134464, .float .f64 4890909195324358656], .bool true] w fun e w' => e = .returned (.int .u64 9223372036854775807) ∧ w' = w.alloc (.cells #[.int .i64 64, .bool true, .float .f64 14114281232179134464, .float .f64 4890909195324358656] 45) := by
  go_enter Try.func29, Try.ntmps29
  go_wp2
  go_ret
  exact ⟨rfl, rfl⟩
theorem edge_s64_false (w : World) : Calls Try.prog 29 #[.agg #[.int .i64 64, .bool true, .float .f64 14114281232179134464, .float .f64 4890909195324358656], .bool false] w fun e w' => e = .returned (.int .u64 9223372036854775808) ∧ w' = w.alloc (.cells #[.int .i64 64, .bool true, .float .f64 14114281232179134464, .float .f64 4890909195324358656] 45) := by
  go_enter Try.func29, Try.ntmps29
  go_wp2
  go_ret
  exact ⟨rfl, rfl⟩
theorem edge_u64_true (w : World) : Calls Try.prog 29 #[.agg #[.int .i64 64, .bool false, .float .f64 0, .float .f64 4895412794951729152], .bool true] w fun e w' => e = .returned (.int .u64 18446744073709551615) ∧ w' = w.alloc (.cells #[.int .i64 64, .bool false, .float .f64 0, .float .f64 4895412794951729152] 45) := by
  go_enter Try.func29, Try.ntmps29
  go_wp2
  go_ret
  exact ⟨rfl, rfl⟩
theorem edge_u64_false (w : World) : Calls Try.prog 29 #[.agg #[.int .i64 64, .bool false, .float .f64 0, .float .f64 4895412794951729152], .bool false] w fun e w' => e = .returned (.int .u64 0) ∧ w' = w.alloc (.cells #[.int .i64 64, .bool false, .float .f64 0, .float .f64 4895412794951729152] 45) := by
  go_enter Try.func29, Try.ntmps29
  go_wp2
  go_ret
  exact ⟨rfl, rfl⟩

end Go.Proofs.Ytdfjkollehhljaa
