/-
  Facts on the program's types and functions, each closed. By program.
-/
import Derived.Test.YtnmeaokfcalbbaaEf
import Derived.Test.YtnmeaokfcalbbaaProg
import Derived.KernelRfl
namespace Go.Proofs.Ytnmeaokfcalbbaa.Lg
open Go Go.RowKit
theorem infq2 : (Try.prog.info? 2).map (fun i => (i.zero, i.size, i.bytes)) = some (some (.int .i64 0), 1, 8) := by kernel_rfl
theorem inf2 : Inf Try.prog 2 (.int .i64 0) 1 8 := Inf.mk' infq2
theorem sc2 : Scalar Try.prog 2 := ⟨_, Try.underlying2, by simp, by simp⟩
theorem us2 : (Try.prog.underlying 2).isSome = true := by rw [Try.underlying2]; rfl
theorem infq3 : (Try.prog.info? 3).map (fun i => (i.zero, i.size, i.bytes)) = some (some (.int .i64 0), 1, 8) := by kernel_rfl
theorem inf3 : Inf Try.prog 3 (.int .i64 0) 1 8 := Inf.mk' infq3
theorem sc3 : Scalar Try.prog 3 := ⟨_, Try.underlying3, by simp, by simp⟩
theorem us3 : (Try.prog.underlying 3).isSome = true := by rw [Try.underlying3]; rfl
theorem infq4 : (Try.prog.info? 4).map (fun i => (i.zero, i.size, i.bytes)) = some (some (.bool false), 1, 1) := by kernel_rfl
theorem inf4 : Inf Try.prog 4 (.bool false) 1 1 := Inf.mk' infq4
theorem sc4 : Scalar Try.prog 4 := ⟨_, Try.underlying4, by simp, by simp⟩
theorem us4 : (Try.prog.underlying 4).isSome = true := by rw [Try.underlying4]; rfl
theorem infq5 : (Try.prog.info? 5).map (fun i => (i.zero, i.size, i.bytes)) = some (some (.int .u8 0), 1, 1) := by kernel_rfl
theorem inf5 : Inf Try.prog 5 (.int .u8 0) 1 1 := Inf.mk' infq5
theorem sc5 : Scalar Try.prog 5 := ⟨_, Try.underlying5, by simp, by simp⟩
theorem us5 : (Try.prog.underlying 5).isSome = true := by rw [Try.underlying5]; rfl
theorem infq9 : (Try.prog.info? 9).map (fun i => (i.zero, i.size, i.bytes)) = some (some (.string ByteArray.empty), 1, 16) := by kernel_rfl
theorem inf9 : Inf Try.prog 9 (.string ByteArray.empty) 1 16 := Inf.mk' infq9
theorem sc9 : Scalar Try.prog 9 := ⟨_, Try.underlying9, by simp, by simp⟩
theorem us9 : (Try.prog.underlying 9).isSome = true := by rw [Try.underlying9]; rfl
theorem infq12 : (Try.prog.info? 12).map (fun i => (i.zero, i.size, i.bytes)) = some (some (.int .u64 0), 1, 8) := by kernel_rfl
theorem inf12 : Inf Try.prog 12 (.int .u64 0) 1 8 := Inf.mk' infq12
theorem sc12 : Scalar Try.prog 12 := ⟨_, Try.underlying12, by simp, by simp⟩
theorem us12 : (Try.prog.underlying 12).isSome = true := by rw [Try.underlying12]; rfl
theorem infq13 : (Try.prog.info? 13).map (fun i => (i.zero, i.size, i.bytes)) = some (some (.agg #[.string ByteArray.empty, .int .u64 0]), 2, 24) := by kernel_rfl
theorem inf13 : Inf Try.prog 13 (.agg #[.string ByteArray.empty, .int .u64 0]) 2 24 := Inf.mk' infq13
theorem agg13 : (∃ fs, Try.prog.underlying 13 = some (.struct fs)) ∨ (∃ n e, Try.prog.underlying 13 = some (.array n e)) := .inl ⟨_, Try.underlying13⟩
theorem us13 : (Try.prog.underlying 13).isSome = true := by rw [Try.underlying13]; rfl
theorem infq20 : (Try.prog.info? 20).map (fun i => (i.zero, i.size, i.bytes)) = some (some (.nilIface), 1, 16) := by kernel_rfl
theorem inf20 : Inf Try.prog 20 (.nilIface) 1 16 := Inf.mk' infq20
theorem sc20 : Scalar Try.prog 20 := ⟨_, Try.underlying20, by simp, by simp⟩
theorem us20 : (Try.prog.underlying 20).isSome = true := by rw [Try.underlying20]; rfl
theorem infq21 : (Try.prog.info? 21).map (fun i => (i.zero, i.size, i.bytes)) = some (some (.int .i32 0), 1, 4) := by kernel_rfl
theorem inf21 : Inf Try.prog 21 (.int .i32 0) 1 4 := Inf.mk' infq21
theorem sc21 : Scalar Try.prog 21 := ⟨_, Try.underlying21, by simp, by simp⟩
theorem us21 : (Try.prog.underlying 21).isSome = true := by rw [Try.underlying21]; rfl
theorem infq22 : (Try.prog.info? 22).map (fun i => (i.zero, i.size, i.bytes)) = some (some (.slice none 0 0), 1, 24) := by kernel_rfl
theorem inf22 : Inf Try.prog 22 (.slice none 0 0) 1 24 := Inf.mk' infq22
theorem sc22 : Scalar Try.prog 22 := ⟨_, Try.underlying22, by simp, by simp⟩
theorem us22 : (Try.prog.underlying 22).isSome = true := by rw [Try.underlying22]; rfl
theorem infq23 : (Try.prog.info? 23).map (fun i => (i.zero, i.size, i.bytes)) = some (some (.int .u64 0), 1, 8) := by kernel_rfl
theorem inf23 : Inf Try.prog 23 (.int .u64 0) 1 8 := Inf.mk' infq23
theorem sc23 : Scalar Try.prog 23 := ⟨_, Try.underlying23, by simp, by simp⟩
theorem us23 : (Try.prog.underlying 23).isSome = true := by rw [Try.underlying23]; rfl
theorem infq26 : (Try.prog.info? 26).map (fun i => (i.zero, i.size, i.bytes)) = some (some (.int .i64 0), 1, 8) := by kernel_rfl
theorem inf26 : Inf Try.prog 26 (.int .i64 0) 1 8 := Inf.mk' infq26
theorem sc26 : Scalar Try.prog 26 := ⟨_, Try.underlying26, by simp, by simp⟩
theorem us26 : (Try.prog.underlying 26).isSome = true := by rw [Try.underlying26]; rfl
theorem infq30 : (Try.prog.info? 30).map (fun i => (i.zero, i.size, i.bytes)) = some (some (.int .u64 0), 1, 8) := by kernel_rfl
theorem inf30 : Inf Try.prog 30 (.int .u64 0) 1 8 := Inf.mk' infq30
theorem sc30 : Scalar Try.prog 30 := ⟨_, Try.underlying30, by simp, by simp⟩
theorem us30 : (Try.prog.underlying 30).isSome = true := by rw [Try.underlying30]; rfl
theorem infq32 : (Try.prog.info? 32).map (fun i => (i.zero, i.size, i.bytes)) = some (some (.slice none 0 0), 1, 24) := by kernel_rfl
theorem inf32 : Inf Try.prog 32 (.slice none 0 0) 1 24 := Inf.mk' infq32
theorem sc32 : Scalar Try.prog 32 := ⟨_, Try.underlying32, by simp, by simp⟩
theorem us32 : (Try.prog.underlying 32).isSome = true := by rw [Try.underlying32]; rfl
theorem infq33 : (Try.prog.info? 33).map (fun i => (i.zero, i.size, i.bytes)) = some (some (.agg #[.int .i64 0, .int .i64 0, .int .i64 0, .slice none 0 0, .int .i64 0, .int .i64 0, .int .i64 0, .int .i64 0]), 8, 80) := by kernel_rfl
theorem inf33 : Inf Try.prog 33 (.agg #[.int .i64 0, .int .i64 0, .int .i64 0, .slice none 0 0, .int .i64 0, .int .i64 0, .int .i64 0, .int .i64 0]) 8 80 := Inf.mk' infq33
theorem agg33 : (∃ fs, Try.prog.underlying 33 = some (.struct fs)) ∨ (∃ n e, Try.prog.underlying 33 = some (.array n e)) := .inl ⟨_, Try.underlying33⟩
theorem us33 : (Try.prog.underlying 33).isSome = true := by rw [Try.underlying33]; rfl
theorem infq34 : (Try.prog.info? 34).map (fun i => (i.zero, i.size, i.bytes)) = some (some (.agg #[.int .i64 0, .int .i64 0, .int .i64 0, .slice none 0 0, .int .i64 0, .int .i64 0, .int .i64 0, .int .i64 0]), 8, 80) := by kernel_rfl
theorem inf34 : Inf Try.prog 34 (.agg #[.int .i64 0, .int .i64 0, .int .i64 0, .slice none 0 0, .int .i64 0, .int .i64 0, .int .i64 0, .int .i64 0]) 8 80 := Inf.mk' infq34
theorem agg34 : (∃ fs, Try.prog.underlying 34 = some (.struct fs)) ∨ (∃ n e, Try.prog.underlying 34 = some (.array n e)) := .inl ⟨_, Try.underlying34⟩
theorem us34 : (Try.prog.underlying 34).isSome = true := by rw [Try.underlying34]; rfl
theorem infq41 : (Try.prog.info? 41).map (fun i => (i.zero, i.size, i.bytes)) = some (some (.slice none 0 0), 1, 24) := by kernel_rfl
theorem inf41 : Inf Try.prog 41 (.slice none 0 0) 1 24 := Inf.mk' infq41
theorem sc41 : Scalar Try.prog 41 := ⟨_, Try.underlying41, by simp, by simp⟩
theorem us41 : (Try.prog.underlying 41).isSome = true := by rw [Try.underlying41]; rfl
theorem infq43 : (Try.prog.info? 43).map (fun i => (i.zero, i.size, i.bytes)) = some (some (.slice none 0 0), 1, 24) := by kernel_rfl
theorem inf43 : Inf Try.prog 43 (.slice none 0 0) 1 24 := Inf.mk' infq43
theorem sc43 : Scalar Try.prog 43 := ⟨_, Try.underlying43, by simp, by simp⟩
theorem us43 : (Try.prog.underlying 43).isSome = true := by rw [Try.underlying43]; rfl
theorem infq46 : (Try.prog.info? 46).map (fun i => (i.zero, i.size, i.bytes)) = some (some (.slice none 0 0), 1, 24) := by kernel_rfl
theorem inf46 : Inf Try.prog 46 (.slice none 0 0) 1 24 := Inf.mk' infq46
theorem sc46 : Scalar Try.prog 46 := ⟨_, Try.underlying46, by simp, by simp⟩
theorem us46 : (Try.prog.underlying 46).isSome = true := by rw [Try.underlying46]; rfl
theorem infq47 : (Try.prog.info? 47).map (fun i => (i.zero, i.size, i.bytes)) = some (some (.agg #[.bool false, .int .u64 0]), 2, 16) := by kernel_rfl
theorem inf47 : Inf Try.prog 47 (.agg #[.bool false, .int .u64 0]) 2 16 := Inf.mk' infq47
theorem agg47 : (∃ fs, Try.prog.underlying 47 = some (.struct fs)) ∨ (∃ n e, Try.prog.underlying 47 = some (.array n e)) := .inl ⟨_, Try.underlying47⟩
theorem us47 : (Try.prog.underlying 47).isSome = true := by rw [Try.underlying47]; rfl
theorem infq48 : (Try.prog.info? 48).map (fun i => (i.zero, i.size, i.bytes)) = some (some (.agg #[.bool false, .int .u64 0]), 2, 16) := by kernel_rfl
theorem inf48 : Inf Try.prog 48 (.agg #[.bool false, .int .u64 0]) 2 16 := Inf.mk' infq48
theorem agg48 : (∃ fs, Try.prog.underlying 48 = some (.struct fs)) ∨ (∃ n e, Try.prog.underlying 48 = some (.array n e)) := .inl ⟨_, Try.underlying48⟩
theorem us48 : (Try.prog.underlying 48).isSome = true := by rw [Try.underlying48]; rfl
theorem infq49 : (Try.prog.info? 49).map (fun i => (i.zero, i.size, i.bytes)) = some (some (.agg #[.int .u64 0, .bool false, .int .u64 0]), 3, 24) := by kernel_rfl
theorem inf49 : Inf Try.prog 49 (.agg #[.int .u64 0, .bool false, .int .u64 0]) 3 24 := Inf.mk' infq49
theorem agg49 : (∃ fs, Try.prog.underlying 49 = some (.struct fs)) ∨ (∃ n e, Try.prog.underlying 49 = some (.array n e)) := .inl ⟨_, Try.underlying49⟩
theorem us49 : (Try.prog.underlying 49).isSome = true := by rw [Try.underlying49]; rfl
theorem infq50 : (Try.prog.info? 50).map (fun i => (i.zero, i.size, i.bytes)) = some (some (.agg #[.int .u64 0, .bool false, .int .u64 0]), 3, 24) := by kernel_rfl
theorem inf50 : Inf Try.prog 50 (.agg #[.int .u64 0, .bool false, .int .u64 0]) 3 24 := Inf.mk' infq50
theorem agg50 : (∃ fs, Try.prog.underlying 50 = some (.struct fs)) ∨ (∃ n e, Try.prog.underlying 50 = some (.array n e)) := .inl ⟨_, Try.underlying50⟩
theorem us50 : (Try.prog.underlying 50).isSome = true := by rw [Try.underlying50]; rfl
theorem infq51 : (Try.prog.info? 51).map (fun i => (i.zero, i.size, i.bytes)) = some (some (.agg #[.int .i64 0, .int .i64 0, .int .i64 0, .int .i64 0]), 4, 32) := by kernel_rfl
theorem inf51 : Inf Try.prog 51 (.agg #[.int .i64 0, .int .i64 0, .int .i64 0, .int .i64 0]) 4 32 := Inf.mk' infq51
theorem agg51 : (∃ fs, Try.prog.underlying 51 = some (.struct fs)) ∨ (∃ n e, Try.prog.underlying 51 = some (.array n e)) := .inr ⟨_, _, Try.underlying51⟩
theorem us51 : (Try.prog.underlying 51).isSome = true := by rw [Try.underlying51]; rfl
theorem infq58 : (Try.prog.info? 58).map (fun i => (i.zero, i.size, i.bytes)) = some (some (.slice none 0 0), 1, 24) := by kernel_rfl
theorem inf58 : Inf Try.prog 58 (.slice none 0 0) 1 24 := Inf.mk' infq58
theorem sc58 : Scalar Try.prog 58 := ⟨_, Try.underlying58, by simp, by simp⟩
theorem us58 : (Try.prog.underlying 58).isSome = true := by rw [Try.underlying58]; rfl
theorem infq76 : (Try.prog.info? 76).map (fun i => (i.zero, i.size, i.bytes)) = some (some (.agg #[.int .i64 0, .int .i64 0, .int .i64 0]), 3, 24) := by kernel_rfl
theorem inf76 : Inf Try.prog 76 (.agg #[.int .i64 0, .int .i64 0, .int .i64 0]) 3 24 := Inf.mk' infq76
theorem agg76 : (∃ fs, Try.prog.underlying 76 = some (.struct fs)) ∨ (∃ n e, Try.prog.underlying 76 = some (.array n e)) := .inr ⟨_, _, Try.underlying76⟩
theorem us76 : (Try.prog.underlying 76).isSome = true := by rw [Try.underlying76]; rfl
theorem infq77 : (Try.prog.info? 77).map (fun i => (i.zero, i.size, i.bytes)) = some (some (.slice none 0 0), 1, 24) := by kernel_rfl
theorem inf77 : Inf Try.prog 77 (.slice none 0 0) 1 24 := Inf.mk' infq77
theorem sc77 : Scalar Try.prog 77 := ⟨_, Try.underlying77, by simp, by simp⟩
theorem us77 : (Try.prog.underlying 77).isSome = true := by rw [Try.underlying77]; rfl
theorem infq78 : (Try.prog.info? 78).map (fun i => (i.zero, i.size, i.bytes)) = some (some (.float .f64 0), 1, 8) := by kernel_rfl
theorem inf78 : Inf Try.prog 78 (.float .f64 0) 1 8 := Inf.mk' infq78
theorem sc78 : Scalar Try.prog 78 := ⟨_, Try.underlying78, by simp, by simp⟩
theorem us78 : (Try.prog.underlying 78).isSome = true := by rw [Try.underlying78]; rfl
theorem infq79 : (Try.prog.info? 79).map (fun i => (i.zero, i.size, i.bytes)) = some (some (.agg #[.int .i64 0, .int .i64 0, .float .f64 0]), 3, 24) := by kernel_rfl
theorem inf79 : Inf Try.prog 79 (.agg #[.int .i64 0, .int .i64 0, .float .f64 0]) 3 24 := Inf.mk' infq79
theorem agg79 : (∃ fs, Try.prog.underlying 79 = some (.struct fs)) ∨ (∃ n e, Try.prog.underlying 79 = some (.array n e)) := .inl ⟨_, Try.underlying79⟩
theorem us79 : (Try.prog.underlying 79).isSome = true := by rw [Try.underlying79]; rfl
theorem infq80 : (Try.prog.info? 80).map (fun i => (i.zero, i.size, i.bytes)) = some (some (.agg #[.int .i64 0, .int .i64 0, .float .f64 0]), 3, 24) := by kernel_rfl
theorem inf80 : Inf Try.prog 80 (.agg #[.int .i64 0, .int .i64 0, .float .f64 0]) 3 24 := Inf.mk' infq80
theorem agg80 : (∃ fs, Try.prog.underlying 80 = some (.struct fs)) ∨ (∃ n e, Try.prog.underlying 80 = some (.array n e)) := .inl ⟨_, Try.underlying80⟩
theorem us80 : (Try.prog.underlying 80).isSome = true := by rw [Try.underlying80]; rfl
theorem infq90 : (Try.prog.info? 90).map (fun i => (i.zero, i.size, i.bytes)) = some (some (.int .u32 0), 1, 4) := by kernel_rfl
theorem inf90 : Inf Try.prog 90 (.int .u32 0) 1 4 := Inf.mk' infq90
theorem sc90 : Scalar Try.prog 90 := ⟨_, Try.underlying90, by simp, by simp⟩
theorem us90 : (Try.prog.underlying 90).isSome = true := by rw [Try.underlying90]; rfl
theorem infq94 : (Try.prog.info? 94).map (fun i => (i.zero, i.size, i.bytes)) = some (some (.pointer none), 1, 8) := by kernel_rfl
theorem inf94 : Inf Try.prog 94 (.pointer none) 1 8 := Inf.mk' infq94
theorem sc94 : Scalar Try.prog 94 := ⟨_, Try.underlying94, by simp, by simp⟩
theorem us94 : (Try.prog.underlying 94).isSome = true := by rw [Try.underlying94]; rfl
theorem nm3 : (Try.f3.name == "runtime.NumGoroutine") = false := by kernel_rfl
theorem nm4 : (Try.f4.name == "runtime.NumGoroutine") = false := by kernel_rfl
theorem nm5 : (Try.f5.name == "runtime.NumGoroutine") = false := by kernel_rfl
theorem nm6 : (Try.f6.name == "runtime.NumGoroutine") = false := by kernel_rfl
theorem nm7 : (Try.f7.name == "runtime.NumGoroutine") = false := by kernel_rfl
theorem nm8 : (Try.f8.name == "runtime.NumGoroutine") = false := by kernel_rfl
theorem nm9 : (Try.f9.name == "runtime.NumGoroutine") = false := by kernel_rfl
theorem nm10 : (Try.f10.name == "runtime.NumGoroutine") = false := by kernel_rfl
theorem nm11 : (Try.f11.name == "runtime.NumGoroutine") = false := by kernel_rfl
theorem nm12 : (Try.f12.name == "runtime.NumGoroutine") = false := by kernel_rfl
theorem nm13 : (Try.f13.name == "runtime.NumGoroutine") = false := by kernel_rfl
theorem nm14 : (Try.f14.name == "runtime.NumGoroutine") = false := by kernel_rfl
theorem nm15 : (Try.f15.name == "runtime.NumGoroutine") = false := by kernel_rfl
theorem nm16 : (Try.f16.name == "runtime.NumGoroutine") = false := by kernel_rfl
theorem nm17 : (Try.f17.name == "runtime.NumGoroutine") = false := by kernel_rfl
theorem nm18 : (Try.f18.name == "runtime.NumGoroutine") = false := by kernel_rfl
theorem nm19 : (Try.f19.name == "runtime.NumGoroutine") = false := by kernel_rfl
theorem nm20 : (Try.f20.name == "runtime.NumGoroutine") = false := by kernel_rfl
theorem nm21 : (Try.f21.name == "runtime.NumGoroutine") = false := by kernel_rfl
theorem nm22 : (Try.f22.name == "runtime.NumGoroutine") = false := by kernel_rfl
theorem nm23 : (Try.f23.name == "runtime.NumGoroutine") = false := by kernel_rfl
theorem nm24 : (Try.f24.name == "runtime.NumGoroutine") = false := by kernel_rfl
theorem nm25 : (Try.f25.name == "runtime.NumGoroutine") = false := by kernel_rfl
theorem nm26 : (Try.f26.name == "runtime.NumGoroutine") = false := by kernel_rfl
theorem nm27 : (Try.f27.name == "runtime.NumGoroutine") = false := by kernel_rfl
theorem nm28 : (Try.f28.name == "runtime.NumGoroutine") = false := by kernel_rfl
theorem nm29 : (Try.f29.name == "runtime.NumGoroutine") = false := by kernel_rfl
theorem nm30 : (Try.f30.name == "runtime.NumGoroutine") = false := by kernel_rfl
theorem nm31 : (Try.f31.name == "runtime.NumGoroutine") = false := by kernel_rfl
theorem nm32 : (Try.f32.name == "runtime.NumGoroutine") = false := by kernel_rfl
theorem nm33 : (Try.f33.name == "runtime.NumGoroutine") = false := by kernel_rfl
theorem nm34 : (Try.f34.name == "runtime.NumGoroutine") = false := by kernel_rfl
theorem nm35 : (Try.f35.name == "runtime.NumGoroutine") = false := by kernel_rfl
theorem nm36 : (Try.f36.name == "runtime.NumGoroutine") = false := by kernel_rfl
theorem nm37 : (Try.f37.name == "runtime.NumGoroutine") = false := by kernel_rfl
theorem nm38 : (Try.f38.name == "runtime.NumGoroutine") = false := by kernel_rfl
theorem nm39 : (Try.f39.name == "runtime.NumGoroutine") = false := by kernel_rfl
theorem nm40 : (Try.f40.name == "runtime.NumGoroutine") = false := by kernel_rfl
theorem nm41 : (Try.f41.name == "runtime.NumGoroutine") = false := by kernel_rfl
theorem nm42 : (Try.f42.name == "runtime.NumGoroutine") = false := by kernel_rfl
theorem nm43 : (Try.f43.name == "runtime.NumGoroutine") = false := by kernel_rfl
theorem nm44 : (Try.f44.name == "runtime.NumGoroutine") = false := by kernel_rfl
theorem nm45 : (Try.f45.name == "runtime.NumGoroutine") = false := by kernel_rfl
theorem nm46 : (Try.f46.name == "runtime.NumGoroutine") = false := by kernel_rfl
theorem nm47 : (Try.f47.name == "runtime.NumGoroutine") = false := by kernel_rfl
theorem nm48 : (Try.f48.name == "runtime.NumGoroutine") = false := by kernel_rfl
theorem nm49 : (Try.f49.name == "runtime.NumGoroutine") = false := by kernel_rfl
theorem nm50 : (Try.f50.name == "runtime.NumGoroutine") = false := by kernel_rfl
theorem nm51 : (Try.f51.name == "runtime.NumGoroutine") = false := by kernel_rfl
theorem nm52 : (Try.f52.name == "runtime.NumGoroutine") = false := by kernel_rfl
theorem nm53 : (Try.f53.name == "runtime.NumGoroutine") = false := by kernel_rfl
theorem nm54 : (Try.f54.name == "runtime.NumGoroutine") = false := by kernel_rfl
theorem nm55 : (Try.f55.name == "runtime.NumGoroutine") = false := by kernel_rfl
theorem nm56 : (Try.f56.name == "runtime.NumGoroutine") = false := by kernel_rfl
theorem nm57 : (Try.f57.name == "runtime.NumGoroutine") = false := by kernel_rfl
theorem nm58 : (Try.f58.name == "runtime.NumGoroutine") = false := by kernel_rfl
theorem nm59 : (Try.f59.name == "runtime.NumGoroutine") = false := by kernel_rfl
theorem nm60 : (Try.f60.name == "runtime.NumGoroutine") = false := by kernel_rfl
theorem nm61 : (Try.f61.name == "runtime.NumGoroutine") = false := by kernel_rfl
theorem nm62 : (Try.f62.name == "runtime.NumGoroutine") = false := by kernel_rfl
theorem nm63 : (Try.f63.name == "runtime.NumGoroutine") = false := by kernel_rfl
theorem mixed : Try.prog.follows .mixedOrders = true := by kernel_rfl
end Go.Proofs.Ytnmeaokfcalbbaa.Lg
