/-
  Facts on the program's types and functions, each closed. By program.
-/
import Derived.Test.YtipkfdeiallifaaEf
import Derived.Test.YtipkfdeiallifaaProg
import Derived.KernelRfl
namespace Go.Proofs.Ytipkfdeiallifaa.Lg
open Go Go.RowKit
theorem infq2 : (Try.prog.info? 2).map (fun i => (i.zero, i.size, i.bytes)) = some (some (.int .i64 0), 1, 8) := by kernel_rfl
theorem inf2 : Inf Try.prog 2 (.int .i64 0) 1 8 := Inf.mk' infq2
theorem sc2 : Scalar Try.prog 2 := ⟨_, Try.underlying2, by simp, by simp⟩
theorem us2 : (Try.prog.underlying 2).isSome = true := by rw [Try.underlying2]; rfl
theorem infq3 : (Try.prog.info? 3).map (fun i => (i.zero, i.size, i.bytes)) = some (some (.int .i64 0), 1, 8) := by kernel_rfl
theorem inf3 : Inf Try.prog 3 (.int .i64 0) 1 8 := Inf.mk' infq3
theorem sc3 : Scalar Try.prog 3 := ⟨_, Try.underlying3, by simp, by simp⟩
theorem us3 : (Try.prog.underlying 3).isSome = true := by rw [Try.underlying3]; rfl
theorem infq4 : (Try.prog.info? 4).map (fun i => (i.zero, i.size, i.bytes)) = some (some (.bool false), 1, 1) := by kernel_rfl
theorem inf4 : Inf Try.prog 4 (.bool false) 1 1 := Inf.mk' infq4
theorem sc4 : Scalar Try.prog 4 := ⟨_, Try.underlying4, by simp, by simp⟩
theorem us4 : (Try.prog.underlying 4).isSome = true := by rw [Try.underlying4]; rfl
theorem infq5 : (Try.prog.info? 5).map (fun i => (i.zero, i.size, i.bytes)) = some (some (.int .u8 0), 1, 1) := by kernel_rfl
theorem inf5 : Inf Try.prog 5 (.int .u8 0) 1 1 := Inf.mk' infq5
theorem sc5 : Scalar Try.prog 5 := ⟨_, Try.underlying5, by simp, by simp⟩
theorem us5 : (Try.prog.underlying 5).isSome = true := by rw [Try.underlying5]; rfl
theorem infq9 : (Try.prog.info? 9).map (fun i => (i.zero, i.size, i.bytes)) = some (some (.string ByteArray.empty), 1, 16) := by kernel_rfl
theorem inf9 : Inf Try.prog 9 (.string ByteArray.empty) 1 16 := Inf.mk' infq9
theorem sc9 : Scalar Try.prog 9 := ⟨_, Try.underlying9, by simp, by simp⟩
theorem us9 : (Try.prog.underlying 9).isSome = true := by rw [Try.underlying9]; rfl
theorem infq12 : (Try.prog.info? 12).map (fun i => (i.zero, i.size, i.bytes)) = some (some (.int .u64 0), 1, 8) := by kernel_rfl
theorem inf12 : Inf Try.prog 12 (.int .u64 0) 1 8 := Inf.mk' infq12
theorem sc12 : Scalar Try.prog 12 := ⟨_, Try.underlying12, by simp, by simp⟩
theorem us12 : (Try.prog.underlying 12).isSome = true := by rw [Try.underlying12]; rfl
theorem infq13 : (Try.prog.info? 13).map (fun i => (i.zero, i.size, i.bytes)) = some (some (.agg #[.string ByteArray.empty, .int .u64 0]), 2, 24) := by kernel_rfl
theorem inf13 : Inf Try.prog 13 (.agg #[.string ByteArray.empty, .int .u64 0]) 2 24 := Inf.mk' infq13
theorem agg13 : (∃ fs, Try.prog.underlying 13 = some (.struct fs)) ∨ (∃ n e, Try.prog.underlying 13 = some (.array n e)) := .inl ⟨_, Try.underlying13⟩
theorem us13 : (Try.prog.underlying 13).isSome = true := by rw [Try.underlying13]; rfl
theorem infq20 : (Try.prog.info? 20).map (fun i => (i.zero, i.size, i.bytes)) = some (some (.nilIface), 1, 16) := by kernel_rfl
theorem inf20 : Inf Try.prog 20 (.nilIface) 1 16 := Inf.mk' infq20
theorem sc20 : Scalar Try.prog 20 := ⟨_, Try.underlying20, by simp, by simp⟩
theorem us20 : (Try.prog.underlying 20).isSome = true := by rw [Try.underlying20]; rfl
theorem infq21 : (Try.prog.info? 21).map (fun i => (i.zero, i.size, i.bytes)) = some (some (.int .i32 0), 1, 4) := by kernel_rfl
theorem inf21 : Inf Try.prog 21 (.int .i32 0) 1 4 := Inf.mk' infq21
theorem sc21 : Scalar Try.prog 21 := ⟨_, Try.underlying21, by simp, by simp⟩
theorem us21 : (Try.prog.underlying 21).isSome = true := by rw [Try.underlying21]; rfl
theorem infq22 : (Try.prog.info? 22).map (fun i => (i.zero, i.size, i.bytes)) = some (some (.slice none 0 0), 1, 24) := by kernel_rfl
theorem inf22 : Inf Try.prog 22 (.slice none 0 0) 1 24 := Inf.mk' infq22
theorem sc22 : Scalar Try.prog 22 := ⟨_, Try.underlying22, by simp, by simp⟩
theorem us22 : (Try.prog.underlying 22).isSome = true := by rw [Try.underlying22]; rfl
theorem infq23 : (Try.prog.info? 23).map (fun i => (i.zero, i.size, i.bytes)) = some (some (.slice none 0 0), 1, 24) := by kernel_rfl
theorem inf23 : Inf Try.prog 23 (.slice none 0 0) 1 24 := Inf.mk' infq23
theorem sc23 : Scalar Try.prog 23 := ⟨_, Try.underlying23, by simp, by simp⟩
theorem us23 : (Try.prog.underlying 23).isSome = true := by rw [Try.underlying23]; rfl
theorem infq24 : (Try.prog.info? 24).map (fun i => (i.zero, i.size, i.bytes)) = some (some (.slice none 0 0), 1, 24) := by kernel_rfl
theorem inf24 : Inf Try.prog 24 (.slice none 0 0) 1 24 := Inf.mk' infq24
theorem sc24 : Scalar Try.prog 24 := ⟨_, Try.underlying24, by simp, by simp⟩
theorem us24 : (Try.prog.underlying 24).isSome = true := by rw [Try.underlying24]; rfl
theorem infq25 : (Try.prog.info? 25).map (fun i => (i.zero, i.size, i.bytes)) = some (some (.agg #[.int .i64 0, .int .i64 0, .int .i64 0, .int .i64 0, .int .i64 0, .int .i64 0, .slice none 0 0, .slice none 0 0, .slice none 0 0]), 9, 120) := by kernel_rfl
theorem inf25 : Inf Try.prog 25 (.agg #[.int .i64 0, .int .i64 0, .int .i64 0, .int .i64 0, .int .i64 0, .int .i64 0, .slice none 0 0, .slice none 0 0, .slice none 0 0]) 9 120 := Inf.mk' infq25
theorem agg25 : (∃ fs, Try.prog.underlying 25 = some (.struct fs)) ∨ (∃ n e, Try.prog.underlying 25 = some (.array n e)) := .inl ⟨_, Try.underlying25⟩
theorem us25 : (Try.prog.underlying 25).isSome = true := by rw [Try.underlying25]; rfl
theorem infq26 : (Try.prog.info? 26).map (fun i => (i.zero, i.size, i.bytes)) = some (some (.agg #[.int .i64 0, .int .i64 0, .int .i64 0, .int .i64 0, .int .i64 0, .int .i64 0, .slice none 0 0, .slice none 0 0, .slice none 0 0]), 9, 120) := by kernel_rfl
theorem inf26 : Inf Try.prog 26 (.agg #[.int .i64 0, .int .i64 0, .int .i64 0, .int .i64 0, .int .i64 0, .int .i64 0, .slice none 0 0, .slice none 0 0, .slice none 0 0]) 9 120 := Inf.mk' infq26
theorem agg26 : (∃ fs, Try.prog.underlying 26 = some (.struct fs)) ∨ (∃ n e, Try.prog.underlying 26 = some (.array n e)) := .inl ⟨_, Try.underlying26⟩
theorem us26 : (Try.prog.underlying 26).isSome = true := by rw [Try.underlying26]; rfl
theorem infq28 : (Try.prog.info? 28).map (fun i => (i.zero, i.size, i.bytes)) = some (some (.slice none 0 0), 1, 24) := by kernel_rfl
theorem inf28 : Inf Try.prog 28 (.slice none 0 0) 1 24 := Inf.mk' infq28
theorem sc28 : Scalar Try.prog 28 := ⟨_, Try.underlying28, by simp, by simp⟩
theorem us28 : (Try.prog.underlying 28).isSome = true := by rw [Try.underlying28]; rfl
theorem infq29 : (Try.prog.info? 29).map (fun i => (i.zero, i.size, i.bytes)) = some (some (.int .i64 0), 1, 8) := by kernel_rfl
theorem inf29 : Inf Try.prog 29 (.int .i64 0) 1 8 := Inf.mk' infq29
theorem sc29 : Scalar Try.prog 29 := ⟨_, Try.underlying29, by simp, by simp⟩
theorem us29 : (Try.prog.underlying 29).isSome = true := by rw [Try.underlying29]; rfl
theorem infq38 : (Try.prog.info? 38).map (fun i => (i.zero, i.size, i.bytes)) = some (some (.int .u64 0), 1, 8) := by kernel_rfl
theorem inf38 : Inf Try.prog 38 (.int .u64 0) 1 8 := Inf.mk' infq38
theorem sc38 : Scalar Try.prog 38 := ⟨_, Try.underlying38, by simp, by simp⟩
theorem us38 : (Try.prog.underlying 38).isSome = true := by rw [Try.underlying38]; rfl
theorem infq39 : (Try.prog.info? 39).map (fun i => (i.zero, i.size, i.bytes)) = some (some (.agg #[.bool false, .int .u64 0]), 2, 16) := by kernel_rfl
theorem inf39 : Inf Try.prog 39 (.agg #[.bool false, .int .u64 0]) 2 16 := Inf.mk' infq39
theorem agg39 : (∃ fs, Try.prog.underlying 39 = some (.struct fs)) ∨ (∃ n e, Try.prog.underlying 39 = some (.array n e)) := .inl ⟨_, Try.underlying39⟩
theorem us39 : (Try.prog.underlying 39).isSome = true := by rw [Try.underlying39]; rfl
theorem infq40 : (Try.prog.info? 40).map (fun i => (i.zero, i.size, i.bytes)) = some (some (.agg #[.bool false, .int .u64 0]), 2, 16) := by kernel_rfl
theorem inf40 : Inf Try.prog 40 (.agg #[.bool false, .int .u64 0]) 2 16 := Inf.mk' infq40
theorem agg40 : (∃ fs, Try.prog.underlying 40 = some (.struct fs)) ∨ (∃ n e, Try.prog.underlying 40 = some (.array n e)) := .inl ⟨_, Try.underlying40⟩
theorem us40 : (Try.prog.underlying 40).isSome = true := by rw [Try.underlying40]; rfl
theorem infq41 : (Try.prog.info? 41).map (fun i => (i.zero, i.size, i.bytes)) = some (some (.agg #[.int .u64 0, .bool false, .int .u64 0]), 3, 24) := by kernel_rfl
theorem inf41 : Inf Try.prog 41 (.agg #[.int .u64 0, .bool false, .int .u64 0]) 3 24 := Inf.mk' infq41
theorem agg41 : (∃ fs, Try.prog.underlying 41 = some (.struct fs)) ∨ (∃ n e, Try.prog.underlying 41 = some (.array n e)) := .inl ⟨_, Try.underlying41⟩
theorem us41 : (Try.prog.underlying 41).isSome = true := by rw [Try.underlying41]; rfl
theorem infq42 : (Try.prog.info? 42).map (fun i => (i.zero, i.size, i.bytes)) = some (some (.agg #[.int .u64 0, .bool false, .int .u64 0]), 3, 24) := by kernel_rfl
theorem inf42 : Inf Try.prog 42 (.agg #[.int .u64 0, .bool false, .int .u64 0]) 3 24 := Inf.mk' infq42
theorem agg42 : (∃ fs, Try.prog.underlying 42 = some (.struct fs)) ∨ (∃ n e, Try.prog.underlying 42 = some (.array n e)) := .inl ⟨_, Try.underlying42⟩
theorem us42 : (Try.prog.underlying 42).isSome = true := by rw [Try.underlying42]; rfl
theorem infq43 : (Try.prog.info? 43).map (fun i => (i.zero, i.size, i.bytes)) = some (some (.slice none 0 0), 1, 24) := by kernel_rfl
theorem inf43 : Inf Try.prog 43 (.slice none 0 0) 1 24 := Inf.mk' infq43
theorem sc43 : Scalar Try.prog 43 := ⟨_, Try.underlying43, by simp, by simp⟩
theorem us43 : (Try.prog.underlying 43).isSome = true := by rw [Try.underlying43]; rfl
theorem infq44 : (Try.prog.info? 44).map (fun i => (i.zero, i.size, i.bytes)) = some (some (.agg #[.int .i64 0, .slice none 0 0]), 2, 32) := by kernel_rfl
theorem inf44 : Inf Try.prog 44 (.agg #[.int .i64 0, .slice none 0 0]) 2 32 := Inf.mk' infq44
theorem agg44 : (∃ fs, Try.prog.underlying 44 = some (.struct fs)) ∨ (∃ n e, Try.prog.underlying 44 = some (.array n e)) := .inl ⟨_, Try.underlying44⟩
theorem us44 : (Try.prog.underlying 44).isSome = true := by rw [Try.underlying44]; rfl
theorem infq45 : (Try.prog.info? 45).map (fun i => (i.zero, i.size, i.bytes)) = some (some (.agg #[.int .i64 0, .slice none 0 0]), 2, 32) := by kernel_rfl
theorem inf45 : Inf Try.prog 45 (.agg #[.int .i64 0, .slice none 0 0]) 2 32 := Inf.mk' infq45
theorem agg45 : (∃ fs, Try.prog.underlying 45 = some (.struct fs)) ∨ (∃ n e, Try.prog.underlying 45 = some (.array n e)) := .inl ⟨_, Try.underlying45⟩
theorem us45 : (Try.prog.underlying 45).isSome = true := by rw [Try.underlying45]; rfl
theorem infq46 : (Try.prog.info? 46).map (fun i => (i.zero, i.size, i.bytes)) = some (some (.pointer none), 1, 8) := by kernel_rfl
theorem inf46 : Inf Try.prog 46 (.pointer none) 1 8 := Inf.mk' infq46
theorem sc46 : Scalar Try.prog 46 := ⟨_, Try.underlying46, by simp, by simp⟩
theorem us46 : (Try.prog.underlying 46).isSome = true := by rw [Try.underlying46]; rfl
theorem infq47 : (Try.prog.info? 47).map (fun i => (i.zero, i.size, i.bytes)) = some (some (.pointer none), 1, 8) := by kernel_rfl
theorem inf47 : Inf Try.prog 47 (.pointer none) 1 8 := Inf.mk' infq47
theorem sc47 : Scalar Try.prog 47 := ⟨_, Try.underlying47, by simp, by simp⟩
theorem us47 : (Try.prog.underlying 47).isSome = true := by rw [Try.underlying47]; rfl
theorem infq50 : (Try.prog.info? 50).map (fun i => (i.zero, i.size, i.bytes)) = some (some (.agg #[.string ByteArray.empty, .string ByteArray.empty, .string ByteArray.empty, .string ByteArray.empty, .string ByteArray.empty, .string ByteArray.empty, .string ByteArray.empty, .string ByteArray.empty]), 8, 128) := by kernel_rfl
theorem inf50 : Inf Try.prog 50 (.agg #[.string ByteArray.empty, .string ByteArray.empty, .string ByteArray.empty, .string ByteArray.empty, .string ByteArray.empty, .string ByteArray.empty, .string ByteArray.empty, .string ByteArray.empty]) 8 128 := Inf.mk' infq50
theorem agg50 : (∃ fs, Try.prog.underlying 50 = some (.struct fs)) ∨ (∃ n e, Try.prog.underlying 50 = some (.array n e)) := .inr ⟨_, _, Try.underlying50⟩
theorem us50 : (Try.prog.underlying 50).isSome = true := by rw [Try.underlying50]; rfl
theorem infq51 : (Try.prog.info? 51).map (fun i => (i.zero, i.size, i.bytes)) = some (some (.slice none 0 0), 1, 24) := by kernel_rfl
theorem inf51 : Inf Try.prog 51 (.slice none 0 0) 1 24 := Inf.mk' infq51
theorem sc51 : Scalar Try.prog 51 := ⟨_, Try.underlying51, by simp, by simp⟩
theorem us51 : (Try.prog.underlying 51).isSome = true := by rw [Try.underlying51]; rfl
theorem infq55 : (Try.prog.info? 55).map (fun i => (i.zero, i.size, i.bytes)) = some (some (.slice none 0 0), 1, 24) := by kernel_rfl
theorem inf55 : Inf Try.prog 55 (.slice none 0 0) 1 24 := Inf.mk' infq55
theorem sc55 : Scalar Try.prog 55 := ⟨_, Try.underlying55, by simp, by simp⟩
theorem us55 : (Try.prog.underlying 55).isSome = true := by rw [Try.underlying55]; rfl
theorem infq57 : (Try.prog.info? 57).map (fun i => (i.zero, i.size, i.bytes)) = some (some (.int .u64 0), 1, 8) := by kernel_rfl
theorem inf57 : Inf Try.prog 57 (.int .u64 0) 1 8 := Inf.mk' infq57
theorem sc57 : Scalar Try.prog 57 := ⟨_, Try.underlying57, by simp, by simp⟩
theorem us57 : (Try.prog.underlying 57).isSome = true := by rw [Try.underlying57]; rfl
theorem infq67 : (Try.prog.info? 67).map (fun i => (i.zero, i.size, i.bytes)) = some (some (.slice none 0 0), 1, 24) := by kernel_rfl
theorem inf67 : Inf Try.prog 67 (.slice none 0 0) 1 24 := Inf.mk' infq67
theorem sc67 : Scalar Try.prog 67 := ⟨_, Try.underlying67, by simp, by simp⟩
theorem us67 : (Try.prog.underlying 67).isSome = true := by rw [Try.underlying67]; rfl
theorem infq71 : (Try.prog.info? 71).map (fun i => (i.zero, i.size, i.bytes)) = some (some (.pointer none), 1, 8) := by kernel_rfl
theorem inf71 : Inf Try.prog 71 (.pointer none) 1 8 := Inf.mk' infq71
theorem sc71 : Scalar Try.prog 71 := ⟨_, Try.underlying71, by simp, by simp⟩
theorem us71 : (Try.prog.underlying 71).isSome = true := by rw [Try.underlying71]; rfl
theorem infq74 : (Try.prog.info? 74).map (fun i => (i.zero, i.size, i.bytes)) = some (some (.pointer none), 1, 8) := by kernel_rfl
theorem inf74 : Inf Try.prog 74 (.pointer none) 1 8 := Inf.mk' infq74
theorem sc74 : Scalar Try.prog 74 := ⟨_, Try.underlying74, by simp, by simp⟩
theorem us74 : (Try.prog.underlying 74).isSome = true := by rw [Try.underlying74]; rfl
theorem infq77 : (Try.prog.info? 77).map (fun i => (i.zero, i.size, i.bytes)) = some (some (.agg #[.int .i64 0, .int .i64 0, .slice none 0 0]), 3, 40) := by kernel_rfl
theorem inf77 : Inf Try.prog 77 (.agg #[.int .i64 0, .int .i64 0, .slice none 0 0]) 3 40 := Inf.mk' infq77
theorem agg77 : (∃ fs, Try.prog.underlying 77 = some (.struct fs)) ∨ (∃ n e, Try.prog.underlying 77 = some (.array n e)) := .inl ⟨_, Try.underlying77⟩
theorem us77 : (Try.prog.underlying 77).isSome = true := by rw [Try.underlying77]; rfl
theorem infq78 : (Try.prog.info? 78).map (fun i => (i.zero, i.size, i.bytes)) = some (some (.agg #[.int .i64 0, .int .i64 0, .slice none 0 0]), 3, 40) := by kernel_rfl
theorem inf78 : Inf Try.prog 78 (.agg #[.int .i64 0, .int .i64 0, .slice none 0 0]) 3 40 := Inf.mk' infq78
theorem agg78 : (∃ fs, Try.prog.underlying 78 = some (.struct fs)) ∨ (∃ n e, Try.prog.underlying 78 = some (.array n e)) := .inl ⟨_, Try.underlying78⟩
theorem us78 : (Try.prog.underlying 78).isSome = true := by rw [Try.underlying78]; rfl
theorem infq88 : (Try.prog.info? 88).map (fun i => (i.zero, i.size, i.bytes)) = some (some (.int .i64 0), 1, 8) := by kernel_rfl
theorem inf88 : Inf Try.prog 88 (.int .i64 0) 1 8 := Inf.mk' infq88
theorem sc88 : Scalar Try.prog 88 := ⟨_, Try.underlying88, by simp, by simp⟩
theorem us88 : (Try.prog.underlying 88).isSome = true := by rw [Try.underlying88]; rfl
theorem infq92 : (Try.prog.info? 92).map (fun i => (i.zero, i.size, i.bytes)) = some (some (.agg #[.int .i64 0, .int .i64 0, .int .i64 0, .int .i64 0, .int .i64 0]), 5, 40) := by kernel_rfl
theorem inf92 : Inf Try.prog 92 (.agg #[.int .i64 0, .int .i64 0, .int .i64 0, .int .i64 0, .int .i64 0]) 5 40 := Inf.mk' infq92
theorem agg92 : (∃ fs, Try.prog.underlying 92 = some (.struct fs)) ∨ (∃ n e, Try.prog.underlying 92 = some (.array n e)) := .inr ⟨_, _, Try.underlying92⟩
theorem us92 : (Try.prog.underlying 92).isSome = true := by rw [Try.underlying92]; rfl
theorem infq98 : (Try.prog.info? 98).map (fun i => (i.zero, i.size, i.bytes)) = some (some (.agg #[.int .i64 0]), 1, 8) := by kernel_rfl
theorem inf98 : Inf Try.prog 98 (.agg #[.int .i64 0]) 1 8 := Inf.mk' infq98
theorem agg98 : (∃ fs, Try.prog.underlying 98 = some (.struct fs)) ∨ (∃ n e, Try.prog.underlying 98 = some (.array n e)) := .inl ⟨_, Try.underlying98⟩
theorem us98 : (Try.prog.underlying 98).isSome = true := by rw [Try.underlying98]; rfl
theorem infq99 : (Try.prog.info? 99).map (fun i => (i.zero, i.size, i.bytes)) = some (some (.agg #[.int .i64 0]), 1, 8) := by kernel_rfl
theorem inf99 : Inf Try.prog 99 (.agg #[.int .i64 0]) 1 8 := Inf.mk' infq99
theorem agg99 : (∃ fs, Try.prog.underlying 99 = some (.struct fs)) ∨ (∃ n e, Try.prog.underlying 99 = some (.array n e)) := .inl ⟨_, Try.underlying99⟩
theorem us99 : (Try.prog.underlying 99).isSome = true := by rw [Try.underlying99]; rfl
theorem infq101 : (Try.prog.info? 101).map (fun i => (i.zero, i.size, i.bytes)) = some (some (.pointer none), 1, 8) := by kernel_rfl
theorem inf101 : Inf Try.prog 101 (.pointer none) 1 8 := Inf.mk' infq101
theorem sc101 : Scalar Try.prog 101 := ⟨_, Try.underlying101, by simp, by simp⟩
theorem us101 : (Try.prog.underlying 101).isSome = true := by rw [Try.underlying101]; rfl
theorem infq102 : (Try.prog.info? 102).map (fun i => (i.zero, i.size, i.bytes)) = some (some (.agg #[.slice none 0 0]), 1, 24) := by kernel_rfl
theorem inf102 : Inf Try.prog 102 (.agg #[.slice none 0 0]) 1 24 := Inf.mk' infq102
theorem agg102 : (∃ fs, Try.prog.underlying 102 = some (.struct fs)) ∨ (∃ n e, Try.prog.underlying 102 = some (.array n e)) := .inl ⟨_, Try.underlying102⟩
theorem us102 : (Try.prog.underlying 102).isSome = true := by rw [Try.underlying102]; rfl
theorem infq103 : (Try.prog.info? 103).map (fun i => (i.zero, i.size, i.bytes)) = some (some (.agg #[.slice none 0 0]), 1, 24) := by kernel_rfl
theorem inf103 : Inf Try.prog 103 (.agg #[.slice none 0 0]) 1 24 := Inf.mk' infq103
theorem agg103 : (∃ fs, Try.prog.underlying 103 = some (.struct fs)) ∨ (∃ n e, Try.prog.underlying 103 = some (.array n e)) := .inl ⟨_, Try.underlying103⟩
theorem us103 : (Try.prog.underlying 103).isSome = true := by rw [Try.underlying103]; rfl
theorem infq106 : (Try.prog.info? 106).map (fun i => (i.zero, i.size, i.bytes)) = some (some (.pointer none), 1, 8) := by kernel_rfl
theorem inf106 : Inf Try.prog 106 (.pointer none) 1 8 := Inf.mk' infq106
theorem sc106 : Scalar Try.prog 106 := ⟨_, Try.underlying106, by simp, by simp⟩
theorem us106 : (Try.prog.underlying 106).isSome = true := by rw [Try.underlying106]; rfl
theorem infq107 : (Try.prog.info? 107).map (fun i => (i.zero, i.size, i.bytes)) = some (some (.slice none 0 0), 1, 24) := by kernel_rfl
theorem inf107 : Inf Try.prog 107 (.slice none 0 0) 1 24 := Inf.mk' infq107
theorem sc107 : Scalar Try.prog 107 := ⟨_, Try.underlying107, by simp, by simp⟩
theorem us107 : (Try.prog.underlying 107).isSome = true := by rw [Try.underlying107]; rfl
theorem infq109 : (Try.prog.info? 109).map (fun i => (i.zero, i.size, i.bytes)) = some (some (.pointer none), 1, 8) := by kernel_rfl
theorem inf109 : Inf Try.prog 109 (.pointer none) 1 8 := Inf.mk' infq109
theorem sc109 : Scalar Try.prog 109 := ⟨_, Try.underlying109, by simp, by simp⟩
theorem us109 : (Try.prog.underlying 109).isSome = true := by rw [Try.underlying109]; rfl
theorem infq112 : (Try.prog.info? 112).map (fun i => (i.zero, i.size, i.bytes)) = some (some (.agg #[.int .i64 0, .int .i64 0, .int .i64 0, .int .i64 0]), 4, 32) := by kernel_rfl
theorem inf112 : Inf Try.prog 112 (.agg #[.int .i64 0, .int .i64 0, .int .i64 0, .int .i64 0]) 4 32 := Inf.mk' infq112
theorem agg112 : (∃ fs, Try.prog.underlying 112 = some (.struct fs)) ∨ (∃ n e, Try.prog.underlying 112 = some (.array n e)) := .inr ⟨_, _, Try.underlying112⟩
theorem us112 : (Try.prog.underlying 112).isSome = true := by rw [Try.underlying112]; rfl
theorem infq117 : (Try.prog.info? 117).map (fun i => (i.zero, i.size, i.bytes)) = some (some (.agg #[.bool false, .bool false, .bool false, .bool false, .bool false, .bool false, .bool false, .bool false]), 8, 8) := by kernel_rfl
theorem inf117 : Inf Try.prog 117 (.agg #[.bool false, .bool false, .bool false, .bool false, .bool false, .bool false, .bool false, .bool false]) 8 8 := Inf.mk' infq117
theorem agg117 : (∃ fs, Try.prog.underlying 117 = some (.struct fs)) ∨ (∃ n e, Try.prog.underlying 117 = some (.array n e)) := .inr ⟨_, _, Try.underlying117⟩
theorem us117 : (Try.prog.underlying 117).isSome = true := by rw [Try.underlying117]; rfl
theorem infq119 : (Try.prog.info? 119).map (fun i => (i.zero, i.size, i.bytes)) = some (some (.agg #[.int .i64 0, .slice none 0 0]), 2, 32) := by kernel_rfl
theorem inf119 : Inf Try.prog 119 (.agg #[.int .i64 0, .slice none 0 0]) 2 32 := Inf.mk' infq119
theorem agg119 : (∃ fs, Try.prog.underlying 119 = some (.struct fs)) ∨ (∃ n e, Try.prog.underlying 119 = some (.array n e)) := .inl ⟨_, Try.underlying119⟩
theorem us119 : (Try.prog.underlying 119).isSome = true := by rw [Try.underlying119]; rfl
theorem infq120 : (Try.prog.info? 120).map (fun i => (i.zero, i.size, i.bytes)) = some (some (.agg #[.int .i64 0, .slice none 0 0]), 2, 32) := by kernel_rfl
theorem inf120 : Inf Try.prog 120 (.agg #[.int .i64 0, .slice none 0 0]) 2 32 := Inf.mk' infq120
theorem agg120 : (∃ fs, Try.prog.underlying 120 = some (.struct fs)) ∨ (∃ n e, Try.prog.underlying 120 = some (.array n e)) := .inl ⟨_, Try.underlying120⟩
theorem us120 : (Try.prog.underlying 120).isSome = true := by rw [Try.underlying120]; rfl
theorem infq121 : (Try.prog.info? 121).map (fun i => (i.zero, i.size, i.bytes)) = some (some (.agg #[.pointer none, .int .i64 0, .slice none 0 0, .int .i64 0, .bool false]), 5, 56) := by kernel_rfl
theorem inf121 : Inf Try.prog 121 (.agg #[.pointer none, .int .i64 0, .slice none 0 0, .int .i64 0, .bool false]) 5 56 := Inf.mk' infq121
theorem agg121 : (∃ fs, Try.prog.underlying 121 = some (.struct fs)) ∨ (∃ n e, Try.prog.underlying 121 = some (.array n e)) := .inl ⟨_, Try.underlying121⟩
theorem us121 : (Try.prog.underlying 121).isSome = true := by rw [Try.underlying121]; rfl
theorem infq122 : (Try.prog.info? 122).map (fun i => (i.zero, i.size, i.bytes)) = some (some (.agg #[.pointer none, .int .i64 0, .slice none 0 0, .int .i64 0, .bool false]), 5, 56) := by kernel_rfl
theorem inf122 : Inf Try.prog 122 (.agg #[.pointer none, .int .i64 0, .slice none 0 0, .int .i64 0, .bool false]) 5 56 := Inf.mk' infq122
theorem agg122 : (∃ fs, Try.prog.underlying 122 = some (.struct fs)) ∨ (∃ n e, Try.prog.underlying 122 = some (.array n e)) := .inl ⟨_, Try.underlying122⟩
theorem us122 : (Try.prog.underlying 122).isSome = true := by rw [Try.underlying122]; rfl
theorem infq128 : (Try.prog.info? 128).map (fun i => (i.zero, i.size, i.bytes)) = some (some (.agg #[.slice none 0 0, .bool false, .bool false, .int .i64 0, .int .i64 0, .int .i64 0]), 6, 56) := by kernel_rfl
theorem inf128 : Inf Try.prog 128 (.agg #[.slice none 0 0, .bool false, .bool false, .int .i64 0, .int .i64 0, .int .i64 0]) 6 56 := Inf.mk' infq128
theorem agg128 : (∃ fs, Try.prog.underlying 128 = some (.struct fs)) ∨ (∃ n e, Try.prog.underlying 128 = some (.array n e)) := .inl ⟨_, Try.underlying128⟩
theorem us128 : (Try.prog.underlying 128).isSome = true := by rw [Try.underlying128]; rfl
theorem infq129 : (Try.prog.info? 129).map (fun i => (i.zero, i.size, i.bytes)) = some (some (.agg #[.slice none 0 0, .bool false, .bool false, .int .i64 0, .int .i64 0, .int .i64 0]), 6, 56) := by kernel_rfl
theorem inf129 : Inf Try.prog 129 (.agg #[.slice none 0 0, .bool false, .bool false, .int .i64 0, .int .i64 0, .int .i64 0]) 6 56 := Inf.mk' infq129
theorem agg129 : (∃ fs, Try.prog.underlying 129 = some (.struct fs)) ∨ (∃ n e, Try.prog.underlying 129 = some (.array n e)) := .inl ⟨_, Try.underlying129⟩
theorem us129 : (Try.prog.underlying 129).isSome = true := by rw [Try.underlying129]; rfl
theorem infq134 : (Try.prog.info? 134).map (fun i => (i.zero, i.size, i.bytes)) = some (some (.agg #[.slice none 0 0, .bool false, .int .i64 0, .int .i64 0, .int .i64 0]), 5, 56) := by kernel_rfl
theorem inf134 : Inf Try.prog 134 (.agg #[.slice none 0 0, .bool false, .int .i64 0, .int .i64 0, .int .i64 0]) 5 56 := Inf.mk' infq134
theorem agg134 : (∃ fs, Try.prog.underlying 134 = some (.struct fs)) ∨ (∃ n e, Try.prog.underlying 134 = some (.array n e)) := .inl ⟨_, Try.underlying134⟩
theorem us134 : (Try.prog.underlying 134).isSome = true := by rw [Try.underlying134]; rfl
theorem infq135 : (Try.prog.info? 135).map (fun i => (i.zero, i.size, i.bytes)) = some (some (.agg #[.slice none 0 0, .bool false, .int .i64 0, .int .i64 0, .int .i64 0]), 5, 56) := by kernel_rfl
theorem inf135 : Inf Try.prog 135 (.agg #[.slice none 0 0, .bool false, .int .i64 0, .int .i64 0, .int .i64 0]) 5 56 := Inf.mk' infq135
theorem agg135 : (∃ fs, Try.prog.underlying 135 = some (.struct fs)) ∨ (∃ n e, Try.prog.underlying 135 = some (.array n e)) := .inl ⟨_, Try.underlying135⟩
theorem us135 : (Try.prog.underlying 135).isSome = true := by rw [Try.underlying135]; rfl
theorem infq137 : (Try.prog.info? 137).map (fun i => (i.zero, i.size, i.bytes)) = some (some (.agg #[.pointer none, .slice none 0 0, .int .i64 0, .int .i64 0, .bool false]), 5, 56) := by kernel_rfl
theorem inf137 : Inf Try.prog 137 (.agg #[.pointer none, .slice none 0 0, .int .i64 0, .int .i64 0, .bool false]) 5 56 := Inf.mk' infq137
theorem agg137 : (∃ fs, Try.prog.underlying 137 = some (.struct fs)) ∨ (∃ n e, Try.prog.underlying 137 = some (.array n e)) := .inl ⟨_, Try.underlying137⟩
theorem us137 : (Try.prog.underlying 137).isSome = true := by rw [Try.underlying137]; rfl
theorem infq138 : (Try.prog.info? 138).map (fun i => (i.zero, i.size, i.bytes)) = some (some (.agg #[.pointer none, .slice none 0 0, .int .i64 0, .int .i64 0, .bool false]), 5, 56) := by kernel_rfl
theorem inf138 : Inf Try.prog 138 (.agg #[.pointer none, .slice none 0 0, .int .i64 0, .int .i64 0, .bool false]) 5 56 := Inf.mk' infq138
theorem agg138 : (∃ fs, Try.prog.underlying 138 = some (.struct fs)) ∨ (∃ n e, Try.prog.underlying 138 = some (.array n e)) := .inl ⟨_, Try.underlying138⟩
theorem us138 : (Try.prog.underlying 138).isSome = true := by rw [Try.underlying138]; rfl
theorem infq148 : (Try.prog.info? 148).map (fun i => (i.zero, i.size, i.bytes)) = some (some (.map none), 1, 8) := by kernel_rfl
theorem inf148 : Inf Try.prog 148 (.map none) 1 8 := Inf.mk' infq148
theorem sc148 : Scalar Try.prog 148 := ⟨_, Try.underlying148, by simp, by simp⟩
theorem us148 : (Try.prog.underlying 148).isSome = true := by rw [Try.underlying148]; rfl
theorem infq160 : (Try.prog.info? 160).map (fun i => (i.zero, i.size, i.bytes)) = some (some (.int .u32 0), 1, 4) := by kernel_rfl
theorem inf160 : Inf Try.prog 160 (.int .u32 0) 1 4 := Inf.mk' infq160
theorem sc160 : Scalar Try.prog 160 := ⟨_, Try.underlying160, by simp, by simp⟩
theorem us160 : (Try.prog.underlying 160).isSome = true := by rw [Try.underlying160]; rfl
theorem infq164 : (Try.prog.info? 164).map (fun i => (i.zero, i.size, i.bytes)) = some (some (.pointer none), 1, 8) := by kernel_rfl
theorem inf164 : Inf Try.prog 164 (.pointer none) 1 8 := Inf.mk' infq164
theorem sc164 : Scalar Try.prog 164 := ⟨_, Try.underlying164, by simp, by simp⟩
theorem us164 : (Try.prog.underlying 164).isSome = true := by rw [Try.underlying164]; rfl
theorem nm3 : (Try.f3.name == "runtime.NumGoroutine") = false := by kernel_rfl
theorem nm4 : (Try.f4.name == "runtime.NumGoroutine") = false := by kernel_rfl
theorem nm5 : (Try.f5.name == "runtime.NumGoroutine") = false := by kernel_rfl
theorem nm6 : (Try.f6.name == "runtime.NumGoroutine") = false := by kernel_rfl
theorem nm7 : (Try.f7.name == "runtime.NumGoroutine") = false := by kernel_rfl
theorem nm8 : (Try.f8.name == "runtime.NumGoroutine") = false := by kernel_rfl
theorem nm9 : (Try.f9.name == "runtime.NumGoroutine") = false := by kernel_rfl
theorem nm10 : (Try.f10.name == "runtime.NumGoroutine") = false := by kernel_rfl
theorem nm11 : (Try.f11.name == "runtime.NumGoroutine") = false := by kernel_rfl
theorem nm12 : (Try.f12.name == "runtime.NumGoroutine") = false := by kernel_rfl
theorem nm13 : (Try.f13.name == "runtime.NumGoroutine") = false := by kernel_rfl
theorem nm14 : (Try.f14.name == "runtime.NumGoroutine") = false := by kernel_rfl
theorem nm15 : (Try.f15.name == "runtime.NumGoroutine") = false := by kernel_rfl
theorem nm16 : (Try.f16.name == "runtime.NumGoroutine") = false := by kernel_rfl
theorem nm17 : (Try.f17.name == "runtime.NumGoroutine") = false := by kernel_rfl
theorem nm18 : (Try.f18.name == "runtime.NumGoroutine") = false := by kernel_rfl
theorem nm19 : (Try.f19.name == "runtime.NumGoroutine") = false := by kernel_rfl
theorem nm20 : (Try.f20.name == "runtime.NumGoroutine") = false := by kernel_rfl
theorem nm21 : (Try.f21.name == "runtime.NumGoroutine") = false := by kernel_rfl
theorem nm22 : (Try.f22.name == "runtime.NumGoroutine") = false := by kernel_rfl
theorem nm23 : (Try.f23.name == "runtime.NumGoroutine") = false := by kernel_rfl
theorem nm24 : (Try.f24.name == "runtime.NumGoroutine") = false := by kernel_rfl
theorem nm25 : (Try.f25.name == "runtime.NumGoroutine") = false := by kernel_rfl
theorem nm26 : (Try.f26.name == "runtime.NumGoroutine") = false := by kernel_rfl
theorem nm27 : (Try.f27.name == "runtime.NumGoroutine") = false := by kernel_rfl
theorem nm28 : (Try.f28.name == "runtime.NumGoroutine") = false := by kernel_rfl
theorem nm29 : (Try.f29.name == "runtime.NumGoroutine") = false := by kernel_rfl
theorem nm30 : (Try.f30.name == "runtime.NumGoroutine") = false := by kernel_rfl
theorem nm31 : (Try.f31.name == "runtime.NumGoroutine") = false := by kernel_rfl
theorem nm32 : (Try.f32.name == "runtime.NumGoroutine") = false := by kernel_rfl
theorem nm33 : (Try.f33.name == "runtime.NumGoroutine") = false := by kernel_rfl
theorem nm34 : (Try.f34.name == "runtime.NumGoroutine") = false := by kernel_rfl
theorem nm35 : (Try.f35.name == "runtime.NumGoroutine") = false := by kernel_rfl
theorem nm36 : (Try.f36.name == "runtime.NumGoroutine") = false := by kernel_rfl
theorem nm37 : (Try.f37.name == "runtime.NumGoroutine") = false := by kernel_rfl
theorem nm38 : (Try.f38.name == "runtime.NumGoroutine") = false := by kernel_rfl
theorem nm39 : (Try.f39.name == "runtime.NumGoroutine") = false := by kernel_rfl
theorem nm40 : (Try.f40.name == "runtime.NumGoroutine") = false := by kernel_rfl
theorem nm41 : (Try.f41.name == "runtime.NumGoroutine") = false := by kernel_rfl
theorem nm42 : (Try.f42.name == "runtime.NumGoroutine") = false := by kernel_rfl
theorem nm43 : (Try.f43.name == "runtime.NumGoroutine") = false := by kernel_rfl
theorem nm44 : (Try.f44.name == "runtime.NumGoroutine") = false := by kernel_rfl
theorem nm45 : (Try.f45.name == "runtime.NumGoroutine") = false := by kernel_rfl
theorem nm46 : (Try.f46.name == "runtime.NumGoroutine") = false := by kernel_rfl
theorem nm47 : (Try.f47.name == "runtime.NumGoroutine") = false := by kernel_rfl
theorem nm48 : (Try.f48.name == "runtime.NumGoroutine") = false := by kernel_rfl
theorem nm49 : (Try.f49.name == "runtime.NumGoroutine") = false := by kernel_rfl
theorem nm50 : (Try.f50.name == "runtime.NumGoroutine") = false := by kernel_rfl
theorem nm51 : (Try.f51.name == "runtime.NumGoroutine") = false := by kernel_rfl
theorem nm52 : (Try.f52.name == "runtime.NumGoroutine") = false := by kernel_rfl
theorem nm53 : (Try.f53.name == "runtime.NumGoroutine") = false := by kernel_rfl
theorem nm54 : (Try.f54.name == "runtime.NumGoroutine") = false := by kernel_rfl
theorem nm55 : (Try.f55.name == "runtime.NumGoroutine") = false := by kernel_rfl
theorem nm56 : (Try.f56.name == "runtime.NumGoroutine") = false := by kernel_rfl
theorem nm57 : (Try.f57.name == "runtime.NumGoroutine") = false := by kernel_rfl
theorem nm58 : (Try.f58.name == "runtime.NumGoroutine") = false := by kernel_rfl
theorem nm59 : (Try.f59.name == "runtime.NumGoroutine") = false := by kernel_rfl
theorem nm60 : (Try.f60.name == "runtime.NumGoroutine") = false := by kernel_rfl
theorem nm61 : (Try.f61.name == "runtime.NumGoroutine") = false := by kernel_rfl
theorem nm62 : (Try.f62.name == "runtime.NumGoroutine") = false := by kernel_rfl
theorem nm63 : (Try.f63.name == "runtime.NumGoroutine") = false := by kernel_rfl
theorem nm64 : (Try.f64.name == "runtime.NumGoroutine") = false := by kernel_rfl
theorem nm65 : (Try.f65.name == "runtime.NumGoroutine") = false := by kernel_rfl
theorem nm66 : (Try.f66.name == "runtime.NumGoroutine") = false := by kernel_rfl
theorem nm67 : (Try.f67.name == "runtime.NumGoroutine") = false := by kernel_rfl
theorem nm68 : (Try.f68.name == "runtime.NumGoroutine") = false := by kernel_rfl
theorem nm69 : (Try.f69.name == "runtime.NumGoroutine") = false := by kernel_rfl
theorem nm70 : (Try.f70.name == "runtime.NumGoroutine") = false := by kernel_rfl
theorem nm71 : (Try.f71.name == "runtime.NumGoroutine") = false := by kernel_rfl
theorem nm72 : (Try.f72.name == "runtime.NumGoroutine") = false := by kernel_rfl
theorem nm73 : (Try.f73.name == "runtime.NumGoroutine") = false := by kernel_rfl
theorem nm74 : (Try.f74.name == "runtime.NumGoroutine") = false := by kernel_rfl
theorem nm75 : (Try.f75.name == "runtime.NumGoroutine") = false := by kernel_rfl
theorem nm76 : (Try.f76.name == "runtime.NumGoroutine") = false := by kernel_rfl
theorem nm77 : (Try.f77.name == "runtime.NumGoroutine") = false := by kernel_rfl
theorem nm78 : (Try.f78.name == "runtime.NumGoroutine") = false := by kernel_rfl
theorem nm79 : (Try.f79.name == "runtime.NumGoroutine") = false := by kernel_rfl
theorem nm80 : (Try.f80.name == "runtime.NumGoroutine") = false := by kernel_rfl
theorem nm81 : (Try.f81.name == "runtime.NumGoroutine") = false := by kernel_rfl
theorem nm82 : (Try.f82.name == "runtime.NumGoroutine") = false := by kernel_rfl
theorem nm83 : (Try.f83.name == "runtime.NumGoroutine") = false := by kernel_rfl
theorem nm84 : (Try.f84.name == "runtime.NumGoroutine") = false := by kernel_rfl
theorem nm85 : (Try.f85.name == "runtime.NumGoroutine") = false := by kernel_rfl
theorem nm86 : (Try.f86.name == "runtime.NumGoroutine") = false := by kernel_rfl
theorem nm87 : (Try.f87.name == "runtime.NumGoroutine") = false := by kernel_rfl
theorem nm88 : (Try.f88.name == "runtime.NumGoroutine") = false := by kernel_rfl
theorem nm89 : (Try.f89.name == "runtime.NumGoroutine") = false := by kernel_rfl
theorem nm90 : (Try.f90.name == "runtime.NumGoroutine") = false := by kernel_rfl
theorem nm91 : (Try.f91.name == "runtime.NumGoroutine") = false := by kernel_rfl
theorem nm92 : (Try.f92.name == "runtime.NumGoroutine") = false := by kernel_rfl
theorem nm93 : (Try.f93.name == "runtime.NumGoroutine") = false := by kernel_rfl
theorem nm94 : (Try.f94.name == "runtime.NumGoroutine") = false := by kernel_rfl
theorem nm95 : (Try.f95.name == "runtime.NumGoroutine") = false := by kernel_rfl
theorem nm96 : (Try.f96.name == "runtime.NumGoroutine") = false := by kernel_rfl
theorem nm97 : (Try.f97.name == "runtime.NumGoroutine") = false := by kernel_rfl
theorem nm98 : (Try.f98.name == "runtime.NumGoroutine") = false := by kernel_rfl
theorem nm99 : (Try.f99.name == "runtime.NumGoroutine") = false := by kernel_rfl
theorem nm100 : (Try.f100.name == "runtime.NumGoroutine") = false := by kernel_rfl
theorem nm101 : (Try.f101.name == "runtime.NumGoroutine") = false := by kernel_rfl
theorem nm102 : (Try.f102.name == "runtime.NumGoroutine") = false := by kernel_rfl
theorem nm103 : (Try.f103.name == "runtime.NumGoroutine") = false := by kernel_rfl
theorem nm104 : (Try.f104.name == "runtime.NumGoroutine") = false := by kernel_rfl
theorem nm105 : (Try.f105.name == "runtime.NumGoroutine") = false := by kernel_rfl
theorem nm106 : (Try.f106.name == "runtime.NumGoroutine") = false := by kernel_rfl
theorem nm107 : (Try.f107.name == "runtime.NumGoroutine") = false := by kernel_rfl
theorem nm108 : (Try.f108.name == "runtime.NumGoroutine") = false := by kernel_rfl
theorem nm109 : (Try.f109.name == "runtime.NumGoroutine") = false := by kernel_rfl
theorem nm110 : (Try.f110.name == "runtime.NumGoroutine") = false := by kernel_rfl
theorem nm111 : (Try.f111.name == "runtime.NumGoroutine") = false := by kernel_rfl
theorem nm112 : (Try.f112.name == "runtime.NumGoroutine") = false := by kernel_rfl
theorem nm113 : (Try.f113.name == "runtime.NumGoroutine") = false := by kernel_rfl
theorem nm114 : (Try.f114.name == "runtime.NumGoroutine") = false := by kernel_rfl
theorem nm115 : (Try.f115.name == "runtime.NumGoroutine") = false := by kernel_rfl
theorem nm116 : (Try.f116.name == "runtime.NumGoroutine") = false := by kernel_rfl
theorem nm117 : (Try.f117.name == "runtime.NumGoroutine") = false := by kernel_rfl
theorem nm118 : (Try.f118.name == "runtime.NumGoroutine") = false := by kernel_rfl
theorem nm119 : (Try.f119.name == "runtime.NumGoroutine") = false := by kernel_rfl
theorem nm120 : (Try.f120.name == "runtime.NumGoroutine") = false := by kernel_rfl
theorem nm121 : (Try.f121.name == "runtime.NumGoroutine") = false := by kernel_rfl
theorem nm122 : (Try.f122.name == "runtime.NumGoroutine") = false := by kernel_rfl
theorem nm123 : (Try.f123.name == "runtime.NumGoroutine") = false := by kernel_rfl
theorem mixed : Try.prog.follows .mixedOrders = true := by kernel_rfl
end Go.Proofs.Ytipkfdeiallifaa.Lg
