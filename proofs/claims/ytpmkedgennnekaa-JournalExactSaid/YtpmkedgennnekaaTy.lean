/-
  Facts on the program's types and functions, each closed. By program.
-/
import Derived.Test.YtpmkedgennnekaaEf
import Derived.Test.YtpmkedgennnekaaProg
import Derived.KernelRfl
namespace Go.Proofs.Ytpmkedgennnekaa.Lg
open Go Go.RowKit
theorem infq2 : (Try.prog.info? 2).map (fun i => (i.zero, i.size, i.bytes)) = some (some (.int .i64 0), 1, 8) := by kernel_rfl
theorem inf2 : Inf Try.prog 2 (.int .i64 0) 1 8 := Inf.mk' infq2
theorem sc2 : Scalar Try.prog 2 := ⟨_, Try.underlying2, by simp, by simp⟩
theorem us2 : (Try.prog.underlying 2).isSome = true := by rw [Try.underlying2]; rfl
theorem infq3 : (Try.prog.info? 3).map (fun i => (i.zero, i.size, i.bytes)) = some (some (.int .i64 0), 1, 8) := by kernel_rfl
theorem inf3 : Inf Try.prog 3 (.int .i64 0) 1 8 := Inf.mk' infq3
theorem sc3 : Scalar Try.prog 3 := ⟨_, Try.underlying3, by simp, by simp⟩
theorem us3 : (Try.prog.underlying 3).isSome = true := by rw [Try.underlying3]; rfl
theorem infq4 : (Try.prog.info? 4).map (fun i => (i.zero, i.size, i.bytes)) = some (some (.bool false), 1, 1) := by kernel_rfl
theorem inf4 : Inf Try.prog 4 (.bool false) 1 1 := Inf.mk' infq4
theorem sc4 : Scalar Try.prog 4 := ⟨_, Try.underlying4, by simp, by simp⟩
theorem us4 : (Try.prog.underlying 4).isSome = true := by rw [Try.underlying4]; rfl
theorem infq5 : (Try.prog.info? 5).map (fun i => (i.zero, i.size, i.bytes)) = some (some (.int .u8 0), 1, 1) := by kernel_rfl
theorem inf5 : Inf Try.prog 5 (.int .u8 0) 1 1 := Inf.mk' infq5
theorem sc5 : Scalar Try.prog 5 := ⟨_, Try.underlying5, by simp, by simp⟩
theorem us5 : (Try.prog.underlying 5).isSome = true := by rw [Try.underlying5]; rfl
theorem infq9 : (Try.prog.info? 9).map (fun i => (i.zero, i.size, i.bytes)) = some (some (.string ByteArray.empty), 1, 16) := by kernel_rfl
theorem inf9 : Inf Try.prog 9 (.string ByteArray.empty) 1 16 := Inf.mk' infq9
theorem sc9 : Scalar Try.prog 9 := ⟨_, Try.underlying9, by simp, by simp⟩
theorem us9 : (Try.prog.underlying 9).isSome = true := by rw [Try.underlying9]; rfl
theorem infq12 : (Try.prog.info? 12).map (fun i => (i.zero, i.size, i.bytes)) = some (some (.int .u64 0), 1, 8) := by kernel_rfl
theorem inf12 : Inf Try.prog 12 (.int .u64 0) 1 8 := Inf.mk' infq12
theorem sc12 : Scalar Try.prog 12 := ⟨_, Try.underlying12, by simp, by simp⟩
theorem us12 : (Try.prog.underlying 12).isSome = true := by rw [Try.underlying12]; rfl
theorem infq13 : (Try.prog.info? 13).map (fun i => (i.zero, i.size, i.bytes)) = some (some (.agg #[.string ByteArray.empty, .int .u64 0]), 2, 24) := by kernel_rfl
theorem inf13 : Inf Try.prog 13 (.agg #[.string ByteArray.empty, .int .u64 0]) 2 24 := Inf.mk' infq13
theorem agg13 : (∃ fs, Try.prog.underlying 13 = some (.struct fs)) ∨ (∃ n e, Try.prog.underlying 13 = some (.array n e)) := .inl ⟨_, Try.underlying13⟩
theorem us13 : (Try.prog.underlying 13).isSome = true := by rw [Try.underlying13]; rfl
theorem infq20 : (Try.prog.info? 20).map (fun i => (i.zero, i.size, i.bytes)) = some (some (.nilIface), 1, 16) := by kernel_rfl
theorem inf20 : Inf Try.prog 20 (.nilIface) 1 16 := Inf.mk' infq20
theorem sc20 : Scalar Try.prog 20 := ⟨_, Try.underlying20, by simp, by simp⟩
theorem us20 : (Try.prog.underlying 20).isSome = true := by rw [Try.underlying20]; rfl
theorem infq21 : (Try.prog.info? 21).map (fun i => (i.zero, i.size, i.bytes)) = some (some (.int .i32 0), 1, 4) := by kernel_rfl
theorem inf21 : Inf Try.prog 21 (.int .i32 0) 1 4 := Inf.mk' infq21
theorem sc21 : Scalar Try.prog 21 := ⟨_, Try.underlying21, by simp, by simp⟩
theorem us21 : (Try.prog.underlying 21).isSome = true := by rw [Try.underlying21]; rfl
theorem infq22 : (Try.prog.info? 22).map (fun i => (i.zero, i.size, i.bytes)) = some (some (.slice none 0 0), 1, 24) := by kernel_rfl
theorem inf22 : Inf Try.prog 22 (.slice none 0 0) 1 24 := Inf.mk' infq22
theorem sc22 : Scalar Try.prog 22 := ⟨_, Try.underlying22, by simp, by simp⟩
theorem us22 : (Try.prog.underlying 22).isSome = true := by rw [Try.underlying22]; rfl
theorem infq24 : (Try.prog.info? 24).map (fun i => (i.zero, i.size, i.bytes)) = some (some (.pointer none), 1, 8) := by kernel_rfl
theorem inf24 : Inf Try.prog 24 (.pointer none) 1 8 := Inf.mk' infq24
theorem sc24 : Scalar Try.prog 24 := ⟨_, Try.underlying24, by simp, by simp⟩
theorem us24 : (Try.prog.underlying 24).isSome = true := by rw [Try.underlying24]; rfl
theorem infq25 : (Try.prog.info? 25).map (fun i => (i.zero, i.size, i.bytes)) = some (some (.int .i64 0), 1, 8) := by kernel_rfl
theorem inf25 : Inf Try.prog 25 (.int .i64 0) 1 8 := Inf.mk' infq25
theorem sc25 : Scalar Try.prog 25 := ⟨_, Try.underlying25, by simp, by simp⟩
theorem us25 : (Try.prog.underlying 25).isSome = true := by rw [Try.underlying25]; rfl
theorem infq28 : (Try.prog.info? 28).map (fun i => (i.zero, i.size, i.bytes)) = some (some (.slice none 0 0), 1, 24) := by kernel_rfl
theorem inf28 : Inf Try.prog 28 (.slice none 0 0) 1 24 := Inf.mk' infq28
theorem sc28 : Scalar Try.prog 28 := ⟨_, Try.underlying28, by simp, by simp⟩
theorem us28 : (Try.prog.underlying 28).isSome = true := by rw [Try.underlying28]; rfl
theorem infq30 : (Try.prog.info? 30).map (fun i => (i.zero, i.size, i.bytes)) = some (some (.int .u64 0), 1, 8) := by kernel_rfl
theorem inf30 : Inf Try.prog 30 (.int .u64 0) 1 8 := Inf.mk' infq30
theorem sc30 : Scalar Try.prog 30 := ⟨_, Try.underlying30, by simp, by simp⟩
theorem us30 : (Try.prog.underlying 30).isSome = true := by rw [Try.underlying30]; rfl
theorem infq31 : (Try.prog.info? 31).map (fun i => (i.zero, i.size, i.bytes)) = some (some (.slice none 0 0), 1, 24) := by kernel_rfl
theorem inf31 : Inf Try.prog 31 (.slice none 0 0) 1 24 := Inf.mk' infq31
theorem sc31 : Scalar Try.prog 31 := ⟨_, Try.underlying31, by simp, by simp⟩
theorem us31 : (Try.prog.underlying 31).isSome = true := by rw [Try.underlying31]; rfl
theorem infq32 : (Try.prog.info? 32).map (fun i => (i.zero, i.size, i.bytes)) = some (some (.agg #[.int .i64 0, .slice none 0 0]), 2, 32) := by kernel_rfl
theorem inf32 : Inf Try.prog 32 (.agg #[.int .i64 0, .slice none 0 0]) 2 32 := Inf.mk' infq32
theorem agg32 : (∃ fs, Try.prog.underlying 32 = some (.struct fs)) ∨ (∃ n e, Try.prog.underlying 32 = some (.array n e)) := .inl ⟨_, Try.underlying32⟩
theorem us32 : (Try.prog.underlying 32).isSome = true := by rw [Try.underlying32]; rfl
theorem infq33 : (Try.prog.info? 33).map (fun i => (i.zero, i.size, i.bytes)) = some (some (.agg #[.int .i64 0, .slice none 0 0]), 2, 32) := by kernel_rfl
theorem inf33 : Inf Try.prog 33 (.agg #[.int .i64 0, .slice none 0 0]) 2 32 := Inf.mk' infq33
theorem agg33 : (∃ fs, Try.prog.underlying 33 = some (.struct fs)) ∨ (∃ n e, Try.prog.underlying 33 = some (.array n e)) := .inl ⟨_, Try.underlying33⟩
theorem us33 : (Try.prog.underlying 33).isSome = true := by rw [Try.underlying33]; rfl
theorem infq42 : (Try.prog.info? 42).map (fun i => (i.zero, i.size, i.bytes)) = some (some (.slice none 0 0), 1, 24) := by kernel_rfl
theorem inf42 : Inf Try.prog 42 (.slice none 0 0) 1 24 := Inf.mk' infq42
theorem sc42 : Scalar Try.prog 42 := ⟨_, Try.underlying42, by simp, by simp⟩
theorem us42 : (Try.prog.underlying 42).isSome = true := by rw [Try.underlying42]; rfl
theorem infq46 : (Try.prog.info? 46).map (fun i => (i.zero, i.size, i.bytes)) = some (some (.slice none 0 0), 1, 24) := by kernel_rfl
theorem inf46 : Inf Try.prog 46 (.slice none 0 0) 1 24 := Inf.mk' infq46
theorem sc46 : Scalar Try.prog 46 := ⟨_, Try.underlying46, by simp, by simp⟩
theorem us46 : (Try.prog.underlying 46).isSome = true := by rw [Try.underlying46]; rfl
theorem infq47 : (Try.prog.info? 47).map (fun i => (i.zero, i.size, i.bytes)) = some (some (.pointer none), 1, 8) := by kernel_rfl
theorem inf47 : Inf Try.prog 47 (.pointer none) 1 8 := Inf.mk' infq47
theorem sc47 : Scalar Try.prog 47 := ⟨_, Try.underlying47, by simp, by simp⟩
theorem us47 : (Try.prog.underlying 47).isSome = true := by rw [Try.underlying47]; rfl
theorem infq51 : (Try.prog.info? 51).map (fun i => (i.zero, i.size, i.bytes)) = some (some (.agg #[.pointer none, .pointer none, .pointer none]), 3, 24) := by kernel_rfl
theorem inf51 : Inf Try.prog 51 (.agg #[.pointer none, .pointer none, .pointer none]) 3 24 := Inf.mk' infq51
theorem agg51 : (∃ fs, Try.prog.underlying 51 = some (.struct fs)) ∨ (∃ n e, Try.prog.underlying 51 = some (.array n e)) := .inr ⟨_, _, Try.underlying51⟩
theorem us51 : (Try.prog.underlying 51).isSome = true := by rw [Try.underlying51]; rfl
theorem infq52 : (Try.prog.info? 52).map (fun i => (i.zero, i.size, i.bytes)) = some (some (.agg #[.pointer none, .pointer none, .pointer none]), 3, 24) := by kernel_rfl
theorem inf52 : Inf Try.prog 52 (.agg #[.pointer none, .pointer none, .pointer none]) 3 24 := Inf.mk' infq52
theorem agg52 : (∃ fs, Try.prog.underlying 52 = some (.struct fs)) ∨ (∃ n e, Try.prog.underlying 52 = some (.array n e)) := .inr ⟨_, _, Try.underlying52⟩
theorem us52 : (Try.prog.underlying 52).isSome = true := by rw [Try.underlying52]; rfl
theorem infq53 : (Try.prog.info? 53).map (fun i => (i.zero, i.size, i.bytes)) = some (some (.agg #[.int .i64 0, .int .i64 0, .int .i64 0, .slice none 0 0]), 4, 48) := by kernel_rfl
theorem inf53 : Inf Try.prog 53 (.agg #[.int .i64 0, .int .i64 0, .int .i64 0, .slice none 0 0]) 4 48 := Inf.mk' infq53
theorem agg53 : (∃ fs, Try.prog.underlying 53 = some (.struct fs)) ∨ (∃ n e, Try.prog.underlying 53 = some (.array n e)) := .inl ⟨_, Try.underlying53⟩
theorem us53 : (Try.prog.underlying 53).isSome = true := by rw [Try.underlying53]; rfl
theorem infq54 : (Try.prog.info? 54).map (fun i => (i.zero, i.size, i.bytes)) = some (some (.agg #[.int .i64 0, .int .i64 0, .int .i64 0, .slice none 0 0]), 4, 48) := by kernel_rfl
theorem inf54 : Inf Try.prog 54 (.agg #[.int .i64 0, .int .i64 0, .int .i64 0, .slice none 0 0]) 4 48 := Inf.mk' infq54
theorem agg54 : (∃ fs, Try.prog.underlying 54 = some (.struct fs)) ∨ (∃ n e, Try.prog.underlying 54 = some (.array n e)) := .inl ⟨_, Try.underlying54⟩
theorem us54 : (Try.prog.underlying 54).isSome = true := by rw [Try.underlying54]; rfl
theorem infq58 : (Try.prog.info? 58).map (fun i => (i.zero, i.size, i.bytes)) = some (some (.slice none 0 0), 1, 24) := by kernel_rfl
theorem inf58 : Inf Try.prog 58 (.slice none 0 0) 1 24 := Inf.mk' infq58
theorem sc58 : Scalar Try.prog 58 := ⟨_, Try.underlying58, by simp, by simp⟩
theorem us58 : (Try.prog.underlying 58).isSome = true := by rw [Try.underlying58]; rfl
theorem infq59 : (Try.prog.info? 59).map (fun i => (i.zero, i.size, i.bytes)) = some (some (.pointer none), 1, 8) := by kernel_rfl
theorem inf59 : Inf Try.prog 59 (.pointer none) 1 8 := Inf.mk' infq59
theorem sc59 : Scalar Try.prog 59 := ⟨_, Try.underlying59, by simp, by simp⟩
theorem us59 : (Try.prog.underlying 59).isSome = true := by rw [Try.underlying59]; rfl
theorem infq62 : (Try.prog.info? 62).map (fun i => (i.zero, i.size, i.bytes)) = some (some (.slice none 0 0), 1, 24) := by kernel_rfl
theorem inf62 : Inf Try.prog 62 (.slice none 0 0) 1 24 := Inf.mk' infq62
theorem sc62 : Scalar Try.prog 62 := ⟨_, Try.underlying62, by simp, by simp⟩
theorem us62 : (Try.prog.underlying 62).isSome = true := by rw [Try.underlying62]; rfl
theorem infq63 : (Try.prog.info? 63).map (fun i => (i.zero, i.size, i.bytes)) = some (some (.agg #[.int .i64 0, .slice none 0 0, .slice none 0 0]), 3, 56) := by kernel_rfl
theorem inf63 : Inf Try.prog 63 (.agg #[.int .i64 0, .slice none 0 0, .slice none 0 0]) 3 56 := Inf.mk' infq63
theorem agg63 : (∃ fs, Try.prog.underlying 63 = some (.struct fs)) ∨ (∃ n e, Try.prog.underlying 63 = some (.array n e)) := .inl ⟨_, Try.underlying63⟩
theorem us63 : (Try.prog.underlying 63).isSome = true := by rw [Try.underlying63]; rfl
theorem infq64 : (Try.prog.info? 64).map (fun i => (i.zero, i.size, i.bytes)) = some (some (.agg #[.int .i64 0, .slice none 0 0, .slice none 0 0]), 3, 56) := by kernel_rfl
theorem inf64 : Inf Try.prog 64 (.agg #[.int .i64 0, .slice none 0 0, .slice none 0 0]) 3 56 := Inf.mk' infq64
theorem agg64 : (∃ fs, Try.prog.underlying 64 = some (.struct fs)) ∨ (∃ n e, Try.prog.underlying 64 = some (.array n e)) := .inl ⟨_, Try.underlying64⟩
theorem us64 : (Try.prog.underlying 64).isSome = true := by rw [Try.underlying64]; rfl
theorem infq65 : (Try.prog.info? 65).map (fun i => (i.zero, i.size, i.bytes)) = some (some (.agg #[.int .i64 0, .slice none 0 0, .slice none 0 0, .int .i64 0]), 4, 64) := by kernel_rfl
theorem inf65 : Inf Try.prog 65 (.agg #[.int .i64 0, .slice none 0 0, .slice none 0 0, .int .i64 0]) 4 64 := Inf.mk' infq65
theorem agg65 : (∃ fs, Try.prog.underlying 65 = some (.struct fs)) ∨ (∃ n e, Try.prog.underlying 65 = some (.array n e)) := .inl ⟨_, Try.underlying65⟩
theorem us65 : (Try.prog.underlying 65).isSome = true := by rw [Try.underlying65]; rfl
theorem infq66 : (Try.prog.info? 66).map (fun i => (i.zero, i.size, i.bytes)) = some (some (.agg #[.int .i64 0, .slice none 0 0, .slice none 0 0, .int .i64 0]), 4, 64) := by kernel_rfl
theorem inf66 : Inf Try.prog 66 (.agg #[.int .i64 0, .slice none 0 0, .slice none 0 0, .int .i64 0]) 4 64 := Inf.mk' infq66
theorem agg66 : (∃ fs, Try.prog.underlying 66 = some (.struct fs)) ∨ (∃ n e, Try.prog.underlying 66 = some (.array n e)) := .inl ⟨_, Try.underlying66⟩
theorem us66 : (Try.prog.underlying 66).isSome = true := by rw [Try.underlying66]; rfl
theorem infq69 : (Try.prog.info? 69).map (fun i => (i.zero, i.size, i.bytes)) = some (some (.agg #[.slice none 0 0, .int .i64 0, .bool false, .bool false, .int .i64 0]), 5, 48) := by kernel_rfl
theorem inf69 : Inf Try.prog 69 (.agg #[.slice none 0 0, .int .i64 0, .bool false, .bool false, .int .i64 0]) 5 48 := Inf.mk' infq69
theorem agg69 : (∃ fs, Try.prog.underlying 69 = some (.struct fs)) ∨ (∃ n e, Try.prog.underlying 69 = some (.array n e)) := .inl ⟨_, Try.underlying69⟩
theorem us69 : (Try.prog.underlying 69).isSome = true := by rw [Try.underlying69]; rfl
theorem infq70 : (Try.prog.info? 70).map (fun i => (i.zero, i.size, i.bytes)) = some (some (.agg #[.slice none 0 0, .int .i64 0, .bool false, .bool false, .int .i64 0]), 5, 48) := by kernel_rfl
theorem inf70 : Inf Try.prog 70 (.agg #[.slice none 0 0, .int .i64 0, .bool false, .bool false, .int .i64 0]) 5 48 := Inf.mk' infq70
theorem agg70 : (∃ fs, Try.prog.underlying 70 = some (.struct fs)) ∨ (∃ n e, Try.prog.underlying 70 = some (.array n e)) := .inl ⟨_, Try.underlying70⟩
theorem us70 : (Try.prog.underlying 70).isSome = true := by rw [Try.underlying70]; rfl
theorem infq75 : (Try.prog.info? 75).map (fun i => (i.zero, i.size, i.bytes)) = some (some (.slice none 0 0), 1, 24) := by kernel_rfl
theorem inf75 : Inf Try.prog 75 (.slice none 0 0) 1 24 := Inf.mk' infq75
theorem sc75 : Scalar Try.prog 75 := ⟨_, Try.underlying75, by simp, by simp⟩
theorem us75 : (Try.prog.underlying 75).isSome = true := by rw [Try.underlying75]; rfl
theorem infq76 : (Try.prog.info? 76).map (fun i => (i.zero, i.size, i.bytes)) = some (some (.pointer none), 1, 8) := by kernel_rfl
theorem inf76 : Inf Try.prog 76 (.pointer none) 1 8 := Inf.mk' infq76
theorem sc76 : Scalar Try.prog 76 := ⟨_, Try.underlying76, by simp, by simp⟩
theorem us76 : (Try.prog.underlying 76).isSome = true := by rw [Try.underlying76]; rfl
theorem infq79 : (Try.prog.info? 79).map (fun i => (i.zero, i.size, i.bytes)) = some (some (.agg #[.int .i64 0, .int .i64 0, .int .i64 0, .slice none 0 0, .slice none 0 0, .int .i64 0]), 6, 80) := by kernel_rfl
theorem inf79 : Inf Try.prog 79 (.agg #[.int .i64 0, .int .i64 0, .int .i64 0, .slice none 0 0, .slice none 0 0, .int .i64 0]) 6 80 := Inf.mk' infq79
theorem agg79 : (∃ fs, Try.prog.underlying 79 = some (.struct fs)) ∨ (∃ n e, Try.prog.underlying 79 = some (.array n e)) := .inl ⟨_, Try.underlying79⟩
theorem us79 : (Try.prog.underlying 79).isSome = true := by rw [Try.underlying79]; rfl
theorem infq80 : (Try.prog.info? 80).map (fun i => (i.zero, i.size, i.bytes)) = some (some (.agg #[.int .i64 0, .int .i64 0, .int .i64 0, .slice none 0 0, .slice none 0 0, .int .i64 0]), 6, 80) := by kernel_rfl
theorem inf80 : Inf Try.prog 80 (.agg #[.int .i64 0, .int .i64 0, .int .i64 0, .slice none 0 0, .slice none 0 0, .int .i64 0]) 6 80 := Inf.mk' infq80
theorem agg80 : (∃ fs, Try.prog.underlying 80 = some (.struct fs)) ∨ (∃ n e, Try.prog.underlying 80 = some (.array n e)) := .inl ⟨_, Try.underlying80⟩
theorem us80 : (Try.prog.underlying 80).isSome = true := by rw [Try.underlying80]; rfl
theorem infq84 : (Try.prog.info? 84).map (fun i => (i.zero, i.size, i.bytes)) = some (some (.agg #[.slice none 0 0, .bool false, .bool false, .int .i64 0, .int .i64 0, .int .i64 0]), 6, 56) := by kernel_rfl
theorem inf84 : Inf Try.prog 84 (.agg #[.slice none 0 0, .bool false, .bool false, .int .i64 0, .int .i64 0, .int .i64 0]) 6 56 := Inf.mk' infq84
theorem agg84 : (∃ fs, Try.prog.underlying 84 = some (.struct fs)) ∨ (∃ n e, Try.prog.underlying 84 = some (.array n e)) := .inl ⟨_, Try.underlying84⟩
theorem us84 : (Try.prog.underlying 84).isSome = true := by rw [Try.underlying84]; rfl
theorem infq85 : (Try.prog.info? 85).map (fun i => (i.zero, i.size, i.bytes)) = some (some (.agg #[.slice none 0 0, .bool false, .bool false, .int .i64 0, .int .i64 0, .int .i64 0]), 6, 56) := by kernel_rfl
theorem inf85 : Inf Try.prog 85 (.agg #[.slice none 0 0, .bool false, .bool false, .int .i64 0, .int .i64 0, .int .i64 0]) 6 56 := Inf.mk' infq85
theorem agg85 : (∃ fs, Try.prog.underlying 85 = some (.struct fs)) ∨ (∃ n e, Try.prog.underlying 85 = some (.array n e)) := .inl ⟨_, Try.underlying85⟩
theorem us85 : (Try.prog.underlying 85).isSome = true := by rw [Try.underlying85]; rfl
theorem infq91 : (Try.prog.info? 91).map (fun i => (i.zero, i.size, i.bytes)) = some (some (.agg #[.slice none 0 0, .bool false, .int .i64 0, .int .i64 0, .int .i64 0]), 5, 56) := by kernel_rfl
theorem inf91 : Inf Try.prog 91 (.agg #[.slice none 0 0, .bool false, .int .i64 0, .int .i64 0, .int .i64 0]) 5 56 := Inf.mk' infq91
theorem agg91 : (∃ fs, Try.prog.underlying 91 = some (.struct fs)) ∨ (∃ n e, Try.prog.underlying 91 = some (.array n e)) := .inl ⟨_, Try.underlying91⟩
theorem us91 : (Try.prog.underlying 91).isSome = true := by rw [Try.underlying91]; rfl
theorem infq92 : (Try.prog.info? 92).map (fun i => (i.zero, i.size, i.bytes)) = some (some (.agg #[.slice none 0 0, .bool false, .int .i64 0, .int .i64 0, .int .i64 0]), 5, 56) := by kernel_rfl
theorem inf92 : Inf Try.prog 92 (.agg #[.slice none 0 0, .bool false, .int .i64 0, .int .i64 0, .int .i64 0]) 5 56 := Inf.mk' infq92
theorem agg92 : (∃ fs, Try.prog.underlying 92 = some (.struct fs)) ∨ (∃ n e, Try.prog.underlying 92 = some (.array n e)) := .inl ⟨_, Try.underlying92⟩
theorem us92 : (Try.prog.underlying 92).isSome = true := by rw [Try.underlying92]; rfl
theorem infq95 : (Try.prog.info? 95).map (fun i => (i.zero, i.size, i.bytes)) = some (some (.agg #[.int .i64 0, .slice none 0 0, .slice none 0 0, .int .i64 0, .int .i64 0]), 5, 72) := by kernel_rfl
theorem inf95 : Inf Try.prog 95 (.agg #[.int .i64 0, .slice none 0 0, .slice none 0 0, .int .i64 0, .int .i64 0]) 5 72 := Inf.mk' infq95
theorem agg95 : (∃ fs, Try.prog.underlying 95 = some (.struct fs)) ∨ (∃ n e, Try.prog.underlying 95 = some (.array n e)) := .inl ⟨_, Try.underlying95⟩
theorem us95 : (Try.prog.underlying 95).isSome = true := by rw [Try.underlying95]; rfl
theorem infq96 : (Try.prog.info? 96).map (fun i => (i.zero, i.size, i.bytes)) = some (some (.agg #[.int .i64 0, .slice none 0 0, .slice none 0 0, .int .i64 0, .int .i64 0]), 5, 72) := by kernel_rfl
theorem inf96 : Inf Try.prog 96 (.agg #[.int .i64 0, .slice none 0 0, .slice none 0 0, .int .i64 0, .int .i64 0]) 5 72 := Inf.mk' infq96
theorem agg96 : (∃ fs, Try.prog.underlying 96 = some (.struct fs)) ∨ (∃ n e, Try.prog.underlying 96 = some (.array n e)) := .inl ⟨_, Try.underlying96⟩
theorem us96 : (Try.prog.underlying 96).isSome = true := by rw [Try.underlying96]; rfl
theorem infq97 : (Try.prog.info? 97).map (fun i => (i.zero, i.size, i.bytes)) = some (some (.agg #[.pointer none, .int .i64 0, .int .i64 0, .slice none 0 0, .slice none 0 0, .int .i64 0, .int .i64 0, .int .i64 0, .bool false]), 9, 104) := by kernel_rfl
theorem inf97 : Inf Try.prog 97 (.agg #[.pointer none, .int .i64 0, .int .i64 0, .slice none 0 0, .slice none 0 0, .int .i64 0, .int .i64 0, .int .i64 0, .bool false]) 9 104 := Inf.mk' infq97
theorem agg97 : (∃ fs, Try.prog.underlying 97 = some (.struct fs)) ∨ (∃ n e, Try.prog.underlying 97 = some (.array n e)) := .inl ⟨_, Try.underlying97⟩
theorem us97 : (Try.prog.underlying 97).isSome = true := by rw [Try.underlying97]; rfl
theorem infq98 : (Try.prog.info? 98).map (fun i => (i.zero, i.size, i.bytes)) = some (some (.agg #[.pointer none, .int .i64 0, .int .i64 0, .slice none 0 0, .slice none 0 0, .int .i64 0, .int .i64 0, .int .i64 0, .bool false]), 9, 104) := by kernel_rfl
theorem inf98 : Inf Try.prog 98 (.agg #[.pointer none, .int .i64 0, .int .i64 0, .slice none 0 0, .slice none 0 0, .int .i64 0, .int .i64 0, .int .i64 0, .bool false]) 9 104 := Inf.mk' infq98
theorem agg98 : (∃ fs, Try.prog.underlying 98 = some (.struct fs)) ∨ (∃ n e, Try.prog.underlying 98 = some (.array n e)) := .inl ⟨_, Try.underlying98⟩
theorem us98 : (Try.prog.underlying 98).isSome = true := by rw [Try.underlying98]; rfl
theorem infq106 : (Try.prog.info? 106).map (fun i => (i.zero, i.size, i.bytes)) = some (some (.agg #[.pointer none, .int .i64 0, .int .i64 0, .slice none 0 0, .slice none 0 0, .int .i64 0, .int .i64 0, .int .i64 0, .bool false]), 9, 104) := by kernel_rfl
theorem inf106 : Inf Try.prog 106 (.agg #[.pointer none, .int .i64 0, .int .i64 0, .slice none 0 0, .slice none 0 0, .int .i64 0, .int .i64 0, .int .i64 0, .bool false]) 9 104 := Inf.mk' infq106
theorem agg106 : (∃ fs, Try.prog.underlying 106 = some (.struct fs)) ∨ (∃ n e, Try.prog.underlying 106 = some (.array n e)) := .inl ⟨_, Try.underlying106⟩
theorem us106 : (Try.prog.underlying 106).isSome = true := by rw [Try.underlying106]; rfl
theorem infq107 : (Try.prog.info? 107).map (fun i => (i.zero, i.size, i.bytes)) = some (some (.agg #[.pointer none, .int .i64 0, .int .i64 0, .slice none 0 0, .slice none 0 0, .int .i64 0, .int .i64 0, .int .i64 0, .bool false]), 9, 104) := by kernel_rfl
theorem inf107 : Inf Try.prog 107 (.agg #[.pointer none, .int .i64 0, .int .i64 0, .slice none 0 0, .slice none 0 0, .int .i64 0, .int .i64 0, .int .i64 0, .bool false]) 9 104 := Inf.mk' infq107
theorem agg107 : (∃ fs, Try.prog.underlying 107 = some (.struct fs)) ∨ (∃ n e, Try.prog.underlying 107 = some (.array n e)) := .inl ⟨_, Try.underlying107⟩
theorem us107 : (Try.prog.underlying 107).isSome = true := by rw [Try.underlying107]; rfl
theorem infq114 : (Try.prog.info? 114).map (fun i => (i.zero, i.size, i.bytes)) = some (some (.int .u64 0), 1, 8) := by kernel_rfl
theorem inf114 : Inf Try.prog 114 (.int .u64 0) 1 8 := Inf.mk' infq114
theorem sc114 : Scalar Try.prog 114 := ⟨_, Try.underlying114, by simp, by simp⟩
theorem us114 : (Try.prog.underlying 114).isSome = true := by rw [Try.underlying114]; rfl
theorem infq117 : (Try.prog.info? 117).map (fun i => (i.zero, i.size, i.bytes)) = some (some (.pointer none), 1, 8) := by kernel_rfl
theorem inf117 : Inf Try.prog 117 (.pointer none) 1 8 := Inf.mk' infq117
theorem sc117 : Scalar Try.prog 117 := ⟨_, Try.underlying117, by simp, by simp⟩
theorem us117 : (Try.prog.underlying 117).isSome = true := by rw [Try.underlying117]; rfl
theorem infq118 : (Try.prog.info? 118).map (fun i => (i.zero, i.size, i.bytes)) = some (some (.slice none 0 0), 1, 24) := by kernel_rfl
theorem inf118 : Inf Try.prog 118 (.slice none 0 0) 1 24 := Inf.mk' infq118
theorem sc118 : Scalar Try.prog 118 := ⟨_, Try.underlying118, by simp, by simp⟩
theorem us118 : (Try.prog.underlying 118).isSome = true := by rw [Try.underlying118]; rfl
theorem infq121 : (Try.prog.info? 121).map (fun i => (i.zero, i.size, i.bytes)) = some (some (.pointer none), 1, 8) := by kernel_rfl
theorem inf121 : Inf Try.prog 121 (.pointer none) 1 8 := Inf.mk' infq121
theorem sc121 : Scalar Try.prog 121 := ⟨_, Try.underlying121, by simp, by simp⟩
theorem us121 : (Try.prog.underlying 121).isSome = true := by rw [Try.underlying121]; rfl
theorem infq122 : (Try.prog.info? 122).map (fun i => (i.zero, i.size, i.bytes)) = some (some (.slice none 0 0), 1, 24) := by kernel_rfl
theorem inf122 : Inf Try.prog 122 (.slice none 0 0) 1 24 := Inf.mk' infq122
theorem sc122 : Scalar Try.prog 122 := ⟨_, Try.underlying122, by simp, by simp⟩
theorem us122 : (Try.prog.underlying 122).isSome = true := by rw [Try.underlying122]; rfl
theorem infq126 : (Try.prog.info? 126).map (fun i => (i.zero, i.size, i.bytes)) = some (some (.agg #[.int .i64 0, .int .i64 0, .int .i64 0]), 3, 24) := by kernel_rfl
theorem inf126 : Inf Try.prog 126 (.agg #[.int .i64 0, .int .i64 0, .int .i64 0]) 3 24 := Inf.mk' infq126
theorem agg126 : (∃ fs, Try.prog.underlying 126 = some (.struct fs)) ∨ (∃ n e, Try.prog.underlying 126 = some (.array n e)) := .inr ⟨_, _, Try.underlying126⟩
theorem us126 : (Try.prog.underlying 126).isSome = true := by rw [Try.underlying126]; rfl
theorem infq135 : (Try.prog.info? 135).map (fun i => (i.zero, i.size, i.bytes)) = some (some (.int .u32 0), 1, 4) := by kernel_rfl
theorem inf135 : Inf Try.prog 135 (.int .u32 0) 1 4 := Inf.mk' infq135
theorem sc135 : Scalar Try.prog 135 := ⟨_, Try.underlying135, by simp, by simp⟩
theorem us135 : (Try.prog.underlying 135).isSome = true := by rw [Try.underlying135]; rfl
theorem infq139 : (Try.prog.info? 139).map (fun i => (i.zero, i.size, i.bytes)) = some (some (.pointer none), 1, 8) := by kernel_rfl
theorem inf139 : Inf Try.prog 139 (.pointer none) 1 8 := Inf.mk' infq139
theorem sc139 : Scalar Try.prog 139 := ⟨_, Try.underlying139, by simp, by simp⟩
theorem us139 : (Try.prog.underlying 139).isSome = true := by rw [Try.underlying139]; rfl
theorem nm3 : (Try.f3.name == "runtime.NumGoroutine") = false := by kernel_rfl
theorem nm4 : (Try.f4.name == "runtime.NumGoroutine") = false := by kernel_rfl
theorem nm5 : (Try.f5.name == "runtime.NumGoroutine") = false := by kernel_rfl
theorem nm6 : (Try.f6.name == "runtime.NumGoroutine") = false := by kernel_rfl
theorem nm7 : (Try.f7.name == "runtime.NumGoroutine") = false := by kernel_rfl
theorem nm8 : (Try.f8.name == "runtime.NumGoroutine") = false := by kernel_rfl
theorem nm9 : (Try.f9.name == "runtime.NumGoroutine") = false := by kernel_rfl
theorem nm10 : (Try.f10.name == "runtime.NumGoroutine") = false := by kernel_rfl
theorem nm11 : (Try.f11.name == "runtime.NumGoroutine") = false := by kernel_rfl
theorem nm12 : (Try.f12.name == "runtime.NumGoroutine") = false := by kernel_rfl
theorem nm13 : (Try.f13.name == "runtime.NumGoroutine") = false := by kernel_rfl
theorem nm14 : (Try.f14.name == "runtime.NumGoroutine") = false := by kernel_rfl
theorem nm15 : (Try.f15.name == "runtime.NumGoroutine") = false := by kernel_rfl
theorem nm16 : (Try.f16.name == "runtime.NumGoroutine") = false := by kernel_rfl
theorem nm17 : (Try.f17.name == "runtime.NumGoroutine") = false := by kernel_rfl
theorem nm18 : (Try.f18.name == "runtime.NumGoroutine") = false := by kernel_rfl
theorem nm19 : (Try.f19.name == "runtime.NumGoroutine") = false := by kernel_rfl
theorem nm20 : (Try.f20.name == "runtime.NumGoroutine") = false := by kernel_rfl
theorem nm21 : (Try.f21.name == "runtime.NumGoroutine") = false := by kernel_rfl
theorem nm22 : (Try.f22.name == "runtime.NumGoroutine") = false := by kernel_rfl
theorem nm23 : (Try.f23.name == "runtime.NumGoroutine") = false := by kernel_rfl
theorem nm24 : (Try.f24.name == "runtime.NumGoroutine") = false := by kernel_rfl
theorem nm25 : (Try.f25.name == "runtime.NumGoroutine") = false := by kernel_rfl
theorem nm26 : (Try.f26.name == "runtime.NumGoroutine") = false := by kernel_rfl
theorem nm27 : (Try.f27.name == "runtime.NumGoroutine") = false := by kernel_rfl
theorem nm28 : (Try.f28.name == "runtime.NumGoroutine") = false := by kernel_rfl
theorem nm29 : (Try.f29.name == "runtime.NumGoroutine") = false := by kernel_rfl
theorem nm30 : (Try.f30.name == "runtime.NumGoroutine") = false := by kernel_rfl
theorem nm31 : (Try.f31.name == "runtime.NumGoroutine") = false := by kernel_rfl
theorem nm32 : (Try.f32.name == "runtime.NumGoroutine") = false := by kernel_rfl
theorem nm33 : (Try.f33.name == "runtime.NumGoroutine") = false := by kernel_rfl
theorem nm34 : (Try.f34.name == "runtime.NumGoroutine") = false := by kernel_rfl
theorem nm35 : (Try.f35.name == "runtime.NumGoroutine") = false := by kernel_rfl
theorem nm36 : (Try.f36.name == "runtime.NumGoroutine") = false := by kernel_rfl
theorem nm37 : (Try.f37.name == "runtime.NumGoroutine") = false := by kernel_rfl
theorem nm38 : (Try.f38.name == "runtime.NumGoroutine") = false := by kernel_rfl
theorem nm39 : (Try.f39.name == "runtime.NumGoroutine") = false := by kernel_rfl
theorem nm40 : (Try.f40.name == "runtime.NumGoroutine") = false := by kernel_rfl
theorem nm41 : (Try.f41.name == "runtime.NumGoroutine") = false := by kernel_rfl
theorem nm42 : (Try.f42.name == "runtime.NumGoroutine") = false := by kernel_rfl
theorem nm43 : (Try.f43.name == "runtime.NumGoroutine") = false := by kernel_rfl
theorem nm44 : (Try.f44.name == "runtime.NumGoroutine") = false := by kernel_rfl
theorem nm45 : (Try.f45.name == "runtime.NumGoroutine") = false := by kernel_rfl
theorem nm46 : (Try.f46.name == "runtime.NumGoroutine") = false := by kernel_rfl
theorem nm47 : (Try.f47.name == "runtime.NumGoroutine") = false := by kernel_rfl
theorem nm48 : (Try.f48.name == "runtime.NumGoroutine") = false := by kernel_rfl
theorem nm49 : (Try.f49.name == "runtime.NumGoroutine") = false := by kernel_rfl
theorem nm50 : (Try.f50.name == "runtime.NumGoroutine") = false := by kernel_rfl
theorem nm51 : (Try.f51.name == "runtime.NumGoroutine") = false := by kernel_rfl
theorem nm52 : (Try.f52.name == "runtime.NumGoroutine") = false := by kernel_rfl
theorem nm53 : (Try.f53.name == "runtime.NumGoroutine") = false := by kernel_rfl
theorem nm54 : (Try.f54.name == "runtime.NumGoroutine") = false := by kernel_rfl
theorem nm55 : (Try.f55.name == "runtime.NumGoroutine") = false := by kernel_rfl
theorem nm56 : (Try.f56.name == "runtime.NumGoroutine") = false := by kernel_rfl
theorem nm57 : (Try.f57.name == "runtime.NumGoroutine") = false := by kernel_rfl
theorem nm58 : (Try.f58.name == "runtime.NumGoroutine") = false := by kernel_rfl
theorem nm59 : (Try.f59.name == "runtime.NumGoroutine") = false := by kernel_rfl
theorem nm60 : (Try.f60.name == "runtime.NumGoroutine") = false := by kernel_rfl
theorem nm61 : (Try.f61.name == "runtime.NumGoroutine") = false := by kernel_rfl
theorem nm62 : (Try.f62.name == "runtime.NumGoroutine") = false := by kernel_rfl
theorem nm63 : (Try.f63.name == "runtime.NumGoroutine") = false := by kernel_rfl
theorem nm64 : (Try.f64.name == "runtime.NumGoroutine") = false := by kernel_rfl
theorem nm65 : (Try.f65.name == "runtime.NumGoroutine") = false := by kernel_rfl
theorem nm66 : (Try.f66.name == "runtime.NumGoroutine") = false := by kernel_rfl
theorem nm67 : (Try.f67.name == "runtime.NumGoroutine") = false := by kernel_rfl
theorem nm68 : (Try.f68.name == "runtime.NumGoroutine") = false := by kernel_rfl
theorem nm69 : (Try.f69.name == "runtime.NumGoroutine") = false := by kernel_rfl
theorem nm70 : (Try.f70.name == "runtime.NumGoroutine") = false := by kernel_rfl
theorem nm71 : (Try.f71.name == "runtime.NumGoroutine") = false := by kernel_rfl
theorem nm72 : (Try.f72.name == "runtime.NumGoroutine") = false := by kernel_rfl
theorem nm73 : (Try.f73.name == "runtime.NumGoroutine") = false := by kernel_rfl
theorem nm74 : (Try.f74.name == "runtime.NumGoroutine") = false := by kernel_rfl
theorem nm75 : (Try.f75.name == "runtime.NumGoroutine") = false := by kernel_rfl
theorem nm76 : (Try.f76.name == "runtime.NumGoroutine") = false := by kernel_rfl
theorem nm77 : (Try.f77.name == "runtime.NumGoroutine") = false := by kernel_rfl
theorem nm78 : (Try.f78.name == "runtime.NumGoroutine") = false := by kernel_rfl
theorem nm79 : (Try.f79.name == "runtime.NumGoroutine") = false := by kernel_rfl
theorem nm80 : (Try.f80.name == "runtime.NumGoroutine") = false := by kernel_rfl
theorem nm81 : (Try.f81.name == "runtime.NumGoroutine") = false := by kernel_rfl
theorem nm82 : (Try.f82.name == "runtime.NumGoroutine") = false := by kernel_rfl
theorem nm83 : (Try.f83.name == "runtime.NumGoroutine") = false := by kernel_rfl
theorem nm84 : (Try.f84.name == "runtime.NumGoroutine") = false := by kernel_rfl
theorem nm85 : (Try.f85.name == "runtime.NumGoroutine") = false := by kernel_rfl
theorem nm86 : (Try.f86.name == "runtime.NumGoroutine") = false := by kernel_rfl
theorem nm87 : (Try.f87.name == "runtime.NumGoroutine") = false := by kernel_rfl
theorem nm88 : (Try.f88.name == "runtime.NumGoroutine") = false := by kernel_rfl
theorem nm89 : (Try.f89.name == "runtime.NumGoroutine") = false := by kernel_rfl
theorem nm90 : (Try.f90.name == "runtime.NumGoroutine") = false := by kernel_rfl
theorem nm91 : (Try.f91.name == "runtime.NumGoroutine") = false := by kernel_rfl
theorem nm92 : (Try.f92.name == "runtime.NumGoroutine") = false := by kernel_rfl
theorem nm93 : (Try.f93.name == "runtime.NumGoroutine") = false := by kernel_rfl
theorem nm94 : (Try.f94.name == "runtime.NumGoroutine") = false := by kernel_rfl
theorem nm95 : (Try.f95.name == "runtime.NumGoroutine") = false := by kernel_rfl
theorem nm96 : (Try.f96.name == "runtime.NumGoroutine") = false := by kernel_rfl
theorem mixed : Try.prog.follows .mixedOrders = true := by kernel_rfl
end Go.Proofs.Ytpmkedgennnekaa.Lg
