/-
  What a message is, and what its bytes are, in plain Lean. No program in sight.
-/
import Derived.Test.YtipkfdeiallifaaMx
import Derived.Test.YtipkfdeiallifaaWirePure
set_option linter.unusedVariables false
set_option linter.unusedSimpArgs false
namespace Go.Proofs.Ytipkfdeiallifaa.Lg
open Go Go.Proofs.Ytipkfdeiallifaa.WirePure
abbrev Pr := Int × Bool × Int
def KP : El Pr := ⟨3, fun o => [.int .u64 o.1, .bool o.2.1, .int .u64 o.2.2], (0, false, 0), fun _ => rfl⟩
/-- What a message says. -/
structure MC where
  k : Int
  f : Int
  t : Int
  b : Int
  a : Int
  c : Int
  es : List Int
  ks : List Int
  ps : List Pr
  deriving DecidableEq
/-- Where its lists lie. -/
structure MP where
  eA : Option Addr
  en : Nat
  ec : Nat
  kA : Option Addr
  kn : Nat
  kc : Nat
  pA : Option Addr
  pn : Nat
  pc : Nat
def MC0 : MC := ⟨0, 0, 0, 0, 0, 0, [], [], []⟩
def MP0 : MP := ⟨none, 0, 0, none, 0, 0, none, 0, 0⟩
def mcells (x : MC) (p : MP) : List Value := [.int .i64 x.k, .int .i64 x.f, .int .i64 x.t, .int .i64 x.b, .int .i64 x.a, .int .i64 x.c, .slice p.eA p.en p.ec, .slice p.kA p.kn p.kc, .slice p.pA p.pn p.pc]
def mV (x : MC) (p : MP) : Value := .agg #[.int .i64 x.k, .int .i64 x.f, .int .i64 x.t, .int .i64 x.b, .int .i64 x.a, .int .i64 x.c, .slice p.eA p.en p.ec, .slice p.kA p.kn p.kc, .slice p.pA p.pn p.pc]
structure MRd (w : World) (x : MC) (p : MP) : Prop where
  e : Rd w p.eA p.en p.ec 1 ((El.int .i64).flat x.es)
  k : Rd w p.kA p.kn p.kc 1 ((El.int .u64).flat x.ks)
  p : Rd w p.pA p.pn p.pc 3 (KP.flat x.ps)
theorem MRd.inB {w w' : World} {x : MC} {p : MP} {L : List Assn} (h : MRd w x p) (hs : Sat w w' L) : MRd w' x p := ⟨h.e.inB hs, h.k.inB hs, h.p.inB hs⟩
theorem MRd.en {w : World} {x : MC} {p : MP} (h : MRd w x p) : x.es.length = p.en := by have := h.e.len; rw [El.flat_length] at this; exact Nat.eq_of_mul_eq_mul_right (by decide) this
theorem MRd.kn {w : World} {x : MC} {p : MP} (h : MRd w x p) : x.ks.length = p.kn := by have := h.k.len; rw [El.flat_length] at this; exact Nat.eq_of_mul_eq_mul_right (by decide) this
theorem MRd.pn {w : World} {x : MC} {p : MP} (h : MRd w x p) : x.ps.length = p.pn := by have := h.p.len; rw [El.flat_length] at this; exact Nat.eq_of_mul_eq_mul_right (by decide) this
theorem MRd.zero (w : World) : MRd w MC0 MP0 := ⟨Rd.none w 1, Rd.none w 1, Rd.none w 3⟩
/-- The numbers stand in their kinds. -/
structure MIn (x : MC) : Prop where
  es : ∀ y ∈ x.es, -9223372036854775808 ≤ y ∧ y ≤ 9223372036854775807
  ks : ∀ y ∈ x.ks, 0 ≤ y ∧ y < 18446744073709551616
  ps : ∀ y ∈ x.ps, (0 ≤ y.1 ∧ y.1 < 18446744073709551616) ∧ 0 ≤ y.2.2 ∧ y.2.2 < 18446744073709551616

def mof (k : Int) : Int := if k = 1 ∨ k = 2 ∨ k = 3 ∨ k = 8 then 1 else if k = 4 then 2 else if k = 6 then 3 else if k = 5 ∨ k = 7 then 4 else 0
theorem mof_range (k : Int) : 0 ≤ mof k ∧ mof k ≤ 4 := by unfold mof; repeat' (first | omega | split)
def endsOk (l : List Int) : Prop := (∀ y ∈ l, 0 ≤ y ∧ y ≤ 256) ∧ 1 ≤ l.length ∧ l.length ≤ 4
instance (l : List Int) : Decidable (endsOk l) := by unfold endsOk; infer_instance
def risesOk (l : List Int) : Prop := ∀ i, i < l.length - 1 → l.getD i 0 < l.getD (i + 1) 0
instance (l : List Int) : Decidable (risesOk l) := inferInstanceAs (Decidable (∀ i, i < l.length - 1 → l.getD i 0 < l.getD (i + 1) 0))
def pairsOk (l : List Pr) : Prop := (∀ y ∈ l, y.2.1 = true) ∧ ∀ i, i < l.length - 1 → (l.getD i (0, false, 0)).1 < (l.getD (i + 1) (0, false, 0)).1
instance (l : List Pr) : Decidable (pairsOk l) := by unfold pairsOk; exact inferInstanceAs (Decidable (_ ∧ ∀ i, i < l.length - 1 → _))
def Msound (x : MC) : Prop := mof x.k ≠ 0 ∧ (0 ≤ x.f ∧ x.f ≤ 8) ∧ (0 ≤ x.t ∧ x.t ≤ 8) ∧ (1 ≤ x.b ∧ x.b ≤ 1099511627776) ∧ (1 ≤ x.a ∧ x.a ≤ 1099511627776) ∧
  (mof x.k = 1 → endsOk x.es) ∧ (mof x.k ≠ 1 → x.es = []) ∧ (mof x.k = 2 → x.ks.length ≤ 64 ∧ risesOk x.ks) ∧ (mof x.k ≠ 2 → x.ks = []) ∧ (mof x.k = 3 → x.ps.length ≤ 64 ∧ pairsOk x.ps) ∧ (mof x.k ≠ 3 → x.ps = []) ∧ (mof x.k = 4 → 0 ≤ x.c ∧ x.c ≤ 1000) ∧ (mof x.k ≠ 4 → x.c = 0)
instance (x : MC) : Decidable (Msound x) := by unfold Msound; infer_instance

def pairsB (l : List Pr) : List Int := l.flatMap fun x => pb x.1.toNat ++ wd 8 x.2.2.toNat
def bodyB (x : MC) : List Int := if mof x.k = 1 then nm x.es else if mof x.k = 2 then pb x.ks.length ++ nmB x.ks else if mof x.k = 3 then pb x.ps.length ++ pairsB x.ps else if mof x.k = 4 then pb x.c.toNat else []
/-- A message's bytes. -/
def Menc (x : MC) : List Int := nmB [x.k, x.f, x.t, x.b, x.a] ++ bodyB x

/-- A number, its bound, its error: the error, the number, the bytes behind it. -/
def tkd (l : List Int) (most over : Int) : Int × Int × List Int := if (tk 0 0 l).2.2 ≠ 0 then ((tk 0 0 l).2.2, 0, []) else if (tk 0 0 l).1 > most then (over, 0, []) else (0, (tk 0 0 l).1, l.drop (tk 0 0 l).2.1.toNat)
def headD : Nat → List Int → List Int → Int × List Int × List Int
  | 0, l, acc => (0, acc, l)
  | k + 1, l, acc => if (tkd l 1099511627776 4).1 ≠ 0 then ((tkd l 1099511627776 4).1, [], []) else headD k (tkd l 1099511627776 4).2.2 (acc ++ [(tkd l 1099511627776 4).2.1])
def keysD : Nat → List Int → List Int → Int × List Int × List Int
  | 0, l, acc => (0, acc, l)
  | k + 1, l, acc => if (tkd l 18446744073709551615 4).1 ≠ 0 then ((tkd l 18446744073709551615 4).1, [], []) else keysD k (tkd l 18446744073709551615 4).2.2 (acc ++ [(tkd l 18446744073709551615 4).2.1])
def pairsD : Nat → List Int → List Pr → Int × List Pr × List Int
  | 0, l, acc => (0, acc, l)
  | k + 1, l, acc => if (tkd l 18446744073709551615 4).1 ≠ 0 then ((tkd l 18446744073709551615 4).1, [], []) else if (tkd l 18446744073709551615 4).2.2.length < 8 then (3, [], []) else
      pairsD k ((tkd l 18446744073709551615 4).2.2.drop 8) (acc ++ [((tkd l 18446744073709551615 4).2.1, true, (tw ((tkd l 18446744073709551615 4).2.2.take 8) : Int))])
/-- What a kind asks for: the error, the message with it, the bytes behind it. -/
def bodyD (x : MC) (l : List Int) : Int × MC × List Int :=
  if mof x.k = 1 then (if (tnum l 4).2.2 ≠ 0 then ((tnum l 4).2.2, x, []) else (0, { x with es := (tnum l 4).1 }, l.drop (tnum l 4).2.1.toNat))
  else if mof x.k = 2 then (if (tkd l 64 6).1 ≠ 0 then ((tkd l 64 6).1, x, []) else let r := keysD (tkd l 64 6).2.1.toNat (tkd l 64 6).2.2 []; if r.1 ≠ 0 then (r.1, x, []) else (0, { x with ks := r.2.1 }, r.2.2))
  else if mof x.k = 3 then (if (tkd l 64 6).1 ≠ 0 then ((tkd l 64 6).1, x, []) else let r := pairsD (tkd l 64 6).2.1.toNat (tkd l 64 6).2.2 []; if r.1 ≠ 0 then (r.1, x, []) else (0, { x with ps := r.2.1 }, r.2.2))
  else (if (tkd l 1099511627776 4).1 ≠ 0 then ((tkd l 1099511627776 4).1, x, []) else (0, { x with c := (tkd l 1099511627776 4).2.1 }, (tkd l 1099511627776 4).2.2))
def tailD (x : MC) (l : List Int) : MC × Int :=
  if (bodyD x l).1 ≠ 0 then (MC0, (bodyD x l).1) else if (bodyD x l).2.2 ≠ [] then (MC0, 5) else if ¬ Msound (bodyD x l).2.1 then (MC0, 150) else ((bodyD x l).2.1, 0)
def mcOf (k : Int) (h : List Int) : MC := ⟨k, h.getD 0 0, h.getD 1 0, h.getD 2 0, h.getD 3 0, 0, [], [], []⟩
/-- The message of these bytes, and the error. -/
def Mdec (l : List Int) : MC × Int :=
  if (tk 0 0 l).2.2 ≠ 0 then (MC0, (tk 0 0 l).2.2) else if (tk 0 0 l).1 < 1 ∨ (tk 0 0 l).1 > 8 then (MC0, 150) else
  let h := headD 4 (l.drop (tk 0 0 l).2.1.toNat) []
  if h.1 ≠ 0 then (MC0, h.1) else tailD (mcOf (tk 0 0 l).1 h.2.1) h.2.2
end Go.Proofs.Ytipkfdeiallifaa.Lg
