import Derived.Test.YtjimjkhpahegjaaEnvA
namespace Go.Sa
open Go Go.Eng Go.Proofs

section
variable {R : Type}

def yin (a lo hi : Int) : Bool := decide (a ≥ lo) && decide (a ≤ hi)

theorem e71 (a lo hi : Int) (K : AV → Hp E → Option R) : runFn (E := E) noFn [] Try.f71 [.sc (.int .i64 a), .sc (.int .i64 lo), .sc (.int .i64 hi)] [] K =
    cond (decide (a ≥ lo)) (K (.sc (.bool (decide (a ≤ hi)))) []) (K (.sc (.bool false)) []) := by kernel_rfl

def o71 (args : List AV) (H : Hp E) (K : AV → Hp E → Option R) : Option R :=
  match args, H with
  | [.sc (.int .i64 a), .sc (.int .i64 lo), .sc (.int .i64 hi)], [] => K (.sc (.bool (yin a lo hi))) []
  | _, _ => none

theorem o71_ok : FnOk E 71 o71 := by
  intro R args H K r h
  unfold o71 at h
  dsimp only at h
  split at h
  · rename_i a lo hi
    refine runFn_ok ok noFn_ok Try.func71 (by kernel_rfl) (sl := []) (K := K) ?_
    rw [e71, ← h]
    unfold yin
    cases decide (a ≥ lo) <;> rfl
  · cases h

noncomputable def O1 : Orc E := addFn 71 o71 noFn
theorem O1_ok : OrcOk O1 := addFn_ok o71_ok noFn_ok

theorem e72 (a : Int) (K : AV → Hp E → Option R) : runFn (E := E) O1 [] Try.f72 [.sc (.int .i64 a)] [] K = K (.sc (.bool (yin a 0 281474976710655))) [] := by kernel_rfl

def o72 (args : List AV) (H : Hp E) (K : AV → Hp E → Option R) : Option R :=
  match args, H with
  | [.sc (.int .i64 a)], [] => K (.sc (.bool (yin a 0 281474976710655))) []
  | _, _ => none

theorem o72_ok : FnOk E 72 o72 := by
  intro R args H K r h
  unfold o72 at h
  dsimp only at h
  split at h
  · exact runFn_ok ok O1_ok Try.func72 (by kernel_rfl) (sl := []) (K := K) ((e72 _ K).trans h)
  · cases h

noncomputable def O2 : Orc E := addFn 72 o72 O1
theorem O2_ok : OrcOk O2 := addFn_ok o72_ok O1_ok

theorem e18 (a b c : Int) (s : ByteArray) (K : AV → Hp E → Option R) : runFn (E := E) O2 [] Try.f18 [.agg [.int .i64 a, .int .i64 b, .int .i64 c, .str s]] [] K =
    cond (!yin a 0 281474976710654) (K (.sc (.int .i64 1)) []) (cond (!yin b 0 281474976710655) (K (.sc (.int .i64 1)) []) (cond (!yin c 0 4095) (K (.sc (.int .i64 1)) [])
      (cond (decide ((s.size : Int) > 1500)) (K (.sc (.int .i64 1)) []) (K (.sc (.int .i64 0)) [])))) := by kernel_rfl

def ffi (a b c : Int) (s : ByteArray) : Int :=
  cond (!yin a 0 281474976710654) 1 (cond (!yin b 0 281474976710655) 1 (cond (!yin c 0 4095) 1 (cond (decide ((s.size : Int) > 1500)) 1 0)))

def o18 (args : List AV) (H : Hp E) (K : AV → Hp E → Option R) : Option R :=
  match args, H with
  | [.agg [.int .i64 a, .int .i64 b, .int .i64 c, .str s]], [] => K (.sc (.int .i64 (ffi a b c s))) []
  | _, _ => none

theorem o18_ok : FnOk E 18 o18 := by
  intro R args H K r h
  unfold o18 at h
  dsimp only at h
  split at h
  · rename_i a b c s
    refine runFn_ok ok O2_ok Try.func18 (by kernel_rfl) (sl := []) (K := K) ?_
    rw [e18, ← h]
    unfold ffi
    cases yin a 0 281474976710654 <;> cases yin b 0 281474976710655 <;> cases yin c 0 4095 <;> cases decide ((s.size : Int) > 1500) <;> rfl
  · cases h

theorem e16 (a b c : Int) (s : ByteArray) (K : AV → Hp E → Option R) : runFn (E := E) noFn [] Try.f16 [.agg [.int .i64 a, .int .i64 b, .int .i64 c, .str s]] [] K =
    cond (decide (a < 0)) (K (.sc (.int .i64 1)) []) (cond (decide (a ≥ 281474976710655)) (K (.sc (.int .i64 1)) []) (cond (decide (b < 0)) (K (.sc (.int .i64 1)) []) (cond (decide (b > 281474976710655)) (K (.sc (.int .i64 1)) [])
      (cond (decide (c < 0)) (K (.sc (.int .i64 1)) []) (cond (decide (c > 4095)) (K (.sc (.int .i64 1)) []) (cond (decide ((s.size : Int) > 1500)) (K (.sc (.int .i64 1)) []) (K (.sc (.int .i64 0)) []))))))) := by kernel_rfl

def ffs (a b c : Int) (s : ByteArray) : Int :=
  cond (decide (a < 0)) 1 (cond (decide (a ≥ 281474976710655)) 1 (cond (decide (b < 0)) 1 (cond (decide (b > 281474976710655)) 1 (cond (decide (c < 0)) 1 (cond (decide (c > 4095)) 1 (cond (decide ((s.size : Int) > 1500)) 1 0))))))

def o16 (args : List AV) (H : Hp E) (K : AV → Hp E → Option R) : Option R :=
  match args, H with
  | [.agg [.int .i64 a, .int .i64 b, .int .i64 c, .str s]], [] => K (.sc (.int .i64 (ffs a b c s))) []
  | _, _ => none

theorem o16_ok : FnOk E 16 o16 := by
  intro R args H K r h
  unfold o16 at h
  dsimp only at h
  split at h
  · rename_i a b c s
    refine runFn_ok ok noFn_ok Try.func16 (by kernel_rfl) (sl := []) (K := K) ?_
    rw [e16, ← h]
    unfold ffs
    generalize decide (a < 0) = x1; generalize decide (a ≥ 281474976710655) = x2; generalize decide (b < 0) = x3; generalize decide (b > 281474976710655) = x4; generalize decide (c < 0) = x5; generalize decide (c > 4095) = x6; generalize decide ((s.size : Int) > 1500) = x7
    cases x1 <;> try rfl
    cases x2 <;> try rfl
    cases x3 <;> try rfl
    cases x4 <;> try rfl
    cases x5 <;> try rfl
    cases x6 <;> try rfl
    cases x7 <;> rfl
  · cases h

theorem e17 (a b c : Int) (s : ByteArray) (K : AV → Hp E → Option R) : runFn (E := E) noFn [] Try.f17 [.agg [.int .i64 a, .int .i64 b, .int .i64 c, .str s]] [] K =
    K (.agg [.int .i64 a, .int .i64 b, .int .i64 c, .str s]) [] := by kernel_rfl

def o17 (args : List AV) (H : Hp E) (K : AV → Hp E → Option R) : Option R :=
  match args, H with
  | [.agg [.int .i64 a, .int .i64 b, .int .i64 c, .str s]], [] => K (.agg [.int .i64 a, .int .i64 b, .int .i64 c, .str s]) []
  | _, _ => none

theorem o17_ok : FnOk E 17 o17 := by
  intro R args H K r h
  unfold o17 at h
  dsimp only at h
  split at h
  · exact runFn_ok ok noFn_ok Try.func17 (by kernel_rfl) (sl := []) (K := K) ((e17 _ _ _ _ K).trans h)
  · cases h

theorem e15 (a b c left : Int) (s : ByteArray) (K : AV → Hp E → Option R) :
    runFn (E := E) noFn [] Try.f15 [.agg [.int .i64 a, .int .i64 b, .int .i64 c, .str s], .sc (.int .i64 left)] [] K =
      cond (decide (IntKind.i64.wrap (left - s.size) < 0)) (K (.sc (.int .i64 (-1))) []) (K (.sc (.int .i64 (IntKind.i64.wrap (left - s.size)))) []) := by kernel_rfl

def szf (left : Int) (n : Int) : Int := cond (decide (IntKind.i64.wrap (left - n) < 0)) (-1) (IntKind.i64.wrap (left - n))

def o15 (args : List AV) (H : Hp E) (K : AV → Hp E → Option R) : Option R :=
  match args, H with
  | [.agg [.int .i64 _, .int .i64 _, .int .i64 _, .str s], .sc (.int .i64 left)], [] => K (.sc (.int .i64 (szf left s.size))) []
  | _, _ => none

theorem o15_ok : FnOk E 15 o15 := by
  intro R args H K r h
  unfold o15 at h
  dsimp only at h
  split at h
  · rename_i a b c s left
    refine runFn_ok ok noFn_ok Try.func15 (by kernel_rfl) (sl := []) (K := K) ?_
    rw [e15, ← h]
    unfold szf
    cases decide (IntKind.i64.wrap (left - s.size) < 0) <;> rfl
  · cases h

noncomputable def O3 : Orc E := addFn 15 o15 (addFn 16 o16 (addFn 17 o17 (addFn 18 o18 O2)))
theorem O3_ok : OrcOk O3 := addFn_ok o15_ok (addFn_ok o16_ok (addFn_ok o17_ok (addFn_ok o18_ok O2_ok)))

theorem e3 (a b c : Int) (s : ByteArray) (K : AV → Hp E → Option R) : runFn (E := E) O3 [] Try.f3 [.agg [.int .i64 a, .int .i64 b, .int .i64 c, .str s]] [] K =
    cond (decide (szf 1048576 s.size < 0)) (K (.sc (.bool true)) []) (cond (ffi a b c s != ffs a b c s) (K (.sc (.bool false)) []) (K (.sc (.bool true)) [])) := by kernel_rfl

theorem ff_eq (a b c : Int) (s : ByteArray) : ffi a b c s = ffs a b c s := by
  unfold ffi ffs yin
  simp only [Bool.cond_eq_ite, Bool.not_eq_true', Bool.and_eq_false_iff, decide_eq_true_eq, decide_eq_false_iff_not]
  repeat' split
  all_goals first | rfl | omega

theorem law3 (a b c : Int) (s : ByteArray) : Sim E 3 [.agg [.int .i64 a, .int .i64 b, .int .i64 c, .str s]] [] (.sc (.bool true)) [] := by
  refine sim_run ok O3_ok Try.func3 (by kernel_rfl) (sl := []) ?_
  rw [e3, ff_eq]
  have : (ffs a b c s != ffs a b c s) = false := by simp
  rw [this]
  cases decide (szf 1048576 s.size < 0) <;> rfl
end
end Go.Sa
