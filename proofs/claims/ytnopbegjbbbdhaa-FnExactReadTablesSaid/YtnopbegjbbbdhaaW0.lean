import Derived.Test.YtnopbegjbbbdhaaSpec
import Derived.Test.YtnopbegjbbbdhaaPLb
set_option linter.all false
namespace Go.Sa
open Go Go.Eng Go.Proofs
set_option maxRecDepth 100000
/-! ### loop.example/g00038/spec.MemFault -/
abbrev sl_spec_MemFault : SlotT := []
abbrev J_spec_MemFault : JT := jn [(1, [(16, .b)])] [] []
noncomputable def O_spec_MemFault (N : Nat) : Orc E := noFn
theorem O_spec_MemFault_ok (N : Nat) : OrcOk (O_spec_MemFault N) := noFn_ok
def g_spec_MemFault (N : Nat) {R : Type} (s : ByteArray) (k : Int → Option R) : Option R :=
  (oK (cond ((((ByteArray.size s) : Nat) : Int) == (0 : Int))
    (some Bool.true)
    (cond ((Int.tmod (((ByteArray.size s) : Nat) : Int) (256 : Int)) != (0 : Int))
      (some Bool.true)
      (some (decide (((((ByteArray.size s) : Nat) : Int) > (65536 : Int))))))) fun j =>
  (cond j
  (k (1 : Int))
  (k (0 : Int))))
theorem e_spec_MemFault (N : Nat) {R : Type} (s : ByteArray) (K : AV → Hp E → Option R) :
    runFnI (E := E) (O_spec_MemFault N) (noIt) sl_spec_MemFault J_spec_MemFault Go.Proofs.Try.f58 [(Go.Eng.AV.sc (Go.Eng.SV.str s))] [] K =
      g_spec_MemFault N s (fun n => K (Go.Eng.AV.sc (Go.Eng.SV.int Go.IntKind.i64 n)) []) := by kernel_rfl
def o_spec_MemFault (N : Nat) {R : Type} (args : List AV) (H : Hp E) (K : AV → Hp E → Option R) : Option R :=
  match args, H with
  | [(Go.Eng.AV.sc (Go.Eng.SV.str s))], [] => g_spec_MemFault N s (fun n => K (Go.Eng.AV.sc (Go.Eng.SV.int Go.IntKind.i64 n)) [])
  | _, _ => none
theorem o_spec_MemFault_ok (N : Nat) : FnOk E 58 (o_spec_MemFault N) := by
  intro R args H K r h
  unfold o_spec_MemFault at h
  dsimp only at h
  split at h
  · exact fnB_ok (ids := []) (top := []) ok (O_spec_MemFault_ok N) (jn_ok _ _ _) Go.Proofs.Try.func58 (by kernel_rfl) (IT := noIt) (sl := sl_spec_MemFault) (J := J_spec_MemFault) (K := K) (H := []) (noIt_ok) (by kernel_rfl) rfl ((e_spec_MemFault N _ K).trans h)
  · cases h
/-! ### loop.example/g00038/spec.l10In -/
abbrev sl_spec_l10In : SlotT := []
abbrev J_spec_l10In : JT := jn [(1, [(6, .b)])] [] []
noncomputable def O_spec_l10In (N : Nat) : Orc E := noFn
theorem O_spec_l10In_ok (N : Nat) : OrcOk (O_spec_l10In N) := noFn_ok
def g_spec_l10In (N : Nat) {R : Type} (s : ByteArray) (n : Int) (n1 : Int) (k : Bool → Option R) : Option R :=
  (oK (cond (decide ((n ≥ (0 : Int))))
    (cond (decide ((n1 ≥ (0 : Int))))
      (cond (decide ((n ≤ (((ByteArray.size s) : Nat) : Int))))
        (some (decide ((n1 ≤ (Go.IntKind.wrap Go.IntKind.i64 ((((ByteArray.size s) : Nat) : Int) - n))))))
        (some Bool.false))
      (some Bool.false))
    (some Bool.false)) fun j =>
  (k j))
theorem e_spec_l10In (N : Nat) {R : Type} (s : ByteArray) (n : Int) (n1 : Int) (K : AV → Hp E → Option R) :
    runFnI (E := E) (O_spec_l10In N) (noIt) sl_spec_l10In J_spec_l10In Go.Proofs.Try.f92 [(Go.Eng.AV.sc (Go.Eng.SV.str s)), (Go.Eng.AV.sc (Go.Eng.SV.int Go.IntKind.i64 n)), (Go.Eng.AV.sc (Go.Eng.SV.int Go.IntKind.i64 n1))] [] K =
      g_spec_l10In N s n n1 (fun b => K (Go.Eng.AV.sc (Go.Eng.SV.bool b)) []) := by kernel_rfl
def o_spec_l10In (N : Nat) {R : Type} (args : List AV) (H : Hp E) (K : AV → Hp E → Option R) : Option R :=
  match args, H with
  | [(Go.Eng.AV.sc (Go.Eng.SV.str s)), (Go.Eng.AV.sc (Go.Eng.SV.int Go.IntKind.i64 n)), (Go.Eng.AV.sc (Go.Eng.SV.int Go.IntKind.i64 n1))], [] => g_spec_l10In N s n n1 (fun b => K (Go.Eng.AV.sc (Go.Eng.SV.bool b)) [])
  | _, _ => none
theorem o_spec_l10In_ok (N : Nat) : FnOk E 92 (o_spec_l10In N) := by
  intro R args H K r h
  unfold o_spec_l10In at h
  dsimp only at h
  split at h
  · exact fnB_ok (ids := []) (top := []) ok (O_spec_l10In_ok N) (jn_ok _ _ _) Go.Proofs.Try.func92 (by kernel_rfl) (IT := noIt) (sl := sl_spec_l10In) (J := J_spec_l10In) (K := K) (H := []) (noIt_ok) (by kernel_rfl) rfl ((e_spec_l10In N _ _ _ K).trans h)
  · cases h
/-! ### loop.example/g00038/spec.l01Word -/
abbrev sl_spec_l01Word : SlotT := []
abbrev J_spec_l01Word : JT := jn [] [] []
noncomputable def O_spec_l01Word (N : Nat) : Orc E := noFn
theorem O_spec_l01Word_ok (N : Nat) : OrcOk (O_spec_l01Word N) := noFn_ok
def g_spec_l01Word (N : Nat) {R : Type} (s : ByteArray) (n : Int) (k : Int → Option R) : Option R :=
  (cond ((decide (((0 : Int) ≤ n))) && (decide ((n < (((ByteArray.size s) : Nat) : Int)))))
  (cond ((decide (((0 : Int) ≤ (Go.IntKind.wrap Go.IntKind.i64 (n + (1 : Int)))))) && (decide (((Go.IntKind.wrap Go.IntKind.i64 (n + (1 : Int))) < (((ByteArray.size s) : Nat) : Int)))))
    (cond ((decide (((0 : Int) ≤ (Go.IntKind.wrap Go.IntKind.i64 (n + (2 : Int)))))) && (decide (((Go.IntKind.wrap Go.IntKind.i64 (n + (2 : Int))) < (((ByteArray.size s) : Nat) : Int)))))
      (cond ((decide (((0 : Int) ≤ (Go.IntKind.wrap Go.IntKind.i64 (n + (3 : Int)))))) && (decide (((Go.IntKind.wrap Go.IntKind.i64 (n + (3 : Int))) < (((ByteArray.size s) : Nat) : Int)))))
        (k (Go.IntKind.wrap Go.IntKind.i64 ((Go.IntKind.wrap Go.IntKind.i64 ((Go.IntKind.wrap Go.IntKind.i64 ((Go.IntKind.wrap Go.IntKind.i64 (Go.Eng.bt s (Int.toNat n))) + (Go.IntKind.wrap Go.IntKind.i64 ((Go.IntKind.wrap Go.IntKind.i64 (Go.Eng.bt s (Int.toNat (Go.IntKind.wrap Go.IntKind.i64 (n + (1 : Int)))))) * (256 : Int))))) + (Go.IntKind.wrap Go.IntKind.i64 ((Go.IntKind.wrap Go.IntKind.i64 (Go.Eng.bt s (Int.toNat (Go.IntKind.wrap Go.IntKind.i64 (n + (2 : Int)))))) * (65536 : Int))))) + (Go.IntKind.wrap Go.IntKind.i64 ((Go.IntKind.wrap Go.IntKind.i64 (Go.Eng.bt s (Int.toNat (Go.IntKind.wrap Go.IntKind.i64 (n + (3 : Int)))))) * (16777216 : Int))))))
        none)
      none)
    none)
  none)
theorem e_spec_l01Word (N : Nat) {R : Type} (s : ByteArray) (n : Int) (K : AV → Hp E → Option R) :
    runFnI (E := E) (O_spec_l01Word N) (noIt) sl_spec_l01Word J_spec_l01Word Go.Proofs.Try.f79 [(Go.Eng.AV.sc (Go.Eng.SV.str s)), (Go.Eng.AV.sc (Go.Eng.SV.int Go.IntKind.i64 n))] [] K =
      g_spec_l01Word N s n (fun n1 => K (Go.Eng.AV.sc (Go.Eng.SV.int Go.IntKind.i64 n1)) []) := by kernel_rfl
def o_spec_l01Word (N : Nat) {R : Type} (args : List AV) (H : Hp E) (K : AV → Hp E → Option R) : Option R :=
  match args, H with
  | [(Go.Eng.AV.sc (Go.Eng.SV.str s)), (Go.Eng.AV.sc (Go.Eng.SV.int Go.IntKind.i64 n))], [] => g_spec_l01Word N s n (fun n1 => K (Go.Eng.AV.sc (Go.Eng.SV.int Go.IntKind.i64 n1)) [])
  | _, _ => none
theorem o_spec_l01Word_ok (N : Nat) : FnOk E 79 (o_spec_l01Word N) := by
  intro R args H K r h
  unfold o_spec_l01Word at h
  dsimp only at h
  split at h
  · exact fnB_ok (ids := []) (top := []) ok (O_spec_l01Word_ok N) (jn_ok _ _ _) Go.Proofs.Try.func79 (by kernel_rfl) (IT := noIt) (sl := sl_spec_l01Word) (J := J_spec_l01Word) (K := K) (H := []) (noIt_ok) (by kernel_rfl) rfl ((e_spec_l01Word N _ _ K).trans h)
  · cases h
/-! ### loop.example/g00038/spec.l21Words -/
abbrev sl_spec_l21Words : SlotT := [(0, ([0, 3, 4], [3]))]
abbrev J_spec_l21Words : JT := jn [] [] []
noncomputable def O_spec_l21Words (N : Nat) : Orc E := addFn 79 (o_spec_l01Word N) (noFn)
theorem O_spec_l21Words_ok (N : Nat) : OrcOk (O_spec_l21Words N) := addFn_ok (o_spec_l01Word_ok N) (noFn_ok)
def s_spec_l21Words_0 (N : Nat) {R : Type} (s1 : ByteArray) (n : Int) (n1 : Int) (ag : Int → Int → Option R)  (kN : Int → Option R) : Option R :=
  (cond (decide (((Go.IntKind.wrap Go.IntKind.i64 (n1 + (4 : Int))) ≤ (((ByteArray.size s1) : Nat) : Int))))
  (g_spec_l01Word N s1 n1 fun n2 =>
    (ag (Go.IntKind.wrap Go.IntKind.i64 (n + n2)) (Go.IntKind.wrap Go.IntKind.i64 (n1 + (4 : Int)))))
  (kN n))
def l_spec_l21Words_0 (N : Nat) {R : Type} (s1 : ByteArray) (kN : Int → Option R) : Nat → Int → Int → Option R
  | 0, _, _ => none
  | f + 1, n, n1 => s_spec_l21Words_0 N s1 n n1 (fun n n1 => l_spec_l21Words_0 N s1 kN f n n1)  kN
def c_spec_l21Words_0 (N : Nat) {R : Type} (s1 : ByteArray) (n : Int) (n1 : Int) (kN : Int → Option R) : Option R := l_spec_l21Words_0 N s1 kN N n n1
theorem se_spec_l21Words_0 (N : Nat) {R : Type} (s1 : ByteArray) (n : Int) (n1 : Int) (AG : List (Option AV) → Hp E → Option R) (KL : Ex → List (Option AV) → Hp E → Option R) :
    iterStep (E := E) (O_spec_l21Words N) (fun {R} => LI (noIt) 0 18 sl_spec_l21Words (R := R)) J_spec_l21Words 0 18 0 [0, 3, 4] [3] (body Go.Proofs.Try.f94 0) AG KL [(Option.some (Go.Eng.AV.sc (Go.Eng.SV.str s1))), (Option.some (Go.Eng.AV.sc (Go.Eng.SV.int Go.IntKind.i64 n))), (Option.some (Go.Eng.AV.sc (Go.Eng.SV.int Go.IntKind.i64 n1)))] [] =
      s_spec_l21Words_0 N s1 n n1 (fun n n1 => AG [(Option.some (Go.Eng.AV.sc (Go.Eng.SV.str s1))), (Option.some (Go.Eng.AV.sc (Go.Eng.SV.int Go.IntKind.i64 n))), (Option.some (Go.Eng.AV.sc (Go.Eng.SV.int Go.IntKind.i64 n1)))] [])  (fun n5 => KL Go.Eng.Ex.normal [(Option.some (Go.Eng.AV.sc (Go.Eng.SV.int Go.IntKind.i64 n5)))] []) := by kernel_rfl
theorem le_spec_l21Words_0 (N : Nat) {R : Type} (s1 : ByteArray) (KL : Ex → List (Option AV) → Hp E → Option R) : ∀ (f : Nat), ∀ (n : Int) (n1 : Int), iterK (E := E) (O_spec_l21Words N) (fun {R} => LI (noIt) 0 18 sl_spec_l21Words (R := R)) J_spec_l21Words 0 18 0 [0, 3, 4] [3] (body Go.Proofs.Try.f94 0) f [(Option.some (Go.Eng.AV.sc (Go.Eng.SV.str s1))), (Option.some (Go.Eng.AV.sc (Go.Eng.SV.int Go.IntKind.i64 n))), (Option.some (Go.Eng.AV.sc (Go.Eng.SV.int Go.IntKind.i64 n1)))] [] KL = l_spec_l21Words_0 N s1 (fun n5 => KL Go.Eng.Ex.normal [(Option.some (Go.Eng.AV.sc (Go.Eng.SV.int Go.IntKind.i64 n5)))] []) f n n1 := by
  intro f
  induction f with
  | zero => intros; rfl
  | succ f ih =>
    intro n n1
    rw [iterK_succ, se_spec_l21Words_0]
    exact (congrArg (fun z0 => s_spec_l21Words_0 N s1 n n1 z0 (fun n5 => KL Go.Eng.Ex.normal [(Option.some (Go.Eng.AV.sc (Go.Eng.SV.int Go.IntKind.i64 n5)))] [])) (funext fun n => funext fun n1 => ih n n1))
def i_spec_l21Words_0 (N : Nat) {R : Type} (vs : List (Option AV)) (H : Hp E) (KL : Ex → List (Option AV) → Hp E → Option R) : Option R :=
  match vs, H with
  | [(Option.some (Go.Eng.AV.sc (Go.Eng.SV.str s1))), (Option.some (Go.Eng.AV.sc (Go.Eng.SV.int Go.IntKind.i64 n))), (Option.some (Go.Eng.AV.sc (Go.Eng.SV.int Go.IntKind.i64 n1)))], [] => c_spec_l21Words_0 N s1 n n1 (fun n6 => KL Go.Eng.Ex.normal [(Option.some (Go.Eng.AV.sc (Go.Eng.SV.int Go.IntKind.i64 n6)))] [])
  | _, _ => none
noncomputable def IT_spec_l21Words_0 (N : Nat) : Its E := addIt 0 (i_spec_l21Words_0 N) (noIt)
theorem IT_spec_l21Words_0_ok (N : Nat) : ItOk (IT_spec_l21Words_0 N) 0 18 sl_spec_l21Words (lsB Go.Proofs.Try.f94 [0]) :=
  addItB_ok (inner := []) ok (O_spec_l21Words_ok N) (jn_ok _ _ _) (noIt_ok) rfl (by kernel_rfl) rfl fun vs H KL r h => by
    unfold i_spec_l21Words_0 at h
    split at h
    · exact ⟨_, (le_spec_l21Words_0 N _ KL N _ _).trans h⟩
    · cases h
def g_spec_l21Words (N : Nat) {R : Type} (s : ByteArray) (k : Int → Option R) : Option R :=
  (c_spec_l21Words_0 N s (0 : Int) (0 : Int) fun n3 =>
  (k n3))
theorem e_spec_l21Words (N : Nat) {R : Type} (s : ByteArray) (K : AV → Hp E → Option R) :
    runFnI (E := E) (O_spec_l21Words N) (IT_spec_l21Words_0 N) sl_spec_l21Words J_spec_l21Words Go.Proofs.Try.f94 [(Go.Eng.AV.sc (Go.Eng.SV.str s))] [] K =
      g_spec_l21Words N s (fun n4 => K (Go.Eng.AV.sc (Go.Eng.SV.int Go.IntKind.i64 n4)) []) := by kernel_rfl
def o_spec_l21Words (N : Nat) {R : Type} (args : List AV) (H : Hp E) (K : AV → Hp E → Option R) : Option R :=
  match args, H with
  | [(Go.Eng.AV.sc (Go.Eng.SV.str s))], [] => g_spec_l21Words N s (fun n4 => K (Go.Eng.AV.sc (Go.Eng.SV.int Go.IntKind.i64 n4)) [])
  | _, _ => none
theorem o_spec_l21Words_ok (N : Nat) : FnOk E 94 (o_spec_l21Words N) := by
  intro R args H K r h
  unfold o_spec_l21Words at h
  dsimp only at h
  split at h
  · exact fnB_ok (ids := [0]) (top := [0]) ok (O_spec_l21Words_ok N) (jn_ok _ _ _) Go.Proofs.Try.func94 (by kernel_rfl) (IT := IT_spec_l21Words_0 N) (sl := sl_spec_l21Words) (J := J_spec_l21Words) (K := K) (H := []) (IT_spec_l21Words_0_ok N) (by kernel_rfl) rfl ((e_spec_l21Words N _ K).trans h)
  · cases h
/-! ### loop.example/g00038/spec.l01Mod -/
abbrev sl_spec_l01Mod : SlotT := []
abbrev J_spec_l01Mod : JT := jn [] [(10, [(5, .i .i64)])] []
noncomputable def O_spec_l01Mod (N : Nat) : Orc E := noFn
theorem O_spec_l01Mod_ok (N : Nat) : OrcOk (O_spec_l01Mod N) := noFn_ok
def g_spec_l01Mod (N : Nat) {R : Type} (n : Int) (n1 : Int) (k : Int → Option R) : Option R :=
  (cond (n1 == (0 : Int))
  none
  (oK (cond (decide (((Int.tmod n n1) < (0 : Int))))
      (some (Go.IntKind.wrap Go.IntKind.i64 ((Int.tmod n n1) + n1)))
      (some (Int.tmod n n1))) fun j =>
    (k j)))
theorem e_spec_l01Mod (N : Nat) {R : Type} (n : Int) (n1 : Int) (K : AV → Hp E → Option R) :
    runFnI (E := E) (O_spec_l01Mod N) (noIt) sl_spec_l01Mod J_spec_l01Mod Go.Proofs.Try.f158 [(Go.Eng.AV.sc (Go.Eng.SV.int Go.IntKind.i64 n)), (Go.Eng.AV.sc (Go.Eng.SV.int Go.IntKind.i64 n1))] [] K =
      g_spec_l01Mod N n n1 (fun n2 => K (Go.Eng.AV.sc (Go.Eng.SV.int Go.IntKind.i64 n2)) []) := by kernel_rfl
def o_spec_l01Mod (N : Nat) {R : Type} (args : List AV) (H : Hp E) (K : AV → Hp E → Option R) : Option R :=
  match args, H with
  | [(Go.Eng.AV.sc (Go.Eng.SV.int Go.IntKind.i64 n)), (Go.Eng.AV.sc (Go.Eng.SV.int Go.IntKind.i64 n1))], [] => g_spec_l01Mod N n n1 (fun n2 => K (Go.Eng.AV.sc (Go.Eng.SV.int Go.IntKind.i64 n2)) [])
  | _, _ => none
theorem o_spec_l01Mod_ok (N : Nat) : FnOk E 158 (o_spec_l01Mod N) := by
  intro R args H K r h
  unfold o_spec_l01Mod at h
  dsimp only at h
  split at h
  · exact fnB_ok (ids := []) (top := []) ok (O_spec_l01Mod_ok N) (jn_ok _ _ _) Go.Proofs.Try.func158 (by kernel_rfl) (IT := noIt) (sl := sl_spec_l01Mod) (J := J_spec_l01Mod) (K := K) (H := []) (noIt_ok) (by kernel_rfl) rfl ((e_spec_l01Mod N _ _ K).trans h)
  · cases h
/-! ### loop.example/g00038/spec.Word -/
abbrev sl_spec_Word : SlotT := []
abbrev J_spec_Word : JT := jn [] [] []
noncomputable def O_spec_Word (N : Nat) : Orc E := addFn 158 (o_spec_l01Mod N) (noFn)
theorem O_spec_Word_ok (N : Nat) : OrcOk (O_spec_Word N) := addFn_ok (o_spec_l01Mod_ok N) (noFn_ok)
def g_spec_Word (N : Nat) {R : Type} (n : Int) (k : Int → Option R) : Option R :=
  (g_spec_l01Mod N n (4294967296 : Int) fun n1 =>
  (k n1))
theorem e_spec_Word (N : Nat) {R : Type} (n : Int) (K : AV → Hp E → Option R) :
    runFnI (E := E) (O_spec_Word N) (noIt) sl_spec_Word J_spec_Word Go.Proofs.Try.f93 [(Go.Eng.AV.sc (Go.Eng.SV.int Go.IntKind.i64 n))] [] K =
      g_spec_Word N n (fun n2 => K (Go.Eng.AV.sc (Go.Eng.SV.int Go.IntKind.i64 n2)) []) := by kernel_rfl
def o_spec_Word (N : Nat) {R : Type} (args : List AV) (H : Hp E) (K : AV → Hp E → Option R) : Option R :=
  match args, H with
  | [(Go.Eng.AV.sc (Go.Eng.SV.int Go.IntKind.i64 n))], [] => g_spec_Word N n (fun n2 => K (Go.Eng.AV.sc (Go.Eng.SV.int Go.IntKind.i64 n2)) [])
  | _, _ => none
theorem o_spec_Word_ok (N : Nat) : FnOk E 93 (o_spec_Word N) := by
  intro R args H K r h
  unfold o_spec_Word at h
  dsimp only at h
  split at h
  · exact fnB_ok (ids := []) (top := []) ok (O_spec_Word_ok N) (jn_ok _ _ _) Go.Proofs.Try.func93 (by kernel_rfl) (IT := noIt) (sl := sl_spec_Word) (J := J_spec_Word) (K := K) (H := []) (noIt_ok) (by kernel_rfl) rfl ((e_spec_Word N _ K).trans h)
  · cases h
/-! ### loop.example/g00038/spec.l21Name -/
abbrev sl_spec_l21Name : SlotT := [(0, ([0, 3], [2]))]
abbrev J_spec_l21Name : JT := jn [(6, [(20, .b)])] [] []
noncomputable def O_spec_l21Name (N : Nat) : Orc E := noFn
theorem O_spec_l21Name_ok (N : Nat) : OrcOk (O_spec_l21Name N) := noFn_ok
def s_spec_l21Name_0 (N : Nat) {R : Type} (s1 : ByteArray) (n : Int) (ag : Int → Option R)  (kR : Option R) (kN : Option R) : Option R :=
  (cond (decide ((n < (4 : Int))))
  (oK (cond ((decide (((0 : Int) ≤ n))) && (decide ((n < (((ByteArray.size s1) : Nat) : Int)))))
      (cond (decide (((Go.Eng.bt s1 (Int.toNat n)) < (65 : Int))))
        (some Bool.true)
        (cond ((decide (((0 : Int) ≤ n))) && (decide ((n < (((ByteArray.size s1) : Nat) : Int)))))
          (some (decide (((Go.Eng.bt s1 (Int.toNat n)) > (90 : Int)))))
          none))
      none) fun j =>
    (cond j
    kR
    (ag (Go.IntKind.wrap Go.IntKind.i64 (n + (1 : Int))))))
  kN)
def l_spec_l21Name_0 (N : Nat) {R : Type} (s1 : ByteArray) (kR : Option R) (kN : Option R) : Nat → Int → Option R
  | 0, _ => none
  | f + 1, n => s_spec_l21Name_0 N s1 n (fun n => l_spec_l21Name_0 N s1 kR kN f n)  kR kN
def c_spec_l21Name_0 (N : Nat) {R : Type} (s1 : ByteArray) (n : Int) (kR : Option R) (kN : Option R) : Option R := l_spec_l21Name_0 N s1 kR kN N n
theorem se_spec_l21Name_0 (N : Nat) {R : Type} (s1 : ByteArray) (n : Int) (AG : List (Option AV) → Hp E → Option R) (KL : Ex → List (Option AV) → Hp E → Option R) :
    iterStep (E := E) (O_spec_l21Name N) (fun {R} => LI (noIt) 0 21 sl_spec_l21Name (R := R)) J_spec_l21Name 0 21 0 [0, 3] [2] (body Go.Proofs.Try.f159 0) AG KL [(Option.some (Go.Eng.AV.sc (Go.Eng.SV.str s1))), (Option.some (Go.Eng.AV.sc (Go.Eng.SV.int Go.IntKind.i64 n)))] [] =
      s_spec_l21Name_0 N s1 n (fun n => AG [(Option.some (Go.Eng.AV.sc (Go.Eng.SV.str s1))), (Option.some (Go.Eng.AV.sc (Go.Eng.SV.int Go.IntKind.i64 n)))] [])  (KL Go.Eng.Ex.ret [(Option.some (Go.Eng.AV.sc (Go.Eng.SV.bool Bool.false)))] []) (KL Go.Eng.Ex.normal [Option.none] []) := by kernel_rfl
theorem le_spec_l21Name_0 (N : Nat) {R : Type} (s1 : ByteArray) (KL : Ex → List (Option AV) → Hp E → Option R) : ∀ (f : Nat), ∀ (n : Int), iterK (E := E) (O_spec_l21Name N) (fun {R} => LI (noIt) 0 21 sl_spec_l21Name (R := R)) J_spec_l21Name 0 21 0 [0, 3] [2] (body Go.Proofs.Try.f159 0) f [(Option.some (Go.Eng.AV.sc (Go.Eng.SV.str s1))), (Option.some (Go.Eng.AV.sc (Go.Eng.SV.int Go.IntKind.i64 n)))] [] KL = l_spec_l21Name_0 N s1 (KL Go.Eng.Ex.ret [(Option.some (Go.Eng.AV.sc (Go.Eng.SV.bool Bool.false)))] []) (KL Go.Eng.Ex.normal [Option.none] []) f n := by
  intro f
  induction f with
  | zero => intros; rfl
  | succ f ih =>
    intro n
    rw [iterK_succ, se_spec_l21Name_0]
    exact (congrArg (fun z0 => s_spec_l21Name_0 N s1 n z0 (KL Go.Eng.Ex.ret [(Option.some (Go.Eng.AV.sc (Go.Eng.SV.bool Bool.false)))] []) (KL Go.Eng.Ex.normal [Option.none] [])) (funext fun n => ih n))
def i_spec_l21Name_0 (N : Nat) {R : Type} (vs : List (Option AV)) (H : Hp E) (KL : Ex → List (Option AV) → Hp E → Option R) : Option R :=
  match vs, H with
  | [(Option.some (Go.Eng.AV.sc (Go.Eng.SV.str s1))), (Option.some (Go.Eng.AV.sc (Go.Eng.SV.int Go.IntKind.i64 n)))], [] => c_spec_l21Name_0 N s1 n (KL Go.Eng.Ex.ret [(Option.some (Go.Eng.AV.sc (Go.Eng.SV.bool Bool.false)))] []) (KL Go.Eng.Ex.normal [Option.none] [])
  | _, _ => none
noncomputable def IT_spec_l21Name_0 (N : Nat) : Its E := addIt 0 (i_spec_l21Name_0 N) (noIt)
theorem IT_spec_l21Name_0_ok (N : Nat) : ItOk (IT_spec_l21Name_0 N) 0 21 sl_spec_l21Name (lsB Go.Proofs.Try.f159 [0]) :=
  addItB_ok (inner := []) ok (O_spec_l21Name_ok N) (jn_ok _ _ _) (noIt_ok) rfl (by kernel_rfl) rfl fun vs H KL r h => by
    unfold i_spec_l21Name_0 at h
    split at h
    · exact ⟨_, (le_spec_l21Name_0 N _ KL N _).trans h⟩
    · cases h
def g_spec_l21Name (N : Nat) {R : Type} (s : ByteArray) (k : Bool → Option R) : Option R :=
  (cond ((((ByteArray.size s) : Nat) : Int) != (4 : Int))
  (k Bool.false)
  (c_spec_l21Name_0 N s (0 : Int) (
    (k Bool.false)) (
    (k Bool.true))))
theorem e_spec_l21Name (N : Nat) {R : Type} (s : ByteArray) (K : AV → Hp E → Option R) :
    runFnI (E := E) (O_spec_l21Name N) (IT_spec_l21Name_0 N) sl_spec_l21Name J_spec_l21Name Go.Proofs.Try.f159 [(Go.Eng.AV.sc (Go.Eng.SV.str s))] [] K =
      g_spec_l21Name N s (fun b => K (Go.Eng.AV.sc (Go.Eng.SV.bool b)) []) := by kernel_rfl
def o_spec_l21Name (N : Nat) {R : Type} (args : List AV) (H : Hp E) (K : AV → Hp E → Option R) : Option R :=
  match args, H with
  | [(Go.Eng.AV.sc (Go.Eng.SV.str s))], [] => g_spec_l21Name N s (fun b => K (Go.Eng.AV.sc (Go.Eng.SV.bool b)) [])
  | _, _ => none
theorem o_spec_l21Name_ok (N : Nat) : FnOk E 159 (o_spec_l21Name N) := by
  intro R args H K r h
  unfold o_spec_l21Name at h
  dsimp only at h
  split at h
  · exact fnB_ok (ids := [0]) (top := [0]) ok (O_spec_l21Name_ok N) (jn_ok _ _ _) Go.Proofs.Try.func159 (by kernel_rfl) (IT := IT_spec_l21Name_0 N) (sl := sl_spec_l21Name) (J := J_spec_l21Name) (K := K) (H := []) (IT_spec_l21Name_0_ok N) (by kernel_rfl) rfl ((e_spec_l21Name N _ K).trans h)
  · cases h
/-! ### loop.example/g00038/spec.l21Bytes -/
abbrev sl_spec_l21Bytes : SlotT := [(0, ([0, 3, 4], [3]))]
abbrev J_spec_l21Bytes : JT := jn [] [] []
noncomputable def O_spec_l21Bytes (N : Nat) : Orc E := noFn
theorem O_spec_l21Bytes_ok (N : Nat) : OrcOk (O_spec_l21Bytes N) := noFn_ok
def s_spec_l21Bytes_0 (N : Nat) {R : Type} (s1 : ByteArray) (n : Int) (n1 : Int) (ag : Int → Int → Option R)  (kN : Int → Option R) : Option R :=
  (cond (decide ((n1 < (((ByteArray.size s1) : Nat) : Int))))
  (cond ((decide (((0 : Int) ≤ n1))) && (decide ((n1 < (((ByteArray.size s1) : Nat) : Int)))))
    (ag (Go.IntKind.wrap Go.IntKind.i64 (n + (Go.IntKind.wrap Go.IntKind.i64 (Go.Eng.bt s1 (Int.toNat n1))))) (Go.IntKind.wrap Go.IntKind.i64 (n1 + (1 : Int))))
    none)
  (kN n))
def l_spec_l21Bytes_0 (N : Nat) {R : Type} (s1 : ByteArray) (kN : Int → Option R) : Nat → Int → Int → Option R
  | 0, _, _ => none
  | f + 1, n, n1 => s_spec_l21Bytes_0 N s1 n n1 (fun n n1 => l_spec_l21Bytes_0 N s1 kN f n n1)  kN
def c_spec_l21Bytes_0 (N : Nat) {R : Type} (s1 : ByteArray) (n : Int) (n1 : Int) (kN : Int → Option R) : Option R := l_spec_l21Bytes_0 N s1 kN N n n1
theorem se_spec_l21Bytes_0 (N : Nat) {R : Type} (s1 : ByteArray) (n : Int) (n1 : Int) (AG : List (Option AV) → Hp E → Option R) (KL : Ex → List (Option AV) → Hp E → Option R) :
    iterStep (E := E) (O_spec_l21Bytes N) (fun {R} => LI (noIt) 0 18 sl_spec_l21Bytes (R := R)) J_spec_l21Bytes 0 18 0 [0, 3, 4] [3] (body Go.Proofs.Try.f160 0) AG KL [(Option.some (Go.Eng.AV.sc (Go.Eng.SV.str s1))), (Option.some (Go.Eng.AV.sc (Go.Eng.SV.int Go.IntKind.i64 n))), (Option.some (Go.Eng.AV.sc (Go.Eng.SV.int Go.IntKind.i64 n1)))] [] =
      s_spec_l21Bytes_0 N s1 n n1 (fun n n1 => AG [(Option.some (Go.Eng.AV.sc (Go.Eng.SV.str s1))), (Option.some (Go.Eng.AV.sc (Go.Eng.SV.int Go.IntKind.i64 n))), (Option.some (Go.Eng.AV.sc (Go.Eng.SV.int Go.IntKind.i64 n1)))] [])  (fun n4 => KL Go.Eng.Ex.normal [(Option.some (Go.Eng.AV.sc (Go.Eng.SV.int Go.IntKind.i64 n4)))] []) := by kernel_rfl
theorem le_spec_l21Bytes_0 (N : Nat) {R : Type} (s1 : ByteArray) (KL : Ex → List (Option AV) → Hp E → Option R) : ∀ (f : Nat), ∀ (n : Int) (n1 : Int), iterK (E := E) (O_spec_l21Bytes N) (fun {R} => LI (noIt) 0 18 sl_spec_l21Bytes (R := R)) J_spec_l21Bytes 0 18 0 [0, 3, 4] [3] (body Go.Proofs.Try.f160 0) f [(Option.some (Go.Eng.AV.sc (Go.Eng.SV.str s1))), (Option.some (Go.Eng.AV.sc (Go.Eng.SV.int Go.IntKind.i64 n))), (Option.some (Go.Eng.AV.sc (Go.Eng.SV.int Go.IntKind.i64 n1)))] [] KL = l_spec_l21Bytes_0 N s1 (fun n4 => KL Go.Eng.Ex.normal [(Option.some (Go.Eng.AV.sc (Go.Eng.SV.int Go.IntKind.i64 n4)))] []) f n n1 := by
  intro f
  induction f with
  | zero => intros; rfl
  | succ f ih =>
    intro n n1
    rw [iterK_succ, se_spec_l21Bytes_0]
    exact (congrArg (fun z0 => s_spec_l21Bytes_0 N s1 n n1 z0 (fun n4 => KL Go.Eng.Ex.normal [(Option.some (Go.Eng.AV.sc (Go.Eng.SV.int Go.IntKind.i64 n4)))] [])) (funext fun n => funext fun n1 => ih n n1))
def i_spec_l21Bytes_0 (N : Nat) {R : Type} (vs : List (Option AV)) (H : Hp E) (KL : Ex → List (Option AV) → Hp E → Option R) : Option R :=
  match vs, H with
  | [(Option.some (Go.Eng.AV.sc (Go.Eng.SV.str s1))), (Option.some (Go.Eng.AV.sc (Go.Eng.SV.int Go.IntKind.i64 n))), (Option.some (Go.Eng.AV.sc (Go.Eng.SV.int Go.IntKind.i64 n1)))], [] => c_spec_l21Bytes_0 N s1 n n1 (fun n5 => KL Go.Eng.Ex.normal [(Option.some (Go.Eng.AV.sc (Go.Eng.SV.int Go.IntKind.i64 n5)))] [])
  | _, _ => none
noncomputable def IT_spec_l21Bytes_0 (N : Nat) : Its E := addIt 0 (i_spec_l21Bytes_0 N) (noIt)
theorem IT_spec_l21Bytes_0_ok (N : Nat) : ItOk (IT_spec_l21Bytes_0 N) 0 18 sl_spec_l21Bytes (lsB Go.Proofs.Try.f160 [0]) :=
  addItB_ok (inner := []) ok (O_spec_l21Bytes_ok N) (jn_ok _ _ _) (noIt_ok) rfl (by kernel_rfl) rfl fun vs H KL r h => by
    unfold i_spec_l21Bytes_0 at h
    split at h
    · exact ⟨_, (le_spec_l21Bytes_0 N _ KL N _ _).trans h⟩
    · cases h
def g_spec_l21Bytes (N : Nat) {R : Type} (s : ByteArray) (k : Int → Option R) : Option R :=
  (c_spec_l21Bytes_0 N s (0 : Int) (0 : Int) fun n2 =>
  (k n2))
theorem e_spec_l21Bytes (N : Nat) {R : Type} (s : ByteArray) (K : AV → Hp E → Option R) :
    runFnI (E := E) (O_spec_l21Bytes N) (IT_spec_l21Bytes_0 N) sl_spec_l21Bytes J_spec_l21Bytes Go.Proofs.Try.f160 [(Go.Eng.AV.sc (Go.Eng.SV.str s))] [] K =
      g_spec_l21Bytes N s (fun n3 => K (Go.Eng.AV.sc (Go.Eng.SV.int Go.IntKind.i64 n3)) []) := by kernel_rfl
def o_spec_l21Bytes (N : Nat) {R : Type} (args : List AV) (H : Hp E) (K : AV → Hp E → Option R) : Option R :=
  match args, H with
  | [(Go.Eng.AV.sc (Go.Eng.SV.str s))], [] => g_spec_l21Bytes N s (fun n3 => K (Go.Eng.AV.sc (Go.Eng.SV.int Go.IntKind.i64 n3)) [])
  | _, _ => none
theorem o_spec_l21Bytes_ok (N : Nat) : FnOk E 160 (o_spec_l21Bytes N) := by
  intro R args H K r h
  unfold o_spec_l21Bytes at h
  dsimp only at h
  split at h
  · exact fnB_ok (ids := [0]) (top := [0]) ok (O_spec_l21Bytes_ok N) (jn_ok _ _ _) Go.Proofs.Try.func160 (by kernel_rfl) (IT := IT_spec_l21Bytes_0 N) (sl := sl_spec_l21Bytes) (J := J_spec_l21Bytes) (K := K) (H := []) (IT_spec_l21Bytes_0_ok N) (by kernel_rfl) rfl ((e_spec_l21Bytes N _ K).trans h)
  · cases h
/-! ### loop.example/g00038/spec.l21Read -/
abbrev sl_spec_l21Read : SlotT := []
abbrev J_spec_l21Read : JT := jn [(1, [(16, .b)]), (5, [(43, .b)])] [] []
noncomputable def O_spec_l21Read (N : Nat) : Orc E := addFn 160 (o_spec_l21Bytes N) (addFn 159 (o_spec_l21Name N) (addFn 79 (o_spec_l01Word N) (addFn 92 (o_spec_l10In N) (noFn))))
theorem O_spec_l21Read_ok (N : Nat) : OrcOk (O_spec_l21Read N) := addFn_ok (o_spec_l21Bytes_ok N) (addFn_ok (o_spec_l21Name_ok N) (addFn_ok (o_spec_l01Word_ok N) (addFn_ok (o_spec_l10In_ok N) (noFn_ok))))
def g_spec_l21Read (N : Nat) {R : Type} (s : ByteArray) (n : Int) (k : ByteArray → Int → ByteArray → Int → Option R) : Option R :=
  (oK (cond ((Int.tmod n (4 : Int)) != (0 : Int))
    (some Bool.true)
    (g_spec_l10In N s n (8 : Int) fun b =>
      (some (!b)))) fun j =>
  (cond j
  (k (ByteArray.mk (List.toArray [])) (0 : Int) (ByteArray.mk (List.toArray [])) (5 : Int))
  (g_spec_l01Word N s (Go.IntKind.wrap Go.IntKind.i64 (n + (4 : Int))) fun n1 =>
    (oK (cond (((decide (((0 : Int) ≤ n))) && (decide ((n ≤ (Go.IntKind.wrap Go.IntKind.i64 (n + (4 : Int))))))) && (decide (((Go.IntKind.wrap Go.IntKind.i64 (n + (4 : Int))) ≤ (((ByteArray.size s) : Nat) : Int)))))
      (g_spec_l21Name N (ByteArray.extract s (Int.toNat n) (Int.toNat (Go.IntKind.wrap Go.IntKind.i64 (n + (4 : Int))))) fun b1 =>
        (cond (!b1)
        (some Bool.true)
        (cond (decide (((Go.IntKind.wrap Go.IntKind.i64 (Int.tdiv n1 (65536 : Int))) < (8 : Int))))
          (some Bool.true)
          (cond (decide (((Go.IntKind.wrap Go.IntKind.i64 (Int.tdiv n1 (65536 : Int))) > (208 : Int))))
            (some Bool.true)
            (some ((Int.tmod (Go.IntKind.wrap Go.IntKind.i64 (Int.tdiv n1 (65536 : Int))) (4 : Int)) != (0 : Int)))))))
      none) fun j1 =>
    (cond j1
    (k (ByteArray.mk (List.toArray [])) (0 : Int) (ByteArray.mk (List.toArray [])) (3 : Int))
    (g_spec_l10In N s n (Go.IntKind.wrap Go.IntKind.i64 (Int.tdiv n1 (65536 : Int))) fun b2 =>
      (cond (!b2)
      (k (ByteArray.mk (List.toArray [])) (0 : Int) (ByteArray.mk (List.toArray [])) (5 : Int))
      (cond (((decide (((0 : Int) ≤ n))) && (decide ((n ≤ (Go.IntKind.wrap Go.IntKind.i64 (n + (Go.IntKind.wrap Go.IntKind.i64 (Int.tdiv n1 (65536 : Int))))))))) && (decide (((Go.IntKind.wrap Go.IntKind.i64 (n + (Go.IntKind.wrap Go.IntKind.i64 (Int.tdiv n1 (65536 : Int))))) ≤ (((ByteArray.size s) : Nat) : Int)))))
        (g_spec_l21Bytes N (ByteArray.extract s (Int.toNat n) (Int.toNat (Go.IntKind.wrap Go.IntKind.i64 (n + (Go.IntKind.wrap Go.IntKind.i64 (Int.tdiv n1 (65536 : Int))))))) fun n2 =>
          (cond ((Int.tmod n2 (256 : Int)) != (0 : Int))
          (k (ByteArray.mk (List.toArray [])) (0 : Int) (ByteArray.mk (List.toArray [])) (10 : Int))
          (cond (((decide (((0 : Int) ≤ n))) && (decide ((n ≤ (Go.IntKind.wrap Go.IntKind.i64 (n + (4 : Int))))))) && (decide (((Go.IntKind.wrap Go.IntKind.i64 (n + (4 : Int))) ≤ (((ByteArray.size s) : Nat) : Int)))))
            (cond (((decide (((0 : Int) ≤ (Go.IntKind.wrap Go.IntKind.i64 (n + (8 : Int)))))) && (decide (((Go.IntKind.wrap Go.IntKind.i64 (n + (8 : Int))) ≤ (Go.IntKind.wrap Go.IntKind.i64 (n + (Go.IntKind.wrap Go.IntKind.i64 (Int.tdiv n1 (65536 : Int))))))))) && (decide (((Go.IntKind.wrap Go.IntKind.i64 (n + (Go.IntKind.wrap Go.IntKind.i64 (Int.tdiv n1 (65536 : Int))))) ≤ (((ByteArray.size s) : Nat) : Int)))))
              (k (ByteArray.extract s (Int.toNat n) (Int.toNat (Go.IntKind.wrap Go.IntKind.i64 (n + (4 : Int))))) (Int.tmod (Go.IntKind.wrap Go.IntKind.i64 (Int.tdiv n1 (256 : Int))) (256 : Int)) (ByteArray.extract s (Int.toNat (Go.IntKind.wrap Go.IntKind.i64 (n + (8 : Int)))) (Int.toNat (Go.IntKind.wrap Go.IntKind.i64 (n + (Go.IntKind.wrap Go.IntKind.i64 (Int.tdiv n1 (65536 : Int))))))) (0 : Int))
              none)
            none)))
        none))))))))
theorem e_spec_l21Read (N : Nat) {R : Type} (s : ByteArray) (n : Int) (K : AV → Hp E → Option R) :
    runFnI (E := E) (O_spec_l21Read N) (noIt) sl_spec_l21Read J_spec_l21Read Go.Proofs.Try.f95 [(Go.Eng.AV.sc (Go.Eng.SV.str s)), (Go.Eng.AV.sc (Go.Eng.SV.int Go.IntKind.i64 n))] [] K =
      g_spec_l21Read N s n (fun s1 n3 s2 n4 => K (Go.Eng.AV.tup [(Bool.true, [(Go.Eng.SV.str s1), (Go.Eng.SV.int Go.IntKind.i64 n3), (Go.Eng.SV.str s2)]), (Bool.false, [(Go.Eng.SV.int Go.IntKind.i64 n4)])]) []) := by kernel_rfl
def o_spec_l21Read (N : Nat) {R : Type} (args : List AV) (H : Hp E) (K : AV → Hp E → Option R) : Option R :=
  match args, H with
  | [(Go.Eng.AV.sc (Go.Eng.SV.str s)), (Go.Eng.AV.sc (Go.Eng.SV.int Go.IntKind.i64 n))], [] => g_spec_l21Read N s n (fun s1 n3 s2 n4 => K (Go.Eng.AV.tup [(Bool.true, [(Go.Eng.SV.str s1), (Go.Eng.SV.int Go.IntKind.i64 n3), (Go.Eng.SV.str s2)]), (Bool.false, [(Go.Eng.SV.int Go.IntKind.i64 n4)])]) [])
  | _, _ => none
theorem o_spec_l21Read_ok (N : Nat) : FnOk E 95 (o_spec_l21Read N) := by
  intro R args H K r h
  unfold o_spec_l21Read at h
  dsimp only at h
  split at h
  · exact fnB_ok (ids := []) (top := []) ok (O_spec_l21Read_ok N) (jn_ok _ _ _) Go.Proofs.Try.func95 (by kernel_rfl) (IT := noIt) (sl := sl_spec_l21Read) (J := J_spec_l21Read) (K := K) (H := []) (noIt_ok) (by kernel_rfl) rfl ((e_spec_l21Read N _ _ K).trans h)
  · cases h
/-! ### loop.example/g00038/spec.ReadTables -/
abbrev sl_spec_ReadTables : SlotT := [(0, ([0, 1, 4, 5, 6, 7], [4, 6]))]
abbrev J_spec_ReadTables : JT := jn [(3, [(31, .b)]), (5, [(44, .b)]), (8, [(60, .b)])] [] []
noncomputable def O_spec_ReadTables (N : Nat) : Orc E := addFn 95 (o_spec_l21Read N) (addFn 93 (o_spec_Word N) (addFn 94 (o_spec_l21Words N) (addFn 79 (o_spec_l01Word N) (addFn 92 (o_spec_l10In N) (addFn 58 (o_spec_MemFault N) (noFn))))))
theorem O_spec_ReadTables_ok (N : Nat) : OrcOk (O_spec_ReadTables N) := addFn_ok (o_spec_l21Read_ok N) (addFn_ok (o_spec_Word_ok N) (addFn_ok (o_spec_l21Words_ok N) (addFn_ok (o_spec_l01Word_ok N) (addFn_ok (o_spec_l10In_ok N) (addFn_ok (o_spec_MemFault_ok N) (noFn_ok))))))
def s_spec_ReadTables_0 (N : Nat) {R : Type} (s1 : ByteArray) (n5 : Int) (n6 : Int) (n8 : Int) (b2 : Bool) (l : List Go.Sa.FirmTable) (n9 : Int) (n7 : Int) (b3 : Bool) (l1 : List Go.Sa.FirmTable) (ag : Int → Bool → (List Go.Sa.FirmTable) → Option R)  (kR : Int → Bool → (List Go.Sa.FirmTable) → Option R) (kN : Bool → (List Go.Sa.FirmTable) → Option R) : Option R :=
  (cond (decide ((n7 < n6)))
  (g_spec_l01Word N s1 (Go.IntKind.wrap Go.IntKind.i64 ((Go.IntKind.wrap Go.IntKind.i64 (n5 + (8 : Int))) + (Go.IntKind.wrap Go.IntKind.i64 ((4 : Int) * n7)))) fun n10 =>
    (g_spec_l21Read N s1 n10 fun s2 n11 s3 n12 =>
    (cond (n12 != (0 : Int))
    (kR n12 b3 l1)
    (cond (Go.Eng.roomOk ((List.length l1) + (List.length [(Go.Sa.FirmTable.mk s2 n11 s3)])) 40)
      (ag (Go.IntKind.wrap Go.IntKind.i64 (n7 + (1 : Int))) (cond (Nat.beq (List.length [(Go.Sa.FirmTable.mk s2 n11 s3)]) 0) b3 Bool.false) (l1 ++ [(Go.Sa.FirmTable.mk s2 n11 s3)]))
      none))))
  (kN b3 l1))
def l_spec_ReadTables_0 (N : Nat) {R : Type} (s1 : ByteArray) (n5 : Int) (n6 : Int) (n8 : Int) (b2 : Bool) (l : List Go.Sa.FirmTable) (n9 : Int) (kR : Int → Bool → (List Go.Sa.FirmTable) → Option R) (kN : Bool → (List Go.Sa.FirmTable) → Option R) : Nat → Int → Bool → (List Go.Sa.FirmTable) → Option R
  | 0, _, _, _ => none
  | f + 1, n7, b3, l1 => s_spec_ReadTables_0 N s1 n5 n6 n8 b2 l n9 n7 b3 l1 (fun n7 b3 l1 => l_spec_ReadTables_0 N s1 n5 n6 n8 b2 l n9 kR kN f n7 b3 l1)  kR kN
def c_spec_ReadTables_0 (N : Nat) {R : Type} (s1 : ByteArray) (n5 : Int) (n6 : Int) (n8 : Int) (b2 : Bool) (l : List Go.Sa.FirmTable) (n9 : Int) (n7 : Int) (b3 : Bool) (l1 : List Go.Sa.FirmTable) (kR : Int → Bool → (List Go.Sa.FirmTable) → Option R) (kN : Bool → (List Go.Sa.FirmTable) → Option R) : Option R := l_spec_ReadTables_0 N s1 n5 n6 n8 b2 l n9 kR kN N n7 b3 l1
theorem se_spec_ReadTables_0 (N : Nat) {R : Type} (s1 : ByteArray) (n5 : Int) (n6 : Int) (n8 : Int) (b2 : Bool) (l : List Go.Sa.FirmTable) (n9 : Int) (n7 : Int) (b3 : Bool) (l1 : List Go.Sa.FirmTable) (AG : List (Option AV) → Hp E → Option R) (KL : Ex → List (Option AV) → Hp E → Option R) :
    iterStep (E := E) (O_spec_ReadTables N) (fun {R} => LI (noIt) 0 103 sl_spec_ReadTables (R := R)) J_spec_ReadTables 0 103 0 [0, 1, 4, 5, 6, 7] [4, 6] (body Go.Proofs.Try.f34 0) AG KL [(Option.some (Go.Eng.AV.sc (Go.Eng.SV.str s1))), (Option.some (Go.Eng.AV.sc (Go.Eng.SV.int Go.IntKind.i64 n5))), (Option.some (Go.Eng.AV.sc (Go.Eng.SV.ptr 0 0 0))), (Option.some (Go.Eng.AV.sc (Go.Eng.SV.int Go.IntKind.i64 n6))), (Option.some (Go.Eng.AV.sc (Go.Eng.SV.ptr 2 0 0))), (Option.some (Go.Eng.AV.sc (Go.Eng.SV.int Go.IntKind.i64 n7)))] [(Option.some (Go.Eng.HE.mk Bool.false (Go.Eng.HB.exp Option.none [(Go.Eng.SV.int Go.IntKind.i64 n8), (Go.Eng.SV.slc 1 Option.none b2)]))), (Option.some (Go.Eng.HE.mk Bool.false (Go.Eng.HB.rows (Go.Sa.B.iFirmTable l)))), (Option.some (Go.Eng.HE.mk Bool.false (Go.Eng.HB.exp Option.none [(Go.Eng.SV.int Go.IntKind.i64 n9), (Go.Eng.SV.slc 3 Option.none b3)]))), (Option.some (Go.Eng.HE.mk Bool.false (Go.Eng.HB.rows (Go.Sa.B.iFirmTable l1))))] =
      s_spec_ReadTables_0 N s1 n5 n6 n8 b2 l n9 n7 b3 l1 (fun n7 b3 l1 => AG [(Option.some (Go.Eng.AV.sc (Go.Eng.SV.str s1))), (Option.some (Go.Eng.AV.sc (Go.Eng.SV.int Go.IntKind.i64 n5))), (Option.some (Go.Eng.AV.sc (Go.Eng.SV.ptr 0 0 0))), (Option.some (Go.Eng.AV.sc (Go.Eng.SV.int Go.IntKind.i64 n6))), (Option.some (Go.Eng.AV.sc (Go.Eng.SV.ptr 2 0 0))), (Option.some (Go.Eng.AV.sc (Go.Eng.SV.int Go.IntKind.i64 n7)))] [(Option.some (Go.Eng.HE.mk Bool.false (Go.Eng.HB.exp Option.none [(Go.Eng.SV.int Go.IntKind.i64 n8), (Go.Eng.SV.slc 1 Option.none b2)]))), (Option.some (Go.Eng.HE.mk Bool.false (Go.Eng.HB.rows (Go.Sa.B.iFirmTable l)))), (Option.some (Go.Eng.HE.mk Bool.false (Go.Eng.HB.exp Option.none [(Go.Eng.SV.int Go.IntKind.i64 n9), (Go.Eng.SV.slc 3 Option.none b3)]))), (Option.some (Go.Eng.HE.mk Bool.false (Go.Eng.HB.rows (Go.Sa.B.iFirmTable l1))))])  (fun n15 b7 l5 => KL Go.Eng.Ex.ret [(Option.some (Go.Eng.AV.sc (Go.Eng.SV.ptr 0 0 0))), (Option.some (Go.Eng.AV.sc (Go.Eng.SV.ptr 2 0 0)))] [(Option.some (Go.Eng.HE.mk Bool.false (Go.Eng.HB.exp Option.none [(Go.Eng.SV.int Go.IntKind.i64 n15), (Go.Eng.SV.slc 1 Option.none Bool.true)]))), (Option.some (Go.Eng.HE.mk Bool.false (Go.Eng.HB.rows (Go.Sa.B.iFirmTable [])))), (Option.some (Go.Eng.HE.mk Bool.false (Go.Eng.HB.exp Option.none [(Go.Eng.SV.int Go.IntKind.i64 n9), (Go.Eng.SV.slc 3 Option.none b7)]))), (Option.some (Go.Eng.HE.mk Bool.false (Go.Eng.HB.rows (Go.Sa.B.iFirmTable l5))))]) (fun b8 l6 => KL Go.Eng.Ex.normal [(Option.some (Go.Eng.AV.sc (Go.Eng.SV.ptr 0 0 0))), (Option.some (Go.Eng.AV.sc (Go.Eng.SV.ptr 2 0 0)))] [(Option.some (Go.Eng.HE.mk Bool.false (Go.Eng.HB.exp Option.none [(Go.Eng.SV.int Go.IntKind.i64 n8), (Go.Eng.SV.slc 1 Option.none b2)]))), (Option.some (Go.Eng.HE.mk Bool.false (Go.Eng.HB.rows (Go.Sa.B.iFirmTable l)))), (Option.some (Go.Eng.HE.mk Bool.false (Go.Eng.HB.exp Option.none [(Go.Eng.SV.int Go.IntKind.i64 n9), (Go.Eng.SV.slc 3 Option.none b8)]))), (Option.some (Go.Eng.HE.mk Bool.false (Go.Eng.HB.rows (Go.Sa.B.iFirmTable l6))))]) := by kernel_rfl
theorem le_spec_ReadTables_0 (N : Nat) {R : Type} (s1 : ByteArray) (n5 : Int) (n6 : Int) (n8 : Int) (b2 : Bool) (l : List Go.Sa.FirmTable) (n9 : Int) (KL : Ex → List (Option AV) → Hp E → Option R) : ∀ (f : Nat), ∀ (n7 : Int) (b3 : Bool) (l1 : List Go.Sa.FirmTable), iterK (E := E) (O_spec_ReadTables N) (fun {R} => LI (noIt) 0 103 sl_spec_ReadTables (R := R)) J_spec_ReadTables 0 103 0 [0, 1, 4, 5, 6, 7] [4, 6] (body Go.Proofs.Try.f34 0) f [(Option.some (Go.Eng.AV.sc (Go.Eng.SV.str s1))), (Option.some (Go.Eng.AV.sc (Go.Eng.SV.int Go.IntKind.i64 n5))), (Option.some (Go.Eng.AV.sc (Go.Eng.SV.ptr 0 0 0))), (Option.some (Go.Eng.AV.sc (Go.Eng.SV.int Go.IntKind.i64 n6))), (Option.some (Go.Eng.AV.sc (Go.Eng.SV.ptr 2 0 0))), (Option.some (Go.Eng.AV.sc (Go.Eng.SV.int Go.IntKind.i64 n7)))] [(Option.some (Go.Eng.HE.mk Bool.false (Go.Eng.HB.exp Option.none [(Go.Eng.SV.int Go.IntKind.i64 n8), (Go.Eng.SV.slc 1 Option.none b2)]))), (Option.some (Go.Eng.HE.mk Bool.false (Go.Eng.HB.rows (Go.Sa.B.iFirmTable l)))), (Option.some (Go.Eng.HE.mk Bool.false (Go.Eng.HB.exp Option.none [(Go.Eng.SV.int Go.IntKind.i64 n9), (Go.Eng.SV.slc 3 Option.none b3)]))), (Option.some (Go.Eng.HE.mk Bool.false (Go.Eng.HB.rows (Go.Sa.B.iFirmTable l1))))] KL = l_spec_ReadTables_0 N s1 n5 n6 n8 b2 l n9 (fun n15 b7 l5 => KL Go.Eng.Ex.ret [(Option.some (Go.Eng.AV.sc (Go.Eng.SV.ptr 0 0 0))), (Option.some (Go.Eng.AV.sc (Go.Eng.SV.ptr 2 0 0)))] [(Option.some (Go.Eng.HE.mk Bool.false (Go.Eng.HB.exp Option.none [(Go.Eng.SV.int Go.IntKind.i64 n15), (Go.Eng.SV.slc 1 Option.none Bool.true)]))), (Option.some (Go.Eng.HE.mk Bool.false (Go.Eng.HB.rows (Go.Sa.B.iFirmTable [])))), (Option.some (Go.Eng.HE.mk Bool.false (Go.Eng.HB.exp Option.none [(Go.Eng.SV.int Go.IntKind.i64 n9), (Go.Eng.SV.slc 3 Option.none b7)]))), (Option.some (Go.Eng.HE.mk Bool.false (Go.Eng.HB.rows (Go.Sa.B.iFirmTable l5))))]) (fun b8 l6 => KL Go.Eng.Ex.normal [(Option.some (Go.Eng.AV.sc (Go.Eng.SV.ptr 0 0 0))), (Option.some (Go.Eng.AV.sc (Go.Eng.SV.ptr 2 0 0)))] [(Option.some (Go.Eng.HE.mk Bool.false (Go.Eng.HB.exp Option.none [(Go.Eng.SV.int Go.IntKind.i64 n8), (Go.Eng.SV.slc 1 Option.none b2)]))), (Option.some (Go.Eng.HE.mk Bool.false (Go.Eng.HB.rows (Go.Sa.B.iFirmTable l)))), (Option.some (Go.Eng.HE.mk Bool.false (Go.Eng.HB.exp Option.none [(Go.Eng.SV.int Go.IntKind.i64 n9), (Go.Eng.SV.slc 3 Option.none b8)]))), (Option.some (Go.Eng.HE.mk Bool.false (Go.Eng.HB.rows (Go.Sa.B.iFirmTable l6))))]) f n7 b3 l1 := by
  intro f
  induction f with
  | zero => intros; rfl
  | succ f ih =>
    intro n7 b3 l1
    rw [iterK_succ, se_spec_ReadTables_0]
    exact (congrArg (fun z0 => s_spec_ReadTables_0 N s1 n5 n6 n8 b2 l n9 n7 b3 l1 z0 (fun n15 b7 l5 => KL Go.Eng.Ex.ret [(Option.some (Go.Eng.AV.sc (Go.Eng.SV.ptr 0 0 0))), (Option.some (Go.Eng.AV.sc (Go.Eng.SV.ptr 2 0 0)))] [(Option.some (Go.Eng.HE.mk Bool.false (Go.Eng.HB.exp Option.none [(Go.Eng.SV.int Go.IntKind.i64 n15), (Go.Eng.SV.slc 1 Option.none Bool.true)]))), (Option.some (Go.Eng.HE.mk Bool.false (Go.Eng.HB.rows (Go.Sa.B.iFirmTable [])))), (Option.some (Go.Eng.HE.mk Bool.false (Go.Eng.HB.exp Option.none [(Go.Eng.SV.int Go.IntKind.i64 n9), (Go.Eng.SV.slc 3 Option.none b7)]))), (Option.some (Go.Eng.HE.mk Bool.false (Go.Eng.HB.rows (Go.Sa.B.iFirmTable l5))))]) (fun b8 l6 => KL Go.Eng.Ex.normal [(Option.some (Go.Eng.AV.sc (Go.Eng.SV.ptr 0 0 0))), (Option.some (Go.Eng.AV.sc (Go.Eng.SV.ptr 2 0 0)))] [(Option.some (Go.Eng.HE.mk Bool.false (Go.Eng.HB.exp Option.none [(Go.Eng.SV.int Go.IntKind.i64 n8), (Go.Eng.SV.slc 1 Option.none b2)]))), (Option.some (Go.Eng.HE.mk Bool.false (Go.Eng.HB.rows (Go.Sa.B.iFirmTable l)))), (Option.some (Go.Eng.HE.mk Bool.false (Go.Eng.HB.exp Option.none [(Go.Eng.SV.int Go.IntKind.i64 n9), (Go.Eng.SV.slc 3 Option.none b8)]))), (Option.some (Go.Eng.HE.mk Bool.false (Go.Eng.HB.rows (Go.Sa.B.iFirmTable l6))))])) (funext fun n7 => funext fun b3 => funext fun l1 => ih n7 b3 l1))
def i_spec_ReadTables_0 (N : Nat) {R : Type} (vs : List (Option AV)) (H : Hp E) (KL : Ex → List (Option AV) → Hp E → Option R) : Option R :=
  match vs, H with
  | [(Option.some (Go.Eng.AV.sc (Go.Eng.SV.str s1))), (Option.some (Go.Eng.AV.sc (Go.Eng.SV.int Go.IntKind.i64 n5))), (Option.some (Go.Eng.AV.sc (Go.Eng.SV.ptr 0 0 0))), (Option.some (Go.Eng.AV.sc (Go.Eng.SV.int Go.IntKind.i64 n6))), (Option.some (Go.Eng.AV.sc (Go.Eng.SV.ptr 2 0 0))), (Option.some (Go.Eng.AV.sc (Go.Eng.SV.int Go.IntKind.i64 n7)))], [(Option.some (Go.Eng.HE.mk Bool.false (Go.Eng.HB.exp Option.none [(Go.Eng.SV.int Go.IntKind.i64 n8), (Go.Eng.SV.slc 1 Option.none b2)]))), (Option.some (Go.Eng.HE.mk Bool.false (Go.Eng.HB.rows (Go.Sa.B.iFirmTable l)))), (Option.some (Go.Eng.HE.mk Bool.false (Go.Eng.HB.exp Option.none [(Go.Eng.SV.int Go.IntKind.i64 n9), (Go.Eng.SV.slc 3 Option.none b3)]))), (Option.some (Go.Eng.HE.mk Bool.false (Go.Eng.HB.rows (Go.Sa.B.iFirmTable l1))))] => c_spec_ReadTables_0 N s1 n5 n6 n8 b2 l n9 n7 b3 l1 (fun n16 b9 l7 => KL Go.Eng.Ex.ret [(Option.some (Go.Eng.AV.sc (Go.Eng.SV.ptr 0 0 0))), (Option.some (Go.Eng.AV.sc (Go.Eng.SV.ptr 2 0 0)))] [(Option.some (Go.Eng.HE.mk Bool.false (Go.Eng.HB.exp Option.none [(Go.Eng.SV.int Go.IntKind.i64 n16), (Go.Eng.SV.slc 1 Option.none Bool.true)]))), (Option.some (Go.Eng.HE.mk Bool.false (Go.Eng.HB.rows (Go.Sa.B.iFirmTable [])))), (Option.some (Go.Eng.HE.mk Bool.false (Go.Eng.HB.exp Option.none [(Go.Eng.SV.int Go.IntKind.i64 n9), (Go.Eng.SV.slc 3 Option.none b9)]))), (Option.some (Go.Eng.HE.mk Bool.false (Go.Eng.HB.rows (Go.Sa.B.iFirmTable l7))))]) (fun b10 l8 => KL Go.Eng.Ex.normal [(Option.some (Go.Eng.AV.sc (Go.Eng.SV.ptr 0 0 0))), (Option.some (Go.Eng.AV.sc (Go.Eng.SV.ptr 2 0 0)))] [(Option.some (Go.Eng.HE.mk Bool.false (Go.Eng.HB.exp Option.none [(Go.Eng.SV.int Go.IntKind.i64 n8), (Go.Eng.SV.slc 1 Option.none b2)]))), (Option.some (Go.Eng.HE.mk Bool.false (Go.Eng.HB.rows (Go.Sa.B.iFirmTable l)))), (Option.some (Go.Eng.HE.mk Bool.false (Go.Eng.HB.exp Option.none [(Go.Eng.SV.int Go.IntKind.i64 n9), (Go.Eng.SV.slc 3 Option.none b10)]))), (Option.some (Go.Eng.HE.mk Bool.false (Go.Eng.HB.rows (Go.Sa.B.iFirmTable l8))))])
  | _, _ => none
noncomputable def IT_spec_ReadTables_0 (N : Nat) : Its E := addIt 0 (i_spec_ReadTables_0 N) (noIt)
theorem IT_spec_ReadTables_0_ok (N : Nat) : ItOk (IT_spec_ReadTables_0 N) 0 103 sl_spec_ReadTables (lsB Go.Proofs.Try.f34 [0]) :=
  addItB_ok (inner := []) ok (O_spec_ReadTables_ok N) (jn_ok _ _ _) (noIt_ok) rfl (by kernel_rfl) rfl fun vs H KL r h => by
    unfold i_spec_ReadTables_0 at h
    split at h
    · exact ⟨_, (le_spec_ReadTables_0 N _ _ _ _ _ _ _ KL N _ _ _).trans h⟩
    · cases h
def g_spec_ReadTables (N : Nat) {R : Type} (s : ByteArray) (n : Int) (k : Int → Bool → (List Go.Sa.FirmTable) → Option R) : Option R :=
  (cond (decide (((((ByteArray.size s) : Nat) : Int) > (65536 : Int))))
  (k (2 : Int) Bool.true [])
  (oK (g_spec_MemFault N s fun n1 =>
      (cond (n1 != (0 : Int))
      (some Bool.true)
      (cond (decide ((n < (0 : Int))))
        (some Bool.true)
        (cond ((Int.tmod n (4 : Int)) != (0 : Int))
          (some Bool.true)
          (some (decide ((n ≥ (((ByteArray.size s) : Nat) : Int))))))))) fun j =>
    (cond j
    (k (1 : Int) Bool.true [])
    (oK (g_spec_l10In N s n (12 : Int) fun b =>
        (cond (!b)
        (some Bool.true)
        (cond (((decide (((0 : Int) ≤ n))) && (decide ((n ≤ (Go.IntKind.wrap Go.IntKind.i64 (n + (4 : Int))))))) && (decide (((Go.IntKind.wrap Go.IntKind.i64 (n + (4 : Int))) ≤ (((ByteArray.size s) : Nat) : Int)))))
          (some (!(decide (((ByteArray.extract s (Int.toNat n) (Int.toNat (Go.IntKind.wrap Go.IntKind.i64 (n + (4 : Int))))) = (ByteArray.mk (List.toArray [(70 : UInt8), (73 : UInt8), (82 : UInt8), (77 : UInt8)])))))))
          none))) fun j1 =>
      (cond j1
      (k (3 : Int) Bool.true [])
      (g_spec_l01Word N s (Go.IntKind.wrap Go.IntKind.i64 (n + (4 : Int))) fun n2 =>
        (oK (cond (decide ((n2 > (10 : Int))))
          (some Bool.true)
          (g_spec_l10In N s n (Go.IntKind.wrap Go.IntKind.i64 ((12 : Int) + (Go.IntKind.wrap Go.IntKind.i64 ((4 : Int) * n2)))) fun b1 =>
            (some (!b1)))) fun j2 =>
        (cond j2
        (k (3 : Int) Bool.true [])
        (cond (((decide (((0 : Int) ≤ n))) && (decide ((n ≤ (Go.IntKind.wrap Go.IntKind.i64 ((Go.IntKind.wrap Go.IntKind.i64 (n + (12 : Int))) + (Go.IntKind.wrap Go.IntKind.i64 ((4 : Int) * n2)))))))) && (decide (((Go.IntKind.wrap Go.IntKind.i64 ((Go.IntKind.wrap Go.IntKind.i64 (n + (12 : Int))) + (Go.IntKind.wrap Go.IntKind.i64 ((4 : Int) * n2)))) ≤ (((ByteArray.size s) : Nat) : Int)))))
          (g_spec_l21Words N (ByteArray.extract s (Int.toNat n) (Int.toNat (Go.IntKind.wrap Go.IntKind.i64 ((Go.IntKind.wrap Go.IntKind.i64 (n + (12 : Int))) + (Go.IntKind.wrap Go.IntKind.i64 ((4 : Int) * n2)))))) fun n3 =>
            (g_spec_Word N n3 fun n4 =>
            (cond (n4 != (0 : Int))
            (k (10 : Int) Bool.true [])
            (c_spec_ReadTables_0 N s n n2 (0 : Int) Bool.true [] (0 : Int) (0 : Int) Bool.true [] (fun n13 b4 l2 =>
              (k n13 Bool.true [])) (fun b5 l3 =>
              (k (0 : Int) b5 l3))))))
          none)))))))))
theorem e_spec_ReadTables (N : Nat) {R : Type} (s : ByteArray) (n : Int) (K : AV → Hp E → Option R) :
    runFnI (E := E) (O_spec_ReadTables N) (IT_spec_ReadTables_0 N) sl_spec_ReadTables J_spec_ReadTables Go.Proofs.Try.f34 [(Go.Eng.AV.sc (Go.Eng.SV.str s)), (Go.Eng.AV.sc (Go.Eng.SV.int Go.IntKind.i64 n))] [] K =
      g_spec_ReadTables N s n (fun n14 b6 l4 => K (Go.Eng.AV.agg [(Go.Eng.SV.int Go.IntKind.i64 n14), (Go.Eng.SV.slc 0 Option.none b6)]) [(Option.some (Go.Eng.HE.mk Bool.false (Go.Eng.HB.rows (Go.Sa.B.iFirmTable l4))))]) := by kernel_rfl
def o_spec_ReadTables (N : Nat) {R : Type} (args : List AV) (H : Hp E) (K : AV → Hp E → Option R) : Option R :=
  match args, H with
  | [(Go.Eng.AV.sc (Go.Eng.SV.str s)), (Go.Eng.AV.sc (Go.Eng.SV.int Go.IntKind.i64 n))], [] => g_spec_ReadTables N s n (fun n14 b6 l4 => K (Go.Eng.AV.agg [(Go.Eng.SV.int Go.IntKind.i64 n14), (Go.Eng.SV.slc 0 Option.none b6)]) [(Option.some (Go.Eng.HE.mk Bool.false (Go.Eng.HB.rows (Go.Sa.B.iFirmTable l4))))])
  | _, _ => none
theorem o_spec_ReadTables_ok (N : Nat) : FnOk E 34 (o_spec_ReadTables N) := by
  intro R args H K r h
  unfold o_spec_ReadTables at h
  dsimp only at h
  split at h
  · exact fnB_ok (ids := [0]) (top := [0]) ok (O_spec_ReadTables_ok N) (jn_ok _ _ _) Go.Proofs.Try.func34 (by kernel_rfl) (IT := IT_spec_ReadTables_0 N) (sl := sl_spec_ReadTables) (J := J_spec_ReadTables) (K := K) (H := []) (IT_spec_ReadTables_0_ok N) (by kernel_rfl) rfl ((e_spec_ReadTables N _ _ K).trans h)
  · cases h
/-! ### loop.example/g00038/impl.ybig -/
abbrev sl_impl_ybig_w : SlotT := [(0, ([5, 6, 7], [2]))]
abbrev J_impl_ybig_w : JT := jn [] [] []
noncomputable def O_impl_ybig_w (N : Nat) : Orc E := noFn
theorem O_impl_ybig_w_ok (N : Nat) : OrcOk (O_impl_ybig_w N) := noFn_ok
def s_impl_ybig_w_0 (N : Nat) {R : Type} (b1 : Bool) (n : Int) (l1 : List ByteArray) (n1 : Int) (ag : Int → Option R)  (kR : Option R) (kN : Option R) : Option R :=
  (cond (decide ((n1 < n)))
  (cond ((decide (((0 : Int) ≤ n1))) && (decide ((n1 < (((List.length l1) : Nat) : Int)))))
    (elemK l1 (Int.toNat n1) fun x =>
      (cond (decide (((((ByteArray.size x) : Nat) : Int) > (65536 : Int))))
      kR
      (ag (Go.IntKind.wrap Go.IntKind.i64 (n1 + (1 : Int))))))
    none)
  kN)
def l_impl_ybig_w_0 (N : Nat) {R : Type} (b1 : Bool) (n : Int) (l1 : List ByteArray) (kR : Option R) (kN : Option R) : Nat → Int → Option R
  | 0, _ => none
  | f + 1, n1 => s_impl_ybig_w_0 N b1 n l1 n1 (fun n1 => l_impl_ybig_w_0 N b1 n l1 kR kN f n1)  kR kN
def c_impl_ybig_w_0 (N : Nat) {R : Type} (b1 : Bool) (n : Int) (l1 : List ByteArray) (n1 : Int) (kR : Option R) (kN : Option R) : Option R := l_impl_ybig_w_0 N b1 n l1 kR kN N n1
theorem se_impl_ybig_w_0 (N : Nat) {R : Type} (b1 : Bool) (n : Int) (l1 : List ByteArray) (n1 : Int) (AG : List (Option AV) → Hp E → Option R) (KL : Ex → List (Option AV) → Hp E → Option R) :
    iterStep (E := E) (O_impl_ybig_w N) (fun {R} => LI (noIt) 1 15 sl_impl_ybig_w (R := R)) J_impl_ybig_w 1 15 0 [5, 6, 7] [2] (body Go.Proofs.Try.f76 0) AG KL [(Option.some (Go.Eng.AV.sc (Go.Eng.SV.slc 0 Option.none b1))), (Option.some (Go.Eng.AV.sc (Go.Eng.SV.int Go.IntKind.i64 n))), (Option.some (Go.Eng.AV.sc (Go.Eng.SV.int Go.IntKind.i64 n1)))] [(Option.some (Go.Eng.HE.mk Bool.false (Go.Eng.HB.rows (Go.Sa.B.str l1))))] =
      s_impl_ybig_w_0 N b1 n l1 n1 (fun n1 => AG [(Option.some (Go.Eng.AV.sc (Go.Eng.SV.slc 0 Option.none b1))), (Option.some (Go.Eng.AV.sc (Go.Eng.SV.int Go.IntKind.i64 n))), (Option.some (Go.Eng.AV.sc (Go.Eng.SV.int Go.IntKind.i64 n1)))] [(Option.some (Go.Eng.HE.mk Bool.false (Go.Eng.HB.rows (Go.Sa.B.str l1))))])  (KL Go.Eng.Ex.ret [(Option.some (Go.Eng.AV.sc (Go.Eng.SV.bool Bool.true)))] [(Option.some (Go.Eng.HE.mk Bool.false (Go.Eng.HB.rows (Go.Sa.B.str l1))))]) (KL Go.Eng.Ex.normal [Option.none] [(Option.some (Go.Eng.HE.mk Bool.false (Go.Eng.HB.rows (Go.Sa.B.str l1))))]) := by kernel_rfl
theorem le_impl_ybig_w_0 (N : Nat) {R : Type} (b1 : Bool) (n : Int) (l1 : List ByteArray) (KL : Ex → List (Option AV) → Hp E → Option R) : ∀ (f : Nat), ∀ (n1 : Int), iterK (E := E) (O_impl_ybig_w N) (fun {R} => LI (noIt) 1 15 sl_impl_ybig_w (R := R)) J_impl_ybig_w 1 15 0 [5, 6, 7] [2] (body Go.Proofs.Try.f76 0) f [(Option.some (Go.Eng.AV.sc (Go.Eng.SV.slc 0 Option.none b1))), (Option.some (Go.Eng.AV.sc (Go.Eng.SV.int Go.IntKind.i64 n))), (Option.some (Go.Eng.AV.sc (Go.Eng.SV.int Go.IntKind.i64 n1)))] [(Option.some (Go.Eng.HE.mk Bool.false (Go.Eng.HB.rows (Go.Sa.B.str l1))))] KL = l_impl_ybig_w_0 N b1 n l1 (KL Go.Eng.Ex.ret [(Option.some (Go.Eng.AV.sc (Go.Eng.SV.bool Bool.true)))] [(Option.some (Go.Eng.HE.mk Bool.false (Go.Eng.HB.rows (Go.Sa.B.str l1))))]) (KL Go.Eng.Ex.normal [Option.none] [(Option.some (Go.Eng.HE.mk Bool.false (Go.Eng.HB.rows (Go.Sa.B.str l1))))]) f n1 := by
  intro f
  induction f with
  | zero => intros; rfl
  | succ f ih =>
    intro n1
    rw [iterK_succ, se_impl_ybig_w_0]
    exact (congrArg (fun z0 => s_impl_ybig_w_0 N b1 n l1 n1 z0 (KL Go.Eng.Ex.ret [(Option.some (Go.Eng.AV.sc (Go.Eng.SV.bool Bool.true)))] [(Option.some (Go.Eng.HE.mk Bool.false (Go.Eng.HB.rows (Go.Sa.B.str l1))))]) (KL Go.Eng.Ex.normal [Option.none] [(Option.some (Go.Eng.HE.mk Bool.false (Go.Eng.HB.rows (Go.Sa.B.str l1))))])) (funext fun n1 => ih n1))
def i_impl_ybig_w_0 (N : Nat) {R : Type} (vs : List (Option AV)) (H : Hp E) (KL : Ex → List (Option AV) → Hp E → Option R) : Option R :=
  match vs, H with
  | [(Option.some (Go.Eng.AV.sc (Go.Eng.SV.slc 0 Option.none b1))), (Option.some (Go.Eng.AV.sc (Go.Eng.SV.int Go.IntKind.i64 n))), (Option.some (Go.Eng.AV.sc (Go.Eng.SV.int Go.IntKind.i64 n1)))], [(Option.some (Go.Eng.HE.mk Bool.false (Go.Eng.HB.rows (Go.Sa.B.str l1))))] => c_impl_ybig_w_0 N b1 n l1 n1 (KL Go.Eng.Ex.ret [(Option.some (Go.Eng.AV.sc (Go.Eng.SV.bool Bool.true)))] [(Option.some (Go.Eng.HE.mk Bool.false (Go.Eng.HB.rows (Go.Sa.B.str l1))))]) (KL Go.Eng.Ex.normal [Option.none] [(Option.some (Go.Eng.HE.mk Bool.false (Go.Eng.HB.rows (Go.Sa.B.str l1))))])
  | _, _ => none
noncomputable def IT_impl_ybig_w_0 (N : Nat) : Its E := addIt 0 (i_impl_ybig_w_0 N) (noIt)
theorem IT_impl_ybig_w_0_ok (N : Nat) : ItOk (IT_impl_ybig_w_0 N) 1 15 sl_impl_ybig_w (lsB Go.Proofs.Try.f76 [0]) :=
  addItB_ok (inner := []) ok (O_impl_ybig_w_ok N) (jn_ok _ _ _) (noIt_ok) rfl (by kernel_rfl) rfl fun vs H KL r h => by
    unfold i_impl_ybig_w_0 at h
    split at h
    · exact ⟨_, (le_impl_ybig_w_0 N _ _ _ KL N _).trans h⟩
    · cases h
def g_impl_ybig_w (N : Nat) {R : Type} (b : Bool) (l : List ByteArray) (k : Bool → Option R) : Option R :=
  (c_impl_ybig_w_0 N b (((List.length l) : Nat) : Int) l (0 : Int) (
  (k Bool.true)) (
  (k Bool.false)))
theorem e_impl_ybig_w (N : Nat) {R : Type} (b : Bool) (l : List ByteArray) (K : AV → Hp E → Option R) :
    runFnI (E := E) (O_impl_ybig_w N) (IT_impl_ybig_w_0 N) sl_impl_ybig_w J_impl_ybig_w Go.Proofs.Try.f76 [(Go.Eng.AV.sc (Go.Eng.SV.slc 0 Option.none b))] [(Option.some (Go.Eng.HE.mk Bool.false (Go.Eng.HB.rows (Go.Sa.B.str l))))] K =
      g_impl_ybig_w N b l (fun b2 => K (Go.Eng.AV.sc (Go.Eng.SV.bool b2)) [(Option.some (Go.Eng.HE.mk Bool.false (Go.Eng.HB.rows (Go.Sa.B.str l))))]) := by kernel_rfl
def o_impl_ybig_w (N : Nat) {R : Type} (args : List AV) (H : Hp E) (K : AV → Hp E → Option R) : Option R :=
  match args, H with
  | [(Go.Eng.AV.sc (Go.Eng.SV.slc 0 Option.none b))], [(Option.some (Go.Eng.HE.mk Bool.false (Go.Eng.HB.rows (Go.Sa.B.str l))))] => g_impl_ybig_w N b l (fun b2 => K (Go.Eng.AV.sc (Go.Eng.SV.bool b2)) [(Option.some (Go.Eng.HE.mk Bool.false (Go.Eng.HB.rows (Go.Sa.B.str l))))])
  | _, _ => none
theorem o_impl_ybig_w_ok (N : Nat) : FnOk E 76 (o_impl_ybig_w N) := by
  intro R args H K r h
  unfold o_impl_ybig_w at h
  dsimp only at h
  split at h
  · exact fnB_ok (ids := [0]) (top := [0]) ok (O_impl_ybig_w_ok N) (jn_ok _ _ _) Go.Proofs.Try.func76 (by kernel_rfl) (IT := IT_impl_ybig_w_0 N) (sl := sl_impl_ybig_w) (J := J_impl_ybig_w) (K := K) (H := [(Option.some (Go.Eng.HE.mk Bool.false (Go.Eng.HB.rows (Go.Sa.B.str _))))]) (IT_impl_ybig_w_0_ok N) (by kernel_rfl) rfl ((e_impl_ybig_w N _ _ K).trans h)
  · cases h
/-! ### loop.example/g00038/impl.ymemOk -/
abbrev sl_impl_ymemOk : SlotT := []
abbrev J_impl_ymemOk : JT := jn [(1, [(2, .b)])] [] []
noncomputable def O_impl_ymemOk (N : Nat) : Orc E := noFn
theorem O_impl_ymemOk_ok (N : Nat) : OrcOk (O_impl_ymemOk N) := noFn_ok
def g_impl_ymemOk (N : Nat) {R : Type} (s : ByteArray) (k : Bool → Option R) : Option R :=
  (oK (cond (decide (((((ByteArray.size s) : Nat) : Int) ≥ (256 : Int))))
    (cond (decide (((((ByteArray.size s) : Nat) : Int) ≤ (65536 : Int))))
      (some ((Int.tmod (((ByteArray.size s) : Nat) : Int) (256 : Int)) == (0 : Int)))
      (some Bool.false))
    (some Bool.false)) fun j =>
  (k j))
theorem e_impl_ymemOk (N : Nat) {R : Type} (s : ByteArray) (K : AV → Hp E → Option R) :
    runFnI (E := E) (O_impl_ymemOk N) (noIt) sl_impl_ymemOk J_impl_ymemOk Go.Proofs.Try.f68 [(Go.Eng.AV.sc (Go.Eng.SV.str s))] [] K =
      g_impl_ymemOk N s (fun b => K (Go.Eng.AV.sc (Go.Eng.SV.bool b)) []) := by kernel_rfl
def o_impl_ymemOk (N : Nat) {R : Type} (args : List AV) (H : Hp E) (K : AV → Hp E → Option R) : Option R :=
  match args, H with
  | [(Go.Eng.AV.sc (Go.Eng.SV.str s))], [] => g_impl_ymemOk N s (fun b => K (Go.Eng.AV.sc (Go.Eng.SV.bool b)) [])
  | _, _ => none
theorem o_impl_ymemOk_ok (N : Nat) : FnOk E 68 (o_impl_ymemOk N) := by
  intro R args H K r h
  unfold o_impl_ymemOk at h
  dsimp only at h
  split at h
  · exact fnB_ok (ids := []) (top := []) ok (O_impl_ymemOk_ok N) (jn_ok _ _ _) Go.Proofs.Try.func68 (by kernel_rfl) (IT := noIt) (sl := sl_impl_ymemOk) (J := J_impl_ymemOk) (K := K) (H := []) (noIt_ok) (by kernel_rfl) rfl ((e_impl_ymemOk N _ K).trans h)
  · cases h
/-! ### loop.example/g00038/impl.yin -/
abbrev sl_impl_yin : SlotT := []
abbrev J_impl_yin : JT := jn [(1, [(6, .b)])] [] []
noncomputable def O_impl_yin (N : Nat) : Orc E := noFn
theorem O_impl_yin_ok (N : Nat) : OrcOk (O_impl_yin N) := noFn_ok
def g_impl_yin (N : Nat) {R : Type} (n : Int) (n1 : Int) (n2 : Int) (k : Bool → Option R) : Option R :=
  (oK (cond (decide ((n ≥ n1)))
    (some (decide ((n ≤ n2))))
    (some Bool.false)) fun j =>
  (k j))
theorem e_impl_yin (N : Nat) {R : Type} (n : Int) (n1 : Int) (n2 : Int) (K : AV → Hp E → Option R) :
    runFnI (E := E) (O_impl_yin N) (noIt) sl_impl_yin J_impl_yin Go.Proofs.Try.f96 [(Go.Eng.AV.sc (Go.Eng.SV.int Go.IntKind.i64 n)), (Go.Eng.AV.sc (Go.Eng.SV.int Go.IntKind.i64 n1)), (Go.Eng.AV.sc (Go.Eng.SV.int Go.IntKind.i64 n2))] [] K =
      g_impl_yin N n n1 n2 (fun b => K (Go.Eng.AV.sc (Go.Eng.SV.bool b)) []) := by kernel_rfl
def o_impl_yin (N : Nat) {R : Type} (args : List AV) (H : Hp E) (K : AV → Hp E → Option R) : Option R :=
  match args, H with
  | [(Go.Eng.AV.sc (Go.Eng.SV.int Go.IntKind.i64 n)), (Go.Eng.AV.sc (Go.Eng.SV.int Go.IntKind.i64 n1)), (Go.Eng.AV.sc (Go.Eng.SV.int Go.IntKind.i64 n2))], [] => g_impl_yin N n n1 n2 (fun b => K (Go.Eng.AV.sc (Go.Eng.SV.bool b)) [])
  | _, _ => none
theorem o_impl_yin_ok (N : Nat) : FnOk E 96 (o_impl_yin N) := by
  intro R args H K r h
  unfold o_impl_yin at h
  dsimp only at h
  split at h
  · exact fnB_ok (ids := []) (top := []) ok (O_impl_yin_ok N) (jn_ok _ _ _) Go.Proofs.Try.func96 (by kernel_rfl) (IT := noIt) (sl := sl_impl_yin) (J := J_impl_yin) (K := K) (H := []) (noIt_ok) (by kernel_rfl) rfl ((e_impl_yin N _ _ _ K).trans h)
  · cases h
/-! ### loop.example/g00038/impl.yfits -/
abbrev sl_impl_yfits : SlotT := []
abbrev J_impl_yfits : JT := jn [(1, [(6, .b)])] [] []
noncomputable def O_impl_yfits (N : Nat) : Orc E := noFn
theorem O_impl_yfits_ok (N : Nat) : OrcOk (O_impl_yfits N) := noFn_ok
def g_impl_yfits (N : Nat) {R : Type} (n : Int) (n1 : Int) (n2 : Int) (k : Bool → Option R) : Option R :=
  (oK (cond (decide ((n1 ≥ (0 : Int))))
    (cond (decide ((n2 ≥ (0 : Int))))
      (cond (decide ((n1 ≤ n)))
        (some (decide ((n2 ≤ (Go.IntKind.wrap Go.IntKind.i64 (n - n1))))))
        (some Bool.false))
      (some Bool.false))
    (some Bool.false)) fun j =>
  (k j))
theorem e_impl_yfits (N : Nat) {R : Type} (n : Int) (n1 : Int) (n2 : Int) (K : AV → Hp E → Option R) :
    runFnI (E := E) (O_impl_yfits N) (noIt) sl_impl_yfits J_impl_yfits Go.Proofs.Try.f97 [(Go.Eng.AV.sc (Go.Eng.SV.int Go.IntKind.i64 n)), (Go.Eng.AV.sc (Go.Eng.SV.int Go.IntKind.i64 n1)), (Go.Eng.AV.sc (Go.Eng.SV.int Go.IntKind.i64 n2))] [] K =
      g_impl_yfits N n n1 n2 (fun b => K (Go.Eng.AV.sc (Go.Eng.SV.bool b)) []) := by kernel_rfl
def o_impl_yfits (N : Nat) {R : Type} (args : List AV) (H : Hp E) (K : AV → Hp E → Option R) : Option R :=
  match args, H with
  | [(Go.Eng.AV.sc (Go.Eng.SV.int Go.IntKind.i64 n)), (Go.Eng.AV.sc (Go.Eng.SV.int Go.IntKind.i64 n1)), (Go.Eng.AV.sc (Go.Eng.SV.int Go.IntKind.i64 n2))], [] => g_impl_yfits N n n1 n2 (fun b => K (Go.Eng.AV.sc (Go.Eng.SV.bool b)) [])
  | _, _ => none
theorem o_impl_yfits_ok (N : Nat) : FnOk E 97 (o_impl_yfits N) := by
  intro R args H K r h
  unfold o_impl_yfits at h
  dsimp only at h
  split at h
  · exact fnB_ok (ids := []) (top := []) ok (O_impl_yfits_ok N) (jn_ok _ _ _) Go.Proofs.Try.func97 (by kernel_rfl) (IT := noIt) (sl := sl_impl_yfits) (J := J_impl_yfits) (K := K) (H := []) (noIt_ok) (by kernel_rfl) rfl ((e_impl_yfits N _ _ _ K).trans h)
  · cases h
/-! ### loop.example/g00038/impl.ywordAt -/
abbrev sl_impl_ywordAt : SlotT := []
abbrev J_impl_ywordAt : JT := jn [] [] []
noncomputable def O_impl_ywordAt (N : Nat) : Orc E := noFn
theorem O_impl_ywordAt_ok (N : Nat) : OrcOk (O_impl_ywordAt N) := noFn_ok
def g_impl_ywordAt (N : Nat) {R : Type} (s : ByteArray) (n : Int) (k : Int → Option R) : Option R :=
  (cond ((decide (((0 : Int) ≤ n))) && (decide ((n < (((ByteArray.size s) : Nat) : Int)))))
  (cond ((decide (((0 : Int) ≤ (Go.IntKind.wrap Go.IntKind.i64 (n + (1 : Int)))))) && (decide (((Go.IntKind.wrap Go.IntKind.i64 (n + (1 : Int))) < (((ByteArray.size s) : Nat) : Int)))))
    (cond ((decide (((0 : Int) ≤ (Go.IntKind.wrap Go.IntKind.i64 (n + (2 : Int)))))) && (decide (((Go.IntKind.wrap Go.IntKind.i64 (n + (2 : Int))) < (((ByteArray.size s) : Nat) : Int)))))
      (cond ((decide (((0 : Int) ≤ (Go.IntKind.wrap Go.IntKind.i64 (n + (3 : Int)))))) && (decide (((Go.IntKind.wrap Go.IntKind.i64 (n + (3 : Int))) < (((ByteArray.size s) : Nat) : Int)))))
        (k (Go.IntKind.wrap Go.IntKind.i64 (((BitVec.toNat ((BitVec.ofInt 64 (Go.IntKind.wrap Go.IntKind.i64 (((BitVec.toNat ((BitVec.ofInt 64 (Go.IntKind.wrap Go.IntKind.i64 (((BitVec.toNat ((BitVec.ofInt 64 (Go.IntKind.wrap Go.IntKind.i64 (Go.Eng.bt s (Int.toNat n)))) ||| (BitVec.ofInt 64 (Go.IntKind.wrap Go.IntKind.i64 ((Go.IntKind.wrap Go.IntKind.i64 (Go.Eng.bt s (Int.toNat (Go.IntKind.wrap Go.IntKind.i64 (n + (1 : Int)))))) * (256 : Int)))))) : Nat) : Int))) ||| (BitVec.ofInt 64 (Go.IntKind.wrap Go.IntKind.i64 ((Go.IntKind.wrap Go.IntKind.i64 (Go.Eng.bt s (Int.toNat (Go.IntKind.wrap Go.IntKind.i64 (n + (2 : Int)))))) * (65536 : Int)))))) : Nat) : Int))) ||| (BitVec.ofInt 64 (Go.IntKind.wrap Go.IntKind.i64 ((Go.IntKind.wrap Go.IntKind.i64 (Go.Eng.bt s (Int.toNat (Go.IntKind.wrap Go.IntKind.i64 (n + (3 : Int)))))) * (16777216 : Int)))))) : Nat) : Int)))
        none)
      none)
    none)
  none)
theorem e_impl_ywordAt (N : Nat) {R : Type} (s : ByteArray) (n : Int) (K : AV → Hp E → Option R) :
    runFnI (E := E) (O_impl_ywordAt N) (noIt) sl_impl_ywordAt J_impl_ywordAt Go.Proofs.Try.f85 [(Go.Eng.AV.sc (Go.Eng.SV.str s)), (Go.Eng.AV.sc (Go.Eng.SV.int Go.IntKind.i64 n))] [] K =
      g_impl_ywordAt N s n (fun n1 => K (Go.Eng.AV.sc (Go.Eng.SV.int Go.IntKind.i64 n1)) []) := by kernel_rfl
def o_impl_ywordAt (N : Nat) {R : Type} (args : List AV) (H : Hp E) (K : AV → Hp E → Option R) : Option R :=
  match args, H with
  | [(Go.Eng.AV.sc (Go.Eng.SV.str s)), (Go.Eng.AV.sc (Go.Eng.SV.int Go.IntKind.i64 n))], [] => g_impl_ywordAt N s n (fun n1 => K (Go.Eng.AV.sc (Go.Eng.SV.int Go.IntKind.i64 n1)) [])
  | _, _ => none
theorem o_impl_ywordAt_ok (N : Nat) : FnOk E 85 (o_impl_ywordAt N) := by
  intro R args H K r h
  unfold o_impl_ywordAt at h
  dsimp only at h
  split at h
  · exact fnB_ok (ids := []) (top := []) ok (O_impl_ywordAt_ok N) (jn_ok _ _ _) Go.Proofs.Try.func85 (by kernel_rfl) (IT := noIt) (sl := sl_impl_ywordAt) (J := J_impl_ywordAt) (K := K) (H := []) (noIt_ok) (by kernel_rfl) rfl ((e_impl_ywordAt N _ _ K).trans h)
  · cases h
/-! ### loop.example/g00038/impl.Word -/
abbrev sl_impl_Word : SlotT := []
abbrev J_impl_Word : JT := jn [] [] []
noncomputable def O_impl_Word (N : Nat) : Orc E := noFn
theorem O_impl_Word_ok (N : Nat) : OrcOk (O_impl_Word N) := noFn_ok
def g_impl_Word (N : Nat) {R : Type} (n : Int) (k : Int → Option R) : Option R :=
  (k (Go.IntKind.wrap Go.IntKind.i64 (Go.IntKind.wrap Go.IntKind.u32 n)))
theorem e_impl_Word (N : Nat) {R : Type} (n : Int) (K : AV → Hp E → Option R) :
    runFnI (E := E) (O_impl_Word N) (noIt) sl_impl_Word J_impl_Word Go.Proofs.Try.f161 [(Go.Eng.AV.sc (Go.Eng.SV.int Go.IntKind.i64 n))] [] K =
      g_impl_Word N n (fun n1 => K (Go.Eng.AV.sc (Go.Eng.SV.int Go.IntKind.i64 n1)) []) := by kernel_rfl
def o_impl_Word (N : Nat) {R : Type} (args : List AV) (H : Hp E) (K : AV → Hp E → Option R) : Option R :=
  match args, H with
  | [(Go.Eng.AV.sc (Go.Eng.SV.int Go.IntKind.i64 n))], [] => g_impl_Word N n (fun n1 => K (Go.Eng.AV.sc (Go.Eng.SV.int Go.IntKind.i64 n1)) [])
  | _, _ => none
theorem o_impl_Word_ok (N : Nat) : FnOk E 161 (o_impl_Word N) := by
  intro R args H K r h
  unfold o_impl_Word at h
  dsimp only at h
  split at h
  · exact fnB_ok (ids := []) (top := []) ok (O_impl_Word_ok N) (jn_ok _ _ _) Go.Proofs.Try.func161 (by kernel_rfl) (IT := noIt) (sl := sl_impl_Word) (J := J_impl_Word) (K := K) (H := []) (noIt_ok) (by kernel_rfl) rfl ((e_impl_Word N _ K).trans h)
  · cases h
/-! ### loop.example/g00038/impl.ywordSum -/
abbrev sl_impl_ywordSum : SlotT := [(0, ([0, 3, 4], [3]))]
abbrev J_impl_ywordSum : JT := jn [] [] []
noncomputable def O_impl_ywordSum (N : Nat) : Orc E := addFn 161 (o_impl_Word N) (addFn 85 (o_impl_ywordAt N) (noFn))
theorem O_impl_ywordSum_ok (N : Nat) : OrcOk (O_impl_ywordSum N) := addFn_ok (o_impl_Word_ok N) (addFn_ok (o_impl_ywordAt_ok N) (noFn_ok))
def s_impl_ywordSum_0 (N : Nat) {R : Type} (s1 : ByteArray) (n : Int) (n1 : Int) (ag : Int → Int → Option R)  (kN : Int → Option R) : Option R :=
  (cond (decide ((n1 < (((ByteArray.size s1) : Nat) : Int))))
  (g_impl_ywordAt N s1 n1 fun n2 =>
    (ag (Go.IntKind.wrap Go.IntKind.i64 (n + n2)) (Go.IntKind.wrap Go.IntKind.i64 (n1 + (4 : Int)))))
  (kN n))
def l_impl_ywordSum_0 (N : Nat) {R : Type} (s1 : ByteArray) (kN : Int → Option R) : Nat → Int → Int → Option R
  | 0, _, _ => none
  | f + 1, n, n1 => s_impl_ywordSum_0 N s1 n n1 (fun n n1 => l_impl_ywordSum_0 N s1 kN f n n1)  kN
def c_impl_ywordSum_0 (N : Nat) {R : Type} (s1 : ByteArray) (n : Int) (n1 : Int) (kN : Int → Option R) : Option R := l_impl_ywordSum_0 N s1 kN N n n1
theorem se_impl_ywordSum_0 (N : Nat) {R : Type} (s1 : ByteArray) (n : Int) (n1 : Int) (AG : List (Option AV) → Hp E → Option R) (KL : Ex → List (Option AV) → Hp E → Option R) :
    iterStep (E := E) (O_impl_ywordSum N) (fun {R} => LI (noIt) 0 18 sl_impl_ywordSum (R := R)) J_impl_ywordSum 0 18 0 [0, 3, 4] [3] (body Go.Proofs.Try.f98 0) AG KL [(Option.some (Go.Eng.AV.sc (Go.Eng.SV.str s1))), (Option.some (Go.Eng.AV.sc (Go.Eng.SV.int Go.IntKind.i64 n))), (Option.some (Go.Eng.AV.sc (Go.Eng.SV.int Go.IntKind.i64 n1)))] [] =
      s_impl_ywordSum_0 N s1 n n1 (fun n n1 => AG [(Option.some (Go.Eng.AV.sc (Go.Eng.SV.str s1))), (Option.some (Go.Eng.AV.sc (Go.Eng.SV.int Go.IntKind.i64 n))), (Option.some (Go.Eng.AV.sc (Go.Eng.SV.int Go.IntKind.i64 n1)))] [])  (fun n6 => KL Go.Eng.Ex.normal [(Option.some (Go.Eng.AV.sc (Go.Eng.SV.int Go.IntKind.i64 n6)))] []) := by kernel_rfl
theorem le_impl_ywordSum_0 (N : Nat) {R : Type} (s1 : ByteArray) (KL : Ex → List (Option AV) → Hp E → Option R) : ∀ (f : Nat), ∀ (n : Int) (n1 : Int), iterK (E := E) (O_impl_ywordSum N) (fun {R} => LI (noIt) 0 18 sl_impl_ywordSum (R := R)) J_impl_ywordSum 0 18 0 [0, 3, 4] [3] (body Go.Proofs.Try.f98 0) f [(Option.some (Go.Eng.AV.sc (Go.Eng.SV.str s1))), (Option.some (Go.Eng.AV.sc (Go.Eng.SV.int Go.IntKind.i64 n))), (Option.some (Go.Eng.AV.sc (Go.Eng.SV.int Go.IntKind.i64 n1)))] [] KL = l_impl_ywordSum_0 N s1 (fun n6 => KL Go.Eng.Ex.normal [(Option.some (Go.Eng.AV.sc (Go.Eng.SV.int Go.IntKind.i64 n6)))] []) f n n1 := by
  intro f
  induction f with
  | zero => intros; rfl
  | succ f ih =>
    intro n n1
    rw [iterK_succ, se_impl_ywordSum_0]
    exact (congrArg (fun z0 => s_impl_ywordSum_0 N s1 n n1 z0 (fun n6 => KL Go.Eng.Ex.normal [(Option.some (Go.Eng.AV.sc (Go.Eng.SV.int Go.IntKind.i64 n6)))] [])) (funext fun n => funext fun n1 => ih n n1))
def i_impl_ywordSum_0 (N : Nat) {R : Type} (vs : List (Option AV)) (H : Hp E) (KL : Ex → List (Option AV) → Hp E → Option R) : Option R :=
  match vs, H with
  | [(Option.some (Go.Eng.AV.sc (Go.Eng.SV.str s1))), (Option.some (Go.Eng.AV.sc (Go.Eng.SV.int Go.IntKind.i64 n))), (Option.some (Go.Eng.AV.sc (Go.Eng.SV.int Go.IntKind.i64 n1)))], [] => c_impl_ywordSum_0 N s1 n n1 (fun n7 => KL Go.Eng.Ex.normal [(Option.some (Go.Eng.AV.sc (Go.Eng.SV.int Go.IntKind.i64 n7)))] [])
  | _, _ => none
noncomputable def IT_impl_ywordSum_0 (N : Nat) : Its E := addIt 0 (i_impl_ywordSum_0 N) (noIt)
theorem IT_impl_ywordSum_0_ok (N : Nat) : ItOk (IT_impl_ywordSum_0 N) 0 18 sl_impl_ywordSum (lsB Go.Proofs.Try.f98 [0]) :=
  addItB_ok (inner := []) ok (O_impl_ywordSum_ok N) (jn_ok _ _ _) (noIt_ok) rfl (by kernel_rfl) rfl fun vs H KL r h => by
    unfold i_impl_ywordSum_0 at h
    split at h
    · exact ⟨_, (le_impl_ywordSum_0 N _ KL N _ _).trans h⟩
    · cases h
def g_impl_ywordSum (N : Nat) {R : Type} (s : ByteArray) (k : Int → Option R) : Option R :=
  (c_impl_ywordSum_0 N s (0 : Int) (0 : Int) fun n3 =>
  (g_impl_Word N n3 fun n4 =>
  (k n4)))
theorem e_impl_ywordSum (N : Nat) {R : Type} (s : ByteArray) (K : AV → Hp E → Option R) :
    runFnI (E := E) (O_impl_ywordSum N) (IT_impl_ywordSum_0 N) sl_impl_ywordSum J_impl_ywordSum Go.Proofs.Try.f98 [(Go.Eng.AV.sc (Go.Eng.SV.str s))] [] K =
      g_impl_ywordSum N s (fun n5 => K (Go.Eng.AV.sc (Go.Eng.SV.int Go.IntKind.i64 n5)) []) := by kernel_rfl
def o_impl_ywordSum (N : Nat) {R : Type} (args : List AV) (H : Hp E) (K : AV → Hp E → Option R) : Option R :=
  match args, H with
  | [(Go.Eng.AV.sc (Go.Eng.SV.str s))], [] => g_impl_ywordSum N s (fun n5 => K (Go.Eng.AV.sc (Go.Eng.SV.int Go.IntKind.i64 n5)) [])
  | _, _ => none
theorem o_impl_ywordSum_ok (N : Nat) : FnOk E 98 (o_impl_ywordSum N) := by
  intro R args H K r h
  unfold o_impl_ywordSum at h
  dsimp only at h
  split at h
  · exact fnB_ok (ids := [0]) (top := [0]) ok (O_impl_ywordSum_ok N) (jn_ok _ _ _) Go.Proofs.Try.func98 (by kernel_rfl) (IT := IT_impl_ywordSum_0 N) (sl := sl_impl_ywordSum) (J := J_impl_ywordSum) (K := K) (H := []) (IT_impl_ywordSum_0_ok N) (by kernel_rfl) rfl ((e_impl_ywordSum N _ K).trans h)
  · cases h
/-! ### loop.example/g00038/impl.ytableName -/
abbrev sl_impl_ytableName : SlotT := [(0, ([0, 5, 6], [0, 2]))]
abbrev J_impl_ytableName : JT := jn [(4, [(18, .b)])] [] []
noncomputable def O_impl_ytableName (N : Nat) : Orc E := noFn
theorem O_impl_ytableName_ok (N : Nat) : OrcOk (O_impl_ytableName N) := noFn_ok
def s_impl_ytableName_0 (N : Nat) {R : Type} (s1 : ByteArray) (n : Int) (n1 : Int) (ag : Int → Option R)  (kR : Option R) (kN : Option R) : Option R :=
  (cond (decide ((n1 < n)))
  (oK (cond ((decide (((0 : Int) ≤ n1))) && (decide ((n1 < (((ByteArray.size s1) : Nat) : Int)))))
      (cond (decide (((Go.Eng.bt s1 (Int.toNat n1)) < (65 : Int))))
        (some Bool.true)
        (cond ((decide (((0 : Int) ≤ n1))) && (decide ((n1 < (((ByteArray.size s1) : Nat) : Int)))))
          (some (decide (((Go.Eng.bt s1 (Int.toNat n1)) > (90 : Int)))))
          none))
      none) fun j =>
    (cond j
    kR
    (ag (Go.IntKind.wrap Go.IntKind.i64 (n1 + (1 : Int))))))
  kN)
def l_impl_ytableName_0 (N : Nat) {R : Type} (s1 : ByteArray) (n : Int) (kR : Option R) (kN : Option R) : Nat → Int → Option R
  | 0, _ => none
  | f + 1, n1 => s_impl_ytableName_0 N s1 n n1 (fun n1 => l_impl_ytableName_0 N s1 n kR kN f n1)  kR kN
def c_impl_ytableName_0 (N : Nat) {R : Type} (s1 : ByteArray) (n : Int) (n1 : Int) (kR : Option R) (kN : Option R) : Option R := l_impl_ytableName_0 N s1 n kR kN N n1
theorem se_impl_ytableName_0 (N : Nat) {R : Type} (s1 : ByteArray) (n : Int) (n1 : Int) (AG : List (Option AV) → Hp E → Option R) (KL : Ex → List (Option AV) → Hp E → Option R) :
    iterStep (E := E) (O_impl_ytableName N) (fun {R} => LI (noIt) 0 23 sl_impl_ytableName (R := R)) J_impl_ytableName 0 23 0 [0, 5, 6] [0, 2] (body Go.Proofs.Try.f154 0) AG KL [(Option.some (Go.Eng.AV.sc (Go.Eng.SV.str s1))), (Option.some (Go.Eng.AV.sc (Go.Eng.SV.int Go.IntKind.i64 n))), (Option.some (Go.Eng.AV.sc (Go.Eng.SV.int Go.IntKind.i64 n1)))] [] =
      s_impl_ytableName_0 N s1 n n1 (fun n1 => AG [(Option.some (Go.Eng.AV.sc (Go.Eng.SV.str s1))), (Option.some (Go.Eng.AV.sc (Go.Eng.SV.int Go.IntKind.i64 n))), (Option.some (Go.Eng.AV.sc (Go.Eng.SV.int Go.IntKind.i64 n1)))] [])  (KL Go.Eng.Ex.ret [(Option.some (Go.Eng.AV.sc (Go.Eng.SV.str s1))), (Option.some (Go.Eng.AV.sc (Go.Eng.SV.bool Bool.false)))] []) (KL Go.Eng.Ex.normal [(Option.some (Go.Eng.AV.sc (Go.Eng.SV.str s1))), Option.none] []) := by kernel_rfl
theorem le_impl_ytableName_0 (N : Nat) {R : Type} (s1 : ByteArray) (n : Int) (KL : Ex → List (Option AV) → Hp E → Option R) : ∀ (f : Nat), ∀ (n1 : Int), iterK (E := E) (O_impl_ytableName N) (fun {R} => LI (noIt) 0 23 sl_impl_ytableName (R := R)) J_impl_ytableName 0 23 0 [0, 5, 6] [0, 2] (body Go.Proofs.Try.f154 0) f [(Option.some (Go.Eng.AV.sc (Go.Eng.SV.str s1))), (Option.some (Go.Eng.AV.sc (Go.Eng.SV.int Go.IntKind.i64 n))), (Option.some (Go.Eng.AV.sc (Go.Eng.SV.int Go.IntKind.i64 n1)))] [] KL = l_impl_ytableName_0 N s1 n (KL Go.Eng.Ex.ret [(Option.some (Go.Eng.AV.sc (Go.Eng.SV.str s1))), (Option.some (Go.Eng.AV.sc (Go.Eng.SV.bool Bool.false)))] []) (KL Go.Eng.Ex.normal [(Option.some (Go.Eng.AV.sc (Go.Eng.SV.str s1))), Option.none] []) f n1 := by
  intro f
  induction f with
  | zero => intros; rfl
  | succ f ih =>
    intro n1
    rw [iterK_succ, se_impl_ytableName_0]
    exact (congrArg (fun z0 => s_impl_ytableName_0 N s1 n n1 z0 (KL Go.Eng.Ex.ret [(Option.some (Go.Eng.AV.sc (Go.Eng.SV.str s1))), (Option.some (Go.Eng.AV.sc (Go.Eng.SV.bool Bool.false)))] []) (KL Go.Eng.Ex.normal [(Option.some (Go.Eng.AV.sc (Go.Eng.SV.str s1))), Option.none] [])) (funext fun n1 => ih n1))
def i_impl_ytableName_0 (N : Nat) {R : Type} (vs : List (Option AV)) (H : Hp E) (KL : Ex → List (Option AV) → Hp E → Option R) : Option R :=
  match vs, H with
  | [(Option.some (Go.Eng.AV.sc (Go.Eng.SV.str s1))), (Option.some (Go.Eng.AV.sc (Go.Eng.SV.int Go.IntKind.i64 n))), (Option.some (Go.Eng.AV.sc (Go.Eng.SV.int Go.IntKind.i64 n1)))], [] => c_impl_ytableName_0 N s1 n n1 (KL Go.Eng.Ex.ret [(Option.some (Go.Eng.AV.sc (Go.Eng.SV.str s1))), (Option.some (Go.Eng.AV.sc (Go.Eng.SV.bool Bool.false)))] []) (KL Go.Eng.Ex.normal [(Option.some (Go.Eng.AV.sc (Go.Eng.SV.str s1))), Option.none] [])
  | _, _ => none
noncomputable def IT_impl_ytableName_0 (N : Nat) : Its E := addIt 0 (i_impl_ytableName_0 N) (noIt)
theorem IT_impl_ytableName_0_ok (N : Nat) : ItOk (IT_impl_ytableName_0 N) 0 23 sl_impl_ytableName (lsB Go.Proofs.Try.f154 [0]) :=
  addItB_ok (inner := []) ok (O_impl_ytableName_ok N) (jn_ok _ _ _) (noIt_ok) rfl (by kernel_rfl) rfl fun vs H KL r h => by
    unfold i_impl_ytableName_0 at h
    split at h
    · exact ⟨_, (le_impl_ytableName_0 N _ _ KL N _).trans h⟩
    · cases h
def g_impl_ytableName (N : Nat) {R : Type} (s : ByteArray) (k : Bool → Option R) : Option R :=
  (c_impl_ytableName_0 N s (((ByteArray.size s) : Nat) : Int) (0 : Int) (
  (k Bool.false)) (
  (k ((((ByteArray.size s) : Nat) : Int) == (4 : Int)))))
theorem e_impl_ytableName (N : Nat) {R : Type} (s : ByteArray) (K : AV → Hp E → Option R) :
    runFnI (E := E) (O_impl_ytableName N) (IT_impl_ytableName_0 N) sl_impl_ytableName J_impl_ytableName Go.Proofs.Try.f154 [(Go.Eng.AV.sc (Go.Eng.SV.str s))] [] K =
      g_impl_ytableName N s (fun b => K (Go.Eng.AV.sc (Go.Eng.SV.bool b)) []) := by kernel_rfl
def o_impl_ytableName (N : Nat) {R : Type} (args : List AV) (H : Hp E) (K : AV → Hp E → Option R) : Option R :=
  match args, H with
  | [(Go.Eng.AV.sc (Go.Eng.SV.str s))], [] => g_impl_ytableName N s (fun b => K (Go.Eng.AV.sc (Go.Eng.SV.bool b)) [])
  | _, _ => none
theorem o_impl_ytableName_ok (N : Nat) : FnOk E 154 (o_impl_ytableName N) := by
  intro R args H K r h
  unfold o_impl_ytableName at h
  dsimp only at h
  split at h
  · exact fnB_ok (ids := [0]) (top := [0]) ok (O_impl_ytableName_ok N) (jn_ok _ _ _) Go.Proofs.Try.func154 (by kernel_rfl) (IT := IT_impl_ytableName_0 N) (sl := sl_impl_ytableName) (J := J_impl_ytableName) (K := K) (H := []) (IT_impl_ytableName_0_ok N) (by kernel_rfl) rfl ((e_impl_ytableName N _ K).trans h)
  · cases h
/-! ### loop.example/g00038/impl.ybyteSum -/
abbrev sl_impl_ybyteSum : SlotT := [(0, ([0, 3, 6, 7], [3]))]
abbrev J_impl_ybyteSum : JT := jn [] [] []
noncomputable def O_impl_ybyteSum (N : Nat) : Orc E := noFn
theorem O_impl_ybyteSum_ok (N : Nat) : OrcOk (O_impl_ybyteSum N) := noFn_ok
def s_impl_ybyteSum_0 (N : Nat) {R : Type} (s1 : ByteArray) (n1 : Int) (n : Int) (n2 : Int) (ag : Int → Int → Option R)  (kN : Int → Option R) : Option R :=
  (cond (decide ((n2 < n1)))
  (cond ((decide (((0 : Int) ≤ n2))) && (decide ((n2 < (((ByteArray.size s1) : Nat) : Int)))))
    (ag (Go.IntKind.wrap Go.IntKind.i64 (n + (Go.IntKind.wrap Go.IntKind.i64 (Go.Eng.bt s1 (Int.toNat n2))))) (Go.IntKind.wrap Go.IntKind.i64 (n2 + (1 : Int))))
    none)
  (kN n))
def l_impl_ybyteSum_0 (N : Nat) {R : Type} (s1 : ByteArray) (n1 : Int) (kN : Int → Option R) : Nat → Int → Int → Option R
  | 0, _, _ => none
  | f + 1, n, n2 => s_impl_ybyteSum_0 N s1 n1 n n2 (fun n n2 => l_impl_ybyteSum_0 N s1 n1 kN f n n2)  kN
def c_impl_ybyteSum_0 (N : Nat) {R : Type} (s1 : ByteArray) (n1 : Int) (n : Int) (n2 : Int) (kN : Int → Option R) : Option R := l_impl_ybyteSum_0 N s1 n1 kN N n n2
theorem se_impl_ybyteSum_0 (N : Nat) {R : Type} (s1 : ByteArray) (n1 : Int) (n : Int) (n2 : Int) (AG : List (Option AV) → Hp E → Option R) (KL : Ex → List (Option AV) → Hp E → Option R) :
    iterStep (E := E) (O_impl_ybyteSum N) (fun {R} => LI (noIt) 0 19 sl_impl_ybyteSum (R := R)) J_impl_ybyteSum 0 19 0 [0, 3, 6, 7] [3] (body Go.Proofs.Try.f107 0) AG KL [(Option.some (Go.Eng.AV.sc (Go.Eng.SV.str s1))), (Option.some (Go.Eng.AV.sc (Go.Eng.SV.int Go.IntKind.i64 n))), (Option.some (Go.Eng.AV.sc (Go.Eng.SV.int Go.IntKind.i64 n1))), (Option.some (Go.Eng.AV.sc (Go.Eng.SV.int Go.IntKind.i64 n2)))] [] =
      s_impl_ybyteSum_0 N s1 n1 n n2 (fun n n2 => AG [(Option.some (Go.Eng.AV.sc (Go.Eng.SV.str s1))), (Option.some (Go.Eng.AV.sc (Go.Eng.SV.int Go.IntKind.i64 n))), (Option.some (Go.Eng.AV.sc (Go.Eng.SV.int Go.IntKind.i64 n1))), (Option.some (Go.Eng.AV.sc (Go.Eng.SV.int Go.IntKind.i64 n2)))] [])  (fun n5 => KL Go.Eng.Ex.normal [(Option.some (Go.Eng.AV.sc (Go.Eng.SV.int Go.IntKind.i64 n5)))] []) := by kernel_rfl
theorem le_impl_ybyteSum_0 (N : Nat) {R : Type} (s1 : ByteArray) (n1 : Int) (KL : Ex → List (Option AV) → Hp E → Option R) : ∀ (f : Nat), ∀ (n : Int) (n2 : Int), iterK (E := E) (O_impl_ybyteSum N) (fun {R} => LI (noIt) 0 19 sl_impl_ybyteSum (R := R)) J_impl_ybyteSum 0 19 0 [0, 3, 6, 7] [3] (body Go.Proofs.Try.f107 0) f [(Option.some (Go.Eng.AV.sc (Go.Eng.SV.str s1))), (Option.some (Go.Eng.AV.sc (Go.Eng.SV.int Go.IntKind.i64 n))), (Option.some (Go.Eng.AV.sc (Go.Eng.SV.int Go.IntKind.i64 n1))), (Option.some (Go.Eng.AV.sc (Go.Eng.SV.int Go.IntKind.i64 n2)))] [] KL = l_impl_ybyteSum_0 N s1 n1 (fun n5 => KL Go.Eng.Ex.normal [(Option.some (Go.Eng.AV.sc (Go.Eng.SV.int Go.IntKind.i64 n5)))] []) f n n2 := by
  intro f
  induction f with
  | zero => intros; rfl
  | succ f ih =>
    intro n n2
    rw [iterK_succ, se_impl_ybyteSum_0]
    exact (congrArg (fun z0 => s_impl_ybyteSum_0 N s1 n1 n n2 z0 (fun n5 => KL Go.Eng.Ex.normal [(Option.some (Go.Eng.AV.sc (Go.Eng.SV.int Go.IntKind.i64 n5)))] [])) (funext fun n => funext fun n2 => ih n n2))
def i_impl_ybyteSum_0 (N : Nat) {R : Type} (vs : List (Option AV)) (H : Hp E) (KL : Ex → List (Option AV) → Hp E → Option R) : Option R :=
  match vs, H with
  | [(Option.some (Go.Eng.AV.sc (Go.Eng.SV.str s1))), (Option.some (Go.Eng.AV.sc (Go.Eng.SV.int Go.IntKind.i64 n))), (Option.some (Go.Eng.AV.sc (Go.Eng.SV.int Go.IntKind.i64 n1))), (Option.some (Go.Eng.AV.sc (Go.Eng.SV.int Go.IntKind.i64 n2)))], [] => c_impl_ybyteSum_0 N s1 n1 n n2 (fun n6 => KL Go.Eng.Ex.normal [(Option.some (Go.Eng.AV.sc (Go.Eng.SV.int Go.IntKind.i64 n6)))] [])
  | _, _ => none
noncomputable def IT_impl_ybyteSum_0 (N : Nat) : Its E := addIt 0 (i_impl_ybyteSum_0 N) (noIt)
theorem IT_impl_ybyteSum_0_ok (N : Nat) : ItOk (IT_impl_ybyteSum_0 N) 0 19 sl_impl_ybyteSum (lsB Go.Proofs.Try.f107 [0]) :=
  addItB_ok (inner := []) ok (O_impl_ybyteSum_ok N) (jn_ok _ _ _) (noIt_ok) rfl (by kernel_rfl) rfl fun vs H KL r h => by
    unfold i_impl_ybyteSum_0 at h
    split at h
    · exact ⟨_, (le_impl_ybyteSum_0 N _ _ KL N _ _).trans h⟩
    · cases h
def g_impl_ybyteSum (N : Nat) {R : Type} (s : ByteArray) (k : Int → Option R) : Option R :=
  (c_impl_ybyteSum_0 N s (((ByteArray.size s) : Nat) : Int) (0 : Int) (0 : Int) fun n3 =>
  (k (Go.IntKind.wrap Go.IntKind.i64 (((BitVec.toNat ((BitVec.ofInt 64 n3) &&& (BitVec.ofInt 64 (255 : Int)))) : Nat) : Int))))
theorem e_impl_ybyteSum (N : Nat) {R : Type} (s : ByteArray) (K : AV → Hp E → Option R) :
    runFnI (E := E) (O_impl_ybyteSum N) (IT_impl_ybyteSum_0 N) sl_impl_ybyteSum J_impl_ybyteSum Go.Proofs.Try.f107 [(Go.Eng.AV.sc (Go.Eng.SV.str s))] [] K =
      g_impl_ybyteSum N s (fun n4 => K (Go.Eng.AV.sc (Go.Eng.SV.int Go.IntKind.i64 n4)) []) := by kernel_rfl
def o_impl_ybyteSum (N : Nat) {R : Type} (args : List AV) (H : Hp E) (K : AV → Hp E → Option R) : Option R :=
  match args, H with
  | [(Go.Eng.AV.sc (Go.Eng.SV.str s))], [] => g_impl_ybyteSum N s (fun n4 => K (Go.Eng.AV.sc (Go.Eng.SV.int Go.IntKind.i64 n4)) [])
  | _, _ => none
theorem o_impl_ybyteSum_ok (N : Nat) : FnOk E 107 (o_impl_ybyteSum N) := by
  intro R args H K r h
  unfold o_impl_ybyteSum at h
  dsimp only at h
  split at h
  · exact fnB_ok (ids := [0]) (top := [0]) ok (O_impl_ybyteSum_ok N) (jn_ok _ _ _) Go.Proofs.Try.func107 (by kernel_rfl) (IT := IT_impl_ybyteSum_0 N) (sl := sl_impl_ybyteSum) (J := J_impl_ybyteSum) (K := K) (H := []) (IT_impl_ybyteSum_0_ok N) (by kernel_rfl) rfl ((e_impl_ybyteSum N _ K).trans h)
  · cases h
/-! ### loop.example/g00038/impl.ytableAt -/
abbrev sl_impl_ytableAt : SlotT := []
abbrev J_impl_ytableAt : JT := jn [] [] []
noncomputable def O_impl_ytableAt (N : Nat) : Orc E := addFn 107 (o_impl_ybyteSum N) (addFn 154 (o_impl_ytableName N) (addFn 85 (o_impl_ywordAt N) (addFn 97 (o_impl_yfits N) (noFn))))
theorem O_impl_ytableAt_ok (N : Nat) : OrcOk (O_impl_ytableAt N) := addFn_ok (o_impl_ybyteSum_ok N) (addFn_ok (o_impl_ytableName_ok N) (addFn_ok (o_impl_ywordAt_ok N) (addFn_ok (o_impl_yfits_ok N) (noFn_ok))))
def g_impl_ytableAt (N : Nat) {R : Type} (s : ByteArray) (n : Int) (k : ByteArray → Int → ByteArray → Int → Option R) : Option R :=
  (cond ((Int.tmod n (4 : Int)) != (0 : Int))
  (k (ByteArray.mk (List.toArray [])) (0 : Int) (ByteArray.mk (List.toArray [])) (5 : Int))
  (g_impl_yfits N (((ByteArray.size s) : Nat) : Int) n (8 : Int) fun b =>
    (cond (!b)
    (k (ByteArray.mk (List.toArray [])) (0 : Int) (ByteArray.mk (List.toArray [])) (5 : Int))
    (cond (((decide (((0 : Int) ≤ n))) && (decide ((n ≤ (Go.IntKind.wrap Go.IntKind.i64 (n + (4 : Int))))))) && (decide (((Go.IntKind.wrap Go.IntKind.i64 (n + (4 : Int))) ≤ (((ByteArray.size s) : Nat) : Int)))))
      (g_impl_ywordAt N s (Go.IntKind.wrap Go.IntKind.i64 (n + (4 : Int))) fun n1 =>
        (g_impl_ywordAt N s (Go.IntKind.wrap Go.IntKind.i64 (n + (4 : Int))) fun n2 =>
        (g_impl_ytableName N (ByteArray.extract s (Int.toNat n) (Int.toNat (Go.IntKind.wrap Go.IntKind.i64 (n + (4 : Int))))) fun b1 =>
        (cond (!b1)
        (k (ByteArray.mk (List.toArray [])) (0 : Int) (ByteArray.mk (List.toArray [])) (3 : Int))
        (cond (decide (((Int.fdiv n1 (65536 : Int)) < (8 : Int))))
          (k (ByteArray.mk (List.toArray [])) (0 : Int) (ByteArray.mk (List.toArray [])) (3 : Int))
          (cond (decide (((Int.fdiv n1 (65536 : Int)) > (208 : Int))))
            (k (ByteArray.mk (List.toArray [])) (0 : Int) (ByteArray.mk (List.toArray [])) (3 : Int))
            (cond ((Int.tmod (Int.fdiv n1 (65536 : Int)) (4 : Int)) != (0 : Int))
              (k (ByteArray.mk (List.toArray [])) (0 : Int) (ByteArray.mk (List.toArray [])) (3 : Int))
              (g_impl_yfits N (((ByteArray.size s) : Nat) : Int) n (Int.fdiv n1 (65536 : Int)) fun b2 =>
                (cond (!b2)
                (k (ByteArray.mk (List.toArray [])) (0 : Int) (ByteArray.mk (List.toArray [])) (5 : Int))
                (cond (((decide (((0 : Int) ≤ n))) && (decide ((n ≤ (Go.IntKind.wrap Go.IntKind.i64 (n + (Int.fdiv n1 (65536 : Int)))))))) && (decide (((Go.IntKind.wrap Go.IntKind.i64 (n + (Int.fdiv n1 (65536 : Int)))) ≤ (((ByteArray.size s) : Nat) : Int)))))
                  (g_impl_ybyteSum N (ByteArray.extract s (Int.toNat n) (Int.toNat (Go.IntKind.wrap Go.IntKind.i64 (n + (Int.fdiv n1 (65536 : Int)))))) fun n3 =>
                    (cond (n3 != (0 : Int))
                    (k (ByteArray.mk (List.toArray [])) (0 : Int) (ByteArray.mk (List.toArray [])) (10 : Int))
                    (cond (((decide (((0 : Int) ≤ (Go.IntKind.wrap Go.IntKind.i64 (n + (8 : Int)))))) && (decide (((Go.IntKind.wrap Go.IntKind.i64 (n + (8 : Int))) ≤ (Go.IntKind.wrap Go.IntKind.i64 (n + (Int.fdiv n1 (65536 : Int)))))))) && (decide (((Go.IntKind.wrap Go.IntKind.i64 (n + (Int.fdiv n1 (65536 : Int)))) ≤ (((ByteArray.size s) : Nat) : Int)))))
                      (k (ByteArray.extract s (Int.toNat n) (Int.toNat (Go.IntKind.wrap Go.IntKind.i64 (n + (4 : Int))))) (Go.IntKind.wrap Go.IntKind.i64 (((BitVec.toNat ((BitVec.ofInt 64 (Int.fdiv n2 (256 : Int))) &&& (BitVec.ofInt 64 (255 : Int)))) : Nat) : Int)) (ByteArray.extract s (Int.toNat (Go.IntKind.wrap Go.IntKind.i64 (n + (8 : Int)))) (Int.toNat (Go.IntKind.wrap Go.IntKind.i64 (n + (Int.fdiv n1 (65536 : Int)))))) (0 : Int))
                      none)))
                  none))))))))))
      none))))
theorem e_impl_ytableAt (N : Nat) {R : Type} (s : ByteArray) (n : Int) (K : AV → Hp E → Option R) :
    runFnI (E := E) (O_impl_ytableAt N) (noIt) sl_impl_ytableAt J_impl_ytableAt Go.Proofs.Try.f99 [(Go.Eng.AV.sc (Go.Eng.SV.str s)), (Go.Eng.AV.sc (Go.Eng.SV.int Go.IntKind.i64 n))] [] K =
      g_impl_ytableAt N s n (fun s1 n4 s2 n5 => K (Go.Eng.AV.tup [(Bool.true, [(Go.Eng.SV.str s1), (Go.Eng.SV.int Go.IntKind.i64 n4), (Go.Eng.SV.str s2)]), (Bool.false, [(Go.Eng.SV.int Go.IntKind.i64 n5)])]) []) := by kernel_rfl
def o_impl_ytableAt (N : Nat) {R : Type} (args : List AV) (H : Hp E) (K : AV → Hp E → Option R) : Option R :=
  match args, H with
  | [(Go.Eng.AV.sc (Go.Eng.SV.str s)), (Go.Eng.AV.sc (Go.Eng.SV.int Go.IntKind.i64 n))], [] => g_impl_ytableAt N s n (fun s1 n4 s2 n5 => K (Go.Eng.AV.tup [(Bool.true, [(Go.Eng.SV.str s1), (Go.Eng.SV.int Go.IntKind.i64 n4), (Go.Eng.SV.str s2)]), (Bool.false, [(Go.Eng.SV.int Go.IntKind.i64 n5)])]) [])
  | _, _ => none
theorem o_impl_ytableAt_ok (N : Nat) : FnOk E 99 (o_impl_ytableAt N) := by
  intro R args H K r h
  unfold o_impl_ytableAt at h
  dsimp only at h
  split at h
  · exact fnB_ok (ids := []) (top := []) ok (O_impl_ytableAt_ok N) (jn_ok _ _ _) Go.Proofs.Try.func99 (by kernel_rfl) (IT := noIt) (sl := sl_impl_ytableAt) (J := J_impl_ytableAt) (K := K) (H := []) (noIt_ok) (by kernel_rfl) rfl ((e_impl_ytableAt N _ _ K).trans h)
  · cases h
/-! ### loop.example/g00038/impl.ReadTables -/
abbrev sl_impl_ReadTables : SlotT := [(0, ([0, 1, 4, 6, 74, 75], [4, 6]))]
abbrev J_impl_ReadTables : JT := jn [(3, [(29, .b)]), (5, [(43, .b)]), (8, [(60, .b)])] [] []
noncomputable def O_impl_ReadTables (N : Nat) : Orc E := addFn 99 (o_impl_ytableAt N) (addFn 98 (o_impl_ywordSum N) (addFn 85 (o_impl_ywordAt N) (addFn 97 (o_impl_yfits N) (addFn 96 (o_impl_yin N) (addFn 68 (o_impl_ymemOk N) (addFn 76 (o_impl_ybig_w N) (noFn)))))))
theorem O_impl_ReadTables_ok (N : Nat) : OrcOk (O_impl_ReadTables N) := addFn_ok (o_impl_ytableAt_ok N) (addFn_ok (o_impl_ywordSum_ok N) (addFn_ok (o_impl_ywordAt_ok N) (addFn_ok (o_impl_yfits_ok N) (addFn_ok (o_impl_yin_ok N) (addFn_ok (o_impl_ymemOk_ok N) (addFn_ok (o_impl_ybig_w_ok N) (noFn_ok)))))))
def s_impl_ReadTables_0 (N : Nat) {R : Type} (s1 : ByteArray) (n3 : Int) (n4 : Int) (n6 : Int) (b5 : Bool) (l : List Go.Sa.FirmTable) (n7 : Int) (n5 : Int) (b6 : Bool) (l1 : List Go.Sa.FirmTable) (ag : Int → Bool → (List Go.Sa.FirmTable) → Option R)  (kR : Int → Bool → (List Go.Sa.FirmTable) → Option R) (kN : Bool → (List Go.Sa.FirmTable) → Option R) : Option R :=
  (cond (decide ((n5 < n4)))
  (g_impl_ywordAt N s1 (Go.IntKind.wrap Go.IntKind.i64 ((Go.IntKind.wrap Go.IntKind.i64 (n3 + (8 : Int))) + (Go.IntKind.wrap Go.IntKind.i64 ((4 : Int) * n5)))) fun n8 =>
    (g_impl_ytableAt N s1 n8 fun s2 n9 s3 n10 =>
    (cond (n10 != (0 : Int))
    (kR n10 b6 l1)
    (cond (Go.Eng.roomOk ((List.length l1) + (List.length [(Go.Sa.FirmTable.mk s2 n9 s3)])) 40)
      (ag (Go.IntKind.wrap Go.IntKind.i64 (n5 + (1 : Int))) (cond (Nat.beq (List.length [(Go.Sa.FirmTable.mk s2 n9 s3)]) 0) b6 Bool.false) (l1 ++ [(Go.Sa.FirmTable.mk s2 n9 s3)]))
      none))))
  (kN b6 l1))
def l_impl_ReadTables_0 (N : Nat) {R : Type} (s1 : ByteArray) (n3 : Int) (n4 : Int) (n6 : Int) (b5 : Bool) (l : List Go.Sa.FirmTable) (n7 : Int) (kR : Int → Bool → (List Go.Sa.FirmTable) → Option R) (kN : Bool → (List Go.Sa.FirmTable) → Option R) : Nat → Int → Bool → (List Go.Sa.FirmTable) → Option R
  | 0, _, _, _ => none
  | f + 1, n5, b6, l1 => s_impl_ReadTables_0 N s1 n3 n4 n6 b5 l n7 n5 b6 l1 (fun n5 b6 l1 => l_impl_ReadTables_0 N s1 n3 n4 n6 b5 l n7 kR kN f n5 b6 l1)  kR kN
def c_impl_ReadTables_0 (N : Nat) {R : Type} (s1 : ByteArray) (n3 : Int) (n4 : Int) (n6 : Int) (b5 : Bool) (l : List Go.Sa.FirmTable) (n7 : Int) (n5 : Int) (b6 : Bool) (l1 : List Go.Sa.FirmTable) (kR : Int → Bool → (List Go.Sa.FirmTable) → Option R) (kN : Bool → (List Go.Sa.FirmTable) → Option R) : Option R := l_impl_ReadTables_0 N s1 n3 n4 n6 b5 l n7 kR kN N n5 b6 l1
theorem se_impl_ReadTables_0 (N : Nat) {R : Type} (s1 : ByteArray) (n3 : Int) (n4 : Int) (n6 : Int) (b5 : Bool) (l : List Go.Sa.FirmTable) (n7 : Int) (n5 : Int) (b6 : Bool) (l1 : List Go.Sa.FirmTable) (AG : List (Option AV) → Hp E → Option R) (KL : Ex → List (Option AV) → Hp E → Option R) :
    iterStep (E := E) (O_impl_ReadTables N) (fun {R} => LI (noIt) 0 102 sl_impl_ReadTables (R := R)) J_impl_ReadTables 0 102 0 [0, 1, 4, 6, 74, 75] [4, 6] (body Go.Proofs.Try.f35 0) AG KL [(Option.some (Go.Eng.AV.sc (Go.Eng.SV.str s1))), (Option.some (Go.Eng.AV.sc (Go.Eng.SV.int Go.IntKind.i64 n3))), (Option.some (Go.Eng.AV.sc (Go.Eng.SV.ptr 0 0 0))), (Option.some (Go.Eng.AV.sc (Go.Eng.SV.ptr 2 0 0))), (Option.some (Go.Eng.AV.sc (Go.Eng.SV.int Go.IntKind.i64 n4))), (Option.some (Go.Eng.AV.sc (Go.Eng.SV.int Go.IntKind.i64 n5)))] [(Option.some (Go.Eng.HE.mk Bool.false (Go.Eng.HB.exp Option.none [(Go.Eng.SV.int Go.IntKind.i64 n6), (Go.Eng.SV.slc 1 Option.none b5)]))), (Option.some (Go.Eng.HE.mk Bool.false (Go.Eng.HB.rows (Go.Sa.B.iFirmTable l)))), (Option.some (Go.Eng.HE.mk Bool.false (Go.Eng.HB.exp Option.none [(Go.Eng.SV.int Go.IntKind.i64 n7), (Go.Eng.SV.slc 3 Option.none b6)]))), (Option.some (Go.Eng.HE.mk Bool.false (Go.Eng.HB.rows (Go.Sa.B.iFirmTable l1))))] =
      s_impl_ReadTables_0 N s1 n3 n4 n6 b5 l n7 n5 b6 l1 (fun n5 b6 l1 => AG [(Option.some (Go.Eng.AV.sc (Go.Eng.SV.str s1))), (Option.some (Go.Eng.AV.sc (Go.Eng.SV.int Go.IntKind.i64 n3))), (Option.some (Go.Eng.AV.sc (Go.Eng.SV.ptr 0 0 0))), (Option.some (Go.Eng.AV.sc (Go.Eng.SV.ptr 2 0 0))), (Option.some (Go.Eng.AV.sc (Go.Eng.SV.int Go.IntKind.i64 n4))), (Option.some (Go.Eng.AV.sc (Go.Eng.SV.int Go.IntKind.i64 n5)))] [(Option.some (Go.Eng.HE.mk Bool.false (Go.Eng.HB.exp Option.none [(Go.Eng.SV.int Go.IntKind.i64 n6), (Go.Eng.SV.slc 1 Option.none b5)]))), (Option.some (Go.Eng.HE.mk Bool.false (Go.Eng.HB.rows (Go.Sa.B.iFirmTable l)))), (Option.some (Go.Eng.HE.mk Bool.false (Go.Eng.HB.exp Option.none [(Go.Eng.SV.int Go.IntKind.i64 n7), (Go.Eng.SV.slc 3 Option.none b6)]))), (Option.some (Go.Eng.HE.mk Bool.false (Go.Eng.HB.rows (Go.Sa.B.iFirmTable l1))))])  (fun n13 b10 l5 => KL Go.Eng.Ex.ret [(Option.some (Go.Eng.AV.sc (Go.Eng.SV.ptr 0 0 0))), (Option.some (Go.Eng.AV.sc (Go.Eng.SV.ptr 2 0 0)))] [(Option.some (Go.Eng.HE.mk Bool.false (Go.Eng.HB.exp Option.none [(Go.Eng.SV.int Go.IntKind.i64 n13), (Go.Eng.SV.slc 1 Option.none Bool.true)]))), (Option.some (Go.Eng.HE.mk Bool.false (Go.Eng.HB.rows (Go.Sa.B.iFirmTable [])))), (Option.some (Go.Eng.HE.mk Bool.false (Go.Eng.HB.exp Option.none [(Go.Eng.SV.int Go.IntKind.i64 n7), (Go.Eng.SV.slc 3 Option.none b10)]))), (Option.some (Go.Eng.HE.mk Bool.false (Go.Eng.HB.rows (Go.Sa.B.iFirmTable l5))))]) (fun b11 l6 => KL Go.Eng.Ex.normal [(Option.some (Go.Eng.AV.sc (Go.Eng.SV.ptr 0 0 0))), (Option.some (Go.Eng.AV.sc (Go.Eng.SV.ptr 2 0 0)))] [(Option.some (Go.Eng.HE.mk Bool.false (Go.Eng.HB.exp Option.none [(Go.Eng.SV.int Go.IntKind.i64 n6), (Go.Eng.SV.slc 1 Option.none b5)]))), (Option.some (Go.Eng.HE.mk Bool.false (Go.Eng.HB.rows (Go.Sa.B.iFirmTable l)))), (Option.some (Go.Eng.HE.mk Bool.false (Go.Eng.HB.exp Option.none [(Go.Eng.SV.int Go.IntKind.i64 n7), (Go.Eng.SV.slc 3 Option.none b11)]))), (Option.some (Go.Eng.HE.mk Bool.false (Go.Eng.HB.rows (Go.Sa.B.iFirmTable l6))))]) := by kernel_rfl
theorem le_impl_ReadTables_0 (N : Nat) {R : Type} (s1 : ByteArray) (n3 : Int) (n4 : Int) (n6 : Int) (b5 : Bool) (l : List Go.Sa.FirmTable) (n7 : Int) (KL : Ex → List (Option AV) → Hp E → Option R) : ∀ (f : Nat), ∀ (n5 : Int) (b6 : Bool) (l1 : List Go.Sa.FirmTable), iterK (E := E) (O_impl_ReadTables N) (fun {R} => LI (noIt) 0 102 sl_impl_ReadTables (R := R)) J_impl_ReadTables 0 102 0 [0, 1, 4, 6, 74, 75] [4, 6] (body Go.Proofs.Try.f35 0) f [(Option.some (Go.Eng.AV.sc (Go.Eng.SV.str s1))), (Option.some (Go.Eng.AV.sc (Go.Eng.SV.int Go.IntKind.i64 n3))), (Option.some (Go.Eng.AV.sc (Go.Eng.SV.ptr 0 0 0))), (Option.some (Go.Eng.AV.sc (Go.Eng.SV.ptr 2 0 0))), (Option.some (Go.Eng.AV.sc (Go.Eng.SV.int Go.IntKind.i64 n4))), (Option.some (Go.Eng.AV.sc (Go.Eng.SV.int Go.IntKind.i64 n5)))] [(Option.some (Go.Eng.HE.mk Bool.false (Go.Eng.HB.exp Option.none [(Go.Eng.SV.int Go.IntKind.i64 n6), (Go.Eng.SV.slc 1 Option.none b5)]))), (Option.some (Go.Eng.HE.mk Bool.false (Go.Eng.HB.rows (Go.Sa.B.iFirmTable l)))), (Option.some (Go.Eng.HE.mk Bool.false (Go.Eng.HB.exp Option.none [(Go.Eng.SV.int Go.IntKind.i64 n7), (Go.Eng.SV.slc 3 Option.none b6)]))), (Option.some (Go.Eng.HE.mk Bool.false (Go.Eng.HB.rows (Go.Sa.B.iFirmTable l1))))] KL = l_impl_ReadTables_0 N s1 n3 n4 n6 b5 l n7 (fun n13 b10 l5 => KL Go.Eng.Ex.ret [(Option.some (Go.Eng.AV.sc (Go.Eng.SV.ptr 0 0 0))), (Option.some (Go.Eng.AV.sc (Go.Eng.SV.ptr 2 0 0)))] [(Option.some (Go.Eng.HE.mk Bool.false (Go.Eng.HB.exp Option.none [(Go.Eng.SV.int Go.IntKind.i64 n13), (Go.Eng.SV.slc 1 Option.none Bool.true)]))), (Option.some (Go.Eng.HE.mk Bool.false (Go.Eng.HB.rows (Go.Sa.B.iFirmTable [])))), (Option.some (Go.Eng.HE.mk Bool.false (Go.Eng.HB.exp Option.none [(Go.Eng.SV.int Go.IntKind.i64 n7), (Go.Eng.SV.slc 3 Option.none b10)]))), (Option.some (Go.Eng.HE.mk Bool.false (Go.Eng.HB.rows (Go.Sa.B.iFirmTable l5))))]) (fun b11 l6 => KL Go.Eng.Ex.normal [(Option.some (Go.Eng.AV.sc (Go.Eng.SV.ptr 0 0 0))), (Option.some (Go.Eng.AV.sc (Go.Eng.SV.ptr 2 0 0)))] [(Option.some (Go.Eng.HE.mk Bool.false (Go.Eng.HB.exp Option.none [(Go.Eng.SV.int Go.IntKind.i64 n6), (Go.Eng.SV.slc 1 Option.none b5)]))), (Option.some (Go.Eng.HE.mk Bool.false (Go.Eng.HB.rows (Go.Sa.B.iFirmTable l)))), (Option.some (Go.Eng.HE.mk Bool.false (Go.Eng.HB.exp Option.none [(Go.Eng.SV.int Go.IntKind.i64 n7), (Go.Eng.SV.slc 3 Option.none b11)]))), (Option.some (Go.Eng.HE.mk Bool.false (Go.Eng.HB.rows (Go.Sa.B.iFirmTable l6))))]) f n5 b6 l1 := by
  intro f
  induction f with
  | zero => intros; rfl
  | succ f ih =>
    intro n5 b6 l1
    rw [iterK_succ, se_impl_ReadTables_0]
    exact (congrArg (fun z0 => s_impl_ReadTables_0 N s1 n3 n4 n6 b5 l n7 n5 b6 l1 z0 (fun n13 b10 l5 => KL Go.Eng.Ex.ret [(Option.some (Go.Eng.AV.sc (Go.Eng.SV.ptr 0 0 0))), (Option.some (Go.Eng.AV.sc (Go.Eng.SV.ptr 2 0 0)))] [(Option.some (Go.Eng.HE.mk Bool.false (Go.Eng.HB.exp Option.none [(Go.Eng.SV.int Go.IntKind.i64 n13), (Go.Eng.SV.slc 1 Option.none Bool.true)]))), (Option.some (Go.Eng.HE.mk Bool.false (Go.Eng.HB.rows (Go.Sa.B.iFirmTable [])))), (Option.some (Go.Eng.HE.mk Bool.false (Go.Eng.HB.exp Option.none [(Go.Eng.SV.int Go.IntKind.i64 n7), (Go.Eng.SV.slc 3 Option.none b10)]))), (Option.some (Go.Eng.HE.mk Bool.false (Go.Eng.HB.rows (Go.Sa.B.iFirmTable l5))))]) (fun b11 l6 => KL Go.Eng.Ex.normal [(Option.some (Go.Eng.AV.sc (Go.Eng.SV.ptr 0 0 0))), (Option.some (Go.Eng.AV.sc (Go.Eng.SV.ptr 2 0 0)))] [(Option.some (Go.Eng.HE.mk Bool.false (Go.Eng.HB.exp Option.none [(Go.Eng.SV.int Go.IntKind.i64 n6), (Go.Eng.SV.slc 1 Option.none b5)]))), (Option.some (Go.Eng.HE.mk Bool.false (Go.Eng.HB.rows (Go.Sa.B.iFirmTable l)))), (Option.some (Go.Eng.HE.mk Bool.false (Go.Eng.HB.exp Option.none [(Go.Eng.SV.int Go.IntKind.i64 n7), (Go.Eng.SV.slc 3 Option.none b11)]))), (Option.some (Go.Eng.HE.mk Bool.false (Go.Eng.HB.rows (Go.Sa.B.iFirmTable l6))))])) (funext fun n5 => funext fun b6 => funext fun l1 => ih n5 b6 l1))
def i_impl_ReadTables_0 (N : Nat) {R : Type} (vs : List (Option AV)) (H : Hp E) (KL : Ex → List (Option AV) → Hp E → Option R) : Option R :=
  match vs, H with
  | [(Option.some (Go.Eng.AV.sc (Go.Eng.SV.str s1))), (Option.some (Go.Eng.AV.sc (Go.Eng.SV.int Go.IntKind.i64 n3))), (Option.some (Go.Eng.AV.sc (Go.Eng.SV.ptr 0 0 0))), (Option.some (Go.Eng.AV.sc (Go.Eng.SV.ptr 2 0 0))), (Option.some (Go.Eng.AV.sc (Go.Eng.SV.int Go.IntKind.i64 n4))), (Option.some (Go.Eng.AV.sc (Go.Eng.SV.int Go.IntKind.i64 n5)))], [(Option.some (Go.Eng.HE.mk Bool.false (Go.Eng.HB.exp Option.none [(Go.Eng.SV.int Go.IntKind.i64 n6), (Go.Eng.SV.slc 1 Option.none b5)]))), (Option.some (Go.Eng.HE.mk Bool.false (Go.Eng.HB.rows (Go.Sa.B.iFirmTable l)))), (Option.some (Go.Eng.HE.mk Bool.false (Go.Eng.HB.exp Option.none [(Go.Eng.SV.int Go.IntKind.i64 n7), (Go.Eng.SV.slc 3 Option.none b6)]))), (Option.some (Go.Eng.HE.mk Bool.false (Go.Eng.HB.rows (Go.Sa.B.iFirmTable l1))))] => c_impl_ReadTables_0 N s1 n3 n4 n6 b5 l n7 n5 b6 l1 (fun n14 b12 l7 => KL Go.Eng.Ex.ret [(Option.some (Go.Eng.AV.sc (Go.Eng.SV.ptr 0 0 0))), (Option.some (Go.Eng.AV.sc (Go.Eng.SV.ptr 2 0 0)))] [(Option.some (Go.Eng.HE.mk Bool.false (Go.Eng.HB.exp Option.none [(Go.Eng.SV.int Go.IntKind.i64 n14), (Go.Eng.SV.slc 1 Option.none Bool.true)]))), (Option.some (Go.Eng.HE.mk Bool.false (Go.Eng.HB.rows (Go.Sa.B.iFirmTable [])))), (Option.some (Go.Eng.HE.mk Bool.false (Go.Eng.HB.exp Option.none [(Go.Eng.SV.int Go.IntKind.i64 n7), (Go.Eng.SV.slc 3 Option.none b12)]))), (Option.some (Go.Eng.HE.mk Bool.false (Go.Eng.HB.rows (Go.Sa.B.iFirmTable l7))))]) (fun b13 l8 => KL Go.Eng.Ex.normal [(Option.some (Go.Eng.AV.sc (Go.Eng.SV.ptr 0 0 0))), (Option.some (Go.Eng.AV.sc (Go.Eng.SV.ptr 2 0 0)))] [(Option.some (Go.Eng.HE.mk Bool.false (Go.Eng.HB.exp Option.none [(Go.Eng.SV.int Go.IntKind.i64 n6), (Go.Eng.SV.slc 1 Option.none b5)]))), (Option.some (Go.Eng.HE.mk Bool.false (Go.Eng.HB.rows (Go.Sa.B.iFirmTable l)))), (Option.some (Go.Eng.HE.mk Bool.false (Go.Eng.HB.exp Option.none [(Go.Eng.SV.int Go.IntKind.i64 n7), (Go.Eng.SV.slc 3 Option.none b13)]))), (Option.some (Go.Eng.HE.mk Bool.false (Go.Eng.HB.rows (Go.Sa.B.iFirmTable l8))))])
  | _, _ => none
noncomputable def IT_impl_ReadTables_0 (N : Nat) : Its E := addIt 0 (i_impl_ReadTables_0 N) (noIt)
theorem IT_impl_ReadTables_0_ok (N : Nat) : ItOk (IT_impl_ReadTables_0 N) 0 102 sl_impl_ReadTables (lsB Go.Proofs.Try.f35 [0]) :=
  addItB_ok (inner := []) ok (O_impl_ReadTables_ok N) (jn_ok _ _ _) (noIt_ok) rfl (by kernel_rfl) rfl fun vs H KL r h => by
    unfold i_impl_ReadTables_0 at h
    split at h
    · exact ⟨_, (le_impl_ReadTables_0 N _ _ _ _ _ _ _ KL N _ _ _).trans h⟩
    · cases h
def g_impl_ReadTables (N : Nat) {R : Type} (s : ByteArray) (n : Int) (k : Int → Bool → (List Go.Sa.FirmTable) → Option R) : Option R :=
  (g_impl_ybig_w N Bool.false [s] fun b =>
  (cond b
  (k (2 : Int) Bool.true [])
  (oK (g_impl_ymemOk N s fun b1 =>
      (cond (!b1)
      (some Bool.true)
      (cond ((Int.tmod n (4 : Int)) != (0 : Int))
        (some Bool.true)
        (g_impl_yin N n (0 : Int) (Go.IntKind.wrap Go.IntKind.i64 ((((ByteArray.size s) : Nat) : Int) - (1 : Int))) fun b2 =>
          (some (!b2)))))) fun j =>
    (cond j
    (k (1 : Int) Bool.true [])
    (oK (cond (((decide (((0 : Int) ≤ n))) && (decide ((n ≤ (Go.IntKind.wrap Go.IntKind.i64 (n + (4 : Int))))))) && (decide (((Go.IntKind.wrap Go.IntKind.i64 (n + (4 : Int))) ≤ (((ByteArray.size s) : Nat) : Int)))))
        (cond (!(decide (((ByteArray.extract s (Int.toNat n) (Int.toNat (Go.IntKind.wrap Go.IntKind.i64 (n + (4 : Int))))) = (ByteArray.mk (List.toArray [(70 : UInt8), (73 : UInt8), (82 : UInt8), (77 : UInt8)]))))))
          (some Bool.true)
          (g_impl_yfits N (((ByteArray.size s) : Nat) : Int) n (8 : Int) fun b3 =>
            (some (!b3))))
        none) fun j1 =>
      (cond j1
      (k (3 : Int) Bool.true [])
      (g_impl_ywordAt N s (Go.IntKind.wrap Go.IntKind.i64 (n + (4 : Int))) fun n1 =>
        (oK (cond (decide ((n1 > (10 : Int))))
          (some Bool.true)
          (g_impl_yfits N (((ByteArray.size s) : Nat) : Int) n (Go.IntKind.wrap Go.IntKind.i64 ((12 : Int) + (Go.IntKind.wrap Go.IntKind.i64 ((4 : Int) * n1)))) fun b4 =>
            (some (!b4)))) fun j2 =>
        (cond j2
        (k (3 : Int) Bool.true [])
        (cond (((decide (((0 : Int) ≤ n))) && (decide ((n ≤ (Go.IntKind.wrap Go.IntKind.i64 ((Go.IntKind.wrap Go.IntKind.i64 (n + (12 : Int))) + (Go.IntKind.wrap Go.IntKind.i64 ((4 : Int) * n1)))))))) && (decide (((Go.IntKind.wrap Go.IntKind.i64 ((Go.IntKind.wrap Go.IntKind.i64 (n + (12 : Int))) + (Go.IntKind.wrap Go.IntKind.i64 ((4 : Int) * n1)))) ≤ (((ByteArray.size s) : Nat) : Int)))))
          (g_impl_ywordSum N (ByteArray.extract s (Int.toNat n) (Int.toNat (Go.IntKind.wrap Go.IntKind.i64 ((Go.IntKind.wrap Go.IntKind.i64 (n + (12 : Int))) + (Go.IntKind.wrap Go.IntKind.i64 ((4 : Int) * n1)))))) fun n2 =>
            (cond (n2 != (0 : Int))
            (k (10 : Int) Bool.true [])
            (c_impl_ReadTables_0 N s n n1 (0 : Int) Bool.true [] (0 : Int) (0 : Int) Bool.true [] (fun n11 b7 l2 =>
              (k n11 Bool.true [])) (fun b8 l3 =>
              (k (0 : Int) b8 l3)))))
          none))))))))))
theorem e_impl_ReadTables (N : Nat) {R : Type} (s : ByteArray) (n : Int) (K : AV → Hp E → Option R) :
    runFnI (E := E) (O_impl_ReadTables N) (IT_impl_ReadTables_0 N) sl_impl_ReadTables J_impl_ReadTables Go.Proofs.Try.f35 [(Go.Eng.AV.sc (Go.Eng.SV.str s)), (Go.Eng.AV.sc (Go.Eng.SV.int Go.IntKind.i64 n))] [] K =
      g_impl_ReadTables N s n (fun n12 b9 l4 => K (Go.Eng.AV.agg [(Go.Eng.SV.int Go.IntKind.i64 n12), (Go.Eng.SV.slc 0 Option.none b9)]) [(Option.some (Go.Eng.HE.mk Bool.false (Go.Eng.HB.rows (Go.Sa.B.iFirmTable l4))))]) := by kernel_rfl
def o_impl_ReadTables (N : Nat) {R : Type} (args : List AV) (H : Hp E) (K : AV → Hp E → Option R) : Option R :=
  match args, H with
  | [(Go.Eng.AV.sc (Go.Eng.SV.str s)), (Go.Eng.AV.sc (Go.Eng.SV.int Go.IntKind.i64 n))], [] => g_impl_ReadTables N s n (fun n12 b9 l4 => K (Go.Eng.AV.agg [(Go.Eng.SV.int Go.IntKind.i64 n12), (Go.Eng.SV.slc 0 Option.none b9)]) [(Option.some (Go.Eng.HE.mk Bool.false (Go.Eng.HB.rows (Go.Sa.B.iFirmTable l4))))])
  | _, _ => none
theorem o_impl_ReadTables_ok (N : Nat) : FnOk E 35 (o_impl_ReadTables N) := by
  intro R args H K r h
  unfold o_impl_ReadTables at h
  dsimp only at h
  split at h
  · exact fnB_ok (ids := [0]) (top := [0]) ok (O_impl_ReadTables_ok N) (jn_ok _ _ _) Go.Proofs.Try.func35 (by kernel_rfl) (IT := IT_impl_ReadTables_0 N) (sl := sl_impl_ReadTables) (J := J_impl_ReadTables) (K := K) (H := []) (IT_impl_ReadTables_0_ok N) (by kernel_rfl) rfl ((e_impl_ReadTables N _ _ K).trans h)
  · cases h
/-! ### loop.example/g00038/laws.eqFirmTable -/
abbrev sl_laws_eqFirmTable : SlotT := []
abbrev J_laws_eqFirmTable : JT := jn [] [] []
noncomputable def O_laws_eqFirmTable (N : Nat) : Orc E := noFn
theorem O_laws_eqFirmTable_ok (N : Nat) : OrcOk (O_laws_eqFirmTable N) := noFn_ok
def g_laws_eqFirmTable (N : Nat) {R : Type} (s : ByteArray) (n : Int) (s1 : ByteArray) (s2 : ByteArray) (n1 : Int) (s3 : ByteArray) (k : Bool → Option R) : Option R :=
  (cond (!(decide ((s = s2))))
  (k Bool.false)
  (cond (n != n1)
    (k Bool.false)
    (cond (!(decide ((s1 = s3))))
      (k Bool.false)
      (k Bool.true))))
theorem e_laws_eqFirmTable (N : Nat) {R : Type} (s : ByteArray) (n : Int) (s1 : ByteArray) (s2 : ByteArray) (n1 : Int) (s3 : ByteArray) (K : AV → Hp E → Option R) :
    runFnI (E := E) (O_laws_eqFirmTable N) (noIt) sl_laws_eqFirmTable J_laws_eqFirmTable Go.Proofs.Try.f88 [(Go.Eng.AV.agg [(Go.Eng.SV.str s), (Go.Eng.SV.int Go.IntKind.i64 n), (Go.Eng.SV.str s1)]), (Go.Eng.AV.agg [(Go.Eng.SV.str s2), (Go.Eng.SV.int Go.IntKind.i64 n1), (Go.Eng.SV.str s3)])] [] K =
      g_laws_eqFirmTable N s n s1 s2 n1 s3 (fun b => K (Go.Eng.AV.sc (Go.Eng.SV.bool b)) []) := by kernel_rfl
def o_laws_eqFirmTable (N : Nat) {R : Type} (args : List AV) (H : Hp E) (K : AV → Hp E → Option R) : Option R :=
  match args, H with
  | [(Go.Eng.AV.agg [(Go.Eng.SV.str s), (Go.Eng.SV.int Go.IntKind.i64 n), (Go.Eng.SV.str s1)]), (Go.Eng.AV.agg [(Go.Eng.SV.str s2), (Go.Eng.SV.int Go.IntKind.i64 n1), (Go.Eng.SV.str s3)])], [] => g_laws_eqFirmTable N s n s1 s2 n1 s3 (fun b => K (Go.Eng.AV.sc (Go.Eng.SV.bool b)) [])
  | _, _ => none
theorem o_laws_eqFirmTable_ok (N : Nat) : FnOk E 88 (o_laws_eqFirmTable N) := by
  intro R args H K r h
  unfold o_laws_eqFirmTable at h
  dsimp only at h
  split at h
  · exact fnB_ok (ids := []) (top := []) ok (O_laws_eqFirmTable_ok N) (jn_ok _ _ _) Go.Proofs.Try.func88 (by kernel_rfl) (IT := noIt) (sl := sl_laws_eqFirmTable) (J := J_laws_eqFirmTable) (K := K) (H := []) (noIt_ok) (by kernel_rfl) rfl ((e_laws_eqFirmTable N _ _ _ _ _ _ K).trans h)
  · cases h
/-! ### loop.example/g00038/laws.eqFirmTableS -/
abbrev sl_laws_eqFirmTableS_ww : SlotT := [(0, ([0, 1, 5], [4]))]
abbrev J_laws_eqFirmTableS_ww : JT := jn [] [] []
noncomputable def O_laws_eqFirmTableS_ww (N : Nat) : Orc E := addFn 88 (o_laws_eqFirmTable N) (noFn)
theorem O_laws_eqFirmTableS_ww_ok (N : Nat) : OrcOk (O_laws_eqFirmTableS_ww N) := addFn_ok (o_laws_eqFirmTable_ok N) (noFn_ok)
def s_laws_eqFirmTableS_ww_0 (N : Nat) {R : Type} (b2 : Bool) (b3 : Bool) (l2 : List Go.Sa.FirmTable) (l3 : List Go.Sa.FirmTable) (n : Int) (ag : Int → Option R)  (kR : Option R) (kN : Option R) : Option R :=
  (cond (decide ((n < (((List.length l2) : Nat) : Int))))
  (cond ((decide (((0 : Int) ≤ n))) && (decide ((n < (((List.length l2) : Nat) : Int)))))
    (elemK l2 (Int.toNat n) fun x =>
      (cond ((decide (((0 : Int) ≤ n))) && (decide ((n < (((List.length l3) : Nat) : Int)))))
      (elemK l3 (Int.toNat n) fun x1 =>
        (g_laws_eqFirmTable N (Go.Sa.FirmTable.fName x) (Go.Sa.FirmTable.fRev x) (Go.Sa.FirmTable.fBody x) (Go.Sa.FirmTable.fName x1) (Go.Sa.FirmTable.fRev x1) (Go.Sa.FirmTable.fBody x1) fun b4 =>
        (cond (!b4)
        kR
        (ag (Go.IntKind.wrap Go.IntKind.i64 (n + (1 : Int)))))))
      none))
    none)
  kN)
def l_laws_eqFirmTableS_ww_0 (N : Nat) {R : Type} (b2 : Bool) (b3 : Bool) (l2 : List Go.Sa.FirmTable) (l3 : List Go.Sa.FirmTable) (kR : Option R) (kN : Option R) : Nat → Int → Option R
  | 0, _ => none
  | f + 1, n => s_laws_eqFirmTableS_ww_0 N b2 b3 l2 l3 n (fun n => l_laws_eqFirmTableS_ww_0 N b2 b3 l2 l3 kR kN f n)  kR kN
def c_laws_eqFirmTableS_ww_0 (N : Nat) {R : Type} (b2 : Bool) (b3 : Bool) (l2 : List Go.Sa.FirmTable) (l3 : List Go.Sa.FirmTable) (n : Int) (kR : Option R) (kN : Option R) : Option R := l_laws_eqFirmTableS_ww_0 N b2 b3 l2 l3 kR kN N n
theorem se_laws_eqFirmTableS_ww_0 (N : Nat) {R : Type} (b2 : Bool) (b3 : Bool) (l2 : List Go.Sa.FirmTable) (l3 : List Go.Sa.FirmTable) (n : Int) (AG : List (Option AV) → Hp E → Option R) (KL : Ex → List (Option AV) → Hp E → Option R) :
    iterStep (E := E) (O_laws_eqFirmTableS_ww N) (fun {R} => LI (noIt) 2 27 sl_laws_eqFirmTableS_ww (R := R)) J_laws_eqFirmTableS_ww 2 27 0 [0, 1, 5] [4] (body Go.Proofs.Try.f30 0) AG KL [(Option.some (Go.Eng.AV.sc (Go.Eng.SV.slc 0 Option.none b2))), (Option.some (Go.Eng.AV.sc (Go.Eng.SV.slc 1 Option.none b3))), (Option.some (Go.Eng.AV.sc (Go.Eng.SV.int Go.IntKind.i64 n)))] [(Option.some (Go.Eng.HE.mk Bool.false (Go.Eng.HB.rows (Go.Sa.B.iFirmTable l2)))), (Option.some (Go.Eng.HE.mk Bool.false (Go.Eng.HB.rows (Go.Sa.B.iFirmTable l3))))] =
      s_laws_eqFirmTableS_ww_0 N b2 b3 l2 l3 n (fun n => AG [(Option.some (Go.Eng.AV.sc (Go.Eng.SV.slc 0 Option.none b2))), (Option.some (Go.Eng.AV.sc (Go.Eng.SV.slc 1 Option.none b3))), (Option.some (Go.Eng.AV.sc (Go.Eng.SV.int Go.IntKind.i64 n)))] [(Option.some (Go.Eng.HE.mk Bool.false (Go.Eng.HB.rows (Go.Sa.B.iFirmTable l2)))), (Option.some (Go.Eng.HE.mk Bool.false (Go.Eng.HB.rows (Go.Sa.B.iFirmTable l3))))])  (KL Go.Eng.Ex.ret [(Option.some (Go.Eng.AV.sc (Go.Eng.SV.bool Bool.false)))] [(Option.some (Go.Eng.HE.mk Bool.false (Go.Eng.HB.rows (Go.Sa.B.iFirmTable l2)))), (Option.some (Go.Eng.HE.mk Bool.false (Go.Eng.HB.rows (Go.Sa.B.iFirmTable l3))))]) (KL Go.Eng.Ex.normal [Option.none] [(Option.some (Go.Eng.HE.mk Bool.false (Go.Eng.HB.rows (Go.Sa.B.iFirmTable l2)))), (Option.some (Go.Eng.HE.mk Bool.false (Go.Eng.HB.rows (Go.Sa.B.iFirmTable l3))))]) := by kernel_rfl
theorem le_laws_eqFirmTableS_ww_0 (N : Nat) {R : Type} (b2 : Bool) (b3 : Bool) (l2 : List Go.Sa.FirmTable) (l3 : List Go.Sa.FirmTable) (KL : Ex → List (Option AV) → Hp E → Option R) : ∀ (f : Nat), ∀ (n : Int), iterK (E := E) (O_laws_eqFirmTableS_ww N) (fun {R} => LI (noIt) 2 27 sl_laws_eqFirmTableS_ww (R := R)) J_laws_eqFirmTableS_ww 2 27 0 [0, 1, 5] [4] (body Go.Proofs.Try.f30 0) f [(Option.some (Go.Eng.AV.sc (Go.Eng.SV.slc 0 Option.none b2))), (Option.some (Go.Eng.AV.sc (Go.Eng.SV.slc 1 Option.none b3))), (Option.some (Go.Eng.AV.sc (Go.Eng.SV.int Go.IntKind.i64 n)))] [(Option.some (Go.Eng.HE.mk Bool.false (Go.Eng.HB.rows (Go.Sa.B.iFirmTable l2)))), (Option.some (Go.Eng.HE.mk Bool.false (Go.Eng.HB.rows (Go.Sa.B.iFirmTable l3))))] KL = l_laws_eqFirmTableS_ww_0 N b2 b3 l2 l3 (KL Go.Eng.Ex.ret [(Option.some (Go.Eng.AV.sc (Go.Eng.SV.bool Bool.false)))] [(Option.some (Go.Eng.HE.mk Bool.false (Go.Eng.HB.rows (Go.Sa.B.iFirmTable l2)))), (Option.some (Go.Eng.HE.mk Bool.false (Go.Eng.HB.rows (Go.Sa.B.iFirmTable l3))))]) (KL Go.Eng.Ex.normal [Option.none] [(Option.some (Go.Eng.HE.mk Bool.false (Go.Eng.HB.rows (Go.Sa.B.iFirmTable l2)))), (Option.some (Go.Eng.HE.mk Bool.false (Go.Eng.HB.rows (Go.Sa.B.iFirmTable l3))))]) f n := by
  intro f
  induction f with
  | zero => intros; rfl
  | succ f ih =>
    intro n
    rw [iterK_succ, se_laws_eqFirmTableS_ww_0]
    exact (congrArg (fun z0 => s_laws_eqFirmTableS_ww_0 N b2 b3 l2 l3 n z0 (KL Go.Eng.Ex.ret [(Option.some (Go.Eng.AV.sc (Go.Eng.SV.bool Bool.false)))] [(Option.some (Go.Eng.HE.mk Bool.false (Go.Eng.HB.rows (Go.Sa.B.iFirmTable l2)))), (Option.some (Go.Eng.HE.mk Bool.false (Go.Eng.HB.rows (Go.Sa.B.iFirmTable l3))))]) (KL Go.Eng.Ex.normal [Option.none] [(Option.some (Go.Eng.HE.mk Bool.false (Go.Eng.HB.rows (Go.Sa.B.iFirmTable l2)))), (Option.some (Go.Eng.HE.mk Bool.false (Go.Eng.HB.rows (Go.Sa.B.iFirmTable l3))))])) (funext fun n => ih n))
def i_laws_eqFirmTableS_ww_0 (N : Nat) {R : Type} (vs : List (Option AV)) (H : Hp E) (KL : Ex → List (Option AV) → Hp E → Option R) : Option R :=
  match vs, H with
  | [(Option.some (Go.Eng.AV.sc (Go.Eng.SV.slc 0 Option.none b2))), (Option.some (Go.Eng.AV.sc (Go.Eng.SV.slc 1 Option.none b3))), (Option.some (Go.Eng.AV.sc (Go.Eng.SV.int Go.IntKind.i64 n)))], [(Option.some (Go.Eng.HE.mk Bool.false (Go.Eng.HB.rows (Go.Sa.B.iFirmTable l2)))), (Option.some (Go.Eng.HE.mk Bool.false (Go.Eng.HB.rows (Go.Sa.B.iFirmTable l3))))] => c_laws_eqFirmTableS_ww_0 N b2 b3 l2 l3 n (KL Go.Eng.Ex.ret [(Option.some (Go.Eng.AV.sc (Go.Eng.SV.bool Bool.false)))] [(Option.some (Go.Eng.HE.mk Bool.false (Go.Eng.HB.rows (Go.Sa.B.iFirmTable l2)))), (Option.some (Go.Eng.HE.mk Bool.false (Go.Eng.HB.rows (Go.Sa.B.iFirmTable l3))))]) (KL Go.Eng.Ex.normal [Option.none] [(Option.some (Go.Eng.HE.mk Bool.false (Go.Eng.HB.rows (Go.Sa.B.iFirmTable l2)))), (Option.some (Go.Eng.HE.mk Bool.false (Go.Eng.HB.rows (Go.Sa.B.iFirmTable l3))))])
  | _, _ => none
noncomputable def IT_laws_eqFirmTableS_ww_0 (N : Nat) : Its E := addIt 0 (i_laws_eqFirmTableS_ww_0 N) (noIt)
theorem IT_laws_eqFirmTableS_ww_0_ok (N : Nat) : ItOk (IT_laws_eqFirmTableS_ww_0 N) 2 27 sl_laws_eqFirmTableS_ww (lsB Go.Proofs.Try.f30 [0]) :=
  addItB_ok (inner := []) ok (O_laws_eqFirmTableS_ww_ok N) (jn_ok _ _ _) (noIt_ok) rfl (by kernel_rfl) rfl fun vs H KL r h => by
    unfold i_laws_eqFirmTableS_ww_0 at h
    split at h
    · exact ⟨_, (le_laws_eqFirmTableS_ww_0 N _ _ _ _ KL N _).trans h⟩
    · cases h
def g_laws_eqFirmTableS_ww (N : Nat) {R : Type} (b : Bool) (b1 : Bool) (l : List Go.Sa.FirmTable) (l1 : List Go.Sa.FirmTable) (k : Bool → Option R) : Option R :=
  (cond ((((List.length l) : Nat) : Int) != (((List.length l1) : Nat) : Int))
  (k Bool.false)
  (c_laws_eqFirmTableS_ww_0 N b b1 l l1 (0 : Int) (
    (k Bool.false)) (
    (k Bool.true))))
theorem e_laws_eqFirmTableS_ww (N : Nat) {R : Type} (b : Bool) (b1 : Bool) (l : List Go.Sa.FirmTable) (l1 : List Go.Sa.FirmTable) (K : AV → Hp E → Option R) :
    runFnI (E := E) (O_laws_eqFirmTableS_ww N) (IT_laws_eqFirmTableS_ww_0 N) sl_laws_eqFirmTableS_ww J_laws_eqFirmTableS_ww Go.Proofs.Try.f30 [(Go.Eng.AV.sc (Go.Eng.SV.slc 0 Option.none b)), (Go.Eng.AV.sc (Go.Eng.SV.slc 1 Option.none b1))] [(Option.some (Go.Eng.HE.mk Bool.false (Go.Eng.HB.rows (Go.Sa.B.iFirmTable l)))), (Option.some (Go.Eng.HE.mk Bool.false (Go.Eng.HB.rows (Go.Sa.B.iFirmTable l1))))] K =
      g_laws_eqFirmTableS_ww N b b1 l l1 (fun b5 => K (Go.Eng.AV.sc (Go.Eng.SV.bool b5)) [(Option.some (Go.Eng.HE.mk Bool.false (Go.Eng.HB.rows (Go.Sa.B.iFirmTable l)))), (Option.some (Go.Eng.HE.mk Bool.false (Go.Eng.HB.rows (Go.Sa.B.iFirmTable l1))))]) := by kernel_rfl
def o_laws_eqFirmTableS_ww (N : Nat) {R : Type} (args : List AV) (H : Hp E) (K : AV → Hp E → Option R) : Option R :=
  match args, H with
  | [(Go.Eng.AV.sc (Go.Eng.SV.slc 0 Option.none b)), (Go.Eng.AV.sc (Go.Eng.SV.slc 1 Option.none b1))], [(Option.some (Go.Eng.HE.mk Bool.false (Go.Eng.HB.rows (Go.Sa.B.iFirmTable l)))), (Option.some (Go.Eng.HE.mk Bool.false (Go.Eng.HB.rows (Go.Sa.B.iFirmTable l1))))] => g_laws_eqFirmTableS_ww N b b1 l l1 (fun b5 => K (Go.Eng.AV.sc (Go.Eng.SV.bool b5)) [(Option.some (Go.Eng.HE.mk Bool.false (Go.Eng.HB.rows (Go.Sa.B.iFirmTable l)))), (Option.some (Go.Eng.HE.mk Bool.false (Go.Eng.HB.rows (Go.Sa.B.iFirmTable l1))))])
  | _, _ => none
theorem o_laws_eqFirmTableS_ww_ok (N : Nat) : FnOk E 30 (o_laws_eqFirmTableS_ww N) := by
  intro R args H K r h
  unfold o_laws_eqFirmTableS_ww at h
  dsimp only at h
  split at h
  · exact fnB_ok (ids := [0]) (top := [0]) ok (O_laws_eqFirmTableS_ww_ok N) (jn_ok _ _ _) Go.Proofs.Try.func30 (by kernel_rfl) (IT := IT_laws_eqFirmTableS_ww_0 N) (sl := sl_laws_eqFirmTableS_ww) (J := J_laws_eqFirmTableS_ww) (K := K) (H := [(Option.some (Go.Eng.HE.mk Bool.false (Go.Eng.HB.rows (Go.Sa.B.iFirmTable _)))), (Option.some (Go.Eng.HE.mk Bool.false (Go.Eng.HB.rows (Go.Sa.B.iFirmTable _))))]) (IT_laws_eqFirmTableS_ww_0_ok N) (by kernel_rfl) rfl ((e_laws_eqFirmTableS_ww N _ _ _ _ K).trans h)
  · cases h
/-! ### loop.example/g00038/laws.eqFirmRead -/
abbrev sl_laws_eqFirmRead_ww : SlotT := []
abbrev J_laws_eqFirmRead_ww : JT := jn [] [] []
noncomputable def O_laws_eqFirmRead_ww (N : Nat) : Orc E := addFn 30 (o_laws_eqFirmTableS_ww N) (noFn)
theorem O_laws_eqFirmRead_ww_ok (N : Nat) : OrcOk (O_laws_eqFirmRead_ww N) := addFn_ok (o_laws_eqFirmTableS_ww_ok N) (noFn_ok)
def g_laws_eqFirmRead_ww (N : Nat) {R : Type} (n : Int) (b : Bool) (n1 : Int) (b1 : Bool) (l : List Go.Sa.FirmTable) (l1 : List Go.Sa.FirmTable) (k : Bool → Option R) : Option R :=
  (cond (n != n1)
  (k Bool.false)
  (g_laws_eqFirmTableS_ww N b b1 l l1 fun b2 =>
    (cond (!b2)
    (k Bool.false)
    (k Bool.true))))
theorem e_laws_eqFirmRead_ww (N : Nat) {R : Type} (n : Int) (b : Bool) (n1 : Int) (b1 : Bool) (l : List Go.Sa.FirmTable) (l1 : List Go.Sa.FirmTable) (K : AV → Hp E → Option R) :
    runFnI (E := E) (O_laws_eqFirmRead_ww N) (noIt) sl_laws_eqFirmRead_ww J_laws_eqFirmRead_ww Go.Proofs.Try.f36 [(Go.Eng.AV.agg [(Go.Eng.SV.int Go.IntKind.i64 n), (Go.Eng.SV.slc 0 Option.none b)]), (Go.Eng.AV.agg [(Go.Eng.SV.int Go.IntKind.i64 n1), (Go.Eng.SV.slc 1 Option.none b1)])] [(Option.some (Go.Eng.HE.mk Bool.false (Go.Eng.HB.rows (Go.Sa.B.iFirmTable l)))), (Option.some (Go.Eng.HE.mk Bool.false (Go.Eng.HB.rows (Go.Sa.B.iFirmTable l1))))] K =
      g_laws_eqFirmRead_ww N n b n1 b1 l l1 (fun b3 => K (Go.Eng.AV.sc (Go.Eng.SV.bool b3)) [(Option.some (Go.Eng.HE.mk Bool.false (Go.Eng.HB.rows (Go.Sa.B.iFirmTable l)))), (Option.some (Go.Eng.HE.mk Bool.false (Go.Eng.HB.rows (Go.Sa.B.iFirmTable l1))))]) := by kernel_rfl
def o_laws_eqFirmRead_ww (N : Nat) {R : Type} (args : List AV) (H : Hp E) (K : AV → Hp E → Option R) : Option R :=
  match args, H with
  | [(Go.Eng.AV.agg [(Go.Eng.SV.int Go.IntKind.i64 n), (Go.Eng.SV.slc 0 Option.none b)]), (Go.Eng.AV.agg [(Go.Eng.SV.int Go.IntKind.i64 n1), (Go.Eng.SV.slc 1 Option.none b1)])], [(Option.some (Go.Eng.HE.mk Bool.false (Go.Eng.HB.rows (Go.Sa.B.iFirmTable l)))), (Option.some (Go.Eng.HE.mk Bool.false (Go.Eng.HB.rows (Go.Sa.B.iFirmTable l1))))] => g_laws_eqFirmRead_ww N n b n1 b1 l l1 (fun b3 => K (Go.Eng.AV.sc (Go.Eng.SV.bool b3)) [(Option.some (Go.Eng.HE.mk Bool.false (Go.Eng.HB.rows (Go.Sa.B.iFirmTable l)))), (Option.some (Go.Eng.HE.mk Bool.false (Go.Eng.HB.rows (Go.Sa.B.iFirmTable l1))))])
  | _, _ => none
theorem o_laws_eqFirmRead_ww_ok (N : Nat) : FnOk E 36 (o_laws_eqFirmRead_ww N) := by
  intro R args H K r h
  unfold o_laws_eqFirmRead_ww at h
  dsimp only at h
  split at h
  · exact fnB_ok (ids := []) (top := []) ok (O_laws_eqFirmRead_ww_ok N) (jn_ok _ _ _) Go.Proofs.Try.func36 (by kernel_rfl) (IT := noIt) (sl := sl_laws_eqFirmRead_ww) (J := J_laws_eqFirmRead_ww) (K := K) (H := [(Option.some (Go.Eng.HE.mk Bool.false (Go.Eng.HB.rows (Go.Sa.B.iFirmTable _)))), (Option.some (Go.Eng.HE.mk Bool.false (Go.Eng.HB.rows (Go.Sa.B.iFirmTable _))))]) (noIt_ok) (by kernel_rfl) rfl ((e_laws_eqFirmRead_ww N _ _ _ _ _ _ K).trans h)
  · cases h
end Go.Sa
