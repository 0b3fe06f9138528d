import Derived.Test.YtnopbegjbbbdhaaSpec
import Derived.Test.YtnopbegjbbbdhaaPLb
set_option linter.all false
namespace Go.Sa
open Go Go.Eng Go.Proofs
set_option maxRecDepth 100000
/-! ### loop.example/g00038/spec.MemFault -/
abbrev sl_spec_MemFault : SlotT := []
abbrev J_spec_MemFault : JT := jn [(1, [(16, .b)])] [] []
noncomputable def O_spec_MemFault (N : Nat) : Orc E := noFn
theorem O_spec_MemFault_ok (N : Nat) : OrcOk (O_spec_MemFault N) := noFn_ok
def g_spec_MemFault (N : Nat) {R : Type} (s : ByteArray) (k : Int → Option R) : Option R :=
  (oK (cond ((((ByteArray.size s) : Nat) : Int) == (0 : Int))
    (some Bool.true)
    (cond ((Int.tmod (((ByteArray.size s) : Nat) : Int) (256 : Int)) != (0 : Int))
      (some Bool.true)
      (some (decide (((((ByteArray.size s) : Nat) : Int) > (65536 : Int))))))) fun j =>
  (cond j
  (k (1 : Int))
  (k (0 : Int))))
theorem e_spec_MemFault (N : Nat) {R : Type} (s : ByteArray) (K : AV → Hp E → Option R) :
    runFnI (E := E) (O_spec_MemFault N) (noIt) sl_spec_MemFault J_spec_MemFault Go.Proofs.Try.f58 [(Go.Eng.AV.sc (Go.Eng.SV.str s))] [] K =
      g_spec_MemFault N s (fun n => K (Go.Eng.AV.sc (Go.Eng.SV.int Go.IntKind.i64 n)) []) := by kernel_rfl
def o_spec_MemFault (N : Nat) {R : Type} (args : List AV) (H : Hp E) (K : AV → Hp E → Option R) : Option R :=
  match args, H with
  | [(Go.Eng.AV.sc (Go.Eng.SV.str s))], [] => g_spec_MemFault N s (fun n => K (Go.Eng.AV.sc (Go.Eng.SV.int Go.IntKind.i64 n)) [])
  | _, _ => none
theorem o_spec_MemFault_ok (N : Nat) : FnOk E 58 (o_spec_MemFault N) := by
  intro R args H K r h
  unfold o_spec_MemFault at h
  dsimp only at h
  split at h
  · exact fnB_ok (ids := []) (top := []) ok (O_spec_MemFault_ok N) (jn_ok _ _ _) Go.Proofs.Try.func58 (by kernel_rfl) (IT := noIt) (sl := sl_spec_MemFault) (J := J_spec_MemFault) (K := K) (H := []) (noIt_ok) (by kernel_rfl) rfl ((e_spec_MemFault N _ K).trans h)
  · cases h
/-! ### loop.example/g00038/spec.l01Min -/
abbrev sl_spec_l01Min : SlotT := []
abbrev J_spec_l01Min : JT := jn [] [] []
noncomputable def O_spec_l01Min (N : Nat) : Orc E := noFn
theorem O_spec_l01Min_ok (N : Nat) : OrcOk (O_spec_l01Min N) := noFn_ok
def g_spec_l01Min (N : Nat) {R : Type} (n : Int) (n1 : Int) (k : Int → Option R) : Option R :=
  (cond (decide ((n < n1)))
  (k n)
  (k n1))
theorem e_spec_l01Min (N : Nat) {R : Type} (n : Int) (n1 : Int) (K : AV → Hp E → Option R) :
    runFnI (E := E) (O_spec_l01Min N) (noIt) sl_spec_l01Min J_spec_l01Min Go.Proofs.Try.f152 [(Go.Eng.AV.sc (Go.Eng.SV.int Go.IntKind.i64 n)), (Go.Eng.AV.sc (Go.Eng.SV.int Go.IntKind.i64 n1))] [] K =
      g_spec_l01Min N n n1 (fun n2 => K (Go.Eng.AV.sc (Go.Eng.SV.int Go.IntKind.i64 n2)) []) := by kernel_rfl
def o_spec_l01Min (N : Nat) {R : Type} (args : List AV) (H : Hp E) (K : AV → Hp E → Option R) : Option R :=
  match args, H with
  | [(Go.Eng.AV.sc (Go.Eng.SV.int Go.IntKind.i64 n)), (Go.Eng.AV.sc (Go.Eng.SV.int Go.IntKind.i64 n1))], [] => g_spec_l01Min N n n1 (fun n2 => K (Go.Eng.AV.sc (Go.Eng.SV.int Go.IntKind.i64 n2)) [])
  | _, _ => none
theorem o_spec_l01Min_ok (N : Nat) : FnOk E 152 (o_spec_l01Min N) := by
  intro R args H K r h
  unfold o_spec_l01Min at h
  dsimp only at h
  split at h
  · exact fnB_ok (ids := []) (top := []) ok (O_spec_l01Min_ok N) (jn_ok _ _ _) Go.Proofs.Try.func152 (by kernel_rfl) (IT := noIt) (sl := sl_spec_l01Min) (J := J_spec_l01Min) (K := K) (H := []) (noIt_ok) (by kernel_rfl) rfl ((e_spec_l01Min N _ _ K).trans h)
  · cases h
/-! ### loop.example/g00038/spec.l03Acc -/
abbrev sl_spec_l03Acc : SlotT := []
abbrev J_spec_l03Acc : JT := jn [(1, [(2, .b)])] [] []
noncomputable def O_spec_l03Acc (N : Nat) : Orc E := noFn
theorem O_spec_l03Acc_ok (N : Nat) : OrcOk (O_spec_l03Acc N) := noFn_ok
def g_spec_l03Acc (N : Nat) {R : Type} (n : Int) (k : Bool → Option R) : Option R :=
  (oK (cond (n == (1 : Int))
    (some Bool.true)
    (cond (n == (2 : Int))
      (some Bool.true)
      (some (n == (3 : Int))))) fun j =>
  (k j))
theorem e_spec_l03Acc (N : Nat) {R : Type} (n : Int) (K : AV → Hp E → Option R) :
    runFnI (E := E) (O_spec_l03Acc N) (noIt) sl_spec_l03Acc J_spec_l03Acc Go.Proofs.Try.f64 [(Go.Eng.AV.sc (Go.Eng.SV.int Go.IntKind.i64 n))] [] K =
      g_spec_l03Acc N n (fun b => K (Go.Eng.AV.sc (Go.Eng.SV.bool b)) []) := by kernel_rfl
def o_spec_l03Acc (N : Nat) {R : Type} (args : List AV) (H : Hp E) (K : AV → Hp E → Option R) : Option R :=
  match args, H with
  | [(Go.Eng.AV.sc (Go.Eng.SV.int Go.IntKind.i64 n))], [] => g_spec_l03Acc N n (fun b => K (Go.Eng.AV.sc (Go.Eng.SV.bool b)) [])
  | _, _ => none
theorem o_spec_l03Acc_ok (N : Nat) : FnOk E 64 (o_spec_l03Acc N) := by
  intro R args H K r h
  unfold o_spec_l03Acc at h
  dsimp only at h
  split at h
  · exact fnB_ok (ids := []) (top := []) ok (O_spec_l03Acc_ok N) (jn_ok _ _ _) Go.Proofs.Try.func64 (by kernel_rfl) (IT := noIt) (sl := sl_spec_l03Acc) (J := J_spec_l03Acc) (K := K) (H := []) (noIt_ok) (by kernel_rfl) rfl ((e_spec_l03Acc N _ K).trans h)
  · cases h
/-! ### loop.example/g00038/spec.l01Word -/
abbrev sl_spec_l01Word : SlotT := []
abbrev J_spec_l01Word : JT := jn [] [] []
noncomputable def O_spec_l01Word (N : Nat) : Orc E := noFn
theorem O_spec_l01Word_ok (N : Nat) : OrcOk (O_spec_l01Word N) := noFn_ok
def g_spec_l01Word (N : Nat) {R : Type} (s : ByteArray) (n : Int) (k : Int → Option R) : Option R :=
  (cond ((decide (((0 : Int) ≤ n))) && (decide ((n < (((ByteArray.size s) : Nat) : Int)))))
  (cond ((decide (((0 : Int) ≤ (Go.IntKind.wrap Go.IntKind.i64 (n + (1 : Int)))))) && (decide (((Go.IntKind.wrap Go.IntKind.i64 (n + (1 : Int))) < (((ByteArray.size s) : Nat) : Int)))))
    (cond ((decide (((0 : Int) ≤ (Go.IntKind.wrap Go.IntKind.i64 (n + (2 : Int)))))) && (decide (((Go.IntKind.wrap Go.IntKind.i64 (n + (2 : Int))) < (((ByteArray.size s) : Nat) : Int)))))
      (cond ((decide (((0 : Int) ≤ (Go.IntKind.wrap Go.IntKind.i64 (n + (3 : Int)))))) && (decide (((Go.IntKind.wrap Go.IntKind.i64 (n + (3 : Int))) < (((ByteArray.size s) : Nat) : Int)))))
        (k (Go.IntKind.wrap Go.IntKind.i64 ((Go.IntKind.wrap Go.IntKind.i64 ((Go.IntKind.wrap Go.IntKind.i64 ((Go.IntKind.wrap Go.IntKind.i64 (Go.Eng.bt s (Int.toNat n))) + (Go.IntKind.wrap Go.IntKind.i64 ((Go.IntKind.wrap Go.IntKind.i64 (Go.Eng.bt s (Int.toNat (Go.IntKind.wrap Go.IntKind.i64 (n + (1 : Int)))))) * (256 : Int))))) + (Go.IntKind.wrap Go.IntKind.i64 ((Go.IntKind.wrap Go.IntKind.i64 (Go.Eng.bt s (Int.toNat (Go.IntKind.wrap Go.IntKind.i64 (n + (2 : Int)))))) * (65536 : Int))))) + (Go.IntKind.wrap Go.IntKind.i64 ((Go.IntKind.wrap Go.IntKind.i64 (Go.Eng.bt s (Int.toNat (Go.IntKind.wrap Go.IntKind.i64 (n + (3 : Int)))))) * (16777216 : Int))))))
        none)
      none)
    none)
  none)
theorem e_spec_l01Word (N : Nat) {R : Type} (s : ByteArray) (n : Int) (K : AV → Hp E → Option R) :
    runFnI (E := E) (O_spec_l01Word N) (noIt) sl_spec_l01Word J_spec_l01Word Go.Proofs.Try.f79 [(Go.Eng.AV.sc (Go.Eng.SV.str s)), (Go.Eng.AV.sc (Go.Eng.SV.int Go.IntKind.i64 n))] [] K =
      g_spec_l01Word N s n (fun n1 => K (Go.Eng.AV.sc (Go.Eng.SV.int Go.IntKind.i64 n1)) []) := by kernel_rfl
def o_spec_l01Word (N : Nat) {R : Type} (args : List AV) (H : Hp E) (K : AV → Hp E → Option R) : Option R :=
  match args, H with
  | [(Go.Eng.AV.sc (Go.Eng.SV.str s)), (Go.Eng.AV.sc (Go.Eng.SV.int Go.IntKind.i64 n))], [] => g_spec_l01Word N s n (fun n1 => K (Go.Eng.AV.sc (Go.Eng.SV.int Go.IntKind.i64 n1)) [])
  | _, _ => none
theorem o_spec_l01Word_ok (N : Nat) : FnOk E 79 (o_spec_l01Word N) := by
  intro R args H K r h
  unfold o_spec_l01Word at h
  dsimp only at h
  split at h
  · exact fnB_ok (ids := []) (top := []) ok (O_spec_l01Word_ok N) (jn_ok _ _ _) Go.Proofs.Try.func79 (by kernel_rfl) (IT := noIt) (sl := sl_spec_l01Word) (J := J_spec_l01Word) (K := K) (H := []) (noIt_ok) (by kernel_rfl) rfl ((e_spec_l01Word N _ _ K).trans h)
  · cases h
/-! ### loop.example/g00038/spec.l03Entry -/
abbrev sl_spec_l03Entry : SlotT := []
abbrev J_spec_l03Entry : JT := jn [] [] []
noncomputable def O_spec_l03Entry (N : Nat) : Orc E := addFn 79 (o_spec_l01Word N) (noFn)
theorem O_spec_l03Entry_ok (N : Nat) : OrcOk (O_spec_l03Entry N) := addFn_ok (o_spec_l01Word_ok N) (noFn_ok)
def g_spec_l03Entry (N : Nat) {R : Type} (s : ByteArray) (n : Int) (n1 : Int) (k : Int → Bool → Option R) : Option R :=
  (cond (decide (((Go.IntKind.wrap Go.IntKind.i64 ((Go.IntKind.wrap Go.IntKind.i64 (n + (1 : Int))) * (256 : Int))) > (((ByteArray.size s) : Nat) : Int))))
  (k (0 : Int) Bool.false)
  (g_spec_l01Word N s (Go.IntKind.wrap Go.IntKind.i64 ((Go.IntKind.wrap Go.IntKind.i64 (n * (256 : Int))) + (Go.IntKind.wrap Go.IntKind.i64 ((4 : Int) * n1)))) fun n2 =>
    (k n2 Bool.true)))
theorem e_spec_l03Entry (N : Nat) {R : Type} (s : ByteArray) (n : Int) (n1 : Int) (K : AV → Hp E → Option R) :
    runFnI (E := E) (O_spec_l03Entry N) (noIt) sl_spec_l03Entry J_spec_l03Entry Go.Proofs.Try.f65 [(Go.Eng.AV.sc (Go.Eng.SV.str s)), (Go.Eng.AV.sc (Go.Eng.SV.int Go.IntKind.i64 n)), (Go.Eng.AV.sc (Go.Eng.SV.int Go.IntKind.i64 n1))] [] K =
      g_spec_l03Entry N s n n1 (fun n3 b => K (Go.Eng.AV.tup [(Bool.false, [(Go.Eng.SV.int Go.IntKind.i64 n3)]), (Bool.false, [(Go.Eng.SV.bool b)])]) []) := by kernel_rfl
def o_spec_l03Entry (N : Nat) {R : Type} (args : List AV) (H : Hp E) (K : AV → Hp E → Option R) : Option R :=
  match args, H with
  | [(Go.Eng.AV.sc (Go.Eng.SV.str s)), (Go.Eng.AV.sc (Go.Eng.SV.int Go.IntKind.i64 n)), (Go.Eng.AV.sc (Go.Eng.SV.int Go.IntKind.i64 n1))], [] => g_spec_l03Entry N s n n1 (fun n3 b => K (Go.Eng.AV.tup [(Bool.false, [(Go.Eng.SV.int Go.IntKind.i64 n3)]), (Bool.false, [(Go.Eng.SV.bool b)])]) [])
  | _, _ => none
theorem o_spec_l03Entry_ok (N : Nat) : FnOk E 65 (o_spec_l03Entry N) := by
  intro R args H K r h
  unfold o_spec_l03Entry at h
  dsimp only at h
  split at h
  · exact fnB_ok (ids := []) (top := []) ok (O_spec_l03Entry_ok N) (jn_ok _ _ _) Go.Proofs.Try.func65 (by kernel_rfl) (IT := noIt) (sl := sl_spec_l03Entry) (J := J_spec_l03Entry) (K := K) (H := []) (noIt_ok) (by kernel_rfl) rfl ((e_spec_l03Entry N _ _ _ K).trans h)
  · cases h
/-! ### loop.example/g00038/spec.l03May -/
abbrev sl_spec_l03May : SlotT := []
abbrev J_spec_l03May : JT := jn [(11, [(6, .b)])] [(9, [(7, .i .i64)]), (11, [(7, .i .i64)])] []
noncomputable def O_spec_l03May (N : Nat) : Orc E := noFn
theorem O_spec_l03May_ok (N : Nat) : OrcOk (O_spec_l03May N) := noFn_ok
def g_spec_l03May (N : Nat) {R : Type} (n : Int) (n1 : Int) (b : Bool) (k : Bool → Option R) : Option R :=
  (oK (cond (n1 == (2 : Int))
    (some (4 : Int))
    (oK (cond (n1 == (3 : Int))
        (some (8 : Int))
        (some (2 : Int))) fun j =>
      (some j))) fun j1 =>
  (cond ((Go.IntKind.wrap Go.IntKind.i64 (((BitVec.toNat ((BitVec.ofInt 64 n) &&& (BitVec.ofInt 64 j1))) : Nat) : Int)) == (0 : Int))
  (k Bool.false)
  (cond b
    (k ((Go.IntKind.wrap Go.IntKind.i64 (((BitVec.toNat ((BitVec.ofInt 64 n) &&& (BitVec.ofInt 64 (16 : Int)))) : Nat) : Int)) != (0 : Int)))
    (oK (cond (n1 != (3 : Int))
        (some Bool.true)
        (some ((Go.IntKind.wrap Go.IntKind.i64 (((BitVec.toNat ((BitVec.ofInt 64 n) &&& (BitVec.ofInt 64 (16 : Int)))) : Nat) : Int)) == (0 : Int)))) fun j2 =>
      (k j2)))))
theorem e_spec_l03May (N : Nat) {R : Type} (n : Int) (n1 : Int) (b : Bool) (K : AV → Hp E → Option R) :
    runFnI (E := E) (O_spec_l03May N) (noIt) sl_spec_l03May J_spec_l03May Go.Proofs.Try.f66 [(Go.Eng.AV.sc (Go.Eng.SV.int Go.IntKind.i64 n)), (Go.Eng.AV.sc (Go.Eng.SV.int Go.IntKind.i64 n1)), (Go.Eng.AV.sc (Go.Eng.SV.bool b))] [] K =
      g_spec_l03May N n n1 b (fun b1 => K (Go.Eng.AV.sc (Go.Eng.SV.bool b1)) []) := by kernel_rfl
def o_spec_l03May (N : Nat) {R : Type} (args : List AV) (H : Hp E) (K : AV → Hp E → Option R) : Option R :=
  match args, H with
  | [(Go.Eng.AV.sc (Go.Eng.SV.int Go.IntKind.i64 n)), (Go.Eng.AV.sc (Go.Eng.SV.int Go.IntKind.i64 n1)), (Go.Eng.AV.sc (Go.Eng.SV.bool b))], [] => g_spec_l03May N n n1 b (fun b1 => K (Go.Eng.AV.sc (Go.Eng.SV.bool b1)) [])
  | _, _ => none
theorem o_spec_l03May_ok (N : Nat) : FnOk E 66 (o_spec_l03May N) := by
  intro R args H K r h
  unfold o_spec_l03May at h
  dsimp only at h
  split at h
  · exact fnB_ok (ids := []) (top := []) ok (O_spec_l03May_ok N) (jn_ok _ _ _) Go.Proofs.Try.func66 (by kernel_rfl) (IT := noIt) (sl := sl_spec_l03May) (J := J_spec_l03May) (K := K) (H := []) (noIt_ok) (by kernel_rfl) rfl ((e_spec_l03May N _ _ _ K).trans h)
  · cases h
/-! ### loop.example/g00038/spec.GetWord -/
abbrev sl_spec_GetWord : SlotT := []
abbrev J_spec_GetWord : JT := jn [(1, [(18, .b)])] [] []
noncomputable def O_spec_GetWord (N : Nat) : Orc E := addFn 79 (o_spec_l01Word N) (noFn)
theorem O_spec_GetWord_ok (N : Nat) : OrcOk (O_spec_GetWord N) := addFn_ok (o_spec_l01Word_ok N) (noFn_ok)
def g_spec_GetWord (N : Nat) {R : Type} (s : ByteArray) (n : Int) (k : Bool → Int → Option R) : Option R :=
  (oK (cond (decide (((((ByteArray.size s) : Nat) : Int) > (65536 : Int))))
    (some Bool.true)
    (cond (decide ((n < (0 : Int))))
      (some Bool.true)
      (some (decide ((n > (Go.IntKind.wrap Go.IntKind.i64 ((((ByteArray.size s) : Nat) : Int) - (4 : Int))))))))) fun j =>
  (cond j
  (k Bool.false (0 : Int))
  (g_spec_l01Word N s n fun n1 =>
    (k Bool.true n1))))
theorem e_spec_GetWord (N : Nat) {R : Type} (s : ByteArray) (n : Int) (K : AV → Hp E → Option R) :
    runFnI (E := E) (O_spec_GetWord N) (noIt) sl_spec_GetWord J_spec_GetWord Go.Proofs.Try.f148 [(Go.Eng.AV.sc (Go.Eng.SV.str s)), (Go.Eng.AV.sc (Go.Eng.SV.int Go.IntKind.i64 n))] [] K =
      g_spec_GetWord N s n (fun b n2 => K (Go.Eng.AV.agg [(Go.Eng.SV.bool b), (Go.Eng.SV.int Go.IntKind.i64 n2)]) []) := by kernel_rfl
def o_spec_GetWord (N : Nat) {R : Type} (args : List AV) (H : Hp E) (K : AV → Hp E → Option R) : Option R :=
  match args, H with
  | [(Go.Eng.AV.sc (Go.Eng.SV.str s)), (Go.Eng.AV.sc (Go.Eng.SV.int Go.IntKind.i64 n))], [] => g_spec_GetWord N s n (fun b n2 => K (Go.Eng.AV.agg [(Go.Eng.SV.bool b), (Go.Eng.SV.int Go.IntKind.i64 n2)]) [])
  | _, _ => none
theorem o_spec_GetWord_ok (N : Nat) : FnOk E 148 (o_spec_GetWord N) := by
  intro R args H K r h
  unfold o_spec_GetWord at h
  dsimp only at h
  split at h
  · exact fnB_ok (ids := []) (top := []) ok (O_spec_GetWord_ok N) (jn_ok _ _ _) Go.Proofs.Try.func148 (by kernel_rfl) (IT := noIt) (sl := sl_spec_GetWord) (J := J_spec_GetWord) (K := K) (H := []) (noIt_ok) (by kernel_rfl) rfl ((e_spec_GetWord N _ _ K).trans h)
  · cases h
/-! ### loop.example/g00038/spec.l01Mod -/
abbrev sl_spec_l01Mod : SlotT := []
abbrev J_spec_l01Mod : JT := jn [] [(10, [(5, .i .i64)])] []
noncomputable def O_spec_l01Mod (N : Nat) : Orc E := noFn
theorem O_spec_l01Mod_ok (N : Nat) : OrcOk (O_spec_l01Mod N) := noFn_ok
def g_spec_l01Mod (N : Nat) {R : Type} (n : Int) (n1 : Int) (k : Int → Option R) : Option R :=
  (cond (n1 == (0 : Int))
  none
  (oK (cond (decide (((Int.tmod n n1) < (0 : Int))))
      (some (Go.IntKind.wrap Go.IntKind.i64 ((Int.tmod n n1) + n1)))
      (some (Int.tmod n n1))) fun j =>
    (k j)))
theorem e_spec_l01Mod (N : Nat) {R : Type} (n : Int) (n1 : Int) (K : AV → Hp E → Option R) :
    runFnI (E := E) (O_spec_l01Mod N) (noIt) sl_spec_l01Mod J_spec_l01Mod Go.Proofs.Try.f158 [(Go.Eng.AV.sc (Go.Eng.SV.int Go.IntKind.i64 n)), (Go.Eng.AV.sc (Go.Eng.SV.int Go.IntKind.i64 n1))] [] K =
      g_spec_l01Mod N n n1 (fun n2 => K (Go.Eng.AV.sc (Go.Eng.SV.int Go.IntKind.i64 n2)) []) := by kernel_rfl
def o_spec_l01Mod (N : Nat) {R : Type} (args : List AV) (H : Hp E) (K : AV → Hp E → Option R) : Option R :=
  match args, H with
  | [(Go.Eng.AV.sc (Go.Eng.SV.int Go.IntKind.i64 n)), (Go.Eng.AV.sc (Go.Eng.SV.int Go.IntKind.i64 n1))], [] => g_spec_l01Mod N n n1 (fun n2 => K (Go.Eng.AV.sc (Go.Eng.SV.int Go.IntKind.i64 n2)) [])
  | _, _ => none
theorem o_spec_l01Mod_ok (N : Nat) : FnOk E 158 (o_spec_l01Mod N) := by
  intro R args H K r h
  unfold o_spec_l01Mod at h
  dsimp only at h
  split at h
  · exact fnB_ok (ids := []) (top := []) ok (O_spec_l01Mod_ok N) (jn_ok _ _ _) Go.Proofs.Try.func158 (by kernel_rfl) (IT := noIt) (sl := sl_spec_l01Mod) (J := J_spec_l01Mod) (K := K) (H := []) (noIt_ok) (by kernel_rfl) rfl ((e_spec_l01Mod N _ _ K).trans h)
  · cases h
/-! ### loop.example/g00038/spec.Word -/
abbrev sl_spec_Word : SlotT := []
abbrev J_spec_Word : JT := jn [] [] []
noncomputable def O_spec_Word (N : Nat) : Orc E := addFn 158 (o_spec_l01Mod N) (noFn)
theorem O_spec_Word_ok (N : Nat) : OrcOk (O_spec_Word N) := addFn_ok (o_spec_l01Mod_ok N) (noFn_ok)
def g_spec_Word (N : Nat) {R : Type} (n : Int) (k : Int → Option R) : Option R :=
  (g_spec_l01Mod N n (4294967296 : Int) fun n1 =>
  (k n1))
theorem e_spec_Word (N : Nat) {R : Type} (n : Int) (K : AV → Hp E → Option R) :
    runFnI (E := E) (O_spec_Word N) (noIt) sl_spec_Word J_spec_Word Go.Proofs.Try.f93 [(Go.Eng.AV.sc (Go.Eng.SV.int Go.IntKind.i64 n))] [] K =
      g_spec_Word N n (fun n2 => K (Go.Eng.AV.sc (Go.Eng.SV.int Go.IntKind.i64 n2)) []) := by kernel_rfl
def o_spec_Word (N : Nat) {R : Type} (args : List AV) (H : Hp E) (K : AV → Hp E → Option R) : Option R :=
  match args, H with
  | [(Go.Eng.AV.sc (Go.Eng.SV.int Go.IntKind.i64 n))], [] => g_spec_Word N n (fun n2 => K (Go.Eng.AV.sc (Go.Eng.SV.int Go.IntKind.i64 n2)) [])
  | _, _ => none
theorem o_spec_Word_ok (N : Nat) : FnOk E 93 (o_spec_Word N) := by
  intro R args H K r h
  unfold o_spec_Word at h
  dsimp only at h
  split at h
  · exact fnB_ok (ids := []) (top := []) ok (O_spec_Word_ok N) (jn_ok _ _ _) Go.Proofs.Try.func93 (by kernel_rfl) (IT := noIt) (sl := sl_spec_Word) (J := J_spec_Word) (K := K) (H := []) (noIt_ok) (by kernel_rfl) rfl ((e_spec_Word N _ K).trans h)
  · cases h
/-! ### loop.example/g00038/spec.PutWord -/
abbrev sl_spec_PutWord : SlotT := []
abbrev J_spec_PutWord : JT := jn [] [] []
noncomputable def O_spec_PutWord (N : Nat) : Orc E := addFn 93 (o_spec_Word N) (noFn)
theorem O_spec_PutWord_ok (N : Nat) : OrcOk (O_spec_PutWord N) := addFn_ok (o_spec_Word_ok N) (noFn_ok)
def g_spec_PutWord (N : Nat) {R : Type} (n : Int) (k : ByteArray → Option R) : Option R :=
  (g_spec_Word N n fun n1 =>
  (k (Go.Eng.toBytes (Go.Eng.seg [(Go.IntKind.wrap Go.IntKind.u8 n1), (Go.IntKind.wrap Go.IntKind.u8 (Int.fdiv n1 (256 : Int))), (Go.IntKind.wrap Go.IntKind.u8 (Int.fdiv n1 (65536 : Int))), (Go.IntKind.wrap Go.IntKind.u8 (Int.fdiv n1 (16777216 : Int)))] 0 (List.length [(Go.IntKind.wrap Go.IntKind.u8 n1), (Go.IntKind.wrap Go.IntKind.u8 (Int.fdiv n1 (256 : Int))), (Go.IntKind.wrap Go.IntKind.u8 (Int.fdiv n1 (65536 : Int))), (Go.IntKind.wrap Go.IntKind.u8 (Int.fdiv n1 (16777216 : Int)))])))))
theorem e_spec_PutWord (N : Nat) {R : Type} (n : Int) (K : AV → Hp E → Option R) :
    runFnI (E := E) (O_spec_PutWord N) (noIt) sl_spec_PutWord J_spec_PutWord Go.Proofs.Try.f109 [(Go.Eng.AV.sc (Go.Eng.SV.int Go.IntKind.i64 n))] [] K =
      g_spec_PutWord N n (fun s => K (Go.Eng.AV.sc (Go.Eng.SV.str s)) []) := by kernel_rfl
def o_spec_PutWord (N : Nat) {R : Type} (args : List AV) (H : Hp E) (K : AV → Hp E → Option R) : Option R :=
  match args, H with
  | [(Go.Eng.AV.sc (Go.Eng.SV.int Go.IntKind.i64 n))], [] => g_spec_PutWord N n (fun s => K (Go.Eng.AV.sc (Go.Eng.SV.str s)) [])
  | _, _ => none
theorem o_spec_PutWord_ok (N : Nat) : FnOk E 109 (o_spec_PutWord N) := by
  intro R args H K r h
  unfold o_spec_PutWord at h
  dsimp only at h
  split at h
  · exact fnB_ok (ids := []) (top := []) ok (O_spec_PutWord_ok N) (jn_ok _ _ _) Go.Proofs.Try.func109 (by kernel_rfl) (IT := noIt) (sl := sl_spec_PutWord) (J := J_spec_PutWord) (K := K) (H := []) (noIt_ok) (by kernel_rfl) rfl ((e_spec_PutWord N _ K).trans h)
  · cases h
/-! ### loop.example/g00038/spec.SetWord -/
abbrev sl_spec_SetWord : SlotT := []
abbrev J_spec_SetWord : JT := jn [] [] []
noncomputable def O_spec_SetWord (N : Nat) : Orc E := addFn 109 (o_spec_PutWord N) (addFn 148 (o_spec_GetWord N) (noFn))
theorem O_spec_SetWord_ok (N : Nat) : OrcOk (O_spec_SetWord N) := addFn_ok (o_spec_PutWord_ok N) (addFn_ok (o_spec_GetWord_ok N) (noFn_ok))
def g_spec_SetWord (N : Nat) {R : Type} (s : ByteArray) (n : Int) (n1 : Int) (k : ByteArray → Option R) : Option R :=
  (g_spec_GetWord N s n fun b n2 =>
  (cond (!b)
  (k (ByteArray.mk (List.toArray [])))
  (cond ((decide (((0 : Int) ≤ n))) && (decide ((n ≤ (((ByteArray.size s) : Nat) : Int)))))
    (g_spec_PutWord N n1 fun s1 =>
      (cond (Nat.ble ((ByteArray.size (ByteArray.extract s 0 (Int.toNat n))) + (ByteArray.size s1)) 9223372036854775807)
      (cond (((decide (((0 : Int) ≤ (Go.IntKind.wrap Go.IntKind.i64 (n + (4 : Int)))))) && (decide (((Go.IntKind.wrap Go.IntKind.i64 (n + (4 : Int))) ≤ (((ByteArray.size s) : Nat) : Int))))) && (decide (((((ByteArray.size s) : Nat) : Int) ≤ (((ByteArray.size s) : Nat) : Int)))))
        (cond (Nat.ble ((ByteArray.size ((ByteArray.extract s 0 (Int.toNat n)) ++ s1)) + (ByteArray.size (ByteArray.extract s (Int.toNat (Go.IntKind.wrap Go.IntKind.i64 (n + (4 : Int)))) (Int.toNat (((ByteArray.size s) : Nat) : Int))))) 9223372036854775807)
          (k (((ByteArray.extract s 0 (Int.toNat n)) ++ s1) ++ (ByteArray.extract s (Int.toNat (Go.IntKind.wrap Go.IntKind.i64 (n + (4 : Int)))) (Int.toNat (((ByteArray.size s) : Nat) : Int)))))
          none)
        none)
      none))
    none)))
theorem e_spec_SetWord (N : Nat) {R : Type} (s : ByteArray) (n : Int) (n1 : Int) (K : AV → Hp E → Option R) :
    runFnI (E := E) (O_spec_SetWord N) (noIt) sl_spec_SetWord J_spec_SetWord Go.Proofs.Try.f67 [(Go.Eng.AV.sc (Go.Eng.SV.str s)), (Go.Eng.AV.sc (Go.Eng.SV.int Go.IntKind.i64 n)), (Go.Eng.AV.sc (Go.Eng.SV.int Go.IntKind.i64 n1))] [] K =
      g_spec_SetWord N s n n1 (fun s2 => K (Go.Eng.AV.sc (Go.Eng.SV.str s2)) []) := by kernel_rfl
def o_spec_SetWord (N : Nat) {R : Type} (args : List AV) (H : Hp E) (K : AV → Hp E → Option R) : Option R :=
  match args, H with
  | [(Go.Eng.AV.sc (Go.Eng.SV.str s)), (Go.Eng.AV.sc (Go.Eng.SV.int Go.IntKind.i64 n)), (Go.Eng.AV.sc (Go.Eng.SV.int Go.IntKind.i64 n1))], [] => g_spec_SetWord N s n n1 (fun s2 => K (Go.Eng.AV.sc (Go.Eng.SV.str s2)) [])
  | _, _ => none
theorem o_spec_SetWord_ok (N : Nat) : FnOk E 67 (o_spec_SetWord N) := by
  intro R args H K r h
  unfold o_spec_SetWord at h
  dsimp only at h
  split at h
  · exact fnB_ok (ids := []) (top := []) ok (O_spec_SetWord_ok N) (jn_ok _ _ _) Go.Proofs.Try.func67 (by kernel_rfl) (IT := noIt) (sl := sl_spec_SetWord) (J := J_spec_SetWord) (K := K) (H := []) (noIt_ok) (by kernel_rfl) rfl ((e_spec_SetWord N _ _ _ K).trans h)
  · cases h
/-! ### loop.example/g00038/spec.Walk -/
abbrev sl_spec_Walk : SlotT := []
abbrev J_spec_Walk : JT := jn [(1, [(41, .b)]), (11, [(74, .b)]), (21, [(127, .b)])] [(130, [(17, .i .i64)]), (147, [(13, .i .i64)])] []
noncomputable def O_spec_Walk (N : Nat) : Orc E := addFn 67 (o_spec_SetWord N) (addFn 66 (o_spec_l03May N) (addFn 65 (o_spec_l03Entry N) (addFn 64 (o_spec_l03Acc N) (addFn 58 (o_spec_MemFault N) (noFn)))))
theorem O_spec_Walk_ok (N : Nat) : OrcOk (O_spec_Walk N) := addFn_ok (o_spec_SetWord_ok N) (addFn_ok (o_spec_l03May_ok N) (addFn_ok (o_spec_l03Entry_ok N) (addFn_ok (o_spec_l03Acc_ok N) (addFn_ok (o_spec_MemFault_ok N) (noFn_ok)))))
def g_spec_Walk (N : Nat) {R : Type} (s : ByteArray) (n : Int) (n1 : Int) (n2 : Int) (b : Bool) (k : Int → Int → Int → Bool → Bool → ByteArray → (List Int) → Option R) : Option R :=
  (oK (g_spec_MemFault N s fun n3 =>
    (cond (n3 != (0 : Int))
    (some Bool.true)
    (cond (decide ((n < (0 : Int))))
      (some Bool.true)
      (cond (decide ((n > (255 : Int))))
        (some Bool.true)
        (cond (decide ((n1 < (0 : Int))))
          (some Bool.true)
          (cond (decide ((n1 ≥ (262144 : Int))))
            (some Bool.true)
            (g_spec_l03Acc N n2 fun b1 =>
              (some (!b1))))))))) fun j =>
  (cond j
  (k (0 : Int) (0 : Int) (0 : Int) Bool.false Bool.true (ByteArray.mk (List.toArray [])) [])
  (g_spec_l03Entry N s n (Int.fdiv n1 (8192 : Int)) fun n4 b2 =>
    (cond (!b2)
    (k (2 : Int) (0 : Int) (0 : Int) Bool.false Bool.false s [])
    (oK (cond ((Go.IntKind.wrap Go.IntKind.i64 (((BitVec.toNat ((BitVec.ofInt 64 n4) &&& (BitVec.ofInt 64 (1 : Int)))) : Nat) : Int)) != (0 : Int))
        (some ((Go.IntKind.wrap Go.IntKind.i64 (((BitVec.toNat ((BitVec.ofInt 64 n4) &&& (BitVec.ofInt 64 (14 : Int)))) : Nat) : Int)) == (0 : Int)))
        (some Bool.false)) fun j1 =>
      (cond j1
      (g_spec_l03Entry N s (Int.fdiv n4 (256 : Int)) (Int.tmod (Int.fdiv n1 (256 : Int)) (32 : Int)) fun n5 b3 =>
        (cond (!b3)
        (k (2 : Int) (0 : Int) (0 : Int) Bool.false Bool.false s [n])
        (oK (cond ((Go.IntKind.wrap Go.IntKind.i64 (((BitVec.toNat ((BitVec.ofInt 64 n5) &&& (BitVec.ofInt 64 (1 : Int)))) : Nat) : Int)) == (0 : Int))
            (some Bool.true)
            (cond ((Go.IntKind.wrap Go.IntKind.i64 (((BitVec.toNat ((BitVec.ofInt 64 n5) &&& (BitVec.ofInt 64 (14 : Int)))) : Nat) : Int)) == (0 : Int))
              (some Bool.true)
              (g_spec_l03May N n5 n2 b fun b4 =>
                (some (!b4))))) fun j2 =>
          (cond j2
          (k (1 : Int) (0 : Int) (0 : Int) Bool.false (cond (Nat.beq (List.length [(Int.fdiv n4 (256 : Int))]) 0) Bool.false Bool.false) s ([n] ++ [(Int.fdiv n4 (256 : Int))]))
          (oK (some (Int.fdiv n5 (256 : Int))) fun j3 =>
            (cond (decide (((Go.IntKind.wrap Go.IntKind.i64 ((Go.IntKind.wrap Go.IntKind.i64 (j3 + (1 : Int))) * (256 : Int))) > (((ByteArray.size s) : Nat) : Int))))
            (k (2 : Int) (0 : Int) (0 : Int) Bool.false (cond (Nat.beq (List.length [(Int.fdiv n4 (256 : Int))]) 0) Bool.false Bool.false) s ([n] ++ [(Int.fdiv n4 (256 : Int))]))
            (oK (cond (n2 == (2 : Int))
                (some (Go.IntKind.wrap Go.IntKind.i64 (((BitVec.toNat ((BitVec.ofInt 64 (Go.IntKind.wrap Go.IntKind.i64 (((BitVec.toNat ((BitVec.ofInt 64 n5) ||| (BitVec.ofInt 64 (32 : Int)))) : Nat) : Int))) ||| (BitVec.ofInt 64 (64 : Int)))) : Nat) : Int)))
                (some (Go.IntKind.wrap Go.IntKind.i64 (((BitVec.toNat ((BitVec.ofInt 64 n5) ||| (BitVec.ofInt 64 (32 : Int)))) : Nat) : Int)))) fun j4 =>
              (g_spec_SetWord N s (Go.IntKind.wrap Go.IntKind.i64 ((Go.IntKind.wrap Go.IntKind.i64 ((Int.fdiv n4 (256 : Int)) * (256 : Int))) + (Go.IntKind.wrap Go.IntKind.i64 ((4 : Int) * (Int.tmod (Int.fdiv n1 (256 : Int)) (32 : Int)))))) j4 fun s1 =>
              (k (0 : Int) (Go.IntKind.wrap Go.IntKind.i64 ((Go.IntKind.wrap Go.IntKind.i64 (j3 * (256 : Int))) + (Int.tmod n1 (256 : Int)))) j4 Bool.false (cond (Nat.beq (List.length [(Int.fdiv n4 (256 : Int))]) 0) Bool.false Bool.false) s1 ([n] ++ [(Int.fdiv n4 (256 : Int))]))))))))))
      (oK (cond ((Go.IntKind.wrap Go.IntKind.i64 (((BitVec.toNat ((BitVec.ofInt 64 n4) &&& (BitVec.ofInt 64 (1 : Int)))) : Nat) : Int)) == (0 : Int))
          (some Bool.true)
          (cond ((Go.IntKind.wrap Go.IntKind.i64 (((BitVec.toNat ((BitVec.ofInt 64 n4) &&& (BitVec.ofInt 64 (14 : Int)))) : Nat) : Int)) == (0 : Int))
            (some Bool.true)
            (cond ((Int.tmod (Int.fdiv n4 (256 : Int)) (32 : Int)) != (0 : Int))
              (some Bool.true)
              (g_spec_l03May N n4 n2 b fun b5 =>
                (some (!b5)))))) fun j5 =>
        (cond j5
        (k (1 : Int) (0 : Int) (0 : Int) Bool.false Bool.false s [n])
        (oK (some (Go.IntKind.wrap Go.IntKind.i64 ((Int.fdiv n4 (256 : Int)) + (Int.tmod (Int.fdiv n1 (256 : Int)) (32 : Int))))) fun j6 =>
          (cond (decide (((Go.IntKind.wrap Go.IntKind.i64 ((Go.IntKind.wrap Go.IntKind.i64 (j6 + (1 : Int))) * (256 : Int))) > (((ByteArray.size s) : Nat) : Int))))
          (k (2 : Int) (0 : Int) (0 : Int) Bool.false Bool.false s [n])
          (oK (cond (n2 == (2 : Int))
              (some (Go.IntKind.wrap Go.IntKind.i64 (((BitVec.toNat ((BitVec.ofInt 64 (Go.IntKind.wrap Go.IntKind.i64 (((BitVec.toNat ((BitVec.ofInt 64 n4) ||| (BitVec.ofInt 64 (32 : Int)))) : Nat) : Int))) ||| (BitVec.ofInt 64 (64 : Int)))) : Nat) : Int)))
              (some (Go.IntKind.wrap Go.IntKind.i64 (((BitVec.toNat ((BitVec.ofInt 64 n4) ||| (BitVec.ofInt 64 (32 : Int)))) : Nat) : Int)))) fun j7 =>
            (g_spec_SetWord N s (Go.IntKind.wrap Go.IntKind.i64 ((Go.IntKind.wrap Go.IntKind.i64 (n * (256 : Int))) + (Go.IntKind.wrap Go.IntKind.i64 ((4 : Int) * (Int.fdiv n1 (8192 : Int)))))) j7 fun s2 =>
            (k (0 : Int) (Go.IntKind.wrap Go.IntKind.i64 ((Go.IntKind.wrap Go.IntKind.i64 (j6 * (256 : Int))) + (Int.tmod n1 (256 : Int)))) j7 Bool.true Bool.false s2 [n])))))))))))))
theorem e_spec_Walk (N : Nat) {R : Type} (s : ByteArray) (n : Int) (n1 : Int) (n2 : Int) (b : Bool) (K : AV → Hp E → Option R) :
    runFnI (E := E) (O_spec_Walk N) (noIt) sl_spec_Walk J_spec_Walk Go.Proofs.Try.f15 [(Go.Eng.AV.sc (Go.Eng.SV.str s)), (Go.Eng.AV.sc (Go.Eng.SV.int Go.IntKind.i64 n)), (Go.Eng.AV.sc (Go.Eng.SV.int Go.IntKind.i64 n1)), (Go.Eng.AV.sc (Go.Eng.SV.int Go.IntKind.i64 n2)), (Go.Eng.AV.sc (Go.Eng.SV.bool b))] [] K =
      g_spec_Walk N s n n1 n2 b (fun n6 n7 n8 b6 b7 s3 l => K (Go.Eng.AV.agg [(Go.Eng.SV.int Go.IntKind.i64 n6), (Go.Eng.SV.int Go.IntKind.i64 n7), (Go.Eng.SV.int Go.IntKind.i64 n8), (Go.Eng.SV.bool b6), (Go.Eng.SV.slc 0 Option.none b7), (Go.Eng.SV.str s3)]) [(Option.some (Go.Eng.HE.mk Bool.false (Go.Eng.HB.rows (Go.Sa.B.i64 l))))]) := by kernel_rfl
def o_spec_Walk (N : Nat) {R : Type} (args : List AV) (H : Hp E) (K : AV → Hp E → Option R) : Option R :=
  match args, H with
  | [(Go.Eng.AV.sc (Go.Eng.SV.str s)), (Go.Eng.AV.sc (Go.Eng.SV.int Go.IntKind.i64 n)), (Go.Eng.AV.sc (Go.Eng.SV.int Go.IntKind.i64 n1)), (Go.Eng.AV.sc (Go.Eng.SV.int Go.IntKind.i64 n2)), (Go.Eng.AV.sc (Go.Eng.SV.bool b))], [] => g_spec_Walk N s n n1 n2 b (fun n6 n7 n8 b6 b7 s3 l => K (Go.Eng.AV.agg [(Go.Eng.SV.int Go.IntKind.i64 n6), (Go.Eng.SV.int Go.IntKind.i64 n7), (Go.Eng.SV.int Go.IntKind.i64 n8), (Go.Eng.SV.bool b6), (Go.Eng.SV.slc 0 Option.none b7), (Go.Eng.SV.str s3)]) [(Option.some (Go.Eng.HE.mk Bool.false (Go.Eng.HB.rows (Go.Sa.B.i64 l))))])
  | _, _ => none
theorem o_spec_Walk_ok (N : Nat) : FnOk E 15 (o_spec_Walk N) := by
  intro R args H K r h
  unfold o_spec_Walk at h
  dsimp only at h
  split at h
  · exact fnB_ok (ids := []) (top := []) ok (O_spec_Walk_ok N) (jn_ok _ _ _) Go.Proofs.Try.func15 (by kernel_rfl) (IT := noIt) (sl := sl_spec_Walk) (J := J_spec_Walk) (K := K) (H := []) (noIt_ok) (by kernel_rfl) rfl ((e_spec_Walk N _ _ _ _ _ K).trans h)
  · cases h
/-! ### loop.example/g00038/spec.l11Dma -/
abbrev sl_spec_l11Dma : SlotT := [(0, ([0, 1, 2, 3, 4, 10, 13, 14], [0, 10, 11, 12, 13, 14]))]
abbrev J_spec_l11Dma : JT := jn [(3, [(53, .b)])] [] []
noncomputable def O_spec_l11Dma (N : Nat) : Orc E := addFn 15 (o_spec_Walk N) (addFn 152 (o_spec_l01Min N) (addFn 58 (o_spec_MemFault N) (noFn)))
theorem O_spec_l11Dma_ok (N : Nat) : OrcOk (O_spec_l11Dma N) := addFn_ok (o_spec_Walk_ok N) (addFn_ok (o_spec_l01Min_ok N) (addFn_ok (o_spec_MemFault_ok N) (noFn_ok)))
def s_spec_l11Dma_0 (N : Nat) {R : Type} (n5 : Int) (n8 : Int) (n9 : Int) (n10 : Int) (s2 : ByteArray) (s3 : ByteArray) (s1 : ByteArray) (n6 : Int) (n7 : Int) (b : Bool) (b1 : Bool) (l : List Int) (l1 : List Int) (ag : ByteArray → Int → Int → Bool → Bool → (List Int) → (List Int) → Option R)  (kR : ByteArray → Bool → Bool → Int → (List Int) → (List Int) → Option R) (kN : ByteArray → Bool → Bool → (List Int) → (List Int) → Option R) : Option R :=
  (cond (decide ((n7 > (0 : Int))))
  (g_spec_l01Min N n7 (Go.IntKind.wrap Go.IntKind.i64 ((256 : Int) - (Int.tmod n6 (256 : Int)))) fun n11 =>
    (g_spec_Walk N s1 n5 n6 n8 Bool.true fun n12 n13 n14 b2 b3 s4 l2 =>
    (cond (n12 != (0 : Int))
    (kR s1 b b1 n6 l l1)
    (cond (Go.Eng.roomOk ((List.length l) + (List.length [n13])) 8)
      (cond (Go.Eng.roomOk ((List.length l1) + (List.length [n11])) 8)
        (ag s4 (Go.IntKind.wrap Go.IntKind.i64 (n6 + n11)) (Go.IntKind.wrap Go.IntKind.i64 (n7 - n11)) (cond (Nat.beq (List.length [n13]) 0) b Bool.false) (cond (Nat.beq (List.length [n11]) 0) b1 Bool.false) (l ++ [n13]) (l1 ++ [n11]))
        none)
      none))))
  (kN s1 b b1 l l1))
def l_spec_l11Dma_0 (N : Nat) {R : Type} (n5 : Int) (n8 : Int) (n9 : Int) (n10 : Int) (s2 : ByteArray) (s3 : ByteArray) (kR : ByteArray → Bool → Bool → Int → (List Int) → (List Int) → Option R) (kN : ByteArray → Bool → Bool → (List Int) → (List Int) → Option R) : Nat → ByteArray → Int → Int → Bool → Bool → (List Int) → (List Int) → Option R
  | 0, _, _, _, _, _, _, _ => none
  | f + 1, s1, n6, n7, b, b1, l, l1 => s_spec_l11Dma_0 N n5 n8 n9 n10 s2 s3 s1 n6 n7 b b1 l l1 (fun s1 n6 n7 b b1 l l1 => l_spec_l11Dma_0 N n5 n8 n9 n10 s2 s3 kR kN f s1 n6 n7 b b1 l l1)  kR kN
def c_spec_l11Dma_0 (N : Nat) {R : Type} (n5 : Int) (n8 : Int) (n9 : Int) (n10 : Int) (s2 : ByteArray) (s3 : ByteArray) (s1 : ByteArray) (n6 : Int) (n7 : Int) (b : Bool) (b1 : Bool) (l : List Int) (l1 : List Int) (kR : ByteArray → Bool → Bool → Int → (List Int) → (List Int) → Option R) (kN : ByteArray → Bool → Bool → (List Int) → (List Int) → Option R) : Option R := l_spec_l11Dma_0 N n5 n8 n9 n10 s2 s3 kR kN N s1 n6 n7 b b1 l l1
theorem se_spec_l11Dma_0 (N : Nat) {R : Type} (n5 : Int) (n8 : Int) (n9 : Int) (n10 : Int) (s2 : ByteArray) (s3 : ByteArray) (s1 : ByteArray) (n6 : Int) (n7 : Int) (b : Bool) (b1 : Bool) (l : List Int) (l1 : List Int) (AG : List (Option AV) → Hp E → Option R) (KL : Ex → List (Option AV) → Hp E → Option R) :
    iterStep (E := E) (O_spec_l11Dma N) (fun {R} => LI (noIt) 0 95 sl_spec_l11Dma (R := R)) J_spec_l11Dma 0 95 0 [0, 1, 2, 3, 4, 10, 13, 14] [0, 10, 11, 12, 13, 14] (body Go.Proofs.Try.f75 0) AG KL [(Option.some (Go.Eng.AV.sc (Go.Eng.SV.str s1))), (Option.some (Go.Eng.AV.sc (Go.Eng.SV.int Go.IntKind.i64 n5))), (Option.some (Go.Eng.AV.sc (Go.Eng.SV.int Go.IntKind.i64 n6))), (Option.some (Go.Eng.AV.sc (Go.Eng.SV.int Go.IntKind.i64 n7))), (Option.some (Go.Eng.AV.sc (Go.Eng.SV.int Go.IntKind.i64 n8))), (Option.some (Go.Eng.AV.sc (Go.Eng.SV.ptr 0 0 0))), (Option.some (Go.Eng.AV.sc (Go.Eng.SV.slc 1 Option.none b))), (Option.some (Go.Eng.AV.sc (Go.Eng.SV.slc 2 Option.none b1)))] [(Option.some (Go.Eng.HE.mk Bool.false (Go.Eng.HB.exp Option.none [(Go.Eng.SV.int Go.IntKind.i64 n9), (Go.Eng.SV.int Go.IntKind.i64 n10), (Go.Eng.SV.str s2), (Go.Eng.SV.str s3)]))), (Option.some (Go.Eng.HE.mk Bool.false (Go.Eng.HB.rows (Go.Sa.B.i64 l)))), (Option.some (Go.Eng.HE.mk Bool.false (Go.Eng.HB.rows (Go.Sa.B.i64 l1))))] =
      s_spec_l11Dma_0 N n5 n8 n9 n10 s2 s3 s1 n6 n7 b b1 l l1 (fun s1 n6 n7 b b1 l l1 => AG [(Option.some (Go.Eng.AV.sc (Go.Eng.SV.str s1))), (Option.some (Go.Eng.AV.sc (Go.Eng.SV.int Go.IntKind.i64 n5))), (Option.some (Go.Eng.AV.sc (Go.Eng.SV.int Go.IntKind.i64 n6))), (Option.some (Go.Eng.AV.sc (Go.Eng.SV.int Go.IntKind.i64 n7))), (Option.some (Go.Eng.AV.sc (Go.Eng.SV.int Go.IntKind.i64 n8))), (Option.some (Go.Eng.AV.sc (Go.Eng.SV.ptr 0 0 0))), (Option.some (Go.Eng.AV.sc (Go.Eng.SV.slc 1 Option.none b))), (Option.some (Go.Eng.AV.sc (Go.Eng.SV.slc 2 Option.none b1)))] [(Option.some (Go.Eng.HE.mk Bool.false (Go.Eng.HB.exp Option.none [(Go.Eng.SV.int Go.IntKind.i64 n9), (Go.Eng.SV.int Go.IntKind.i64 n10), (Go.Eng.SV.str s2), (Go.Eng.SV.str s3)]))), (Option.some (Go.Eng.HE.mk Bool.false (Go.Eng.HB.rows (Go.Sa.B.i64 l)))), (Option.some (Go.Eng.HE.mk Bool.false (Go.Eng.HB.rows (Go.Sa.B.i64 l1))))])  (fun s8 b10 b11 n18 l9 l10 => KL Go.Eng.Ex.ret [(Option.some (Go.Eng.AV.sc (Go.Eng.SV.str s8))), (Option.some (Go.Eng.AV.sc (Go.Eng.SV.ptr 0 0 0))), (Option.some (Go.Eng.AV.sc (Go.Eng.SV.slc 1 Option.none Bool.true))), (Option.some (Go.Eng.AV.sc (Go.Eng.SV.slc 2 Option.none Bool.true))), (Option.some (Go.Eng.AV.sc (Go.Eng.SV.slc 3 Option.none b10))), (Option.some (Go.Eng.AV.sc (Go.Eng.SV.slc 4 Option.none b11)))] [(Option.some (Go.Eng.HE.mk Bool.false (Go.Eng.HB.exp Option.none [(Go.Eng.SV.int Go.IntKind.i64 (7 : Int)), (Go.Eng.SV.int Go.IntKind.i64 n18), (Go.Eng.SV.str (ByteArray.mk (List.toArray []))), (Go.Eng.SV.str (ByteArray.mk (List.toArray [])))]))), (Option.some (Go.Eng.HE.mk Bool.false (Go.Eng.HB.rows (Go.Sa.B.i64 [])))), (Option.some (Go.Eng.HE.mk Bool.false (Go.Eng.HB.rows (Go.Sa.B.i64 [])))), (Option.some (Go.Eng.HE.mk Bool.false (Go.Eng.HB.rows (Go.Sa.B.i64 l9)))), (Option.some (Go.Eng.HE.mk Bool.false (Go.Eng.HB.rows (Go.Sa.B.i64 l10))))]) (fun s9 b12 b13 l11 l12 => KL Go.Eng.Ex.normal [(Option.some (Go.Eng.AV.sc (Go.Eng.SV.str s9))), (Option.some (Go.Eng.AV.sc (Go.Eng.SV.ptr 0 0 0))), Option.none, Option.none, (Option.some (Go.Eng.AV.sc (Go.Eng.SV.slc 1 Option.none b12))), (Option.some (Go.Eng.AV.sc (Go.Eng.SV.slc 2 Option.none b13)))] [(Option.some (Go.Eng.HE.mk Bool.false (Go.Eng.HB.exp Option.none [(Go.Eng.SV.int Go.IntKind.i64 n9), (Go.Eng.SV.int Go.IntKind.i64 n10), (Go.Eng.SV.str s2), (Go.Eng.SV.str s3)]))), (Option.some (Go.Eng.HE.mk Bool.false (Go.Eng.HB.rows (Go.Sa.B.i64 l11)))), (Option.some (Go.Eng.HE.mk Bool.false (Go.Eng.HB.rows (Go.Sa.B.i64 l12))))]) := by kernel_rfl
theorem le_spec_l11Dma_0 (N : Nat) {R : Type} (n5 : Int) (n8 : Int) (n9 : Int) (n10 : Int) (s2 : ByteArray) (s3 : ByteArray) (KL : Ex → List (Option AV) → Hp E → Option R) : ∀ (f : Nat), ∀ (s1 : ByteArray) (n6 : Int) (n7 : Int) (b : Bool) (b1 : Bool) (l : List Int) (l1 : List Int), iterK (E := E) (O_spec_l11Dma N) (fun {R} => LI (noIt) 0 95 sl_spec_l11Dma (R := R)) J_spec_l11Dma 0 95 0 [0, 1, 2, 3, 4, 10, 13, 14] [0, 10, 11, 12, 13, 14] (body Go.Proofs.Try.f75 0) f [(Option.some (Go.Eng.AV.sc (Go.Eng.SV.str s1))), (Option.some (Go.Eng.AV.sc (Go.Eng.SV.int Go.IntKind.i64 n5))), (Option.some (Go.Eng.AV.sc (Go.Eng.SV.int Go.IntKind.i64 n6))), (Option.some (Go.Eng.AV.sc (Go.Eng.SV.int Go.IntKind.i64 n7))), (Option.some (Go.Eng.AV.sc (Go.Eng.SV.int Go.IntKind.i64 n8))), (Option.some (Go.Eng.AV.sc (Go.Eng.SV.ptr 0 0 0))), (Option.some (Go.Eng.AV.sc (Go.Eng.SV.slc 1 Option.none b))), (Option.some (Go.Eng.AV.sc (Go.Eng.SV.slc 2 Option.none b1)))] [(Option.some (Go.Eng.HE.mk Bool.false (Go.Eng.HB.exp Option.none [(Go.Eng.SV.int Go.IntKind.i64 n9), (Go.Eng.SV.int Go.IntKind.i64 n10), (Go.Eng.SV.str s2), (Go.Eng.SV.str s3)]))), (Option.some (Go.Eng.HE.mk Bool.false (Go.Eng.HB.rows (Go.Sa.B.i64 l)))), (Option.some (Go.Eng.HE.mk Bool.false (Go.Eng.HB.rows (Go.Sa.B.i64 l1))))] KL = l_spec_l11Dma_0 N n5 n8 n9 n10 s2 s3 (fun s8 b10 b11 n18 l9 l10 => KL Go.Eng.Ex.ret [(Option.some (Go.Eng.AV.sc (Go.Eng.SV.str s8))), (Option.some (Go.Eng.AV.sc (Go.Eng.SV.ptr 0 0 0))), (Option.some (Go.Eng.AV.sc (Go.Eng.SV.slc 1 Option.none Bool.true))), (Option.some (Go.Eng.AV.sc (Go.Eng.SV.slc 2 Option.none Bool.true))), (Option.some (Go.Eng.AV.sc (Go.Eng.SV.slc 3 Option.none b10))), (Option.some (Go.Eng.AV.sc (Go.Eng.SV.slc 4 Option.none b11)))] [(Option.some (Go.Eng.HE.mk Bool.false (Go.Eng.HB.exp Option.none [(Go.Eng.SV.int Go.IntKind.i64 (7 : Int)), (Go.Eng.SV.int Go.IntKind.i64 n18), (Go.Eng.SV.str (ByteArray.mk (List.toArray []))), (Go.Eng.SV.str (ByteArray.mk (List.toArray [])))]))), (Option.some (Go.Eng.HE.mk Bool.false (Go.Eng.HB.rows (Go.Sa.B.i64 [])))), (Option.some (Go.Eng.HE.mk Bool.false (Go.Eng.HB.rows (Go.Sa.B.i64 [])))), (Option.some (Go.Eng.HE.mk Bool.false (Go.Eng.HB.rows (Go.Sa.B.i64 l9)))), (Option.some (Go.Eng.HE.mk Bool.false (Go.Eng.HB.rows (Go.Sa.B.i64 l10))))]) (fun s9 b12 b13 l11 l12 => KL Go.Eng.Ex.normal [(Option.some (Go.Eng.AV.sc (Go.Eng.SV.str s9))), (Option.some (Go.Eng.AV.sc (Go.Eng.SV.ptr 0 0 0))), Option.none, Option.none, (Option.some (Go.Eng.AV.sc (Go.Eng.SV.slc 1 Option.none b12))), (Option.some (Go.Eng.AV.sc (Go.Eng.SV.slc 2 Option.none b13)))] [(Option.some (Go.Eng.HE.mk Bool.false (Go.Eng.HB.exp Option.none [(Go.Eng.SV.int Go.IntKind.i64 n9), (Go.Eng.SV.int Go.IntKind.i64 n10), (Go.Eng.SV.str s2), (Go.Eng.SV.str s3)]))), (Option.some (Go.Eng.HE.mk Bool.false (Go.Eng.HB.rows (Go.Sa.B.i64 l11)))), (Option.some (Go.Eng.HE.mk Bool.false (Go.Eng.HB.rows (Go.Sa.B.i64 l12))))]) f s1 n6 n7 b b1 l l1 := by
  intro f
  induction f with
  | zero => intros; rfl
  | succ f ih =>
    intro s1 n6 n7 b b1 l l1
    rw [iterK_succ, se_spec_l11Dma_0]
    exact (congrArg (fun z0 => s_spec_l11Dma_0 N n5 n8 n9 n10 s2 s3 s1 n6 n7 b b1 l l1 z0 (fun s8 b10 b11 n18 l9 l10 => KL Go.Eng.Ex.ret [(Option.some (Go.Eng.AV.sc (Go.Eng.SV.str s8))), (Option.some (Go.Eng.AV.sc (Go.Eng.SV.ptr 0 0 0))), (Option.some (Go.Eng.AV.sc (Go.Eng.SV.slc 1 Option.none Bool.true))), (Option.some (Go.Eng.AV.sc (Go.Eng.SV.slc 2 Option.none Bool.true))), (Option.some (Go.Eng.AV.sc (Go.Eng.SV.slc 3 Option.none b10))), (Option.some (Go.Eng.AV.sc (Go.Eng.SV.slc 4 Option.none b11)))] [(Option.some (Go.Eng.HE.mk Bool.false (Go.Eng.HB.exp Option.none [(Go.Eng.SV.int Go.IntKind.i64 (7 : Int)), (Go.Eng.SV.int Go.IntKind.i64 n18), (Go.Eng.SV.str (ByteArray.mk (List.toArray []))), (Go.Eng.SV.str (ByteArray.mk (List.toArray [])))]))), (Option.some (Go.Eng.HE.mk Bool.false (Go.Eng.HB.rows (Go.Sa.B.i64 [])))), (Option.some (Go.Eng.HE.mk Bool.false (Go.Eng.HB.rows (Go.Sa.B.i64 [])))), (Option.some (Go.Eng.HE.mk Bool.false (Go.Eng.HB.rows (Go.Sa.B.i64 l9)))), (Option.some (Go.Eng.HE.mk Bool.false (Go.Eng.HB.rows (Go.Sa.B.i64 l10))))]) (fun s9 b12 b13 l11 l12 => KL Go.Eng.Ex.normal [(Option.some (Go.Eng.AV.sc (Go.Eng.SV.str s9))), (Option.some (Go.Eng.AV.sc (Go.Eng.SV.ptr 0 0 0))), Option.none, Option.none, (Option.some (Go.Eng.AV.sc (Go.Eng.SV.slc 1 Option.none b12))), (Option.some (Go.Eng.AV.sc (Go.Eng.SV.slc 2 Option.none b13)))] [(Option.some (Go.Eng.HE.mk Bool.false (Go.Eng.HB.exp Option.none [(Go.Eng.SV.int Go.IntKind.i64 n9), (Go.Eng.SV.int Go.IntKind.i64 n10), (Go.Eng.SV.str s2), (Go.Eng.SV.str s3)]))), (Option.some (Go.Eng.HE.mk Bool.false (Go.Eng.HB.rows (Go.Sa.B.i64 l11)))), (Option.some (Go.Eng.HE.mk Bool.false (Go.Eng.HB.rows (Go.Sa.B.i64 l12))))])) (funext fun s1 => funext fun n6 => funext fun n7 => funext fun b => funext fun b1 => funext fun l => funext fun l1 => ih s1 n6 n7 b b1 l l1))
def i_spec_l11Dma_0 (N : Nat) {R : Type} (vs : List (Option AV)) (H : Hp E) (KL : Ex → List (Option AV) → Hp E → Option R) : Option R :=
  match vs, H with
  | [(Option.some (Go.Eng.AV.sc (Go.Eng.SV.str s1))), (Option.some (Go.Eng.AV.sc (Go.Eng.SV.int Go.IntKind.i64 n5))), (Option.some (Go.Eng.AV.sc (Go.Eng.SV.int Go.IntKind.i64 n6))), (Option.some (Go.Eng.AV.sc (Go.Eng.SV.int Go.IntKind.i64 n7))), (Option.some (Go.Eng.AV.sc (Go.Eng.SV.int Go.IntKind.i64 n8))), (Option.some (Go.Eng.AV.sc (Go.Eng.SV.ptr 0 0 0))), (Option.some (Go.Eng.AV.sc (Go.Eng.SV.slc 1 Option.none b))), (Option.some (Go.Eng.AV.sc (Go.Eng.SV.slc 2 Option.none b1)))], [(Option.some (Go.Eng.HE.mk Bool.false (Go.Eng.HB.exp Option.none [(Go.Eng.SV.int Go.IntKind.i64 n9), (Go.Eng.SV.int Go.IntKind.i64 n10), (Go.Eng.SV.str s2), (Go.Eng.SV.str s3)]))), (Option.some (Go.Eng.HE.mk Bool.false (Go.Eng.HB.rows (Go.Sa.B.i64 l)))), (Option.some (Go.Eng.HE.mk Bool.false (Go.Eng.HB.rows (Go.Sa.B.i64 l1))))] => c_spec_l11Dma_0 N n5 n8 n9 n10 s2 s3 s1 n6 n7 b b1 l l1 (fun s10 b14 b15 n19 l13 l14 => KL Go.Eng.Ex.ret [(Option.some (Go.Eng.AV.sc (Go.Eng.SV.str s10))), (Option.some (Go.Eng.AV.sc (Go.Eng.SV.ptr 0 0 0))), (Option.some (Go.Eng.AV.sc (Go.Eng.SV.slc 1 Option.none Bool.true))), (Option.some (Go.Eng.AV.sc (Go.Eng.SV.slc 2 Option.none Bool.true))), (Option.some (Go.Eng.AV.sc (Go.Eng.SV.slc 3 Option.none b14))), (Option.some (Go.Eng.AV.sc (Go.Eng.SV.slc 4 Option.none b15)))] [(Option.some (Go.Eng.HE.mk Bool.false (Go.Eng.HB.exp Option.none [(Go.Eng.SV.int Go.IntKind.i64 (7 : Int)), (Go.Eng.SV.int Go.IntKind.i64 n19), (Go.Eng.SV.str (ByteArray.mk (List.toArray []))), (Go.Eng.SV.str (ByteArray.mk (List.toArray [])))]))), (Option.some (Go.Eng.HE.mk Bool.false (Go.Eng.HB.rows (Go.Sa.B.i64 [])))), (Option.some (Go.Eng.HE.mk Bool.false (Go.Eng.HB.rows (Go.Sa.B.i64 [])))), (Option.some (Go.Eng.HE.mk Bool.false (Go.Eng.HB.rows (Go.Sa.B.i64 l13)))), (Option.some (Go.Eng.HE.mk Bool.false (Go.Eng.HB.rows (Go.Sa.B.i64 l14))))]) (fun s11 b16 b17 l15 l16 => KL Go.Eng.Ex.normal [(Option.some (Go.Eng.AV.sc (Go.Eng.SV.str s11))), (Option.some (Go.Eng.AV.sc (Go.Eng.SV.ptr 0 0 0))), Option.none, Option.none, (Option.some (Go.Eng.AV.sc (Go.Eng.SV.slc 1 Option.none b16))), (Option.some (Go.Eng.AV.sc (Go.Eng.SV.slc 2 Option.none b17)))] [(Option.some (Go.Eng.HE.mk Bool.false (Go.Eng.HB.exp Option.none [(Go.Eng.SV.int Go.IntKind.i64 n9), (Go.Eng.SV.int Go.IntKind.i64 n10), (Go.Eng.SV.str s2), (Go.Eng.SV.str s3)]))), (Option.some (Go.Eng.HE.mk Bool.false (Go.Eng.HB.rows (Go.Sa.B.i64 l15)))), (Option.some (Go.Eng.HE.mk Bool.false (Go.Eng.HB.rows (Go.Sa.B.i64 l16))))])
  | _, _ => none
noncomputable def IT_spec_l11Dma_0 (N : Nat) : Its E := addIt 0 (i_spec_l11Dma_0 N) (noIt)
theorem IT_spec_l11Dma_0_ok (N : Nat) : ItOk (IT_spec_l11Dma_0 N) 0 95 sl_spec_l11Dma (lsB Go.Proofs.Try.f75 [0]) :=
  addItB_ok (inner := []) ok (O_spec_l11Dma_ok N) (jn_ok _ _ _) (noIt_ok) rfl (by kernel_rfl) rfl fun vs H KL r h => by
    unfold i_spec_l11Dma_0 at h
    split at h
    · exact ⟨_, (le_spec_l11Dma_0 N _ _ _ _ _ _ KL N _ _ _ _ _ _ _).trans h⟩
    · cases h
def g_spec_l11Dma (N : Nat) {R : Type} (s : ByteArray) (n : Int) (n1 : Int) (n2 : Int) (n3 : Int) (k : Int → Int → ByteArray → Bool → Bool → (List Int) → (List Int) → Option R) : Option R :=
  (cond (decide (((((ByteArray.size s) : Nat) : Int) > (65536 : Int))))
  (k (2 : Int) (0 : Int) (ByteArray.mk (List.toArray [])) Bool.true Bool.true [] [])
  (oK (g_spec_MemFault N s fun n4 =>
      (cond (n4 != (0 : Int))
      (some Bool.true)
      (cond (decide ((n < (0 : Int))))
        (some Bool.true)
        (cond (decide ((n > (255 : Int))))
          (some Bool.true)
          (cond (decide ((n1 < (0 : Int))))
            (some Bool.true)
            (cond (decide ((n1 ≥ (262144 : Int))))
              (some Bool.true)
              (cond (decide ((n2 < (0 : Int))))
                (some Bool.true)
                (cond (decide ((n2 > (65536 : Int))))
                  (some Bool.true)
                  (some (decide (((Go.IntKind.wrap Go.IntKind.i64 (n1 + n2)) > (262144 : Int))))))))))))) fun j =>
    (cond j
    (k (1 : Int) (0 : Int) (ByteArray.mk (List.toArray [])) Bool.true Bool.true [] [])
    (c_spec_l11Dma_0 N n n3 (0 : Int) (0 : Int) (ByteArray.mk (List.toArray [])) (ByteArray.mk (List.toArray [])) s n1 n2 Bool.false Bool.false [] [] (fun s5 b4 b5 n15 l3 l4 =>
      (k (7 : Int) n15 (ByteArray.mk (List.toArray [])) Bool.true Bool.true [] [])) (fun s6 b6 b7 l5 l6 =>
      (k (0 : Int) (0 : Int) s6 b6 b7 l5 l6))))))
theorem e_spec_l11Dma (N : Nat) {R : Type} (s : ByteArray) (n : Int) (n1 : Int) (n2 : Int) (n3 : Int) (K : AV → Hp E → Option R) :
    runFnI (E := E) (O_spec_l11Dma N) (IT_spec_l11Dma_0 N) sl_spec_l11Dma J_spec_l11Dma Go.Proofs.Try.f75 [(Go.Eng.AV.sc (Go.Eng.SV.str s)), (Go.Eng.AV.sc (Go.Eng.SV.int Go.IntKind.i64 n)), (Go.Eng.AV.sc (Go.Eng.SV.int Go.IntKind.i64 n1)), (Go.Eng.AV.sc (Go.Eng.SV.int Go.IntKind.i64 n2)), (Go.Eng.AV.sc (Go.Eng.SV.int Go.IntKind.i64 n3))] [] K =
      g_spec_l11Dma N s n n1 n2 n3 (fun n16 n17 s7 b8 b9 l7 l8 => K (Go.Eng.AV.tup [(Bool.true, [(Go.Eng.SV.int Go.IntKind.i64 n16), (Go.Eng.SV.int Go.IntKind.i64 n17), (Go.Eng.SV.str (ByteArray.mk (List.toArray []))), (Go.Eng.SV.str s7)]), (Bool.false, [(Go.Eng.SV.slc 0 Option.none b8)]), (Bool.false, [(Go.Eng.SV.slc 1 Option.none b9)])]) [(Option.some (Go.Eng.HE.mk Bool.false (Go.Eng.HB.rows (Go.Sa.B.i64 l7)))), (Option.some (Go.Eng.HE.mk Bool.false (Go.Eng.HB.rows (Go.Sa.B.i64 l8))))]) := by kernel_rfl
def o_spec_l11Dma (N : Nat) {R : Type} (args : List AV) (H : Hp E) (K : AV → Hp E → Option R) : Option R :=
  match args, H with
  | [(Go.Eng.AV.sc (Go.Eng.SV.str s)), (Go.Eng.AV.sc (Go.Eng.SV.int Go.IntKind.i64 n)), (Go.Eng.AV.sc (Go.Eng.SV.int Go.IntKind.i64 n1)), (Go.Eng.AV.sc (Go.Eng.SV.int Go.IntKind.i64 n2)), (Go.Eng.AV.sc (Go.Eng.SV.int Go.IntKind.i64 n3))], [] => g_spec_l11Dma N s n n1 n2 n3 (fun n16 n17 s7 b8 b9 l7 l8 => K (Go.Eng.AV.tup [(Bool.true, [(Go.Eng.SV.int Go.IntKind.i64 n16), (Go.Eng.SV.int Go.IntKind.i64 n17), (Go.Eng.SV.str (ByteArray.mk (List.toArray []))), (Go.Eng.SV.str s7)]), (Bool.false, [(Go.Eng.SV.slc 0 Option.none b8)]), (Bool.false, [(Go.Eng.SV.slc 1 Option.none b9)])]) [(Option.some (Go.Eng.HE.mk Bool.false (Go.Eng.HB.rows (Go.Sa.B.i64 l7)))), (Option.some (Go.Eng.HE.mk Bool.false (Go.Eng.HB.rows (Go.Sa.B.i64 l8))))])
  | _, _ => none
theorem o_spec_l11Dma_ok (N : Nat) : FnOk E 75 (o_spec_l11Dma N) := by
  intro R args H K r h
  unfold o_spec_l11Dma at h
  dsimp only at h
  split at h
  · exact fnB_ok (ids := [0]) (top := [0]) ok (O_spec_l11Dma_ok N) (jn_ok _ _ _) Go.Proofs.Try.func75 (by kernel_rfl) (IT := IT_spec_l11Dma_0 N) (sl := sl_spec_l11Dma) (J := J_spec_l11Dma) (K := K) (H := []) (IT_spec_l11Dma_0_ok N) (by kernel_rfl) rfl ((e_spec_l11Dma N _ _ _ _ _ K).trans h)
  · cases h
/-! ### loop.example/g00038/spec.DmaWrite -/
abbrev sl_spec_DmaWrite : SlotT := [(0, ([3, 8, 9, 10, 11, 12], [8, 9]))]
abbrev J_spec_DmaWrite : JT := jn [] [] []
noncomputable def O_spec_DmaWrite (N : Nat) : Orc E := addFn 75 (o_spec_l11Dma N) (noFn)
theorem O_spec_DmaWrite_ok (N : Nat) : OrcOk (O_spec_DmaWrite N) := addFn_ok (o_spec_l11Dma_ok N) (noFn_ok)
def s_spec_DmaWrite_0 (N : Nat) {R : Type} (b2 : Bool) (b3 : Bool) (n5 : Int) (n6 : Int) (s4 : ByteArray) (s5 : ByteArray) (n7 : Int) (n8 : Int) (s6 : ByteArray) (l2 : List Int) (l3 : List Int) (s3 : ByteArray) (n4 : Int) (s7 : ByteArray) (ag : ByteArray → Int → ByteArray → Option R)  (kN : ByteArray → Option R) : Option R :=
  (cond (decide ((n4 < (((List.length l2) : Nat) : Int))))
  (cond ((decide (((0 : Int) ≤ n4))) && (decide ((n4 < (((List.length l2) : Nat) : Int)))))
    (elemK l2 (Int.toNat n4) fun x =>
      (cond ((decide (((0 : Int) ≤ x))) && (decide ((x ≤ (((ByteArray.size s7) : Nat) : Int)))))
      (cond ((decide (((0 : Int) ≤ n4))) && (decide ((n4 < (((List.length l3) : Nat) : Int)))))
        (elemK l3 (Int.toNat n4) fun x1 =>
          (cond ((decide (((0 : Int) ≤ x1))) && (decide ((x1 ≤ (((ByteArray.size s3) : Nat) : Int)))))
          (cond (Nat.ble ((ByteArray.size (ByteArray.extract s7 0 (Int.toNat x))) + (ByteArray.size (ByteArray.extract s3 0 (Int.toNat x1)))) 9223372036854775807)
            (cond ((decide (((0 : Int) ≤ n4))) && (decide ((n4 < (((List.length l2) : Nat) : Int)))))
              (elemK l2 (Int.toNat n4) fun x2 =>
                (cond ((decide (((0 : Int) ≤ n4))) && (decide ((n4 < (((List.length l3) : Nat) : Int)))))
                (elemK l3 (Int.toNat n4) fun x3 =>
                  (cond (((decide (((0 : Int) ≤ (Go.IntKind.wrap Go.IntKind.i64 (x2 + x3))))) && (decide (((Go.IntKind.wrap Go.IntKind.i64 (x2 + x3)) ≤ (((ByteArray.size s7) : Nat) : Int))))) && (decide (((((ByteArray.size s7) : Nat) : Int) ≤ (((ByteArray.size s7) : Nat) : Int)))))
                  (cond (Nat.ble ((ByteArray.size ((ByteArray.extract s7 0 (Int.toNat x)) ++ (ByteArray.extract s3 0 (Int.toNat x1)))) + (ByteArray.size (ByteArray.extract s7 (Int.toNat (Go.IntKind.wrap Go.IntKind.i64 (x2 + x3))) (Int.toNat (((ByteArray.size s7) : Nat) : Int))))) 9223372036854775807)
                    (cond ((decide (((0 : Int) ≤ n4))) && (decide ((n4 < (((List.length l3) : Nat) : Int)))))
                      (elemK l3 (Int.toNat n4) fun x4 =>
                        (cond (((decide (((0 : Int) ≤ x4))) && (decide ((x4 ≤ (((ByteArray.size s3) : Nat) : Int))))) && (decide (((((ByteArray.size s3) : Nat) : Int) ≤ (((ByteArray.size s3) : Nat) : Int)))))
                        (ag (ByteArray.extract s3 (Int.toNat x4) (Int.toNat (((ByteArray.size s3) : Nat) : Int))) (Go.IntKind.wrap Go.IntKind.i64 (n4 + (1 : Int))) (((ByteArray.extract s7 0 (Int.toNat x)) ++ (ByteArray.extract s3 0 (Int.toNat x1))) ++ (ByteArray.extract s7 (Int.toNat (Go.IntKind.wrap Go.IntKind.i64 (x2 + x3))) (Int.toNat (((ByteArray.size s7) : Nat) : Int)))))
                        none))
                      none)
                    none)
                  none))
                none))
              none)
            none)
          none))
        none)
      none))
    none)
  (kN s7))
def l_spec_DmaWrite_0 (N : Nat) {R : Type} (b2 : Bool) (b3 : Bool) (n5 : Int) (n6 : Int) (s4 : ByteArray) (s5 : ByteArray) (n7 : Int) (n8 : Int) (s6 : ByteArray) (l2 : List Int) (l3 : List Int) (kN : ByteArray → Option R) : Nat → ByteArray → Int → ByteArray → Option R
  | 0, _, _, _ => none
  | f + 1, s3, n4, s7 => s_spec_DmaWrite_0 N b2 b3 n5 n6 s4 s5 n7 n8 s6 l2 l3 s3 n4 s7 (fun s3 n4 s7 => l_spec_DmaWrite_0 N b2 b3 n5 n6 s4 s5 n7 n8 s6 l2 l3 kN f s3 n4 s7)  kN
def c_spec_DmaWrite_0 (N : Nat) {R : Type} (b2 : Bool) (b3 : Bool) (n5 : Int) (n6 : Int) (s4 : ByteArray) (s5 : ByteArray) (n7 : Int) (n8 : Int) (s6 : ByteArray) (l2 : List Int) (l3 : List Int) (s3 : ByteArray) (n4 : Int) (s7 : ByteArray) (kN : ByteArray → Option R) : Option R := l_spec_DmaWrite_0 N b2 b3 n5 n6 s4 s5 n7 n8 s6 l2 l3 kN N s3 n4 s7
theorem se_spec_DmaWrite_0 (N : Nat) {R : Type} (b2 : Bool) (b3 : Bool) (n5 : Int) (n6 : Int) (s4 : ByteArray) (s5 : ByteArray) (n7 : Int) (n8 : Int) (s6 : ByteArray) (l2 : List Int) (l3 : List Int) (s3 : ByteArray) (n4 : Int) (s7 : ByteArray) (AG : List (Option AV) → Hp E → Option R) (KL : Ex → List (Option AV) → Hp E → Option R) :
    iterStep (E := E) (O_spec_DmaWrite N) (fun {R} => LI (noIt) 0 68 sl_spec_DmaWrite (R := R)) J_spec_DmaWrite 0 68 0 [3, 8, 9, 10, 11, 12] [8, 9] (body Go.Proofs.Try.f23 0) AG KL [(Option.some (Go.Eng.AV.sc (Go.Eng.SV.str s3))), (Option.some (Go.Eng.AV.sc (Go.Eng.SV.ptr 0 0 0))), (Option.some (Go.Eng.AV.sc (Go.Eng.SV.ptr 1 0 0))), (Option.some (Go.Eng.AV.sc (Go.Eng.SV.slc 2 Option.none b2))), (Option.some (Go.Eng.AV.sc (Go.Eng.SV.slc 3 Option.none b3))), (Option.some (Go.Eng.AV.sc (Go.Eng.SV.int Go.IntKind.i64 n4)))] [(Option.some (Go.Eng.HE.mk Bool.false (Go.Eng.HB.exp Option.none [(Go.Eng.SV.int Go.IntKind.i64 n5), (Go.Eng.SV.int Go.IntKind.i64 n6), (Go.Eng.SV.str s4), (Go.Eng.SV.str s5)]))), (Option.some (Go.Eng.HE.mk Bool.false (Go.Eng.HB.exp Option.none [(Go.Eng.SV.int Go.IntKind.i64 n7), (Go.Eng.SV.int Go.IntKind.i64 n8), (Go.Eng.SV.str s6), (Go.Eng.SV.str s7)]))), (Option.some (Go.Eng.HE.mk Bool.false (Go.Eng.HB.rows (Go.Sa.B.i64 l2)))), (Option.some (Go.Eng.HE.mk Bool.false (Go.Eng.HB.rows (Go.Sa.B.i64 l3))))] =
      s_spec_DmaWrite_0 N b2 b3 n5 n6 s4 s5 n7 n8 s6 l2 l3 s3 n4 s7 (fun s3 n4 s7 => AG [(Option.some (Go.Eng.AV.sc (Go.Eng.SV.str s3))), (Option.some (Go.Eng.AV.sc (Go.Eng.SV.ptr 0 0 0))), (Option.some (Go.Eng.AV.sc (Go.Eng.SV.ptr 1 0 0))), (Option.some (Go.Eng.AV.sc (Go.Eng.SV.slc 2 Option.none b2))), (Option.some (Go.Eng.AV.sc (Go.Eng.SV.slc 3 Option.none b3))), (Option.some (Go.Eng.AV.sc (Go.Eng.SV.int Go.IntKind.i64 n4)))] [(Option.some (Go.Eng.HE.mk Bool.false (Go.Eng.HB.exp Option.none [(Go.Eng.SV.int Go.IntKind.i64 n5), (Go.Eng.SV.int Go.IntKind.i64 n6), (Go.Eng.SV.str s4), (Go.Eng.SV.str s5)]))), (Option.some (Go.Eng.HE.mk Bool.false (Go.Eng.HB.exp Option.none [(Go.Eng.SV.int Go.IntKind.i64 n7), (Go.Eng.SV.int Go.IntKind.i64 n8), (Go.Eng.SV.str s6), (Go.Eng.SV.str s7)]))), (Option.some (Go.Eng.HE.mk Bool.false (Go.Eng.HB.rows (Go.Sa.B.i64 l2)))), (Option.some (Go.Eng.HE.mk Bool.false (Go.Eng.HB.rows (Go.Sa.B.i64 l3))))])  (fun s10 => KL Go.Eng.Ex.normal [(Option.some (Go.Eng.AV.sc (Go.Eng.SV.ptr 0 0 0))), (Option.some (Go.Eng.AV.sc (Go.Eng.SV.ptr 1 0 0)))] [(Option.some (Go.Eng.HE.mk Bool.false (Go.Eng.HB.exp Option.none [(Go.Eng.SV.int Go.IntKind.i64 n5), (Go.Eng.SV.int Go.IntKind.i64 n6), (Go.Eng.SV.str s4), (Go.Eng.SV.str s5)]))), (Option.some (Go.Eng.HE.mk Bool.false (Go.Eng.HB.exp Option.none [(Go.Eng.SV.int Go.IntKind.i64 n7), (Go.Eng.SV.int Go.IntKind.i64 n8), (Go.Eng.SV.str s6), (Go.Eng.SV.str s10)])))]) := by kernel_rfl
theorem le_spec_DmaWrite_0 (N : Nat) {R : Type} (b2 : Bool) (b3 : Bool) (n5 : Int) (n6 : Int) (s4 : ByteArray) (s5 : ByteArray) (n7 : Int) (n8 : Int) (s6 : ByteArray) (l2 : List Int) (l3 : List Int) (KL : Ex → List (Option AV) → Hp E → Option R) : ∀ (f : Nat), ∀ (s3 : ByteArray) (n4 : Int) (s7 : ByteArray), iterK (E := E) (O_spec_DmaWrite N) (fun {R} => LI (noIt) 0 68 sl_spec_DmaWrite (R := R)) J_spec_DmaWrite 0 68 0 [3, 8, 9, 10, 11, 12] [8, 9] (body Go.Proofs.Try.f23 0) f [(Option.some (Go.Eng.AV.sc (Go.Eng.SV.str s3))), (Option.some (Go.Eng.AV.sc (Go.Eng.SV.ptr 0 0 0))), (Option.some (Go.Eng.AV.sc (Go.Eng.SV.ptr 1 0 0))), (Option.some (Go.Eng.AV.sc (Go.Eng.SV.slc 2 Option.none b2))), (Option.some (Go.Eng.AV.sc (Go.Eng.SV.slc 3 Option.none b3))), (Option.some (Go.Eng.AV.sc (Go.Eng.SV.int Go.IntKind.i64 n4)))] [(Option.some (Go.Eng.HE.mk Bool.false (Go.Eng.HB.exp Option.none [(Go.Eng.SV.int Go.IntKind.i64 n5), (Go.Eng.SV.int Go.IntKind.i64 n6), (Go.Eng.SV.str s4), (Go.Eng.SV.str s5)]))), (Option.some (Go.Eng.HE.mk Bool.false (Go.Eng.HB.exp Option.none [(Go.Eng.SV.int Go.IntKind.i64 n7), (Go.Eng.SV.int Go.IntKind.i64 n8), (Go.Eng.SV.str s6), (Go.Eng.SV.str s7)]))), (Option.some (Go.Eng.HE.mk Bool.false (Go.Eng.HB.rows (Go.Sa.B.i64 l2)))), (Option.some (Go.Eng.HE.mk Bool.false (Go.Eng.HB.rows (Go.Sa.B.i64 l3))))] KL = l_spec_DmaWrite_0 N b2 b3 n5 n6 s4 s5 n7 n8 s6 l2 l3 (fun s10 => KL Go.Eng.Ex.normal [(Option.some (Go.Eng.AV.sc (Go.Eng.SV.ptr 0 0 0))), (Option.some (Go.Eng.AV.sc (Go.Eng.SV.ptr 1 0 0)))] [(Option.some (Go.Eng.HE.mk Bool.false (Go.Eng.HB.exp Option.none [(Go.Eng.SV.int Go.IntKind.i64 n5), (Go.Eng.SV.int Go.IntKind.i64 n6), (Go.Eng.SV.str s4), (Go.Eng.SV.str s5)]))), (Option.some (Go.Eng.HE.mk Bool.false (Go.Eng.HB.exp Option.none [(Go.Eng.SV.int Go.IntKind.i64 n7), (Go.Eng.SV.int Go.IntKind.i64 n8), (Go.Eng.SV.str s6), (Go.Eng.SV.str s10)])))]) f s3 n4 s7 := by
  intro f
  induction f with
  | zero => intros; rfl
  | succ f ih =>
    intro s3 n4 s7
    rw [iterK_succ, se_spec_DmaWrite_0]
    exact (congrArg (fun z0 => s_spec_DmaWrite_0 N b2 b3 n5 n6 s4 s5 n7 n8 s6 l2 l3 s3 n4 s7 z0 (fun s10 => KL Go.Eng.Ex.normal [(Option.some (Go.Eng.AV.sc (Go.Eng.SV.ptr 0 0 0))), (Option.some (Go.Eng.AV.sc (Go.Eng.SV.ptr 1 0 0)))] [(Option.some (Go.Eng.HE.mk Bool.false (Go.Eng.HB.exp Option.none [(Go.Eng.SV.int Go.IntKind.i64 n5), (Go.Eng.SV.int Go.IntKind.i64 n6), (Go.Eng.SV.str s4), (Go.Eng.SV.str s5)]))), (Option.some (Go.Eng.HE.mk Bool.false (Go.Eng.HB.exp Option.none [(Go.Eng.SV.int Go.IntKind.i64 n7), (Go.Eng.SV.int Go.IntKind.i64 n8), (Go.Eng.SV.str s6), (Go.Eng.SV.str s10)])))])) (funext fun s3 => funext fun n4 => funext fun s7 => ih s3 n4 s7))
def i_spec_DmaWrite_0 (N : Nat) {R : Type} (vs : List (Option AV)) (H : Hp E) (KL : Ex → List (Option AV) → Hp E → Option R) : Option R :=
  match vs, H with
  | [(Option.some (Go.Eng.AV.sc (Go.Eng.SV.str s3))), (Option.some (Go.Eng.AV.sc (Go.Eng.SV.ptr 0 0 0))), (Option.some (Go.Eng.AV.sc (Go.Eng.SV.ptr 1 0 0))), (Option.some (Go.Eng.AV.sc (Go.Eng.SV.slc 2 Option.none b2))), (Option.some (Go.Eng.AV.sc (Go.Eng.SV.slc 3 Option.none b3))), (Option.some (Go.Eng.AV.sc (Go.Eng.SV.int Go.IntKind.i64 n4)))], [(Option.some (Go.Eng.HE.mk Bool.false (Go.Eng.HB.exp Option.none [(Go.Eng.SV.int Go.IntKind.i64 n5), (Go.Eng.SV.int Go.IntKind.i64 n6), (Go.Eng.SV.str s4), (Go.Eng.SV.str s5)]))), (Option.some (Go.Eng.HE.mk Bool.false (Go.Eng.HB.exp Option.none [(Go.Eng.SV.int Go.IntKind.i64 n7), (Go.Eng.SV.int Go.IntKind.i64 n8), (Go.Eng.SV.str s6), (Go.Eng.SV.str s7)]))), (Option.some (Go.Eng.HE.mk Bool.false (Go.Eng.HB.rows (Go.Sa.B.i64 l2)))), (Option.some (Go.Eng.HE.mk Bool.false (Go.Eng.HB.rows (Go.Sa.B.i64 l3))))] => c_spec_DmaWrite_0 N b2 b3 n5 n6 s4 s5 n7 n8 s6 l2 l3 s3 n4 s7 (fun s11 => KL Go.Eng.Ex.normal [(Option.some (Go.Eng.AV.sc (Go.Eng.SV.ptr 0 0 0))), (Option.some (Go.Eng.AV.sc (Go.Eng.SV.ptr 1 0 0)))] [(Option.some (Go.Eng.HE.mk Bool.false (Go.Eng.HB.exp Option.none [(Go.Eng.SV.int Go.IntKind.i64 n5), (Go.Eng.SV.int Go.IntKind.i64 n6), (Go.Eng.SV.str s4), (Go.Eng.SV.str s5)]))), (Option.some (Go.Eng.HE.mk Bool.false (Go.Eng.HB.exp Option.none [(Go.Eng.SV.int Go.IntKind.i64 n7), (Go.Eng.SV.int Go.IntKind.i64 n8), (Go.Eng.SV.str s6), (Go.Eng.SV.str s11)])))])
  | _, _ => none
noncomputable def IT_spec_DmaWrite_0 (N : Nat) : Its E := addIt 0 (i_spec_DmaWrite_0 N) (noIt)
theorem IT_spec_DmaWrite_0_ok (N : Nat) : ItOk (IT_spec_DmaWrite_0 N) 0 68 sl_spec_DmaWrite (lsB Go.Proofs.Try.f23 [0]) :=
  addItB_ok (inner := []) ok (O_spec_DmaWrite_ok N) (jn_ok _ _ _) (noIt_ok) rfl (by kernel_rfl) rfl fun vs H KL r h => by
    unfold i_spec_DmaWrite_0 at h
    split at h
    · exact ⟨_, (le_spec_DmaWrite_0 N _ _ _ _ _ _ _ _ _ _ _ KL N _ _ _).trans h⟩
    · cases h
def g_spec_DmaWrite (N : Nat) {R : Type} (s : ByteArray) (n : Int) (n1 : Int) (s1 : ByteArray) (k : Int → Int → ByteArray → Option R) : Option R :=
  (cond (decide (((((ByteArray.size s1) : Nat) : Int) > (65536 : Int))))
  (k (2 : Int) (0 : Int) (ByteArray.mk (List.toArray [])))
  (g_spec_l11Dma N s n n1 (((ByteArray.size s1) : Nat) : Int) (2 : Int) fun n2 n3 s2 b b1 l l1 =>
    (c_spec_DmaWrite_0 N b b1 (0 : Int) (0 : Int) (ByteArray.mk (List.toArray [])) (ByteArray.mk (List.toArray [])) n2 n3 (ByteArray.mk (List.toArray [])) l l1 s1 (0 : Int) s2 fun s8 =>
    (k n2 n3 s8))))
theorem e_spec_DmaWrite (N : Nat) {R : Type} (s : ByteArray) (n : Int) (n1 : Int) (s1 : ByteArray) (K : AV → Hp E → Option R) :
    runFnI (E := E) (O_spec_DmaWrite N) (IT_spec_DmaWrite_0 N) sl_spec_DmaWrite J_spec_DmaWrite Go.Proofs.Try.f23 [(Go.Eng.AV.sc (Go.Eng.SV.str s)), (Go.Eng.AV.sc (Go.Eng.SV.int Go.IntKind.i64 n)), (Go.Eng.AV.sc (Go.Eng.SV.int Go.IntKind.i64 n1)), (Go.Eng.AV.sc (Go.Eng.SV.str s1))] [] K =
      g_spec_DmaWrite N s n n1 s1 (fun n9 n10 s9 => K (Go.Eng.AV.agg [(Go.Eng.SV.int Go.IntKind.i64 n9), (Go.Eng.SV.int Go.IntKind.i64 n10), (Go.Eng.SV.str (ByteArray.mk (List.toArray []))), (Go.Eng.SV.str s9)]) []) := by kernel_rfl
def o_spec_DmaWrite (N : Nat) {R : Type} (args : List AV) (H : Hp E) (K : AV → Hp E → Option R) : Option R :=
  match args, H with
  | [(Go.Eng.AV.sc (Go.Eng.SV.str s)), (Go.Eng.AV.sc (Go.Eng.SV.int Go.IntKind.i64 n)), (Go.Eng.AV.sc (Go.Eng.SV.int Go.IntKind.i64 n1)), (Go.Eng.AV.sc (Go.Eng.SV.str s1))], [] => g_spec_DmaWrite N s n n1 s1 (fun n9 n10 s9 => K (Go.Eng.AV.agg [(Go.Eng.SV.int Go.IntKind.i64 n9), (Go.Eng.SV.int Go.IntKind.i64 n10), (Go.Eng.SV.str (ByteArray.mk (List.toArray []))), (Go.Eng.SV.str s9)]) [])
  | _, _ => none
theorem o_spec_DmaWrite_ok (N : Nat) : FnOk E 23 (o_spec_DmaWrite N) := by
  intro R args H K r h
  unfold o_spec_DmaWrite at h
  dsimp only at h
  split at h
  · exact fnB_ok (ids := [0]) (top := [0]) ok (O_spec_DmaWrite_ok N) (jn_ok _ _ _) Go.Proofs.Try.func23 (by kernel_rfl) (IT := IT_spec_DmaWrite_0 N) (sl := sl_spec_DmaWrite) (J := J_spec_DmaWrite) (K := K) (H := []) (IT_spec_DmaWrite_0_ok N) (by kernel_rfl) rfl ((e_spec_DmaWrite N _ _ _ _ K).trans h)
  · cases h
/-! ### loop.example/g00038/impl.ybig -/
abbrev sl_impl_ybig_w : SlotT := [(0, ([5, 6, 7], [2]))]
abbrev J_impl_ybig_w : JT := jn [] [] []
noncomputable def O_impl_ybig_w (N : Nat) : Orc E := noFn
theorem O_impl_ybig_w_ok (N : Nat) : OrcOk (O_impl_ybig_w N) := noFn_ok
def s_impl_ybig_w_0 (N : Nat) {R : Type} (b1 : Bool) (n : Int) (l1 : List ByteArray) (n1 : Int) (ag : Int → Option R)  (kR : Option R) (kN : Option R) : Option R :=
  (cond (decide ((n1 < n)))
  (cond ((decide (((0 : Int) ≤ n1))) && (decide ((n1 < (((List.length l1) : Nat) : Int)))))
    (elemK l1 (Int.toNat n1) fun x =>
      (cond (decide (((((ByteArray.size x) : Nat) : Int) > (65536 : Int))))
      kR
      (ag (Go.IntKind.wrap Go.IntKind.i64 (n1 + (1 : Int))))))
    none)
  kN)
def l_impl_ybig_w_0 (N : Nat) {R : Type} (b1 : Bool) (n : Int) (l1 : List ByteArray) (kR : Option R) (kN : Option R) : Nat → Int → Option R
  | 0, _ => none
  | f + 1, n1 => s_impl_ybig_w_0 N b1 n l1 n1 (fun n1 => l_impl_ybig_w_0 N b1 n l1 kR kN f n1)  kR kN
def c_impl_ybig_w_0 (N : Nat) {R : Type} (b1 : Bool) (n : Int) (l1 : List ByteArray) (n1 : Int) (kR : Option R) (kN : Option R) : Option R := l_impl_ybig_w_0 N b1 n l1 kR kN N n1
theorem se_impl_ybig_w_0 (N : Nat) {R : Type} (b1 : Bool) (n : Int) (l1 : List ByteArray) (n1 : Int) (AG : List (Option AV) → Hp E → Option R) (KL : Ex → List (Option AV) → Hp E → Option R) :
    iterStep (E := E) (O_impl_ybig_w N) (fun {R} => LI (noIt) 1 15 sl_impl_ybig_w (R := R)) J_impl_ybig_w 1 15 0 [5, 6, 7] [2] (body Go.Proofs.Try.f76 0) AG KL [(Option.some (Go.Eng.AV.sc (Go.Eng.SV.slc 0 Option.none b1))), (Option.some (Go.Eng.AV.sc (Go.Eng.SV.int Go.IntKind.i64 n))), (Option.some (Go.Eng.AV.sc (Go.Eng.SV.int Go.IntKind.i64 n1)))] [(Option.some (Go.Eng.HE.mk Bool.false (Go.Eng.HB.rows (Go.Sa.B.str l1))))] =
      s_impl_ybig_w_0 N b1 n l1 n1 (fun n1 => AG [(Option.some (Go.Eng.AV.sc (Go.Eng.SV.slc 0 Option.none b1))), (Option.some (Go.Eng.AV.sc (Go.Eng.SV.int Go.IntKind.i64 n))), (Option.some (Go.Eng.AV.sc (Go.Eng.SV.int Go.IntKind.i64 n1)))] [(Option.some (Go.Eng.HE.mk Bool.false (Go.Eng.HB.rows (Go.Sa.B.str l1))))])  (KL Go.Eng.Ex.ret [(Option.some (Go.Eng.AV.sc (Go.Eng.SV.bool Bool.true)))] [(Option.some (Go.Eng.HE.mk Bool.false (Go.Eng.HB.rows (Go.Sa.B.str l1))))]) (KL Go.Eng.Ex.normal [Option.none] [(Option.some (Go.Eng.HE.mk Bool.false (Go.Eng.HB.rows (Go.Sa.B.str l1))))]) := by kernel_rfl
theorem le_impl_ybig_w_0 (N : Nat) {R : Type} (b1 : Bool) (n : Int) (l1 : List ByteArray) (KL : Ex → List (Option AV) → Hp E → Option R) : ∀ (f : Nat), ∀ (n1 : Int), iterK (E := E) (O_impl_ybig_w N) (fun {R} => LI (noIt) 1 15 sl_impl_ybig_w (R := R)) J_impl_ybig_w 1 15 0 [5, 6, 7] [2] (body Go.Proofs.Try.f76 0) f [(Option.some (Go.Eng.AV.sc (Go.Eng.SV.slc 0 Option.none b1))), (Option.some (Go.Eng.AV.sc (Go.Eng.SV.int Go.IntKind.i64 n))), (Option.some (Go.Eng.AV.sc (Go.Eng.SV.int Go.IntKind.i64 n1)))] [(Option.some (Go.Eng.HE.mk Bool.false (Go.Eng.HB.rows (Go.Sa.B.str l1))))] KL = l_impl_ybig_w_0 N b1 n l1 (KL Go.Eng.Ex.ret [(Option.some (Go.Eng.AV.sc (Go.Eng.SV.bool Bool.true)))] [(Option.some (Go.Eng.HE.mk Bool.false (Go.Eng.HB.rows (Go.Sa.B.str l1))))]) (KL Go.Eng.Ex.normal [Option.none] [(Option.some (Go.Eng.HE.mk Bool.false (Go.Eng.HB.rows (Go.Sa.B.str l1))))]) f n1 := by
  intro f
  induction f with
  | zero => intros; rfl
  | succ f ih =>
    intro n1
    rw [iterK_succ, se_impl_ybig_w_0]
    exact (congrArg (fun z0 => s_impl_ybig_w_0 N b1 n l1 n1 z0 (KL Go.Eng.Ex.ret [(Option.some (Go.Eng.AV.sc (Go.Eng.SV.bool Bool.true)))] [(Option.some (Go.Eng.HE.mk Bool.false (Go.Eng.HB.rows (Go.Sa.B.str l1))))]) (KL Go.Eng.Ex.normal [Option.none] [(Option.some (Go.Eng.HE.mk Bool.false (Go.Eng.HB.rows (Go.Sa.B.str l1))))])) (funext fun n1 => ih n1))
def i_impl_ybig_w_0 (N : Nat) {R : Type} (vs : List (Option AV)) (H : Hp E) (KL : Ex → List (Option AV) → Hp E → Option R) : Option R :=
  match vs, H with
  | [(Option.some (Go.Eng.AV.sc (Go.Eng.SV.slc 0 Option.none b1))), (Option.some (Go.Eng.AV.sc (Go.Eng.SV.int Go.IntKind.i64 n))), (Option.some (Go.Eng.AV.sc (Go.Eng.SV.int Go.IntKind.i64 n1)))], [(Option.some (Go.Eng.HE.mk Bool.false (Go.Eng.HB.rows (Go.Sa.B.str l1))))] => c_impl_ybig_w_0 N b1 n l1 n1 (KL Go.Eng.Ex.ret [(Option.some (Go.Eng.AV.sc (Go.Eng.SV.bool Bool.true)))] [(Option.some (Go.Eng.HE.mk Bool.false (Go.Eng.HB.rows (Go.Sa.B.str l1))))]) (KL Go.Eng.Ex.normal [Option.none] [(Option.some (Go.Eng.HE.mk Bool.false (Go.Eng.HB.rows (Go.Sa.B.str l1))))])
  | _, _ => none
noncomputable def IT_impl_ybig_w_0 (N : Nat) : Its E := addIt 0 (i_impl_ybig_w_0 N) (noIt)
theorem IT_impl_ybig_w_0_ok (N : Nat) : ItOk (IT_impl_ybig_w_0 N) 1 15 sl_impl_ybig_w (lsB Go.Proofs.Try.f76 [0]) :=
  addItB_ok (inner := []) ok (O_impl_ybig_w_ok N) (jn_ok _ _ _) (noIt_ok) rfl (by kernel_rfl) rfl fun vs H KL r h => by
    unfold i_impl_ybig_w_0 at h
    split at h
    · exact ⟨_, (le_impl_ybig_w_0 N _ _ _ KL N _).trans h⟩
    · cases h
def g_impl_ybig_w (N : Nat) {R : Type} (b : Bool) (l : List ByteArray) (k : Bool → Option R) : Option R :=
  (c_impl_ybig_w_0 N b (((List.length l) : Nat) : Int) l (0 : Int) (
  (k Bool.true)) (
  (k Bool.false)))
theorem e_impl_ybig_w (N : Nat) {R : Type} (b : Bool) (l : List ByteArray) (K : AV → Hp E → Option R) :
    runFnI (E := E) (O_impl_ybig_w N) (IT_impl_ybig_w_0 N) sl_impl_ybig_w J_impl_ybig_w Go.Proofs.Try.f76 [(Go.Eng.AV.sc (Go.Eng.SV.slc 0 Option.none b))] [(Option.some (Go.Eng.HE.mk Bool.false (Go.Eng.HB.rows (Go.Sa.B.str l))))] K =
      g_impl_ybig_w N b l (fun b2 => K (Go.Eng.AV.sc (Go.Eng.SV.bool b2)) [(Option.some (Go.Eng.HE.mk Bool.false (Go.Eng.HB.rows (Go.Sa.B.str l))))]) := by kernel_rfl
def o_impl_ybig_w (N : Nat) {R : Type} (args : List AV) (H : Hp E) (K : AV → Hp E → Option R) : Option R :=
  match args, H with
  | [(Go.Eng.AV.sc (Go.Eng.SV.slc 0 Option.none b))], [(Option.some (Go.Eng.HE.mk Bool.false (Go.Eng.HB.rows (Go.Sa.B.str l))))] => g_impl_ybig_w N b l (fun b2 => K (Go.Eng.AV.sc (Go.Eng.SV.bool b2)) [(Option.some (Go.Eng.HE.mk Bool.false (Go.Eng.HB.rows (Go.Sa.B.str l))))])
  | _, _ => none
theorem o_impl_ybig_w_ok (N : Nat) : FnOk E 76 (o_impl_ybig_w N) := by
  intro R args H K r h
  unfold o_impl_ybig_w at h
  dsimp only at h
  split at h
  · exact fnB_ok (ids := [0]) (top := [0]) ok (O_impl_ybig_w_ok N) (jn_ok _ _ _) Go.Proofs.Try.func76 (by kernel_rfl) (IT := IT_impl_ybig_w_0 N) (sl := sl_impl_ybig_w) (J := J_impl_ybig_w) (K := K) (H := [(Option.some (Go.Eng.HE.mk Bool.false (Go.Eng.HB.rows (Go.Sa.B.str _))))]) (IT_impl_ybig_w_0_ok N) (by kernel_rfl) rfl ((e_impl_ybig_w N _ _ K).trans h)
  · cases h
/-! ### loop.example/g00038/impl.ymemOk -/
abbrev sl_impl_ymemOk : SlotT := []
abbrev J_impl_ymemOk : JT := jn [(1, [(2, .b)])] [] []
noncomputable def O_impl_ymemOk (N : Nat) : Orc E := noFn
theorem O_impl_ymemOk_ok (N : Nat) : OrcOk (O_impl_ymemOk N) := noFn_ok
def g_impl_ymemOk (N : Nat) {R : Type} (s : ByteArray) (k : Bool → Option R) : Option R :=
  (oK (cond (decide (((((ByteArray.size s) : Nat) : Int) ≥ (256 : Int))))
    (cond (decide (((((ByteArray.size s) : Nat) : Int) ≤ (65536 : Int))))
      (some ((Int.tmod (((ByteArray.size s) : Nat) : Int) (256 : Int)) == (0 : Int)))
      (some Bool.false))
    (some Bool.false)) fun j =>
  (k j))
theorem e_impl_ymemOk (N : Nat) {R : Type} (s : ByteArray) (K : AV → Hp E → Option R) :
    runFnI (E := E) (O_impl_ymemOk N) (noIt) sl_impl_ymemOk J_impl_ymemOk Go.Proofs.Try.f68 [(Go.Eng.AV.sc (Go.Eng.SV.str s))] [] K =
      g_impl_ymemOk N s (fun b => K (Go.Eng.AV.sc (Go.Eng.SV.bool b)) []) := by kernel_rfl
def o_impl_ymemOk (N : Nat) {R : Type} (args : List AV) (H : Hp E) (K : AV → Hp E → Option R) : Option R :=
  match args, H with
  | [(Go.Eng.AV.sc (Go.Eng.SV.str s))], [] => g_impl_ymemOk N s (fun b => K (Go.Eng.AV.sc (Go.Eng.SV.bool b)) [])
  | _, _ => none
theorem o_impl_ymemOk_ok (N : Nat) : FnOk E 68 (o_impl_ymemOk N) := by
  intro R args H K r h
  unfold o_impl_ymemOk at h
  dsimp only at h
  split at h
  · exact fnB_ok (ids := []) (top := []) ok (O_impl_ymemOk_ok N) (jn_ok _ _ _) Go.Proofs.Try.func68 (by kernel_rfl) (IT := noIt) (sl := sl_impl_ymemOk) (J := J_impl_ymemOk) (K := K) (H := []) (noIt_ok) (by kernel_rfl) rfl ((e_impl_ymemOk N _ K).trans h)
  · cases h
/-! ### loop.example/g00038/impl.yin -/
abbrev sl_impl_yin : SlotT := []
abbrev J_impl_yin : JT := jn [(1, [(6, .b)])] [] []
noncomputable def O_impl_yin (N : Nat) : Orc E := noFn
theorem O_impl_yin_ok (N : Nat) : OrcOk (O_impl_yin N) := noFn_ok
def g_impl_yin (N : Nat) {R : Type} (n : Int) (n1 : Int) (n2 : Int) (k : Bool → Option R) : Option R :=
  (oK (cond (decide ((n ≥ n1)))
    (some (decide ((n ≤ n2))))
    (some Bool.false)) fun j =>
  (k j))
theorem e_impl_yin (N : Nat) {R : Type} (n : Int) (n1 : Int) (n2 : Int) (K : AV → Hp E → Option R) :
    runFnI (E := E) (O_impl_yin N) (noIt) sl_impl_yin J_impl_yin Go.Proofs.Try.f96 [(Go.Eng.AV.sc (Go.Eng.SV.int Go.IntKind.i64 n)), (Go.Eng.AV.sc (Go.Eng.SV.int Go.IntKind.i64 n1)), (Go.Eng.AV.sc (Go.Eng.SV.int Go.IntKind.i64 n2))] [] K =
      g_impl_yin N n n1 n2 (fun b => K (Go.Eng.AV.sc (Go.Eng.SV.bool b)) []) := by kernel_rfl
def o_impl_yin (N : Nat) {R : Type} (args : List AV) (H : Hp E) (K : AV → Hp E → Option R) : Option R :=
  match args, H with
  | [(Go.Eng.AV.sc (Go.Eng.SV.int Go.IntKind.i64 n)), (Go.Eng.AV.sc (Go.Eng.SV.int Go.IntKind.i64 n1)), (Go.Eng.AV.sc (Go.Eng.SV.int Go.IntKind.i64 n2))], [] => g_impl_yin N n n1 n2 (fun b => K (Go.Eng.AV.sc (Go.Eng.SV.bool b)) [])
  | _, _ => none
theorem o_impl_yin_ok (N : Nat) : FnOk E 96 (o_impl_yin N) := by
  intro R args H K r h
  unfold o_impl_yin at h
  dsimp only at h
  split at h
  · exact fnB_ok (ids := []) (top := []) ok (O_impl_yin_ok N) (jn_ok _ _ _) Go.Proofs.Try.func96 (by kernel_rfl) (IT := noIt) (sl := sl_impl_yin) (J := J_impl_yin) (K := K) (H := []) (noIt_ok) (by kernel_rfl) rfl ((e_impl_yin N _ _ _ K).trans h)
  · cases h
/-! ### loop.example/g00038/impl.yframes -/
abbrev sl_impl_yframes_w : SlotT := []
abbrev J_impl_yframes_w : JT := jn [] [] []
noncomputable def O_impl_yframes_w (N : Nat) : Orc E := noFn
theorem O_impl_yframes_w_ok (N : Nat) : OrcOk (O_impl_yframes_w N) := noFn_ok
def g_impl_yframes_w (N : Nat) {R : Type} (b : Bool) (l : List Int) (k : Int → Option R) : Option R :=
  (k (Go.IntKind.wrap Go.IntKind.i64 (Int.tdiv (((List.length l) : Nat) : Int) (256 : Int))))
theorem e_impl_yframes_w (N : Nat) {R : Type} (b : Bool) (l : List Int) (K : AV → Hp E → Option R) :
    runFnI (E := E) (O_impl_yframes_w N) (noIt) sl_impl_yframes_w J_impl_yframes_w Go.Proofs.Try.f151 [(Go.Eng.AV.sc (Go.Eng.SV.slc 0 Option.none b))] [(Option.some (Go.Eng.HE.mk Bool.false (Go.Eng.HB.rows (Go.Sa.B.u8 l))))] K =
      g_impl_yframes_w N b l (fun n => K (Go.Eng.AV.sc (Go.Eng.SV.int Go.IntKind.i64 n)) [(Option.some (Go.Eng.HE.mk Bool.false (Go.Eng.HB.rows (Go.Sa.B.u8 l))))]) := by kernel_rfl
def o_impl_yframes_w (N : Nat) {R : Type} (args : List AV) (H : Hp E) (K : AV → Hp E → Option R) : Option R :=
  match args, H with
  | [(Go.Eng.AV.sc (Go.Eng.SV.slc 0 Option.none b))], [(Option.some (Go.Eng.HE.mk Bool.false (Go.Eng.HB.rows (Go.Sa.B.u8 l))))] => g_impl_yframes_w N b l (fun n => K (Go.Eng.AV.sc (Go.Eng.SV.int Go.IntKind.i64 n)) [(Option.some (Go.Eng.HE.mk Bool.false (Go.Eng.HB.rows (Go.Sa.B.u8 l))))])
  | _, _ => none
theorem o_impl_yframes_w_ok (N : Nat) : FnOk E 151 (o_impl_yframes_w N) := by
  intro R args H K r h
  unfold o_impl_yframes_w at h
  dsimp only at h
  split at h
  · exact fnB_ok (ids := []) (top := []) ok (O_impl_yframes_w_ok N) (jn_ok _ _ _) Go.Proofs.Try.func151 (by kernel_rfl) (IT := noIt) (sl := sl_impl_yframes_w) (J := J_impl_yframes_w) (K := K) (H := [(Option.some (Go.Eng.HE.mk Bool.false (Go.Eng.HB.rows (Go.Sa.B.u8 _))))]) (noIt_ok) (by kernel_rfl) rfl ((e_impl_yframes_w N _ _ K).trans h)
  · cases h
/-! ### loop.example/g00038/impl.ygetWord -/
abbrev sl_impl_ygetWord_w : SlotT := []
abbrev J_impl_ygetWord_w : JT := jn [] [] []
noncomputable def O_impl_ygetWord_w (N : Nat) : Orc E := noFn
theorem O_impl_ygetWord_w_ok (N : Nat) : OrcOk (O_impl_ygetWord_w N) := noFn_ok
def g_impl_ygetWord_w (N : Nat) {R : Type} (b : Bool) (n : Int) (l : List Int) (k : Int → Option R) : Option R :=
  (cond ((decide (((0 : Int) ≤ n))) && (decide ((n < (((List.length l) : Nat) : Int)))))
  (elemK l (Int.toNat n) fun x =>
    (cond ((decide (((0 : Int) ≤ (Go.IntKind.wrap Go.IntKind.i64 (n + (1 : Int)))))) && (decide (((Go.IntKind.wrap Go.IntKind.i64 (n + (1 : Int))) < (((List.length l) : Nat) : Int)))))
    (elemK l (Int.toNat (Go.IntKind.wrap Go.IntKind.i64 (n + (1 : Int)))) fun x1 =>
      (cond ((decide (((0 : Int) ≤ (Go.IntKind.wrap Go.IntKind.i64 (n + (2 : Int)))))) && (decide (((Go.IntKind.wrap Go.IntKind.i64 (n + (2 : Int))) < (((List.length l) : Nat) : Int)))))
      (elemK l (Int.toNat (Go.IntKind.wrap Go.IntKind.i64 (n + (2 : Int)))) fun x2 =>
        (cond ((decide (((0 : Int) ≤ (Go.IntKind.wrap Go.IntKind.i64 (n + (3 : Int)))))) && (decide (((Go.IntKind.wrap Go.IntKind.i64 (n + (3 : Int))) < (((List.length l) : Nat) : Int)))))
        (elemK l (Int.toNat (Go.IntKind.wrap Go.IntKind.i64 (n + (3 : Int)))) fun x3 =>
          (k (Go.IntKind.wrap Go.IntKind.i64 (((BitVec.toNat ((BitVec.ofInt 64 (Go.IntKind.wrap Go.IntKind.i64 (((BitVec.toNat ((BitVec.ofInt 64 (Go.IntKind.wrap Go.IntKind.i64 (((BitVec.toNat ((BitVec.ofInt 64 (Go.IntKind.wrap Go.IntKind.i64 x)) ||| (BitVec.ofInt 64 (Go.IntKind.wrap Go.IntKind.i64 ((Go.IntKind.wrap Go.IntKind.i64 x1) * (256 : Int)))))) : Nat) : Int))) ||| (BitVec.ofInt 64 (Go.IntKind.wrap Go.IntKind.i64 ((Go.IntKind.wrap Go.IntKind.i64 x2) * (65536 : Int)))))) : Nat) : Int))) ||| (BitVec.ofInt 64 (Go.IntKind.wrap Go.IntKind.i64 ((Go.IntKind.wrap Go.IntKind.i64 x3) * (16777216 : Int)))))) : Nat) : Int))))
        none))
      none))
    none))
  none)
theorem e_impl_ygetWord_w (N : Nat) {R : Type} (b : Bool) (n : Int) (l : List Int) (K : AV → Hp E → Option R) :
    runFnI (E := E) (O_impl_ygetWord_w N) (noIt) sl_impl_ygetWord_w J_impl_ygetWord_w Go.Proofs.Try.f137 [(Go.Eng.AV.sc (Go.Eng.SV.slc 0 Option.none b)), (Go.Eng.AV.sc (Go.Eng.SV.int Go.IntKind.i64 n))] [(Option.some (Go.Eng.HE.mk Bool.false (Go.Eng.HB.rows (Go.Sa.B.u8 l))))] K =
      g_impl_ygetWord_w N b n l (fun n1 => K (Go.Eng.AV.sc (Go.Eng.SV.int Go.IntKind.i64 n1)) [(Option.some (Go.Eng.HE.mk Bool.false (Go.Eng.HB.rows (Go.Sa.B.u8 l))))]) := by kernel_rfl
def o_impl_ygetWord_w (N : Nat) {R : Type} (args : List AV) (H : Hp E) (K : AV → Hp E → Option R) : Option R :=
  match args, H with
  | [(Go.Eng.AV.sc (Go.Eng.SV.slc 0 Option.none b)), (Go.Eng.AV.sc (Go.Eng.SV.int Go.IntKind.i64 n))], [(Option.some (Go.Eng.HE.mk Bool.false (Go.Eng.HB.rows (Go.Sa.B.u8 l))))] => g_impl_ygetWord_w N b n l (fun n1 => K (Go.Eng.AV.sc (Go.Eng.SV.int Go.IntKind.i64 n1)) [(Option.some (Go.Eng.HE.mk Bool.false (Go.Eng.HB.rows (Go.Sa.B.u8 l))))])
  | _, _ => none
theorem o_impl_ygetWord_w_ok (N : Nat) : FnOk E 137 (o_impl_ygetWord_w N) := by
  intro R args H K r h
  unfold o_impl_ygetWord_w at h
  dsimp only at h
  split at h
  · exact fnB_ok (ids := []) (top := []) ok (O_impl_ygetWord_w_ok N) (jn_ok _ _ _) Go.Proofs.Try.func137 (by kernel_rfl) (IT := noIt) (sl := sl_impl_ygetWord_w) (J := J_impl_ygetWord_w) (K := K) (H := [(Option.some (Go.Eng.HE.mk Bool.false (Go.Eng.HB.rows (Go.Sa.B.u8 _))))]) (noIt_ok) (by kernel_rfl) rfl ((e_impl_ygetWord_w N _ _ _ K).trans h)
  · cases h
/-! ### loop.example/g00038/impl.ylets -/
abbrev sl_impl_ylets : SlotT := []
abbrev J_impl_ylets : JT := jn [(11, [(6, .b)])] [(8, [(7, .i .i64)]), (10, [(7, .i .i64)]), (14, [(7, .i .i64)]), (18, [(7, .i .i64)])] []
noncomputable def O_impl_ylets (N : Nat) : Orc E := noFn
theorem O_impl_ylets_ok (N : Nat) : OrcOk (O_impl_ylets N) := noFn_ok
def g_impl_ylets (N : Nat) {R : Type} (n : Int) (n1 : Int) (b : Bool) (k : Bool → Option R) : Option R :=
  (oK (cond b
    (some (16 : Int))
    (some (0 : Int))) fun j =>
  (oK (cond (n1 == (1 : Int))
    (some (Go.IntKind.wrap Go.IntKind.i64 (((BitVec.toNat ((BitVec.ofInt 64 j) ||| (BitVec.ofInt 64 (2 : Int)))) : Nat) : Int)))
    (oK (cond (n1 == (2 : Int))
        (some (Go.IntKind.wrap Go.IntKind.i64 (((BitVec.toNat ((BitVec.ofInt 64 j) ||| (BitVec.ofInt 64 (4 : Int)))) : Nat) : Int)))
        (oK (cond (n1 == (3 : Int))
            (some (Go.IntKind.wrap Go.IntKind.i64 (((BitVec.toNat ((BitVec.ofInt 64 j) ||| (BitVec.ofInt 64 (8 : Int)))) : Nat) : Int)))
            (some j)) fun j1 =>
          (some j1))) fun j2 =>
      (some j2))) fun j3 =>
  (oK (cond ((Go.IntKind.wrap Go.IntKind.i64 (((BitVec.toNat ((BitVec.ofInt 64 n) &&& (BitVec.ofInt 64 (Go.IntKind.wrap Go.IntKind.i64 (((BitVec.toNat ((BitVec.ofInt 64 j3) ||| (BitVec.ofInt 64 (1 : Int)))) : Nat) : Int))))) : Nat) : Int)) == (Go.IntKind.wrap Go.IntKind.i64 (((BitVec.toNat ((BitVec.ofInt 64 j3) ||| (BitVec.ofInt 64 (1 : Int)))) : Nat) : Int)))
    (cond b
      (some Bool.true)
      (cond (n1 != (3 : Int))
        (some Bool.true)
        (some ((Go.IntKind.wrap Go.IntKind.i64 (((BitVec.toNat ((BitVec.ofInt 64 n) &&& (BitVec.ofInt 64 (16 : Int)))) : Nat) : Int)) == (0 : Int)))))
    (some Bool.false)) fun j4 =>
  (k j4))))
theorem e_impl_ylets (N : Nat) {R : Type} (n : Int) (n1 : Int) (b : Bool) (K : AV → Hp E → Option R) :
    runFnI (E := E) (O_impl_ylets N) (noIt) sl_impl_ylets J_impl_ylets Go.Proofs.Try.f138 [(Go.Eng.AV.sc (Go.Eng.SV.int Go.IntKind.i64 n)), (Go.Eng.AV.sc (Go.Eng.SV.int Go.IntKind.i64 n1)), (Go.Eng.AV.sc (Go.Eng.SV.bool b))] [] K =
      g_impl_ylets N n n1 b (fun b1 => K (Go.Eng.AV.sc (Go.Eng.SV.bool b1)) []) := by kernel_rfl
def o_impl_ylets (N : Nat) {R : Type} (args : List AV) (H : Hp E) (K : AV → Hp E → Option R) : Option R :=
  match args, H with
  | [(Go.Eng.AV.sc (Go.Eng.SV.int Go.IntKind.i64 n)), (Go.Eng.AV.sc (Go.Eng.SV.int Go.IntKind.i64 n1)), (Go.Eng.AV.sc (Go.Eng.SV.bool b))], [] => g_impl_ylets N n n1 b (fun b1 => K (Go.Eng.AV.sc (Go.Eng.SV.bool b1)) [])
  | _, _ => none
theorem o_impl_ylets_ok (N : Nat) : FnOk E 138 (o_impl_ylets N) := by
  intro R args H K r h
  unfold o_impl_ylets at h
  dsimp only at h
  split at h
  · exact fnB_ok (ids := []) (top := []) ok (O_impl_ylets_ok N) (jn_ok _ _ _) Go.Proofs.Try.func138 (by kernel_rfl) (IT := noIt) (sl := sl_impl_ylets) (J := J_impl_ylets) (K := K) (H := []) (noIt_ok) (by kernel_rfl) rfl ((e_impl_ylets N _ _ _ K).trans h)
  · cases h
/-! ### loop.example/g00038/impl.yputs -/
abbrev sl_impl_yputs : SlotT := []
abbrev J_impl_yputs : JT := jn [] [] []
noncomputable def O_impl_yputs (N : Nat) : Orc E := noFn
theorem O_impl_yputs_ok (N : Nat) : OrcOk (O_impl_yputs N) := noFn_ok
def g_impl_yputs (N : Nat) {R : Type} (n : Int) (k : Int → Option R) : Option R :=
  (cond (n == (2 : Int))
  (k (96 : Int))
  (k (32 : Int)))
theorem e_impl_yputs (N : Nat) {R : Type} (n : Int) (K : AV → Hp E → Option R) :
    runFnI (E := E) (O_impl_yputs N) (noIt) sl_impl_yputs J_impl_yputs Go.Proofs.Try.f139 [(Go.Eng.AV.sc (Go.Eng.SV.int Go.IntKind.i64 n))] [] K =
      g_impl_yputs N n (fun n1 => K (Go.Eng.AV.sc (Go.Eng.SV.int Go.IntKind.i64 n1)) []) := by kernel_rfl
def o_impl_yputs (N : Nat) {R : Type} (args : List AV) (H : Hp E) (K : AV → Hp E → Option R) : Option R :=
  match args, H with
  | [(Go.Eng.AV.sc (Go.Eng.SV.int Go.IntKind.i64 n))], [] => g_impl_yputs N n (fun n1 => K (Go.Eng.AV.sc (Go.Eng.SV.int Go.IntKind.i64 n1)) [])
  | _, _ => none
theorem o_impl_yputs_ok (N : Nat) : FnOk E 139 (o_impl_yputs N) := by
  intro R args H K r h
  unfold o_impl_yputs at h
  dsimp only at h
  split at h
  · exact fnB_ok (ids := []) (top := []) ok (O_impl_yputs_ok N) (jn_ok _ _ _) Go.Proofs.Try.func139 (by kernel_rfl) (IT := noIt) (sl := sl_impl_yputs) (J := J_impl_yputs) (K := K) (H := []) (noIt_ok) (by kernel_rfl) rfl ((e_impl_yputs N _ K).trans h)
  · cases h
/-! ### loop.example/g00038/impl.ylookup -/
abbrev sl_impl_ylookup_w : SlotT := []
abbrev J_impl_ylookup_w : JT := jn [(10, [(52, .b)])] [] []
noncomputable def O_impl_ylookup_w (N : Nat) : Orc E := addFn 139 (o_impl_yputs N) (addFn 138 (o_impl_ylets N) (addFn 137 (o_impl_ygetWord_w N) (addFn 151 (o_impl_yframes_w N) (noFn))))
theorem O_impl_ylookup_w_ok (N : Nat) : OrcOk (O_impl_ylookup_w N) := addFn_ok (o_impl_yputs_ok N) (addFn_ok (o_impl_ylets_ok N) (addFn_ok (o_impl_ygetWord_w_ok N) (addFn_ok (o_impl_yframes_w_ok N) (noFn_ok))))
def g_impl_ylookup_w (N : Nat) {R : Type} (b : Bool) (n : Int) (n1 : Int) (n2 : Int) (b1 : Bool) (l : List Int) (k : Int → Int → Int → Int → Int → Bool → Int → Int → Int → Option R) : Option R :=
  (g_impl_yframes_w N b l fun n3 =>
  (cond (decide ((n ≥ n3)))
  (k (2 : Int) (0 : Int) (0 : Int) (0 : Int) (0 : Int) Bool.false (0 : Int) (0 : Int) (0 : Int))
  (g_impl_ygetWord_w N b (Go.IntKind.wrap Go.IntKind.i64 ((Go.IntKind.wrap Go.IntKind.i64 (n * (256 : Int))) + (Go.IntKind.wrap Go.IntKind.i64 ((4 : Int) * (Go.IntKind.wrap Go.IntKind.i64 (((BitVec.toNat ((BitVec.ofInt 64 (Int.fdiv n1 (8192 : Int))) &&& (BitVec.ofInt 64 (31 : Int)))) : Nat) : Int)))))) l fun n4 =>
    (oK (cond ((Go.IntKind.wrap Go.IntKind.i64 (((BitVec.toNat ((BitVec.ofInt 64 n4) &&& (BitVec.ofInt 64 (1 : Int)))) : Nat) : Int)) != (0 : Int))
      (some ((Go.IntKind.wrap Go.IntKind.i64 (((BitVec.toNat ((BitVec.ofInt 64 n4) &&& (BitVec.ofInt 64 (14 : Int)))) : Nat) : Int)) == (0 : Int)))
      (some Bool.false)) fun j =>
    (cond j
    (g_impl_yframes_w N b l fun n5 =>
      (cond (decide (((Int.fdiv n4 (256 : Int)) ≥ n5)))
      (k (2 : Int) (0 : Int) (Go.IntKind.wrap Go.IntKind.i64 ((Go.IntKind.wrap Go.IntKind.i64 (n * (256 : Int))) + (Go.IntKind.wrap Go.IntKind.i64 ((4 : Int) * (Go.IntKind.wrap Go.IntKind.i64 (((BitVec.toNat ((BitVec.ofInt 64 (Int.fdiv n1 (8192 : Int))) &&& (BitVec.ofInt 64 (31 : Int)))) : Nat) : Int)))))) (0 : Int) (0 : Int) Bool.false n (0 : Int) (1 : Int))
      (g_impl_ygetWord_w N b (Go.IntKind.wrap Go.IntKind.i64 ((Go.IntKind.wrap Go.IntKind.i64 ((Int.fdiv n4 (256 : Int)) * (256 : Int))) + (Go.IntKind.wrap Go.IntKind.i64 ((4 : Int) * (Go.IntKind.wrap Go.IntKind.i64 (((BitVec.toNat ((BitVec.ofInt 64 (Int.fdiv n1 (256 : Int))) &&& (BitVec.ofInt 64 (31 : Int)))) : Nat) : Int)))))) l fun n6 =>
        (g_impl_ylets N (Go.IntKind.wrap Go.IntKind.i64 (((BitVec.toNat ((BitVec.ofInt 64 n6) &&& (BitVec.ofInt 64 (255 : Int)))) : Nat) : Int)) n2 b1 fun b2 =>
        (cond (!b2)
        (k (1 : Int) (0 : Int) (Go.IntKind.wrap Go.IntKind.i64 ((Go.IntKind.wrap Go.IntKind.i64 ((Int.fdiv n4 (256 : Int)) * (256 : Int))) + (Go.IntKind.wrap Go.IntKind.i64 ((4 : Int) * (Go.IntKind.wrap Go.IntKind.i64 (((BitVec.toNat ((BitVec.ofInt 64 (Int.fdiv n1 (256 : Int))) &&& (BitVec.ofInt 64 (31 : Int)))) : Nat) : Int)))))) (0 : Int) (0 : Int) Bool.false n (Int.fdiv n4 (256 : Int)) (2 : Int))
        (g_impl_yframes_w N b l fun n7 =>
          (cond (decide (((Int.fdiv n6 (256 : Int)) ≥ n7)))
          (k (2 : Int) (0 : Int) (Go.IntKind.wrap Go.IntKind.i64 ((Go.IntKind.wrap Go.IntKind.i64 ((Int.fdiv n4 (256 : Int)) * (256 : Int))) + (Go.IntKind.wrap Go.IntKind.i64 ((4 : Int) * (Go.IntKind.wrap Go.IntKind.i64 (((BitVec.toNat ((BitVec.ofInt 64 (Int.fdiv n1 (256 : Int))) &&& (BitVec.ofInt 64 (31 : Int)))) : Nat) : Int)))))) (0 : Int) (0 : Int) Bool.false n (Int.fdiv n4 (256 : Int)) (2 : Int))
          (g_impl_yputs N n2 fun n8 =>
            (k (0 : Int) (Go.IntKind.wrap Go.IntKind.i64 ((Go.IntKind.wrap Go.IntKind.i64 ((Int.fdiv n6 (256 : Int)) * (256 : Int))) + (Go.IntKind.wrap Go.IntKind.i64 (((BitVec.toNat ((BitVec.ofInt 64 n1) &&& (BitVec.ofInt 64 (255 : Int)))) : Nat) : Int)))) (Go.IntKind.wrap Go.IntKind.i64 ((Go.IntKind.wrap Go.IntKind.i64 ((Int.fdiv n4 (256 : Int)) * (256 : Int))) + (Go.IntKind.wrap Go.IntKind.i64 ((4 : Int) * (Go.IntKind.wrap Go.IntKind.i64 (((BitVec.toNat ((BitVec.ofInt 64 (Int.fdiv n1 (256 : Int))) &&& (BitVec.ofInt 64 (31 : Int)))) : Nat) : Int)))))) n6 (Go.IntKind.wrap Go.IntKind.i64 (((BitVec.toNat ((BitVec.ofInt 64 n6) ||| (BitVec.ofInt 64 n8))) : Nat) : Int)) Bool.false n (Int.fdiv n4 (256 : Int)) (2 : Int))))))))))
    (cond ((Int.tmod (Int.fdiv n4 (256 : Int)) (32 : Int)) != (0 : Int))
      (k (1 : Int) (0 : Int) (Go.IntKind.wrap Go.IntKind.i64 ((Go.IntKind.wrap Go.IntKind.i64 (n * (256 : Int))) + (Go.IntKind.wrap Go.IntKind.i64 ((4 : Int) * (Go.IntKind.wrap Go.IntKind.i64 (((BitVec.toNat ((BitVec.ofInt 64 (Int.fdiv n1 (8192 : Int))) &&& (BitVec.ofInt 64 (31 : Int)))) : Nat) : Int)))))) (0 : Int) (0 : Int) Bool.false n (0 : Int) (1 : Int))
      (g_impl_ylets N (Go.IntKind.wrap Go.IntKind.i64 (((BitVec.toNat ((BitVec.ofInt 64 n4) &&& (BitVec.ofInt 64 (255 : Int)))) : Nat) : Int)) n2 b1 fun b3 =>
        (cond (!b3)
        (k (1 : Int) (0 : Int) (Go.IntKind.wrap Go.IntKind.i64 ((Go.IntKind.wrap Go.IntKind.i64 (n * (256 : Int))) + (Go.IntKind.wrap Go.IntKind.i64 ((4 : Int) * (Go.IntKind.wrap Go.IntKind.i64 (((BitVec.toNat ((BitVec.ofInt 64 (Int.fdiv n1 (8192 : Int))) &&& (BitVec.ofInt 64 (31 : Int)))) : Nat) : Int)))))) (0 : Int) (0 : Int) Bool.false n (0 : Int) (1 : Int))
        (g_impl_yframes_w N b l fun n9 =>
          (cond (decide (((Go.IntKind.wrap Go.IntKind.i64 ((Int.fdiv n4 (256 : Int)) + (Go.IntKind.wrap Go.IntKind.i64 (((BitVec.toNat ((BitVec.ofInt 64 (Int.fdiv n1 (256 : Int))) &&& (BitVec.ofInt 64 (31 : Int)))) : Nat) : Int)))) ≥ n9)))
          (k (2 : Int) (0 : Int) (Go.IntKind.wrap Go.IntKind.i64 ((Go.IntKind.wrap Go.IntKind.i64 (n * (256 : Int))) + (Go.IntKind.wrap Go.IntKind.i64 ((4 : Int) * (Go.IntKind.wrap Go.IntKind.i64 (((BitVec.toNat ((BitVec.ofInt 64 (Int.fdiv n1 (8192 : Int))) &&& (BitVec.ofInt 64 (31 : Int)))) : Nat) : Int)))))) (0 : Int) (0 : Int) Bool.false n (0 : Int) (1 : Int))
          (g_impl_yputs N n2 fun n10 =>
            (k (0 : Int) (Go.IntKind.wrap Go.IntKind.i64 ((Go.IntKind.wrap Go.IntKind.i64 ((Go.IntKind.wrap Go.IntKind.i64 ((Int.fdiv n4 (256 : Int)) + (Go.IntKind.wrap Go.IntKind.i64 (((BitVec.toNat ((BitVec.ofInt 64 (Int.fdiv n1 (256 : Int))) &&& (BitVec.ofInt 64 (31 : Int)))) : Nat) : Int)))) * (256 : Int))) + (Go.IntKind.wrap Go.IntKind.i64 (((BitVec.toNat ((BitVec.ofInt 64 n1) &&& (BitVec.ofInt 64 (255 : Int)))) : Nat) : Int)))) (Go.IntKind.wrap Go.IntKind.i64 ((Go.IntKind.wrap Go.IntKind.i64 (n * (256 : Int))) + (Go.IntKind.wrap Go.IntKind.i64 ((4 : Int) * (Go.IntKind.wrap Go.IntKind.i64 (((BitVec.toNat ((BitVec.ofInt 64 (Int.fdiv n1 (8192 : Int))) &&& (BitVec.ofInt 64 (31 : Int)))) : Nat) : Int)))))) n4 (Go.IntKind.wrap Go.IntKind.i64 (((BitVec.toNat ((BitVec.ofInt 64 n4) ||| (BitVec.ofInt 64 n10))) : Nat) : Int)) Bool.true n (0 : Int) (1 : Int)))))))))))))
theorem e_impl_ylookup_w (N : Nat) {R : Type} (b : Bool) (n : Int) (n1 : Int) (n2 : Int) (b1 : Bool) (l : List Int) (K : AV → Hp E → Option R) :
    runFnI (E := E) (O_impl_ylookup_w N) (noIt) sl_impl_ylookup_w J_impl_ylookup_w Go.Proofs.Try.f70 [(Go.Eng.AV.sc (Go.Eng.SV.slc 0 Option.none b)), (Go.Eng.AV.sc (Go.Eng.SV.int Go.IntKind.i64 n)), (Go.Eng.AV.sc (Go.Eng.SV.int Go.IntKind.i64 n1)), (Go.Eng.AV.sc (Go.Eng.SV.int Go.IntKind.i64 n2)), (Go.Eng.AV.sc (Go.Eng.SV.bool b1))] [(Option.some (Go.Eng.HE.mk Bool.false (Go.Eng.HB.rows (Go.Sa.B.u8 l))))] K =
      g_impl_ylookup_w N b n n1 n2 b1 l (fun n11 n12 n13 n14 n15 b4 n16 n17 n18 => K (Go.Eng.AV.agg [(Go.Eng.SV.int Go.IntKind.i64 n11), (Go.Eng.SV.int Go.IntKind.i64 n12), (Go.Eng.SV.int Go.IntKind.i64 n13), (Go.Eng.SV.int Go.IntKind.i64 n14), (Go.Eng.SV.int Go.IntKind.i64 n15), (Go.Eng.SV.bool b4), (Go.Eng.SV.int Go.IntKind.i64 n16), (Go.Eng.SV.int Go.IntKind.i64 n17), (Go.Eng.SV.int Go.IntKind.i64 n18)]) [(Option.some (Go.Eng.HE.mk Bool.false (Go.Eng.HB.rows (Go.Sa.B.u8 l))))]) := by kernel_rfl
def o_impl_ylookup_w (N : Nat) {R : Type} (args : List AV) (H : Hp E) (K : AV → Hp E → Option R) : Option R :=
  match args, H with
  | [(Go.Eng.AV.sc (Go.Eng.SV.slc 0 Option.none b)), (Go.Eng.AV.sc (Go.Eng.SV.int Go.IntKind.i64 n)), (Go.Eng.AV.sc (Go.Eng.SV.int Go.IntKind.i64 n1)), (Go.Eng.AV.sc (Go.Eng.SV.int Go.IntKind.i64 n2)), (Go.Eng.AV.sc (Go.Eng.SV.bool b1))], [(Option.some (Go.Eng.HE.mk Bool.false (Go.Eng.HB.rows (Go.Sa.B.u8 l))))] => g_impl_ylookup_w N b n n1 n2 b1 l (fun n11 n12 n13 n14 n15 b4 n16 n17 n18 => K (Go.Eng.AV.agg [(Go.Eng.SV.int Go.IntKind.i64 n11), (Go.Eng.SV.int Go.IntKind.i64 n12), (Go.Eng.SV.int Go.IntKind.i64 n13), (Go.Eng.SV.int Go.IntKind.i64 n14), (Go.Eng.SV.int Go.IntKind.i64 n15), (Go.Eng.SV.bool b4), (Go.Eng.SV.int Go.IntKind.i64 n16), (Go.Eng.SV.int Go.IntKind.i64 n17), (Go.Eng.SV.int Go.IntKind.i64 n18)]) [(Option.some (Go.Eng.HE.mk Bool.false (Go.Eng.HB.rows (Go.Sa.B.u8 l))))])
  | _, _ => none
theorem o_impl_ylookup_w_ok (N : Nat) : FnOk E 70 (o_impl_ylookup_w N) := by
  intro R args H K r h
  unfold o_impl_ylookup_w at h
  dsimp only at h
  split at h
  · exact fnB_ok (ids := []) (top := []) ok (O_impl_ylookup_w_ok N) (jn_ok _ _ _) Go.Proofs.Try.func70 (by kernel_rfl) (IT := noIt) (sl := sl_impl_ylookup_w) (J := J_impl_ylookup_w) (K := K) (H := [(Option.some (Go.Eng.HE.mk Bool.false (Go.Eng.HB.rows (Go.Sa.B.u8 _))))]) (noIt_ok) (by kernel_rfl) rfl ((e_impl_ylookup_w N _ _ _ _ _ _ K).trans h)
  · cases h
/-! ### loop.example/g00038/impl.yputWord -/
abbrev sl_impl_yputWord_w : SlotT := []
abbrev J_impl_yputWord_w : JT := jn [] [] []
noncomputable def O_impl_yputWord_w (N : Nat) : Orc E := noFn
theorem O_impl_yputWord_w_ok (N : Nat) : OrcOk (O_impl_yputWord_w N) := noFn_ok
def g_impl_yputWord_w (N : Nat) {R : Type} (b : Bool) (n : Int) (n1 : Int) (l : List Int) (k : (List Int) → Option R) : Option R :=
  (cond ((decide (((0 : Int) ≤ n))) && (decide ((n < (((List.length l) : Nat) : Int)))))
  (elemK l (Int.toNat n) fun x =>
    (cond (Nat.blt (Int.toNat n) (List.length l))
    (cond ((decide (((0 : Int) ≤ (Go.IntKind.wrap Go.IntKind.i64 (n + (1 : Int)))))) && (decide (((Go.IntKind.wrap Go.IntKind.i64 (n + (1 : Int))) < (((List.length (Go.Eng.nset l (Int.toNat n) (Go.IntKind.wrap Go.IntKind.u8 n1))) : Nat) : Int)))))
      (elemK (Go.Eng.nset l (Int.toNat n) (Go.IntKind.wrap Go.IntKind.u8 n1)) (Int.toNat (Go.IntKind.wrap Go.IntKind.i64 (n + (1 : Int)))) fun x1 =>
        (cond (Nat.blt (Int.toNat (Go.IntKind.wrap Go.IntKind.i64 (n + (1 : Int)))) (List.length (Go.Eng.nset l (Int.toNat n) (Go.IntKind.wrap Go.IntKind.u8 n1))))
        (cond ((decide (((0 : Int) ≤ (Go.IntKind.wrap Go.IntKind.i64 (n + (2 : Int)))))) && (decide (((Go.IntKind.wrap Go.IntKind.i64 (n + (2 : Int))) < (((List.length (Go.Eng.nset (Go.Eng.nset l (Int.toNat n) (Go.IntKind.wrap Go.IntKind.u8 n1)) (Int.toNat (Go.IntKind.wrap Go.IntKind.i64 (n + (1 : Int)))) (Go.IntKind.wrap Go.IntKind.u8 (Int.fdiv n1 (256 : Int))))) : Nat) : Int)))))
          (elemK (Go.Eng.nset (Go.Eng.nset l (Int.toNat n) (Go.IntKind.wrap Go.IntKind.u8 n1)) (Int.toNat (Go.IntKind.wrap Go.IntKind.i64 (n + (1 : Int)))) (Go.IntKind.wrap Go.IntKind.u8 (Int.fdiv n1 (256 : Int)))) (Int.toNat (Go.IntKind.wrap Go.IntKind.i64 (n + (2 : Int)))) fun x2 =>
            (cond (Nat.blt (Int.toNat (Go.IntKind.wrap Go.IntKind.i64 (n + (2 : Int)))) (List.length (Go.Eng.nset (Go.Eng.nset l (Int.toNat n) (Go.IntKind.wrap Go.IntKind.u8 n1)) (Int.toNat (Go.IntKind.wrap Go.IntKind.i64 (n + (1 : Int)))) (Go.IntKind.wrap Go.IntKind.u8 (Int.fdiv n1 (256 : Int))))))
            (cond ((decide (((0 : Int) ≤ (Go.IntKind.wrap Go.IntKind.i64 (n + (3 : Int)))))) && (decide (((Go.IntKind.wrap Go.IntKind.i64 (n + (3 : Int))) < (((List.length (Go.Eng.nset (Go.Eng.nset (Go.Eng.nset l (Int.toNat n) (Go.IntKind.wrap Go.IntKind.u8 n1)) (Int.toNat (Go.IntKind.wrap Go.IntKind.i64 (n + (1 : Int)))) (Go.IntKind.wrap Go.IntKind.u8 (Int.fdiv n1 (256 : Int)))) (Int.toNat (Go.IntKind.wrap Go.IntKind.i64 (n + (2 : Int)))) (Go.IntKind.wrap Go.IntKind.u8 (Int.fdiv n1 (65536 : Int))))) : Nat) : Int)))))
              (elemK (Go.Eng.nset (Go.Eng.nset (Go.Eng.nset l (Int.toNat n) (Go.IntKind.wrap Go.IntKind.u8 n1)) (Int.toNat (Go.IntKind.wrap Go.IntKind.i64 (n + (1 : Int)))) (Go.IntKind.wrap Go.IntKind.u8 (Int.fdiv n1 (256 : Int)))) (Int.toNat (Go.IntKind.wrap Go.IntKind.i64 (n + (2 : Int)))) (Go.IntKind.wrap Go.IntKind.u8 (Int.fdiv n1 (65536 : Int)))) (Int.toNat (Go.IntKind.wrap Go.IntKind.i64 (n + (3 : Int)))) fun x3 =>
                (cond (Nat.blt (Int.toNat (Go.IntKind.wrap Go.IntKind.i64 (n + (3 : Int)))) (List.length (Go.Eng.nset (Go.Eng.nset (Go.Eng.nset l (Int.toNat n) (Go.IntKind.wrap Go.IntKind.u8 n1)) (Int.toNat (Go.IntKind.wrap Go.IntKind.i64 (n + (1 : Int)))) (Go.IntKind.wrap Go.IntKind.u8 (Int.fdiv n1 (256 : Int)))) (Int.toNat (Go.IntKind.wrap Go.IntKind.i64 (n + (2 : Int)))) (Go.IntKind.wrap Go.IntKind.u8 (Int.fdiv n1 (65536 : Int))))))
                (k (Go.Eng.nset (Go.Eng.nset (Go.Eng.nset (Go.Eng.nset l (Int.toNat n) (Go.IntKind.wrap Go.IntKind.u8 n1)) (Int.toNat (Go.IntKind.wrap Go.IntKind.i64 (n + (1 : Int)))) (Go.IntKind.wrap Go.IntKind.u8 (Int.fdiv n1 (256 : Int)))) (Int.toNat (Go.IntKind.wrap Go.IntKind.i64 (n + (2 : Int)))) (Go.IntKind.wrap Go.IntKind.u8 (Int.fdiv n1 (65536 : Int)))) (Int.toNat (Go.IntKind.wrap Go.IntKind.i64 (n + (3 : Int)))) (Go.IntKind.wrap Go.IntKind.u8 (Int.fdiv n1 (16777216 : Int)))))
                none))
              none)
            none))
          none)
        none))
      none)
    none))
  none)
theorem e_impl_yputWord_w (N : Nat) {R : Type} (b : Bool) (n : Int) (n1 : Int) (l : List Int) (K : AV → Hp E → Option R) :
    runFnI (E := E) (O_impl_yputWord_w N) (noIt) sl_impl_yputWord_w J_impl_yputWord_w Go.Proofs.Try.f72 [(Go.Eng.AV.sc (Go.Eng.SV.slc 0 Option.none b)), (Go.Eng.AV.sc (Go.Eng.SV.int Go.IntKind.i64 n)), (Go.Eng.AV.sc (Go.Eng.SV.int Go.IntKind.i64 n1))] [(Option.some (Go.Eng.HE.mk Bool.false (Go.Eng.HB.rows (Go.Sa.B.u8 l))))] K =
      g_impl_yputWord_w N b n n1 l (fun l1 => K (Go.Eng.AV.tup []) [(Option.some (Go.Eng.HE.mk Bool.false (Go.Eng.HB.rows (Go.Sa.B.u8 l1))))]) := by kernel_rfl
def o_impl_yputWord_w (N : Nat) {R : Type} (args : List AV) (H : Hp E) (K : AV → Hp E → Option R) : Option R :=
  match args, H with
  | [(Go.Eng.AV.sc (Go.Eng.SV.slc 0 Option.none b)), (Go.Eng.AV.sc (Go.Eng.SV.int Go.IntKind.i64 n)), (Go.Eng.AV.sc (Go.Eng.SV.int Go.IntKind.i64 n1))], [(Option.some (Go.Eng.HE.mk Bool.false (Go.Eng.HB.rows (Go.Sa.B.u8 l))))] => g_impl_yputWord_w N b n n1 l (fun l1 => K (Go.Eng.AV.tup []) [(Option.some (Go.Eng.HE.mk Bool.false (Go.Eng.HB.rows (Go.Sa.B.u8 l1))))])
  | _, _ => none
theorem o_impl_yputWord_w_ok (N : Nat) : FnOk E 72 (o_impl_yputWord_w N) := by
  intro R args H K r h
  unfold o_impl_yputWord_w at h
  dsimp only at h
  split at h
  · exact fnB_ok (ids := []) (top := []) ok (O_impl_yputWord_w_ok N) (jn_ok _ _ _) Go.Proofs.Try.func72 (by kernel_rfl) (IT := noIt) (sl := sl_impl_yputWord_w) (J := J_impl_yputWord_w) (K := K) (H := [(Option.some (Go.Eng.HE.mk Bool.false (Go.Eng.HB.rows (Go.Sa.B.u8 _))))]) (noIt_ok) (by kernel_rfl) rfl ((e_impl_yputWord_w N _ _ _ _ K).trans h)
  · cases h
/-! ### loop.example/g00038/impl.ydma -/
abbrev sl_impl_ydma : SlotT := [(0, ([1, 2, 3, 4, 12, 13, 14], [10, 11, 12, 13, 14]))]
abbrev J_impl_ydma : JT := jn [(1, [(40, .b)])] [] []
noncomputable def O_impl_ydma (N : Nat) : Orc E := addFn 72 (o_impl_yputWord_w N) (addFn 70 (o_impl_ylookup_w N) (addFn 96 (o_impl_yin N) (addFn 68 (o_impl_ymemOk N) (noFn))))
theorem O_impl_ydma_ok (N : Nat) : OrcOk (O_impl_ydma N) := addFn_ok (o_impl_yputWord_w_ok N) (addFn_ok (o_impl_ylookup_w_ok N) (addFn_ok (o_impl_yin_ok N) (addFn_ok (o_impl_ymemOk_ok N) (noFn_ok))))
def s_impl_ydma_0 (N : Nat) {R : Type} (n4 : Int) (n7 : Int) (b4 : Bool) (n8 : Int) (n9 : Int) (s1 : ByteArray) (s2 : ByteArray) (n5 : Int) (n6 : Int) (b5 : Bool) (l : List Int) (l1 : List Go.Sa.A2i64) (ag : Int → Int → Bool → (List Int) → (List Go.Sa.A2i64) → Option R)  (kR : Bool → Int → (List Int) → (List Go.Sa.A2i64) → Option R) (kN : Bool → (List Int) → (List Go.Sa.A2i64) → Option R) : Option R :=
  (cond (decide ((n6 > (0 : Int))))
  (g_impl_ylookup_w N b4 n4 n5 n7 Bool.true l fun n10 n11 n12 n13 n14 b6 n15 n16 n17 =>
    (cond (n10 != (0 : Int))
    (kR b5 n5 l l1)
    (g_impl_yputWord_w N b4 n12 n14 l fun l2 =>
      (cond (Go.Eng.roomOk ((List.length l1) + (List.length [(Go.Sa.A2i64.mk n11 (if ((decide (((Go.IntKind.wrap Go.IntKind.i64 ((256 : Int) - (Int.tmod n5 (256 : Int)))) < n6))) = Bool.true) then (Go.IntKind.wrap Go.IntKind.i64 ((256 : Int) - (Int.tmod n5 (256 : Int)))) else n6))])) 16)
      (ag (Go.IntKind.wrap Go.IntKind.i64 (n5 + (if ((decide (((Go.IntKind.wrap Go.IntKind.i64 ((256 : Int) - (Int.tmod n5 (256 : Int)))) < n6))) = Bool.true) then (Go.IntKind.wrap Go.IntKind.i64 ((256 : Int) - (Int.tmod n5 (256 : Int)))) else n6))) (Go.IntKind.wrap Go.IntKind.i64 (n6 - (if ((decide (((Go.IntKind.wrap Go.IntKind.i64 ((256 : Int) - (Int.tmod n5 (256 : Int)))) < n6))) = Bool.true) then (Go.IntKind.wrap Go.IntKind.i64 ((256 : Int) - (Int.tmod n5 (256 : Int)))) else n6))) (cond (Nat.beq (List.length [(Go.Sa.A2i64.mk n11 (if ((decide (((Go.IntKind.wrap Go.IntKind.i64 ((256 : Int) - (Int.tmod n5 (256 : Int)))) < n6))) = Bool.true) then (Go.IntKind.wrap Go.IntKind.i64 ((256 : Int) - (Int.tmod n5 (256 : Int)))) else n6))]) 0) b5 Bool.false) l2 (l1 ++ [(Go.Sa.A2i64.mk n11 (if ((decide (((Go.IntKind.wrap Go.IntKind.i64 ((256 : Int) - (Int.tmod n5 (256 : Int)))) < n6))) = Bool.true) then (Go.IntKind.wrap Go.IntKind.i64 ((256 : Int) - (Int.tmod n5 (256 : Int)))) else n6))]))
      none))))
  (kN b5 l l1))
def l_impl_ydma_0 (N : Nat) {R : Type} (n4 : Int) (n7 : Int) (b4 : Bool) (n8 : Int) (n9 : Int) (s1 : ByteArray) (s2 : ByteArray) (kR : Bool → Int → (List Int) → (List Go.Sa.A2i64) → Option R) (kN : Bool → (List Int) → (List Go.Sa.A2i64) → Option R) : Nat → Int → Int → Bool → (List Int) → (List Go.Sa.A2i64) → Option R
  | 0, _, _, _, _, _ => none
  | f + 1, n5, n6, b5, l, l1 => s_impl_ydma_0 N n4 n7 b4 n8 n9 s1 s2 n5 n6 b5 l l1 (fun n5 n6 b5 l l1 => l_impl_ydma_0 N n4 n7 b4 n8 n9 s1 s2 kR kN f n5 n6 b5 l l1)  kR kN
def c_impl_ydma_0 (N : Nat) {R : Type} (n4 : Int) (n7 : Int) (b4 : Bool) (n8 : Int) (n9 : Int) (s1 : ByteArray) (s2 : ByteArray) (n5 : Int) (n6 : Int) (b5 : Bool) (l : List Int) (l1 : List Go.Sa.A2i64) (kR : Bool → Int → (List Int) → (List Go.Sa.A2i64) → Option R) (kN : Bool → (List Int) → (List Go.Sa.A2i64) → Option R) : Option R := l_impl_ydma_0 N n4 n7 b4 n8 n9 s1 s2 kR kN N n5 n6 b5 l l1
theorem se_impl_ydma_0 (N : Nat) {R : Type} (n4 : Int) (n7 : Int) (b4 : Bool) (n8 : Int) (n9 : Int) (s1 : ByteArray) (s2 : ByteArray) (n5 : Int) (n6 : Int) (b5 : Bool) (l : List Int) (l1 : List Go.Sa.A2i64) (AG : List (Option AV) → Hp E → Option R) (KL : Ex → List (Option AV) → Hp E → Option R) :
    iterStep (E := E) (O_impl_ydma N) (fun {R} => LI (noIt) 0 83 sl_impl_ydma (R := R)) J_impl_ydma 0 83 0 [1, 2, 3, 4, 12, 13, 14] [10, 11, 12, 13, 14] (body Go.Proofs.Try.f77 0) AG KL [(Option.some (Go.Eng.AV.sc (Go.Eng.SV.int Go.IntKind.i64 n4))), (Option.some (Go.Eng.AV.sc (Go.Eng.SV.int Go.IntKind.i64 n5))), (Option.some (Go.Eng.AV.sc (Go.Eng.SV.int Go.IntKind.i64 n6))), (Option.some (Go.Eng.AV.sc (Go.Eng.SV.int Go.IntKind.i64 n7))), (Option.some (Go.Eng.AV.sc (Go.Eng.SV.ptr 0 0 0))), (Option.some (Go.Eng.AV.sc (Go.Eng.SV.slc 1 Option.none b4))), (Option.some (Go.Eng.AV.sc (Go.Eng.SV.slc 2 Option.none b5)))] [(Option.some (Go.Eng.HE.mk Bool.false (Go.Eng.HB.exp Option.none [(Go.Eng.SV.int Go.IntKind.i64 n8), (Go.Eng.SV.int Go.IntKind.i64 n9), (Go.Eng.SV.str s1), (Go.Eng.SV.str s2)]))), (Option.some (Go.Eng.HE.mk Bool.false (Go.Eng.HB.rows (Go.Sa.B.u8 l)))), (Option.some (Go.Eng.HE.mk Bool.false (Go.Eng.HB.rows (Go.Sa.B.aA2i64 l1))))] =
      s_impl_ydma_0 N n4 n7 b4 n8 n9 s1 s2 n5 n6 b5 l l1 (fun n5 n6 b5 l l1 => AG [(Option.some (Go.Eng.AV.sc (Go.Eng.SV.int Go.IntKind.i64 n4))), (Option.some (Go.Eng.AV.sc (Go.Eng.SV.int Go.IntKind.i64 n5))), (Option.some (Go.Eng.AV.sc (Go.Eng.SV.int Go.IntKind.i64 n6))), (Option.some (Go.Eng.AV.sc (Go.Eng.SV.int Go.IntKind.i64 n7))), (Option.some (Go.Eng.AV.sc (Go.Eng.SV.ptr 0 0 0))), (Option.some (Go.Eng.AV.sc (Go.Eng.SV.slc 1 Option.none b4))), (Option.some (Go.Eng.AV.sc (Go.Eng.SV.slc 2 Option.none b5)))] [(Option.some (Go.Eng.HE.mk Bool.false (Go.Eng.HB.exp Option.none [(Go.Eng.SV.int Go.IntKind.i64 n8), (Go.Eng.SV.int Go.IntKind.i64 n9), (Go.Eng.SV.str s1), (Go.Eng.SV.str s2)]))), (Option.some (Go.Eng.HE.mk Bool.false (Go.Eng.HB.rows (Go.Sa.B.u8 l)))), (Option.some (Go.Eng.HE.mk Bool.false (Go.Eng.HB.rows (Go.Sa.B.aA2i64 l1))))])  (fun b11 n21 l9 l10 => KL Go.Eng.Ex.ret [(Option.some (Go.Eng.AV.sc (Go.Eng.SV.slc 0 Option.none Bool.true))), (Option.some (Go.Eng.AV.sc (Go.Eng.SV.slc 1 Option.none Bool.true))), (Option.some (Go.Eng.AV.sc (Go.Eng.SV.ptr 2 0 0))), (Option.some (Go.Eng.AV.sc (Go.Eng.SV.slc 3 Option.none b4))), (Option.some (Go.Eng.AV.sc (Go.Eng.SV.slc 4 Option.none b11)))] [(Option.some (Go.Eng.HE.mk Bool.false (Go.Eng.HB.rows (Go.Sa.B.u8 [])))), (Option.some (Go.Eng.HE.mk Bool.false (Go.Eng.HB.rows (Go.Sa.B.aA2i64 [])))), (Option.some (Go.Eng.HE.mk Bool.false (Go.Eng.HB.exp Option.none [(Go.Eng.SV.int Go.IntKind.i64 (7 : Int)), (Go.Eng.SV.int Go.IntKind.i64 n21), (Go.Eng.SV.str (ByteArray.mk (List.toArray []))), (Go.Eng.SV.str (ByteArray.mk (List.toArray [])))]))), (Option.some (Go.Eng.HE.mk Bool.false (Go.Eng.HB.rows (Go.Sa.B.u8 l9)))), (Option.some (Go.Eng.HE.mk Bool.false (Go.Eng.HB.rows (Go.Sa.B.aA2i64 l10))))]) (fun b12 l11 l12 => KL Go.Eng.Ex.normal [Option.none, Option.none, (Option.some (Go.Eng.AV.sc (Go.Eng.SV.ptr 0 0 0))), (Option.some (Go.Eng.AV.sc (Go.Eng.SV.slc 1 Option.none b4))), (Option.some (Go.Eng.AV.sc (Go.Eng.SV.slc 2 Option.none b12)))] [(Option.some (Go.Eng.HE.mk Bool.false (Go.Eng.HB.exp Option.none [(Go.Eng.SV.int Go.IntKind.i64 n8), (Go.Eng.SV.int Go.IntKind.i64 n9), (Go.Eng.SV.str s1), (Go.Eng.SV.str s2)]))), (Option.some (Go.Eng.HE.mk Bool.false (Go.Eng.HB.rows (Go.Sa.B.u8 l11)))), (Option.some (Go.Eng.HE.mk Bool.false (Go.Eng.HB.rows (Go.Sa.B.aA2i64 l12))))]) := by kernel_rfl
theorem le_impl_ydma_0 (N : Nat) {R : Type} (n4 : Int) (n7 : Int) (b4 : Bool) (n8 : Int) (n9 : Int) (s1 : ByteArray) (s2 : ByteArray) (KL : Ex → List (Option AV) → Hp E → Option R) : ∀ (f : Nat), ∀ (n5 : Int) (n6 : Int) (b5 : Bool) (l : List Int) (l1 : List Go.Sa.A2i64), iterK (E := E) (O_impl_ydma N) (fun {R} => LI (noIt) 0 83 sl_impl_ydma (R := R)) J_impl_ydma 0 83 0 [1, 2, 3, 4, 12, 13, 14] [10, 11, 12, 13, 14] (body Go.Proofs.Try.f77 0) f [(Option.some (Go.Eng.AV.sc (Go.Eng.SV.int Go.IntKind.i64 n4))), (Option.some (Go.Eng.AV.sc (Go.Eng.SV.int Go.IntKind.i64 n5))), (Option.some (Go.Eng.AV.sc (Go.Eng.SV.int Go.IntKind.i64 n6))), (Option.some (Go.Eng.AV.sc (Go.Eng.SV.int Go.IntKind.i64 n7))), (Option.some (Go.Eng.AV.sc (Go.Eng.SV.ptr 0 0 0))), (Option.some (Go.Eng.AV.sc (Go.Eng.SV.slc 1 Option.none b4))), (Option.some (Go.Eng.AV.sc (Go.Eng.SV.slc 2 Option.none b5)))] [(Option.some (Go.Eng.HE.mk Bool.false (Go.Eng.HB.exp Option.none [(Go.Eng.SV.int Go.IntKind.i64 n8), (Go.Eng.SV.int Go.IntKind.i64 n9), (Go.Eng.SV.str s1), (Go.Eng.SV.str s2)]))), (Option.some (Go.Eng.HE.mk Bool.false (Go.Eng.HB.rows (Go.Sa.B.u8 l)))), (Option.some (Go.Eng.HE.mk Bool.false (Go.Eng.HB.rows (Go.Sa.B.aA2i64 l1))))] KL = l_impl_ydma_0 N n4 n7 b4 n8 n9 s1 s2 (fun b11 n21 l9 l10 => KL Go.Eng.Ex.ret [(Option.some (Go.Eng.AV.sc (Go.Eng.SV.slc 0 Option.none Bool.true))), (Option.some (Go.Eng.AV.sc (Go.Eng.SV.slc 1 Option.none Bool.true))), (Option.some (Go.Eng.AV.sc (Go.Eng.SV.ptr 2 0 0))), (Option.some (Go.Eng.AV.sc (Go.Eng.SV.slc 3 Option.none b4))), (Option.some (Go.Eng.AV.sc (Go.Eng.SV.slc 4 Option.none b11)))] [(Option.some (Go.Eng.HE.mk Bool.false (Go.Eng.HB.rows (Go.Sa.B.u8 [])))), (Option.some (Go.Eng.HE.mk Bool.false (Go.Eng.HB.rows (Go.Sa.B.aA2i64 [])))), (Option.some (Go.Eng.HE.mk Bool.false (Go.Eng.HB.exp Option.none [(Go.Eng.SV.int Go.IntKind.i64 (7 : Int)), (Go.Eng.SV.int Go.IntKind.i64 n21), (Go.Eng.SV.str (ByteArray.mk (List.toArray []))), (Go.Eng.SV.str (ByteArray.mk (List.toArray [])))]))), (Option.some (Go.Eng.HE.mk Bool.false (Go.Eng.HB.rows (Go.Sa.B.u8 l9)))), (Option.some (Go.Eng.HE.mk Bool.false (Go.Eng.HB.rows (Go.Sa.B.aA2i64 l10))))]) (fun b12 l11 l12 => KL Go.Eng.Ex.normal [Option.none, Option.none, (Option.some (Go.Eng.AV.sc (Go.Eng.SV.ptr 0 0 0))), (Option.some (Go.Eng.AV.sc (Go.Eng.SV.slc 1 Option.none b4))), (Option.some (Go.Eng.AV.sc (Go.Eng.SV.slc 2 Option.none b12)))] [(Option.some (Go.Eng.HE.mk Bool.false (Go.Eng.HB.exp Option.none [(Go.Eng.SV.int Go.IntKind.i64 n8), (Go.Eng.SV.int Go.IntKind.i64 n9), (Go.Eng.SV.str s1), (Go.Eng.SV.str s2)]))), (Option.some (Go.Eng.HE.mk Bool.false (Go.Eng.HB.rows (Go.Sa.B.u8 l11)))), (Option.some (Go.Eng.HE.mk Bool.false (Go.Eng.HB.rows (Go.Sa.B.aA2i64 l12))))]) f n5 n6 b5 l l1 := by
  intro f
  induction f with
  | zero => intros; rfl
  | succ f ih =>
    intro n5 n6 b5 l l1
    rw [iterK_succ, se_impl_ydma_0]
    exact (congrArg (fun z0 => s_impl_ydma_0 N n4 n7 b4 n8 n9 s1 s2 n5 n6 b5 l l1 z0 (fun b11 n21 l9 l10 => KL Go.Eng.Ex.ret [(Option.some (Go.Eng.AV.sc (Go.Eng.SV.slc 0 Option.none Bool.true))), (Option.some (Go.Eng.AV.sc (Go.Eng.SV.slc 1 Option.none Bool.true))), (Option.some (Go.Eng.AV.sc (Go.Eng.SV.ptr 2 0 0))), (Option.some (Go.Eng.AV.sc (Go.Eng.SV.slc 3 Option.none b4))), (Option.some (Go.Eng.AV.sc (Go.Eng.SV.slc 4 Option.none b11)))] [(Option.some (Go.Eng.HE.mk Bool.false (Go.Eng.HB.rows (Go.Sa.B.u8 [])))), (Option.some (Go.Eng.HE.mk Bool.false (Go.Eng.HB.rows (Go.Sa.B.aA2i64 [])))), (Option.some (Go.Eng.HE.mk Bool.false (Go.Eng.HB.exp Option.none [(Go.Eng.SV.int Go.IntKind.i64 (7 : Int)), (Go.Eng.SV.int Go.IntKind.i64 n21), (Go.Eng.SV.str (ByteArray.mk (List.toArray []))), (Go.Eng.SV.str (ByteArray.mk (List.toArray [])))]))), (Option.some (Go.Eng.HE.mk Bool.false (Go.Eng.HB.rows (Go.Sa.B.u8 l9)))), (Option.some (Go.Eng.HE.mk Bool.false (Go.Eng.HB.rows (Go.Sa.B.aA2i64 l10))))]) (fun b12 l11 l12 => KL Go.Eng.Ex.normal [Option.none, Option.none, (Option.some (Go.Eng.AV.sc (Go.Eng.SV.ptr 0 0 0))), (Option.some (Go.Eng.AV.sc (Go.Eng.SV.slc 1 Option.none b4))), (Option.some (Go.Eng.AV.sc (Go.Eng.SV.slc 2 Option.none b12)))] [(Option.some (Go.Eng.HE.mk Bool.false (Go.Eng.HB.exp Option.none [(Go.Eng.SV.int Go.IntKind.i64 n8), (Go.Eng.SV.int Go.IntKind.i64 n9), (Go.Eng.SV.str s1), (Go.Eng.SV.str s2)]))), (Option.some (Go.Eng.HE.mk Bool.false (Go.Eng.HB.rows (Go.Sa.B.u8 l11)))), (Option.some (Go.Eng.HE.mk Bool.false (Go.Eng.HB.rows (Go.Sa.B.aA2i64 l12))))])) (funext fun n5 => funext fun n6 => funext fun b5 => funext fun l => funext fun l1 => ih n5 n6 b5 l l1))
def i_impl_ydma_0 (N : Nat) {R : Type} (vs : List (Option AV)) (H : Hp E) (KL : Ex → List (Option AV) → Hp E → Option R) : Option R :=
  match vs, H with
  | [(Option.some (Go.Eng.AV.sc (Go.Eng.SV.int Go.IntKind.i64 n4))), (Option.some (Go.Eng.AV.sc (Go.Eng.SV.int Go.IntKind.i64 n5))), (Option.some (Go.Eng.AV.sc (Go.Eng.SV.int Go.IntKind.i64 n6))), (Option.some (Go.Eng.AV.sc (Go.Eng.SV.int Go.IntKind.i64 n7))), (Option.some (Go.Eng.AV.sc (Go.Eng.SV.ptr 0 0 0))), (Option.some (Go.Eng.AV.sc (Go.Eng.SV.slc 1 Option.none b4))), (Option.some (Go.Eng.AV.sc (Go.Eng.SV.slc 2 Option.none b5)))], [(Option.some (Go.Eng.HE.mk Bool.false (Go.Eng.HB.exp Option.none [(Go.Eng.SV.int Go.IntKind.i64 n8), (Go.Eng.SV.int Go.IntKind.i64 n9), (Go.Eng.SV.str s1), (Go.Eng.SV.str s2)]))), (Option.some (Go.Eng.HE.mk Bool.false (Go.Eng.HB.rows (Go.Sa.B.u8 l)))), (Option.some (Go.Eng.HE.mk Bool.false (Go.Eng.HB.rows (Go.Sa.B.aA2i64 l1))))] => c_impl_ydma_0 N n4 n7 b4 n8 n9 s1 s2 n5 n6 b5 l l1 (fun b13 n22 l13 l14 => KL Go.Eng.Ex.ret [(Option.some (Go.Eng.AV.sc (Go.Eng.SV.slc 0 Option.none Bool.true))), (Option.some (Go.Eng.AV.sc (Go.Eng.SV.slc 1 Option.none Bool.true))), (Option.some (Go.Eng.AV.sc (Go.Eng.SV.ptr 2 0 0))), (Option.some (Go.Eng.AV.sc (Go.Eng.SV.slc 3 Option.none b4))), (Option.some (Go.Eng.AV.sc (Go.Eng.SV.slc 4 Option.none b13)))] [(Option.some (Go.Eng.HE.mk Bool.false (Go.Eng.HB.rows (Go.Sa.B.u8 [])))), (Option.some (Go.Eng.HE.mk Bool.false (Go.Eng.HB.rows (Go.Sa.B.aA2i64 [])))), (Option.some (Go.Eng.HE.mk Bool.false (Go.Eng.HB.exp Option.none [(Go.Eng.SV.int Go.IntKind.i64 (7 : Int)), (Go.Eng.SV.int Go.IntKind.i64 n22), (Go.Eng.SV.str (ByteArray.mk (List.toArray []))), (Go.Eng.SV.str (ByteArray.mk (List.toArray [])))]))), (Option.some (Go.Eng.HE.mk Bool.false (Go.Eng.HB.rows (Go.Sa.B.u8 l13)))), (Option.some (Go.Eng.HE.mk Bool.false (Go.Eng.HB.rows (Go.Sa.B.aA2i64 l14))))]) (fun b14 l15 l16 => KL Go.Eng.Ex.normal [Option.none, Option.none, (Option.some (Go.Eng.AV.sc (Go.Eng.SV.ptr 0 0 0))), (Option.some (Go.Eng.AV.sc (Go.Eng.SV.slc 1 Option.none b4))), (Option.some (Go.Eng.AV.sc (Go.Eng.SV.slc 2 Option.none b14)))] [(Option.some (Go.Eng.HE.mk Bool.false (Go.Eng.HB.exp Option.none [(Go.Eng.SV.int Go.IntKind.i64 n8), (Go.Eng.SV.int Go.IntKind.i64 n9), (Go.Eng.SV.str s1), (Go.Eng.SV.str s2)]))), (Option.some (Go.Eng.HE.mk Bool.false (Go.Eng.HB.rows (Go.Sa.B.u8 l15)))), (Option.some (Go.Eng.HE.mk Bool.false (Go.Eng.HB.rows (Go.Sa.B.aA2i64 l16))))])
  | _, _ => none
noncomputable def IT_impl_ydma_0 (N : Nat) : Its E := addIt 0 (i_impl_ydma_0 N) (noIt)
theorem IT_impl_ydma_0_ok (N : Nat) : ItOk (IT_impl_ydma_0 N) 0 83 sl_impl_ydma (lsB Go.Proofs.Try.f77 [0]) :=
  addItB_ok (inner := []) ok (O_impl_ydma_ok N) (jn_ok _ _ _) (noIt_ok) rfl (by kernel_rfl) rfl fun vs H KL r h => by
    unfold i_impl_ydma_0 at h
    split at h
    · exact ⟨_, (le_impl_ydma_0 N _ _ _ _ _ _ _ KL N _ _ _ _ _).trans h⟩
    · cases h
def g_impl_ydma (N : Nat) {R : Type} (s : ByteArray) (n : Int) (n1 : Int) (n2 : Int) (n3 : Int) (k : Bool → Bool → Int → Int → (List Int) → (List Go.Sa.A2i64) → Option R) : Option R :=
  (oK (g_impl_ymemOk N s fun b =>
    (cond (!b)
    (some Bool.true)
    (g_impl_yin N n (0 : Int) (255 : Int) fun b1 =>
      (cond (!b1)
      (some Bool.true)
      (g_impl_yin N n1 (0 : Int) (262143 : Int) fun b2 =>
        (cond (!b2)
        (some Bool.true)
        (g_impl_yin N n2 (0 : Int) (65536 : Int) fun b3 =>
          (cond (!b3)
          (some Bool.true)
          (some (decide ((n2 > (Go.IntKind.wrap Go.IntKind.i64 ((262144 : Int) - n1)))))))))))))) fun j =>
  (cond j
  (k Bool.true Bool.true (1 : Int) (0 : Int) [] [])
  (c_impl_ydma_0 N n n3 Bool.false (0 : Int) (0 : Int) (ByteArray.mk (List.toArray [])) (ByteArray.mk (List.toArray [])) n1 n2 Bool.true (Go.Eng.ofBytes s) [] (fun b7 n18 l3 l4 =>
    (k Bool.true Bool.true (7 : Int) n18 [] [])) (fun b8 l5 l6 =>
    (k Bool.false b8 (0 : Int) (0 : Int) l5 l6)))))
theorem e_impl_ydma (N : Nat) {R : Type} (s : ByteArray) (n : Int) (n1 : Int) (n2 : Int) (n3 : Int) (K : AV → Hp E → Option R) :
    runFnI (E := E) (O_impl_ydma N) (IT_impl_ydma_0 N) sl_impl_ydma J_impl_ydma Go.Proofs.Try.f77 [(Go.Eng.AV.sc (Go.Eng.SV.str s)), (Go.Eng.AV.sc (Go.Eng.SV.int Go.IntKind.i64 n)), (Go.Eng.AV.sc (Go.Eng.SV.int Go.IntKind.i64 n1)), (Go.Eng.AV.sc (Go.Eng.SV.int Go.IntKind.i64 n2)), (Go.Eng.AV.sc (Go.Eng.SV.int Go.IntKind.i64 n3))] [] K =
      g_impl_ydma N s n n1 n2 n3 (fun b9 b10 n19 n20 l7 l8 => K (Go.Eng.AV.tup [(Bool.false, [(Go.Eng.SV.slc 0 Option.none b9)]), (Bool.false, [(Go.Eng.SV.slc 1 Option.none b10)]), (Bool.true, [(Go.Eng.SV.int Go.IntKind.i64 n19), (Go.Eng.SV.int Go.IntKind.i64 n20), (Go.Eng.SV.str (ByteArray.mk (List.toArray []))), (Go.Eng.SV.str (ByteArray.mk (List.toArray [])))])]) [(Option.some (Go.Eng.HE.mk Bool.false (Go.Eng.HB.rows (Go.Sa.B.u8 l7)))), (Option.some (Go.Eng.HE.mk Bool.false (Go.Eng.HB.rows (Go.Sa.B.aA2i64 l8))))]) := by kernel_rfl
def o_impl_ydma (N : Nat) {R : Type} (args : List AV) (H : Hp E) (K : AV → Hp E → Option R) : Option R :=
  match args, H with
  | [(Go.Eng.AV.sc (Go.Eng.SV.str s)), (Go.Eng.AV.sc (Go.Eng.SV.int Go.IntKind.i64 n)), (Go.Eng.AV.sc (Go.Eng.SV.int Go.IntKind.i64 n1)), (Go.Eng.AV.sc (Go.Eng.SV.int Go.IntKind.i64 n2)), (Go.Eng.AV.sc (Go.Eng.SV.int Go.IntKind.i64 n3))], [] => g_impl_ydma N s n n1 n2 n3 (fun b9 b10 n19 n20 l7 l8 => K (Go.Eng.AV.tup [(Bool.false, [(Go.Eng.SV.slc 0 Option.none b9)]), (Bool.false, [(Go.Eng.SV.slc 1 Option.none b10)]), (Bool.true, [(Go.Eng.SV.int Go.IntKind.i64 n19), (Go.Eng.SV.int Go.IntKind.i64 n20), (Go.Eng.SV.str (ByteArray.mk (List.toArray []))), (Go.Eng.SV.str (ByteArray.mk (List.toArray [])))])]) [(Option.some (Go.Eng.HE.mk Bool.false (Go.Eng.HB.rows (Go.Sa.B.u8 l7)))), (Option.some (Go.Eng.HE.mk Bool.false (Go.Eng.HB.rows (Go.Sa.B.aA2i64 l8))))])
  | _, _ => none
theorem o_impl_ydma_ok (N : Nat) : FnOk E 77 (o_impl_ydma N) := by
  intro R args H K r h
  unfold o_impl_ydma at h
  dsimp only at h
  split at h
  · exact fnB_ok (ids := [0]) (top := [0]) ok (O_impl_ydma_ok N) (jn_ok _ _ _) Go.Proofs.Try.func77 (by kernel_rfl) (IT := IT_impl_ydma_0 N) (sl := sl_impl_ydma) (J := J_impl_ydma) (K := K) (H := []) (IT_impl_ydma_0_ok N) (by kernel_rfl) rfl ((e_impl_ydma N _ _ _ _ _ K).trans h)
  · cases h
end Go.Sa
