import Derived.Test.YtjimjkhpahegjaaSpec
import Derived.Test.YtjimjkhpahegjaaPLb
set_option linter.all false
namespace Go.Sa
open Go Go.Eng Go.Proofs
set_option maxRecDepth 100000
/-! ### loop.example/g00038/laws.szFrame -/
abbrev sl_laws_szFrame : SlotT := []
abbrev J_laws_szFrame : JT := jn [] []
noncomputable def O_laws_szFrame (N : Nat) : Orc E := noFn
theorem O_laws_szFrame_ok (N : Nat) : OrcOk (O_laws_szFrame N) := noFn_ok
def g_laws_szFrame (N : Nat) {R : Type} (n : Int) (n1 : Int) (n2 : Int) (s : ByteArray) (n3 : Int) (k : Int → Option R) : Option R :=
  (cond (decide (((Go.IntKind.wrap Go.IntKind.i64 (n3 - (((ByteArray.size s) : Nat) : Int))) < (0 : Int))))
  (k (-(1 : Int)))
  (k (Go.IntKind.wrap Go.IntKind.i64 (n3 - (((ByteArray.size s) : Nat) : Int)))))
theorem e_laws_szFrame (N : Nat) {R : Type} (n : Int) (n1 : Int) (n2 : Int) (s : ByteArray) (n3 : Int) (K : AV → Hp E → Option R) :
    runFnI (E := E) (O_laws_szFrame N) (noIt) sl_laws_szFrame J_laws_szFrame Go.Proofs.Try.f15 [(Go.Eng.AV.agg [(Go.Eng.SV.int Go.IntKind.i64 n), (Go.Eng.SV.int Go.IntKind.i64 n1), (Go.Eng.SV.int Go.IntKind.i64 n2), (Go.Eng.SV.str s)]), (Go.Eng.AV.sc (Go.Eng.SV.int Go.IntKind.i64 n3))] [] K =
      g_laws_szFrame N n n1 n2 s n3 (fun n4 => K (Go.Eng.AV.sc (Go.Eng.SV.int Go.IntKind.i64 n4)) []) := by kernel_rfl
def o_laws_szFrame (N : Nat) {R : Type} (args : List AV) (H : Hp E) (K : AV → Hp E → Option R) : Option R :=
  match args, H with
  | [(Go.Eng.AV.agg [(Go.Eng.SV.int Go.IntKind.i64 n), (Go.Eng.SV.int Go.IntKind.i64 n1), (Go.Eng.SV.int Go.IntKind.i64 n2), (Go.Eng.SV.str s)]), (Go.Eng.AV.sc (Go.Eng.SV.int Go.IntKind.i64 n3))], [] => g_laws_szFrame N n n1 n2 s n3 (fun n4 => K (Go.Eng.AV.sc (Go.Eng.SV.int Go.IntKind.i64 n4)) [])
  | _, _ => none
theorem o_laws_szFrame_ok (N : Nat) : FnOk E 15 (o_laws_szFrame N) := by
  intro R args H K r h
  unfold o_laws_szFrame at h
  dsimp only at h
  split at h
  · exact fnB_ok (ids := []) (top := []) ok (O_laws_szFrame_ok N) (jn_ok _ _) Go.Proofs.Try.func15 (by kernel_rfl) (IT := noIt) (sl := sl_laws_szFrame) (J := J_laws_szFrame) (K := K) (H := []) (noIt_ok) (by kernel_rfl) rfl ((e_laws_szFrame N _ _ _ _ _ K).trans h)
  · cases h
/-! ### loop.example/g00038/laws.toFrame -/
abbrev sl_laws_toFrame : SlotT := []
abbrev J_laws_toFrame : JT := jn [] []
noncomputable def O_laws_toFrame (N : Nat) : Orc E := noFn
theorem O_laws_toFrame_ok (N : Nat) : OrcOk (O_laws_toFrame N) := noFn_ok
def g_laws_toFrame (N : Nat) {R : Type} (n : Int) (n1 : Int) (n2 : Int) (s : ByteArray) (k : Option R) : Option R :=
  k
theorem e_laws_toFrame (N : Nat) {R : Type} (n : Int) (n1 : Int) (n2 : Int) (s : ByteArray) (K : AV → Hp E → Option R) :
    runFnI (E := E) (O_laws_toFrame N) (noIt) sl_laws_toFrame J_laws_toFrame Go.Proofs.Try.f17 [(Go.Eng.AV.agg [(Go.Eng.SV.int Go.IntKind.i64 n), (Go.Eng.SV.int Go.IntKind.i64 n1), (Go.Eng.SV.int Go.IntKind.i64 n2), (Go.Eng.SV.str s)])] [] K =
      g_laws_toFrame N n n1 n2 s (K (Go.Eng.AV.agg [(Go.Eng.SV.int Go.IntKind.i64 n), (Go.Eng.SV.int Go.IntKind.i64 n1), (Go.Eng.SV.int Go.IntKind.i64 n2), (Go.Eng.SV.str s)]) []) := by kernel_rfl
def o_laws_toFrame (N : Nat) {R : Type} (args : List AV) (H : Hp E) (K : AV → Hp E → Option R) : Option R :=
  match args, H with
  | [(Go.Eng.AV.agg [(Go.Eng.SV.int Go.IntKind.i64 n), (Go.Eng.SV.int Go.IntKind.i64 n1), (Go.Eng.SV.int Go.IntKind.i64 n2), (Go.Eng.SV.str s)])], [] => g_laws_toFrame N n n1 n2 s (K (Go.Eng.AV.agg [(Go.Eng.SV.int Go.IntKind.i64 n), (Go.Eng.SV.int Go.IntKind.i64 n1), (Go.Eng.SV.int Go.IntKind.i64 n2), (Go.Eng.SV.str s)]) [])
  | _, _ => none
theorem o_laws_toFrame_ok (N : Nat) : FnOk E 17 (o_laws_toFrame N) := by
  intro R args H K r h
  unfold o_laws_toFrame at h
  dsimp only at h
  split at h
  · exact fnB_ok (ids := []) (top := []) ok (O_laws_toFrame_ok N) (jn_ok _ _) Go.Proofs.Try.func17 (by kernel_rfl) (IT := noIt) (sl := sl_laws_toFrame) (J := J_laws_toFrame) (K := K) (H := []) (noIt_ok) (by kernel_rfl) rfl ((e_laws_toFrame N _ _ _ _ K).trans h)
  · cases h
/-! ### loop.example/g00038/spec.FrameFault -/
abbrev sl_spec_FrameFault : SlotT := []
abbrev J_spec_FrameFault : JT := jn [(1, [(36, .b)])] []
noncomputable def O_spec_FrameFault (N : Nat) : Orc E := noFn
theorem O_spec_FrameFault_ok (N : Nat) : OrcOk (O_spec_FrameFault N) := noFn_ok
def g_spec_FrameFault (N : Nat) {R : Type} (n : Int) (n1 : Int) (n2 : Int) (s : ByteArray) (k : Int → Option R) : Option R :=
  (oK (cond (decide ((n < (0 : Int))))
    (some Bool.true)
    (cond (decide ((n ≥ (281474976710655 : Int))))
      (some Bool.true)
      (cond (decide ((n1 < (0 : Int))))
        (some Bool.true)
        (cond (decide ((n1 > (281474976710655 : Int))))
          (some Bool.true)
          (cond (decide ((n2 < (0 : Int))))
            (some Bool.true)
            (cond (decide ((n2 > (4095 : Int))))
              (some Bool.true)
              (some (decide (((((ByteArray.size s) : Nat) : Int) > (1500 : Int))))))))))) fun j =>
  (cond j
  (k (1 : Int))
  (k (0 : Int))))
theorem e_spec_FrameFault (N : Nat) {R : Type} (n : Int) (n1 : Int) (n2 : Int) (s : ByteArray) (K : AV → Hp E → Option R) :
    runFnI (E := E) (O_spec_FrameFault N) (noIt) sl_spec_FrameFault J_spec_FrameFault Go.Proofs.Try.f16 [(Go.Eng.AV.agg [(Go.Eng.SV.int Go.IntKind.i64 n), (Go.Eng.SV.int Go.IntKind.i64 n1), (Go.Eng.SV.int Go.IntKind.i64 n2), (Go.Eng.SV.str s)])] [] K =
      g_spec_FrameFault N n n1 n2 s (fun n3 => K (Go.Eng.AV.sc (Go.Eng.SV.int Go.IntKind.i64 n3)) []) := by kernel_rfl
def o_spec_FrameFault (N : Nat) {R : Type} (args : List AV) (H : Hp E) (K : AV → Hp E → Option R) : Option R :=
  match args, H with
  | [(Go.Eng.AV.agg [(Go.Eng.SV.int Go.IntKind.i64 n), (Go.Eng.SV.int Go.IntKind.i64 n1), (Go.Eng.SV.int Go.IntKind.i64 n2), (Go.Eng.SV.str s)])], [] => g_spec_FrameFault N n n1 n2 s (fun n3 => K (Go.Eng.AV.sc (Go.Eng.SV.int Go.IntKind.i64 n3)) [])
  | _, _ => none
theorem o_spec_FrameFault_ok (N : Nat) : FnOk E 16 (o_spec_FrameFault N) := by
  intro R args H K r h
  unfold o_spec_FrameFault at h
  dsimp only at h
  split at h
  · exact fnB_ok (ids := []) (top := []) ok (O_spec_FrameFault_ok N) (jn_ok _ _) Go.Proofs.Try.func16 (by kernel_rfl) (IT := noIt) (sl := sl_spec_FrameFault) (J := J_spec_FrameFault) (K := K) (H := []) (noIt_ok) (by kernel_rfl) rfl ((e_spec_FrameFault N _ _ _ _ K).trans h)
  · cases h
/-! ### loop.example/g00038/spec.l01IsWord -/
abbrev sl_spec_l01IsWord : SlotT := []
abbrev J_spec_l01IsWord : JT := jn [(1, [(2, .b)])] []
noncomputable def O_spec_l01IsWord (N : Nat) : Orc E := noFn
theorem O_spec_l01IsWord_ok (N : Nat) : OrcOk (O_spec_l01IsWord N) := noFn_ok
def g_spec_l01IsWord (N : Nat) {R : Type} (n : Int) (k : Bool → Option R) : Option R :=
  (oK (cond (decide ((n ≥ (0 : Int))))
    (some (decide ((n < (4294967296 : Int)))))
    (some Bool.false)) fun j =>
  (k j))
theorem e_spec_l01IsWord (N : Nat) {R : Type} (n : Int) (K : AV → Hp E → Option R) :
    runFnI (E := E) (O_spec_l01IsWord N) (noIt) sl_spec_l01IsWord J_spec_l01IsWord Go.Proofs.Try.f73 [(Go.Eng.AV.sc (Go.Eng.SV.int Go.IntKind.i64 n))] [] K =
      g_spec_l01IsWord N n (fun b => K (Go.Eng.AV.sc (Go.Eng.SV.bool b)) []) := by kernel_rfl
def o_spec_l01IsWord (N : Nat) {R : Type} (args : List AV) (H : Hp E) (K : AV → Hp E → Option R) : Option R :=
  match args, H with
  | [(Go.Eng.AV.sc (Go.Eng.SV.int Go.IntKind.i64 n))], [] => g_spec_l01IsWord N n (fun b => K (Go.Eng.AV.sc (Go.Eng.SV.bool b)) [])
  | _, _ => none
theorem o_spec_l01IsWord_ok (N : Nat) : FnOk E 73 (o_spec_l01IsWord N) := by
  intro R args H K r h
  unfold o_spec_l01IsWord at h
  dsimp only at h
  split at h
  · exact fnB_ok (ids := []) (top := []) ok (O_spec_l01IsWord_ok N) (jn_ok _ _) Go.Proofs.Try.func73 (by kernel_rfl) (IT := noIt) (sl := sl_spec_l01IsWord) (J := J_spec_l01IsWord) (K := K) (H := []) (noIt_ok) (by kernel_rfl) rfl ((e_spec_l01IsWord N _ K).trans h)
  · cases h
/-! ### loop.example/g00038/spec.l16Bytes -/
abbrev sl_spec_l16Bytes : SlotT := [(0, ([0, 1, 5, 6], [5]))]
abbrev J_spec_l16Bytes : JT := jn [] []
noncomputable def O_spec_l16Bytes (N : Nat) : Orc E := noFn
theorem O_spec_l16Bytes_ok (N : Nat) : OrcOk (O_spec_l16Bytes N) := noFn_ok
def s_spec_l16Bytes_0 (N : Nat) {R : Type} (n2 : Int) (n3 : Int) (b : Bool) (n4 : Int) (l : List Int) (ag : Bool → Int → (List Int) → Option R)  (kN : Bool → (List Int) → Option R) : Option R :=
  (cond (decide ((n4 < n3)))
  (cond (decide (((Go.IntKind.wrap Go.IntKind.u64 (Go.IntKind.wrap Go.IntKind.i64 ((8 : Int) * n4))) < (0 : Int))))
    none
    (cond (Go.Eng.roomOk ((List.length l) + (List.length [(Go.IntKind.wrap Go.IntKind.u8 (Int.fdiv n2 ((2 : Int) ^ (Min.min (Int.toNat (Go.IntKind.wrap Go.IntKind.u64 (Go.IntKind.wrap Go.IntKind.i64 ((8 : Int) * n4)))) 64))))])) 1)
      (ag (cond (Nat.beq (List.length [(Go.IntKind.wrap Go.IntKind.u8 (Int.fdiv n2 ((2 : Int) ^ (Min.min (Int.toNat (Go.IntKind.wrap Go.IntKind.u64 (Go.IntKind.wrap Go.IntKind.i64 ((8 : Int) * n4)))) 64))))]) 0) b Bool.false) (Go.IntKind.wrap Go.IntKind.i64 (n4 + (1 : Int))) (l ++ [(Go.IntKind.wrap Go.IntKind.u8 (Int.fdiv n2 ((2 : Int) ^ (Min.min (Int.toNat (Go.IntKind.wrap Go.IntKind.u64 (Go.IntKind.wrap Go.IntKind.i64 ((8 : Int) * n4)))) 64))))]))
      none))
  (kN b l))
def l_spec_l16Bytes_0 (N : Nat) {R : Type} (n2 : Int) (n3 : Int) (kN : Bool → (List Int) → Option R) : Nat → Bool → Int → (List Int) → Option R
  | 0, _, _, _ => none
  | f + 1, b, n4, l => s_spec_l16Bytes_0 N n2 n3 b n4 l (fun b n4 l => l_spec_l16Bytes_0 N n2 n3 kN f b n4 l)  kN
def c_spec_l16Bytes_0 (N : Nat) {R : Type} (n2 : Int) (n3 : Int) (b : Bool) (n4 : Int) (l : List Int) (kN : Bool → (List Int) → Option R) : Option R := l_spec_l16Bytes_0 N n2 n3 kN N b n4 l
theorem se_spec_l16Bytes_0 (N : Nat) {R : Type} (n2 : Int) (n3 : Int) (b : Bool) (n4 : Int) (l : List Int) (AG : List (Option AV) → Hp E → Option R) (KL : Ex → List (Option AV) → Hp E → Option R) :
    iterStep (E := E) (O_spec_l16Bytes N) (fun {R} => LI (noIt) 0 24 sl_spec_l16Bytes (R := R)) J_spec_l16Bytes 0 24 0 [0, 1, 5, 6] [5] (body Go.Proofs.Try.f86 0) AG KL [(Option.some (Go.Eng.AV.sc (Go.Eng.SV.int Go.IntKind.i64 n2))), (Option.some (Go.Eng.AV.sc (Go.Eng.SV.int Go.IntKind.i64 n3))), (Option.some (Go.Eng.AV.sc (Go.Eng.SV.slc 0 Option.none b))), (Option.some (Go.Eng.AV.sc (Go.Eng.SV.int Go.IntKind.i64 n4)))] [(Option.some (Go.Eng.HE.mk Bool.false (Go.Eng.HB.rows (Go.Sa.B.u8 l))))] =
      s_spec_l16Bytes_0 N n2 n3 b n4 l (fun b n4 l => AG [(Option.some (Go.Eng.AV.sc (Go.Eng.SV.int Go.IntKind.i64 n2))), (Option.some (Go.Eng.AV.sc (Go.Eng.SV.int Go.IntKind.i64 n3))), (Option.some (Go.Eng.AV.sc (Go.Eng.SV.slc 0 Option.none b))), (Option.some (Go.Eng.AV.sc (Go.Eng.SV.int Go.IntKind.i64 n4)))] [(Option.some (Go.Eng.HE.mk Bool.false (Go.Eng.HB.rows (Go.Sa.B.u8 l))))])  (fun b2 l2 => KL Go.Eng.Ex.normal [(Option.some (Go.Eng.AV.sc (Go.Eng.SV.slc 0 Option.none b2)))] [(Option.some (Go.Eng.HE.mk Bool.false (Go.Eng.HB.rows (Go.Sa.B.u8 l2))))]) := by kernel_rfl
theorem le_spec_l16Bytes_0 (N : Nat) {R : Type} (n2 : Int) (n3 : Int) (KL : Ex → List (Option AV) → Hp E → Option R) : ∀ (f : Nat), ∀ (b : Bool) (n4 : Int) (l : List Int), iterK (E := E) (O_spec_l16Bytes N) (fun {R} => LI (noIt) 0 24 sl_spec_l16Bytes (R := R)) J_spec_l16Bytes 0 24 0 [0, 1, 5, 6] [5] (body Go.Proofs.Try.f86 0) f [(Option.some (Go.Eng.AV.sc (Go.Eng.SV.int Go.IntKind.i64 n2))), (Option.some (Go.Eng.AV.sc (Go.Eng.SV.int Go.IntKind.i64 n3))), (Option.some (Go.Eng.AV.sc (Go.Eng.SV.slc 0 Option.none b))), (Option.some (Go.Eng.AV.sc (Go.Eng.SV.int Go.IntKind.i64 n4)))] [(Option.some (Go.Eng.HE.mk Bool.false (Go.Eng.HB.rows (Go.Sa.B.u8 l))))] KL = l_spec_l16Bytes_0 N n2 n3 (fun b2 l2 => KL Go.Eng.Ex.normal [(Option.some (Go.Eng.AV.sc (Go.Eng.SV.slc 0 Option.none b2)))] [(Option.some (Go.Eng.HE.mk Bool.false (Go.Eng.HB.rows (Go.Sa.B.u8 l2))))]) f b n4 l := by
  intro f
  induction f with
  | zero => intros; rfl
  | succ f ih =>
    intro b n4 l
    rw [iterK_succ, se_spec_l16Bytes_0]
    exact (congrArg (fun z0 => s_spec_l16Bytes_0 N n2 n3 b n4 l z0 (fun b2 l2 => KL Go.Eng.Ex.normal [(Option.some (Go.Eng.AV.sc (Go.Eng.SV.slc 0 Option.none b2)))] [(Option.some (Go.Eng.HE.mk Bool.false (Go.Eng.HB.rows (Go.Sa.B.u8 l2))))])) (funext fun b => funext fun n4 => funext fun l => ih b n4 l))
def i_spec_l16Bytes_0 (N : Nat) {R : Type} (vs : List (Option AV)) (H : Hp E) (KL : Ex → List (Option AV) → Hp E → Option R) : Option R :=
  match vs, H with
  | [(Option.some (Go.Eng.AV.sc (Go.Eng.SV.int Go.IntKind.i64 n2))), (Option.some (Go.Eng.AV.sc (Go.Eng.SV.int Go.IntKind.i64 n3))), (Option.some (Go.Eng.AV.sc (Go.Eng.SV.slc 0 Option.none b))), (Option.some (Go.Eng.AV.sc (Go.Eng.SV.int Go.IntKind.i64 n4)))], [(Option.some (Go.Eng.HE.mk Bool.false (Go.Eng.HB.rows (Go.Sa.B.u8 l))))] => c_spec_l16Bytes_0 N n2 n3 b n4 l (fun b3 l3 => KL Go.Eng.Ex.normal [(Option.some (Go.Eng.AV.sc (Go.Eng.SV.slc 0 Option.none b3)))] [(Option.some (Go.Eng.HE.mk Bool.false (Go.Eng.HB.rows (Go.Sa.B.u8 l3))))])
  | _, _ => none
noncomputable def IT_spec_l16Bytes_0 (N : Nat) : Its E := addIt 0 (i_spec_l16Bytes_0 N) (noIt)
theorem IT_spec_l16Bytes_0_ok (N : Nat) : ItOk (IT_spec_l16Bytes_0 N) 0 24 sl_spec_l16Bytes (lsB Go.Proofs.Try.f86 [0]) :=
  addItB_ok (inner := []) ok (O_spec_l16Bytes_ok N) (jn_ok _ _) (noIt_ok) rfl (by kernel_rfl) rfl fun vs H KL r h => by
    unfold i_spec_l16Bytes_0 at h
    split at h
    · exact ⟨_, (le_spec_l16Bytes_0 N _ _ KL N _ _ _).trans h⟩
    · cases h
def g_spec_l16Bytes (N : Nat) {R : Type} (n : Int) (n1 : Int) (k : ByteArray → Option R) : Option R :=
  (c_spec_l16Bytes_0 N n n1 Bool.false (0 : Int) [] fun b1 l1 =>
  (cond (Nat.ble (0 + (List.length l1)) (List.length l1))
  (k (Go.Eng.toBytes (Go.Eng.seg l1 0 (List.length l1))))
  none))
theorem e_spec_l16Bytes (N : Nat) {R : Type} (n : Int) (n1 : Int) (K : AV → Hp E → Option R) :
    runFnI (E := E) (O_spec_l16Bytes N) (IT_spec_l16Bytes_0 N) sl_spec_l16Bytes J_spec_l16Bytes Go.Proofs.Try.f86 [(Go.Eng.AV.sc (Go.Eng.SV.int Go.IntKind.i64 n)), (Go.Eng.AV.sc (Go.Eng.SV.int Go.IntKind.i64 n1))] [] K =
      g_spec_l16Bytes N n n1 (fun s => K (Go.Eng.AV.sc (Go.Eng.SV.str s)) []) := by kernel_rfl
def o_spec_l16Bytes (N : Nat) {R : Type} (args : List AV) (H : Hp E) (K : AV → Hp E → Option R) : Option R :=
  match args, H with
  | [(Go.Eng.AV.sc (Go.Eng.SV.int Go.IntKind.i64 n)), (Go.Eng.AV.sc (Go.Eng.SV.int Go.IntKind.i64 n1))], [] => g_spec_l16Bytes N n n1 (fun s => K (Go.Eng.AV.sc (Go.Eng.SV.str s)) [])
  | _, _ => none
theorem o_spec_l16Bytes_ok (N : Nat) : FnOk E 86 (o_spec_l16Bytes N) := by
  intro R args H K r h
  unfold o_spec_l16Bytes at h
  dsimp only at h
  split at h
  · exact fnB_ok (ids := [0]) (top := [0]) ok (O_spec_l16Bytes_ok N) (jn_ok _ _) Go.Proofs.Try.func86 (by kernel_rfl) (IT := IT_spec_l16Bytes_0 N) (sl := sl_spec_l16Bytes) (J := J_spec_l16Bytes) (K := K) (H := []) (IT_spec_l16Bytes_0_ok N) (by kernel_rfl) rfl ((e_spec_l16Bytes N _ _ K).trans h)
  · cases h
/-! ### loop.example/g00038/spec.l01Mod -/
abbrev sl_spec_l01Mod : SlotT := []
abbrev J_spec_l01Mod : JT := jn [] [(10, [(5, .i .i64)])]
noncomputable def O_spec_l01Mod (N : Nat) : Orc E := noFn
theorem O_spec_l01Mod_ok (N : Nat) : OrcOk (O_spec_l01Mod N) := noFn_ok
def g_spec_l01Mod (N : Nat) {R : Type} (n : Int) (n1 : Int) (k : Int → Option R) : Option R :=
  (cond (n1 == (0 : Int))
  none
  (oK (cond (decide (((Int.tmod n n1) < (0 : Int))))
      (some (Go.IntKind.wrap Go.IntKind.i64 ((Int.tmod n n1) + n1)))
      (some (Int.tmod n n1))) fun j =>
    (k j)))
theorem e_spec_l01Mod (N : Nat) {R : Type} (n : Int) (n1 : Int) (K : AV → Hp E → Option R) :
    runFnI (E := E) (O_spec_l01Mod N) (noIt) sl_spec_l01Mod J_spec_l01Mod Go.Proofs.Try.f139 [(Go.Eng.AV.sc (Go.Eng.SV.int Go.IntKind.i64 n)), (Go.Eng.AV.sc (Go.Eng.SV.int Go.IntKind.i64 n1))] [] K =
      g_spec_l01Mod N n n1 (fun n2 => K (Go.Eng.AV.sc (Go.Eng.SV.int Go.IntKind.i64 n2)) []) := by kernel_rfl
def o_spec_l01Mod (N : Nat) {R : Type} (args : List AV) (H : Hp E) (K : AV → Hp E → Option R) : Option R :=
  match args, H with
  | [(Go.Eng.AV.sc (Go.Eng.SV.int Go.IntKind.i64 n)), (Go.Eng.AV.sc (Go.Eng.SV.int Go.IntKind.i64 n1))], [] => g_spec_l01Mod N n n1 (fun n2 => K (Go.Eng.AV.sc (Go.Eng.SV.int Go.IntKind.i64 n2)) [])
  | _, _ => none
theorem o_spec_l01Mod_ok (N : Nat) : FnOk E 139 (o_spec_l01Mod N) := by
  intro R args H K r h
  unfold o_spec_l01Mod at h
  dsimp only at h
  split at h
  · exact fnB_ok (ids := []) (top := []) ok (O_spec_l01Mod_ok N) (jn_ok _ _) Go.Proofs.Try.func139 (by kernel_rfl) (IT := noIt) (sl := sl_spec_l01Mod) (J := J_spec_l01Mod) (K := K) (H := []) (noIt_ok) (by kernel_rfl) rfl ((e_spec_l01Mod N _ _ K).trans h)
  · cases h
/-! ### loop.example/g00038/spec.Word -/
abbrev sl_spec_Word : SlotT := []
abbrev J_spec_Word : JT := jn [] []
noncomputable def O_spec_Word (N : Nat) : Orc E := addFn 139 (o_spec_l01Mod N) (noFn)
theorem O_spec_Word_ok (N : Nat) : OrcOk (O_spec_Word N) := addFn_ok (o_spec_l01Mod_ok N) (noFn_ok)
def g_spec_Word (N : Nat) {R : Type} (n : Int) (k : Int → Option R) : Option R :=
  (g_spec_l01Mod N n (4294967296 : Int) fun n1 =>
  (k n1))
theorem e_spec_Word (N : Nat) {R : Type} (n : Int) (K : AV → Hp E → Option R) :
    runFnI (E := E) (O_spec_Word N) (noIt) sl_spec_Word J_spec_Word Go.Proofs.Try.f138 [(Go.Eng.AV.sc (Go.Eng.SV.int Go.IntKind.i64 n))] [] K =
      g_spec_Word N n (fun n2 => K (Go.Eng.AV.sc (Go.Eng.SV.int Go.IntKind.i64 n2)) []) := by kernel_rfl
def o_spec_Word (N : Nat) {R : Type} (args : List AV) (H : Hp E) (K : AV → Hp E → Option R) : Option R :=
  match args, H with
  | [(Go.Eng.AV.sc (Go.Eng.SV.int Go.IntKind.i64 n))], [] => g_spec_Word N n (fun n2 => K (Go.Eng.AV.sc (Go.Eng.SV.int Go.IntKind.i64 n2)) [])
  | _, _ => none
theorem o_spec_Word_ok (N : Nat) : FnOk E 138 (o_spec_Word N) := by
  intro R args H K r h
  unfold o_spec_Word at h
  dsimp only at h
  split at h
  · exact fnB_ok (ids := []) (top := []) ok (O_spec_Word_ok N) (jn_ok _ _) Go.Proofs.Try.func138 (by kernel_rfl) (IT := noIt) (sl := sl_spec_Word) (J := J_spec_Word) (K := K) (H := []) (noIt_ok) (by kernel_rfl) rfl ((e_spec_Word N _ K).trans h)
  · cases h
/-! ### loop.example/g00038/spec.PutWord -/
abbrev sl_spec_PutWord : SlotT := []
abbrev J_spec_PutWord : JT := jn [] []
noncomputable def O_spec_PutWord (N : Nat) : Orc E := addFn 138 (o_spec_Word N) (noFn)
theorem O_spec_PutWord_ok (N : Nat) : OrcOk (O_spec_PutWord N) := addFn_ok (o_spec_Word_ok N) (noFn_ok)
def g_spec_PutWord (N : Nat) {R : Type} (n : Int) (k : ByteArray → Option R) : Option R :=
  (g_spec_Word N n fun n1 =>
  (k (Go.Eng.toBytes (Go.Eng.seg [(Go.IntKind.wrap Go.IntKind.u8 n1), (Go.IntKind.wrap Go.IntKind.u8 (Int.fdiv n1 (256 : Int))), (Go.IntKind.wrap Go.IntKind.u8 (Int.fdiv n1 (65536 : Int))), (Go.IntKind.wrap Go.IntKind.u8 (Int.fdiv n1 (16777216 : Int)))] 0 (List.length [(Go.IntKind.wrap Go.IntKind.u8 n1), (Go.IntKind.wrap Go.IntKind.u8 (Int.fdiv n1 (256 : Int))), (Go.IntKind.wrap Go.IntKind.u8 (Int.fdiv n1 (65536 : Int))), (Go.IntKind.wrap Go.IntKind.u8 (Int.fdiv n1 (16777216 : Int)))])))))
theorem e_spec_PutWord (N : Nat) {R : Type} (n : Int) (K : AV → Hp E → Option R) :
    runFnI (E := E) (O_spec_PutWord N) (noIt) sl_spec_PutWord J_spec_PutWord Go.Proofs.Try.f87 [(Go.Eng.AV.sc (Go.Eng.SV.int Go.IntKind.i64 n))] [] K =
      g_spec_PutWord N n (fun s => K (Go.Eng.AV.sc (Go.Eng.SV.str s)) []) := by kernel_rfl
def o_spec_PutWord (N : Nat) {R : Type} (args : List AV) (H : Hp E) (K : AV → Hp E → Option R) : Option R :=
  match args, H with
  | [(Go.Eng.AV.sc (Go.Eng.SV.int Go.IntKind.i64 n))], [] => g_spec_PutWord N n (fun s => K (Go.Eng.AV.sc (Go.Eng.SV.str s)) [])
  | _, _ => none
theorem o_spec_PutWord_ok (N : Nat) : FnOk E 87 (o_spec_PutWord N) := by
  intro R args H K r h
  unfold o_spec_PutWord at h
  dsimp only at h
  split at h
  · exact fnB_ok (ids := []) (top := []) ok (O_spec_PutWord_ok N) (jn_ok _ _) Go.Proofs.Try.func87 (by kernel_rfl) (IT := noIt) (sl := sl_spec_PutWord) (J := J_spec_PutWord) (K := K) (H := []) (noIt_ok) (by kernel_rfl) rfl ((e_spec_PutWord N _ K).trans h)
  · cases h
/-! ### loop.example/g00038/spec.Mix -/
abbrev sl_spec_Mix : SlotT := [(0, ([0, 5, 6], [5]))]
abbrev J_spec_Mix : JT := jn [] []
noncomputable def O_spec_Mix (N : Nat) : Orc E := addFn 139 (o_spec_l01Mod N) (noFn)
theorem O_spec_Mix_ok (N : Nat) : OrcOk (O_spec_Mix N) := addFn_ok (o_spec_l01Mod_ok N) (noFn_ok)
def s_spec_Mix_0 (N : Nat) {R : Type} (s1 : ByteArray) (n2 : Int) (n3 : Int) (ag : Int → Int → Option R)  (kN : Int → Option R) : Option R :=
  (cond (decide ((n3 < (((ByteArray.size s1) : Nat) : Int))))
  (cond ((decide (((0 : Int) ≤ n3))) && (decide ((n3 < (((ByteArray.size s1) : Nat) : Int)))))
    (ag (Int.tmod (Go.IntKind.wrap Go.IntKind.i64 ((Go.IntKind.wrap Go.IntKind.i64 ((Go.IntKind.wrap Go.IntKind.i64 (n2 * (65599 : Int))) + (Go.IntKind.wrap Go.IntKind.i64 (Go.Eng.bt s1 (Int.toNat n3))))) + (1 : Int))) (2147483629 : Int)) (Go.IntKind.wrap Go.IntKind.i64 (n3 + (1 : Int))))
    none)
  (kN n2))
def l_spec_Mix_0 (N : Nat) {R : Type} (s1 : ByteArray) (kN : Int → Option R) : Nat → Int → Int → Option R
  | 0, _, _ => none
  | f + 1, n2, n3 => s_spec_Mix_0 N s1 n2 n3 (fun n2 n3 => l_spec_Mix_0 N s1 kN f n2 n3)  kN
def c_spec_Mix_0 (N : Nat) {R : Type} (s1 : ByteArray) (n2 : Int) (n3 : Int) (kN : Int → Option R) : Option R := l_spec_Mix_0 N s1 kN N n2 n3
theorem se_spec_Mix_0 (N : Nat) {R : Type} (s1 : ByteArray) (n2 : Int) (n3 : Int) (AG : List (Option AV) → Hp E → Option R) (KL : Ex → List (Option AV) → Hp E → Option R) :
    iterStep (E := E) (O_spec_Mix N) (fun {R} => LI (noIt) 0 32 sl_spec_Mix (R := R)) J_spec_Mix 0 32 0 [0, 5, 6] [5] (body Go.Proofs.Try.f88 0) AG KL [(Option.some (Go.Eng.AV.sc (Go.Eng.SV.str s1))), (Option.some (Go.Eng.AV.sc (Go.Eng.SV.int Go.IntKind.i64 n2))), (Option.some (Go.Eng.AV.sc (Go.Eng.SV.int Go.IntKind.i64 n3)))] [] =
      s_spec_Mix_0 N s1 n2 n3 (fun n2 n3 => AG [(Option.some (Go.Eng.AV.sc (Go.Eng.SV.str s1))), (Option.some (Go.Eng.AV.sc (Go.Eng.SV.int Go.IntKind.i64 n2))), (Option.some (Go.Eng.AV.sc (Go.Eng.SV.int Go.IntKind.i64 n3)))] [])  (fun n6 => KL Go.Eng.Ex.normal [(Option.some (Go.Eng.AV.sc (Go.Eng.SV.int Go.IntKind.i64 n6)))] []) := by kernel_rfl
theorem le_spec_Mix_0 (N : Nat) {R : Type} (s1 : ByteArray) (KL : Ex → List (Option AV) → Hp E → Option R) : ∀ (f : Nat), ∀ (n2 : Int) (n3 : Int), iterK (E := E) (O_spec_Mix N) (fun {R} => LI (noIt) 0 32 sl_spec_Mix (R := R)) J_spec_Mix 0 32 0 [0, 5, 6] [5] (body Go.Proofs.Try.f88 0) f [(Option.some (Go.Eng.AV.sc (Go.Eng.SV.str s1))), (Option.some (Go.Eng.AV.sc (Go.Eng.SV.int Go.IntKind.i64 n2))), (Option.some (Go.Eng.AV.sc (Go.Eng.SV.int Go.IntKind.i64 n3)))] [] KL = l_spec_Mix_0 N s1 (fun n6 => KL Go.Eng.Ex.normal [(Option.some (Go.Eng.AV.sc (Go.Eng.SV.int Go.IntKind.i64 n6)))] []) f n2 n3 := by
  intro f
  induction f with
  | zero => intros; rfl
  | succ f ih =>
    intro n2 n3
    rw [iterK_succ, se_spec_Mix_0]
    exact (congrArg (fun z0 => s_spec_Mix_0 N s1 n2 n3 z0 (fun n6 => KL Go.Eng.Ex.normal [(Option.some (Go.Eng.AV.sc (Go.Eng.SV.int Go.IntKind.i64 n6)))] [])) (funext fun n2 => funext fun n3 => ih n2 n3))
def i_spec_Mix_0 (N : Nat) {R : Type} (vs : List (Option AV)) (H : Hp E) (KL : Ex → List (Option AV) → Hp E → Option R) : Option R :=
  match vs, H with
  | [(Option.some (Go.Eng.AV.sc (Go.Eng.SV.str s1))), (Option.some (Go.Eng.AV.sc (Go.Eng.SV.int Go.IntKind.i64 n2))), (Option.some (Go.Eng.AV.sc (Go.Eng.SV.int Go.IntKind.i64 n3)))], [] => c_spec_Mix_0 N s1 n2 n3 (fun n7 => KL Go.Eng.Ex.normal [(Option.some (Go.Eng.AV.sc (Go.Eng.SV.int Go.IntKind.i64 n7)))] [])
  | _, _ => none
noncomputable def IT_spec_Mix_0 (N : Nat) : Its E := addIt 0 (i_spec_Mix_0 N) (noIt)
theorem IT_spec_Mix_0_ok (N : Nat) : ItOk (IT_spec_Mix_0 N) 0 32 sl_spec_Mix (lsB Go.Proofs.Try.f88 [0]) :=
  addItB_ok (inner := []) ok (O_spec_Mix_ok N) (jn_ok _ _) (noIt_ok) rfl (by kernel_rfl) rfl fun vs H KL r h => by
    unfold i_spec_Mix_0 at h
    split at h
    · exact ⟨_, (le_spec_Mix_0 N _ KL N _ _).trans h⟩
    · cases h
def g_spec_Mix (N : Nat) {R : Type} (s : ByteArray) (n : Int) (k : Int → Option R) : Option R :=
  (cond (decide (((((ByteArray.size s) : Nat) : Int) > (65536 : Int))))
  (k (0 : Int))
  (g_spec_l01Mod N n (2147483629 : Int) fun n1 =>
    (c_spec_Mix_0 N s (Go.IntKind.wrap Go.IntKind.i64 (n1 + (1 : Int))) (0 : Int) fun n4 =>
    (k (Int.tmod (Go.IntKind.wrap Go.IntKind.i64 ((Go.IntKind.wrap Go.IntKind.i64 (n4 * (40503 : Int))) + (77 : Int))) (2147483629 : Int))))))
theorem e_spec_Mix (N : Nat) {R : Type} (s : ByteArray) (n : Int) (K : AV → Hp E → Option R) :
    runFnI (E := E) (O_spec_Mix N) (IT_spec_Mix_0 N) sl_spec_Mix J_spec_Mix Go.Proofs.Try.f88 [(Go.Eng.AV.sc (Go.Eng.SV.str s)), (Go.Eng.AV.sc (Go.Eng.SV.int Go.IntKind.i64 n))] [] K =
      g_spec_Mix N s n (fun n5 => K (Go.Eng.AV.sc (Go.Eng.SV.int Go.IntKind.i64 n5)) []) := by kernel_rfl
def o_spec_Mix (N : Nat) {R : Type} (args : List AV) (H : Hp E) (K : AV → Hp E → Option R) : Option R :=
  match args, H with
  | [(Go.Eng.AV.sc (Go.Eng.SV.str s)), (Go.Eng.AV.sc (Go.Eng.SV.int Go.IntKind.i64 n))], [] => g_spec_Mix N s n (fun n5 => K (Go.Eng.AV.sc (Go.Eng.SV.int Go.IntKind.i64 n5)) [])
  | _, _ => none
theorem o_spec_Mix_ok (N : Nat) : FnOk E 88 (o_spec_Mix N) := by
  intro R args H K r h
  unfold o_spec_Mix at h
  dsimp only at h
  split at h
  · exact fnB_ok (ids := [0]) (top := [0]) ok (O_spec_Mix_ok N) (jn_ok _ _) Go.Proofs.Try.func88 (by kernel_rfl) (IT := IT_spec_Mix_0 N) (sl := sl_spec_Mix) (J := J_spec_Mix) (K := K) (H := []) (IT_spec_Mix_0_ok N) (by kernel_rfl) rfl ((e_spec_Mix N _ _ K).trans h)
  · cases h
/-! ### loop.example/g00038/spec.WrapFrame -/
abbrev sl_spec_WrapFrame : SlotT := []
abbrev J_spec_WrapFrame : JT := jn [(1, [(30, .b)])] []
noncomputable def O_spec_WrapFrame (N : Nat) : Orc E := addFn 88 (o_spec_Mix N) (addFn 87 (o_spec_PutWord N) (addFn 86 (o_spec_l16Bytes N) (addFn 73 (o_spec_l01IsWord N) (addFn 16 (o_spec_FrameFault N) (noFn)))))
theorem O_spec_WrapFrame_ok (N : Nat) : OrcOk (O_spec_WrapFrame N) := addFn_ok (o_spec_Mix_ok N) (addFn_ok (o_spec_PutWord_ok N) (addFn_ok (o_spec_l16Bytes_ok N) (addFn_ok (o_spec_l01IsWord_ok N) (addFn_ok (o_spec_FrameFault_ok N) (noFn_ok)))))
def g_spec_WrapFrame (N : Nat) {R : Type} (n : Int) (n1 : Int) (n2 : Int) (s : ByteArray) (n3 : Int) (n4 : Int) (n5 : Int) (k : ByteArray → Option R) : Option R :=
  (oK (g_spec_FrameFault N n n1 n2 s fun n6 =>
    (cond (n6 != (0 : Int))
    (some Bool.true)
    (cond (decide ((n3 < (0 : Int))))
      (some Bool.true)
      (cond (decide ((n3 ≥ (16777216 : Int))))
        (some Bool.true)
        (g_spec_l01IsWord N n4 fun b =>
          (cond (!b)
          (some Bool.true)
          (g_spec_l01IsWord N n5 fun b1 =>
            (some (!b1))))))))) fun j =>
  (cond j
  (k (ByteArray.mk (List.toArray [])))
  (g_spec_l16Bytes N n3 (3 : Int) fun s1 =>
    (cond (Nat.ble (2 + (ByteArray.size s1)) 9223372036854775807)
    (g_spec_PutWord N n4 fun s2 =>
      (cond (Nat.ble ((ByteArray.size ((ByteArray.mk (List.toArray [(78 : UInt8), (86 : UInt8)])) ++ s1)) + (ByteArray.size s2)) 9223372036854775807)
      (g_spec_PutWord N n5 fun s3 =>
        (cond (Nat.ble ((ByteArray.size (((ByteArray.mk (List.toArray [(78 : UInt8), (86 : UInt8)])) ++ s1) ++ s2)) + (ByteArray.size s3)) 9223372036854775807)
        (g_spec_l16Bytes N n (6 : Int) fun s4 =>
          (cond (Nat.ble ((ByteArray.size ((((ByteArray.mk (List.toArray [(78 : UInt8), (86 : UInt8)])) ++ s1) ++ s2) ++ s3)) + (ByteArray.size s4)) 9223372036854775807)
          (g_spec_l16Bytes N n1 (6 : Int) fun s5 =>
            (cond (Nat.ble ((ByteArray.size (((((ByteArray.mk (List.toArray [(78 : UInt8), (86 : UInt8)])) ++ s1) ++ s2) ++ s3) ++ s4)) + (ByteArray.size s5)) 9223372036854775807)
            (g_spec_l16Bytes N n2 (2 : Int) fun s6 =>
              (cond (Nat.ble ((ByteArray.size ((((((ByteArray.mk (List.toArray [(78 : UInt8), (86 : UInt8)])) ++ s1) ++ s2) ++ s3) ++ s4) ++ s5)) + (ByteArray.size s6)) 9223372036854775807)
              (g_spec_l16Bytes N (((ByteArray.size s) : Nat) : Int) (2 : Int) fun s7 =>
                (cond (Nat.ble ((ByteArray.size (((((((ByteArray.mk (List.toArray [(78 : UInt8), (86 : UInt8)])) ++ s1) ++ s2) ++ s3) ++ s4) ++ s5) ++ s6)) + (ByteArray.size s7)) 9223372036854775807)
                (cond (Nat.ble ((ByteArray.size ((((((((ByteArray.mk (List.toArray [(78 : UInt8), (86 : UInt8)])) ++ s1) ++ s2) ++ s3) ++ s4) ++ s5) ++ s6) ++ s7)) + (ByteArray.size s)) 9223372036854775807)
                  (g_spec_Mix N (((((((((ByteArray.mk (List.toArray [(78 : UInt8), (86 : UInt8)])) ++ s1) ++ s2) ++ s3) ++ s4) ++ s5) ++ s6) ++ s7) ++ s) (51 : Int) fun n7 =>
                    (g_spec_PutWord N n7 fun s8 =>
                    (cond (Nat.ble ((ByteArray.size (((((((((ByteArray.mk (List.toArray [(78 : UInt8), (86 : UInt8)])) ++ s1) ++ s2) ++ s3) ++ s4) ++ s5) ++ s6) ++ s7) ++ s)) + (ByteArray.size s8)) 9223372036854775807)
                    (k ((((((((((ByteArray.mk (List.toArray [(78 : UInt8), (86 : UInt8)])) ++ s1) ++ s2) ++ s3) ++ s4) ++ s5) ++ s6) ++ s7) ++ s) ++ s8))
                    none)))
                  none)
                none))
              none))
            none))
          none))
        none))
      none))
    none))))
theorem e_spec_WrapFrame (N : Nat) {R : Type} (n : Int) (n1 : Int) (n2 : Int) (s : ByteArray) (n3 : Int) (n4 : Int) (n5 : Int) (K : AV → Hp E → Option R) :
    runFnI (E := E) (O_spec_WrapFrame N) (noIt) sl_spec_WrapFrame J_spec_WrapFrame Go.Proofs.Try.f39 [(Go.Eng.AV.agg [(Go.Eng.SV.int Go.IntKind.i64 n), (Go.Eng.SV.int Go.IntKind.i64 n1), (Go.Eng.SV.int Go.IntKind.i64 n2), (Go.Eng.SV.str s)]), (Go.Eng.AV.sc (Go.Eng.SV.int Go.IntKind.i64 n3)), (Go.Eng.AV.sc (Go.Eng.SV.int Go.IntKind.i64 n4)), (Go.Eng.AV.sc (Go.Eng.SV.int Go.IntKind.i64 n5))] [] K =
      g_spec_WrapFrame N n n1 n2 s n3 n4 n5 (fun s9 => K (Go.Eng.AV.sc (Go.Eng.SV.str s9)) []) := by kernel_rfl
def o_spec_WrapFrame (N : Nat) {R : Type} (args : List AV) (H : Hp E) (K : AV → Hp E → Option R) : Option R :=
  match args, H with
  | [(Go.Eng.AV.agg [(Go.Eng.SV.int Go.IntKind.i64 n), (Go.Eng.SV.int Go.IntKind.i64 n1), (Go.Eng.SV.int Go.IntKind.i64 n2), (Go.Eng.SV.str s)]), (Go.Eng.AV.sc (Go.Eng.SV.int Go.IntKind.i64 n3)), (Go.Eng.AV.sc (Go.Eng.SV.int Go.IntKind.i64 n4)), (Go.Eng.AV.sc (Go.Eng.SV.int Go.IntKind.i64 n5))], [] => g_spec_WrapFrame N n n1 n2 s n3 n4 n5 (fun s9 => K (Go.Eng.AV.sc (Go.Eng.SV.str s9)) [])
  | _, _ => none
theorem o_spec_WrapFrame_ok (N : Nat) : FnOk E 39 (o_spec_WrapFrame N) := by
  intro R args H K r h
  unfold o_spec_WrapFrame at h
  dsimp only at h
  split at h
  · exact fnB_ok (ids := []) (top := []) ok (O_spec_WrapFrame_ok N) (jn_ok _ _) Go.Proofs.Try.func39 (by kernel_rfl) (IT := noIt) (sl := sl_spec_WrapFrame) (J := J_spec_WrapFrame) (K := K) (H := []) (noIt_ok) (by kernel_rfl) rfl ((e_spec_WrapFrame N _ _ _ _ _ _ _ K).trans h)
  · cases h
/-! ### loop.example/g00038/impl.yin -/
abbrev sl_impl_yin : SlotT := []
abbrev J_impl_yin : JT := jn [(1, [(6, .b)])] []
noncomputable def O_impl_yin (N : Nat) : Orc E := noFn
theorem O_impl_yin_ok (N : Nat) : OrcOk (O_impl_yin N) := noFn_ok
def g_impl_yin (N : Nat) {R : Type} (n : Int) (n1 : Int) (n2 : Int) (k : Bool → Option R) : Option R :=
  (oK (cond (decide ((n ≥ n1)))
    (some (decide ((n ≤ n2))))
    (some Bool.false)) fun j =>
  (k j))
theorem e_impl_yin (N : Nat) {R : Type} (n : Int) (n1 : Int) (n2 : Int) (K : AV → Hp E → Option R) :
    runFnI (E := E) (O_impl_yin N) (noIt) sl_impl_yin J_impl_yin Go.Proofs.Try.f71 [(Go.Eng.AV.sc (Go.Eng.SV.int Go.IntKind.i64 n)), (Go.Eng.AV.sc (Go.Eng.SV.int Go.IntKind.i64 n1)), (Go.Eng.AV.sc (Go.Eng.SV.int Go.IntKind.i64 n2))] [] K =
      g_impl_yin N n n1 n2 (fun b => K (Go.Eng.AV.sc (Go.Eng.SV.bool b)) []) := by kernel_rfl
def o_impl_yin (N : Nat) {R : Type} (args : List AV) (H : Hp E) (K : AV → Hp E → Option R) : Option R :=
  match args, H with
  | [(Go.Eng.AV.sc (Go.Eng.SV.int Go.IntKind.i64 n)), (Go.Eng.AV.sc (Go.Eng.SV.int Go.IntKind.i64 n1)), (Go.Eng.AV.sc (Go.Eng.SV.int Go.IntKind.i64 n2))], [] => g_impl_yin N n n1 n2 (fun b => K (Go.Eng.AV.sc (Go.Eng.SV.bool b)) [])
  | _, _ => none
theorem o_impl_yin_ok (N : Nat) : FnOk E 71 (o_impl_yin N) := by
  intro R args H K r h
  unfold o_impl_yin at h
  dsimp only at h
  split at h
  · exact fnB_ok (ids := []) (top := []) ok (O_impl_yin_ok N) (jn_ok _ _) Go.Proofs.Try.func71 (by kernel_rfl) (IT := noIt) (sl := sl_impl_yin) (J := J_impl_yin) (K := K) (H := []) (noIt_ok) (by kernel_rfl) rfl ((e_impl_yin N _ _ _ K).trans h)
  · cases h
/-! ### loop.example/g00038/impl.yaddrOk -/
abbrev sl_impl_yaddrOk : SlotT := []
abbrev J_impl_yaddrOk : JT := jn [] []
noncomputable def O_impl_yaddrOk (N : Nat) : Orc E := addFn 71 (o_impl_yin N) (noFn)
theorem O_impl_yaddrOk_ok (N : Nat) : OrcOk (O_impl_yaddrOk N) := addFn_ok (o_impl_yin_ok N) (noFn_ok)
def g_impl_yaddrOk (N : Nat) {R : Type} (n : Int) (k : Bool → Option R) : Option R :=
  (g_impl_yin N n (0 : Int) (281474976710655 : Int) fun b =>
  (k b))
theorem e_impl_yaddrOk (N : Nat) {R : Type} (n : Int) (K : AV → Hp E → Option R) :
    runFnI (E := E) (O_impl_yaddrOk N) (noIt) sl_impl_yaddrOk J_impl_yaddrOk Go.Proofs.Try.f72 [(Go.Eng.AV.sc (Go.Eng.SV.int Go.IntKind.i64 n))] [] K =
      g_impl_yaddrOk N n (fun b1 => K (Go.Eng.AV.sc (Go.Eng.SV.bool b1)) []) := by kernel_rfl
def o_impl_yaddrOk (N : Nat) {R : Type} (args : List AV) (H : Hp E) (K : AV → Hp E → Option R) : Option R :=
  match args, H with
  | [(Go.Eng.AV.sc (Go.Eng.SV.int Go.IntKind.i64 n))], [] => g_impl_yaddrOk N n (fun b1 => K (Go.Eng.AV.sc (Go.Eng.SV.bool b1)) [])
  | _, _ => none
theorem o_impl_yaddrOk_ok (N : Nat) : FnOk E 72 (o_impl_yaddrOk N) := by
  intro R args H K r h
  unfold o_impl_yaddrOk at h
  dsimp only at h
  split at h
  · exact fnB_ok (ids := []) (top := []) ok (O_impl_yaddrOk_ok N) (jn_ok _ _) Go.Proofs.Try.func72 (by kernel_rfl) (IT := noIt) (sl := sl_impl_yaddrOk) (J := J_impl_yaddrOk) (K := K) (H := []) (noIt_ok) (by kernel_rfl) rfl ((e_impl_yaddrOk N _ K).trans h)
  · cases h
/-! ### loop.example/g00038/impl.FrameFault -/
abbrev sl_impl_FrameFault : SlotT := []
abbrev J_impl_FrameFault : JT := jn [(1, [(24, .b)])] []
noncomputable def O_impl_FrameFault (N : Nat) : Orc E := addFn 72 (o_impl_yaddrOk N) (addFn 71 (o_impl_yin N) (noFn))
theorem O_impl_FrameFault_ok (N : Nat) : OrcOk (O_impl_FrameFault N) := addFn_ok (o_impl_yaddrOk_ok N) (addFn_ok (o_impl_yin_ok N) (noFn_ok))
def g_impl_FrameFault (N : Nat) {R : Type} (n : Int) (n1 : Int) (n2 : Int) (s : ByteArray) (k : Int → Option R) : Option R :=
  (oK (g_impl_yin N n (0 : Int) (281474976710654 : Int) fun b =>
    (cond (!b)
    (some Bool.true)
    (g_impl_yaddrOk N n1 fun b1 =>
      (cond (!b1)
      (some Bool.true)
      (g_impl_yin N n2 (0 : Int) (4095 : Int) fun b2 =>
        (cond (!b2)
        (some Bool.true)
        (some (decide (((((ByteArray.size s) : Nat) : Int) > (1500 : Int))))))))))) fun j =>
  (cond j
  (k (1 : Int))
  (k (0 : Int))))
theorem e_impl_FrameFault (N : Nat) {R : Type} (n : Int) (n1 : Int) (n2 : Int) (s : ByteArray) (K : AV → Hp E → Option R) :
    runFnI (E := E) (O_impl_FrameFault N) (noIt) sl_impl_FrameFault J_impl_FrameFault Go.Proofs.Try.f18 [(Go.Eng.AV.agg [(Go.Eng.SV.int Go.IntKind.i64 n), (Go.Eng.SV.int Go.IntKind.i64 n1), (Go.Eng.SV.int Go.IntKind.i64 n2), (Go.Eng.SV.str s)])] [] K =
      g_impl_FrameFault N n n1 n2 s (fun n3 => K (Go.Eng.AV.sc (Go.Eng.SV.int Go.IntKind.i64 n3)) []) := by kernel_rfl
def o_impl_FrameFault (N : Nat) {R : Type} (args : List AV) (H : Hp E) (K : AV → Hp E → Option R) : Option R :=
  match args, H with
  | [(Go.Eng.AV.agg [(Go.Eng.SV.int Go.IntKind.i64 n), (Go.Eng.SV.int Go.IntKind.i64 n1), (Go.Eng.SV.int Go.IntKind.i64 n2), (Go.Eng.SV.str s)])], [] => g_impl_FrameFault N n n1 n2 s (fun n3 => K (Go.Eng.AV.sc (Go.Eng.SV.int Go.IntKind.i64 n3)) [])
  | _, _ => none
theorem o_impl_FrameFault_ok (N : Nat) : FnOk E 18 (o_impl_FrameFault N) := by
  intro R args H K r h
  unfold o_impl_FrameFault at h
  dsimp only at h
  split at h
  · exact fnB_ok (ids := []) (top := []) ok (O_impl_FrameFault_ok N) (jn_ok _ _) Go.Proofs.Try.func18 (by kernel_rfl) (IT := noIt) (sl := sl_impl_FrameFault) (J := J_impl_FrameFault) (K := K) (H := []) (noIt_ok) (by kernel_rfl) rfl ((e_impl_FrameFault N _ _ _ _ K).trans h)
  · cases h
/-! ### loop.example/g00038/impl.yisWord -/
abbrev sl_impl_yisWord : SlotT := []
abbrev J_impl_yisWord : JT := jn [(1, [(2, .b)])] []
noncomputable def O_impl_yisWord (N : Nat) : Orc E := noFn
theorem O_impl_yisWord_ok (N : Nat) : OrcOk (O_impl_yisWord N) := noFn_ok
def g_impl_yisWord (N : Nat) {R : Type} (n : Int) (k : Bool → Option R) : Option R :=
  (oK (cond (decide ((n ≥ (0 : Int))))
    (some (decide ((n < (4294967296 : Int)))))
    (some Bool.false)) fun j =>
  (k j))
theorem e_impl_yisWord (N : Nat) {R : Type} (n : Int) (K : AV → Hp E → Option R) :
    runFnI (E := E) (O_impl_yisWord N) (noIt) sl_impl_yisWord J_impl_yisWord Go.Proofs.Try.f75 [(Go.Eng.AV.sc (Go.Eng.SV.int Go.IntKind.i64 n))] [] K =
      g_impl_yisWord N n (fun b => K (Go.Eng.AV.sc (Go.Eng.SV.bool b)) []) := by kernel_rfl
def o_impl_yisWord (N : Nat) {R : Type} (args : List AV) (H : Hp E) (K : AV → Hp E → Option R) : Option R :=
  match args, H with
  | [(Go.Eng.AV.sc (Go.Eng.SV.int Go.IntKind.i64 n))], [] => g_impl_yisWord N n (fun b => K (Go.Eng.AV.sc (Go.Eng.SV.bool b)) [])
  | _, _ => none
theorem o_impl_yisWord_ok (N : Nat) : FnOk E 75 (o_impl_yisWord N) := by
  intro R args H K r h
  unfold o_impl_yisWord at h
  dsimp only at h
  split at h
  · exact fnB_ok (ids := []) (top := []) ok (O_impl_yisWord_ok N) (jn_ok _ _) Go.Proofs.Try.func75 (by kernel_rfl) (IT := noIt) (sl := sl_impl_yisWord) (J := J_impl_yisWord) (K := K) (H := []) (noIt_ok) (by kernel_rfl) rfl ((e_impl_yisWord N _ K).trans h)
  · cases h
/-! ### loop.example/g00038/impl.ybytesOf -/
abbrev sl_impl_ybytesOf : SlotT := [(0, ([0, 5, 10, 11], [5]))]
abbrev J_impl_ybytesOf : JT := jn [] []
noncomputable def O_impl_ybytesOf (N : Nat) : Orc E := noFn
theorem O_impl_ybytesOf_ok (N : Nat) : OrcOk (O_impl_ybytesOf N) := noFn_ok
def s_impl_ybytesOf_0 (N : Nat) {R : Type} (n2 : Int) (b : Bool) (n3 : Int) (n4 : Int) (l : List Int) (ag : Int → (List Int) → Option R)  (kN : (List Int) → Option R) : Option R :=
  (cond (decide ((n4 < n3)))
  (cond (decide (((Go.IntKind.wrap Go.IntKind.i64 ((8 : Int) * n4)) < (0 : Int))))
    none
    (cond ((decide (((0 : Int) ≤ n4))) && (decide ((n4 < (((List.length l) : Nat) : Int)))))
      (elemK l (Int.toNat n4) fun x =>
        (cond (Nat.blt (Int.toNat n4) (List.length l))
        (ag (Go.IntKind.wrap Go.IntKind.i64 (n4 + (1 : Int))) (Go.Eng.nset l (Int.toNat n4) (Go.IntKind.wrap Go.IntKind.u8 (Int.fdiv n2 ((2 : Int) ^ (Min.min (Int.toNat (Go.IntKind.wrap Go.IntKind.i64 ((8 : Int) * n4))) 64))))))
        none))
      none))
  (kN l))
def l_impl_ybytesOf_0 (N : Nat) {R : Type} (n2 : Int) (b : Bool) (n3 : Int) (kN : (List Int) → Option R) : Nat → Int → (List Int) → Option R
  | 0, _, _ => none
  | f + 1, n4, l => s_impl_ybytesOf_0 N n2 b n3 n4 l (fun n4 l => l_impl_ybytesOf_0 N n2 b n3 kN f n4 l)  kN
def c_impl_ybytesOf_0 (N : Nat) {R : Type} (n2 : Int) (b : Bool) (n3 : Int) (n4 : Int) (l : List Int) (kN : (List Int) → Option R) : Option R := l_impl_ybytesOf_0 N n2 b n3 kN N n4 l
theorem se_impl_ybytesOf_0 (N : Nat) {R : Type} (n2 : Int) (b : Bool) (n3 : Int) (n4 : Int) (l : List Int) (AG : List (Option AV) → Hp E → Option R) (KL : Ex → List (Option AV) → Hp E → Option R) :
    iterStep (E := E) (O_impl_ybytesOf N) (fun {R} => LI (noIt) 0 25 sl_impl_ybytesOf (R := R)) J_impl_ybytesOf 0 25 0 [0, 5, 10, 11] [5] (body Go.Proofs.Try.f90 0) AG KL [(Option.some (Go.Eng.AV.sc (Go.Eng.SV.int Go.IntKind.i64 n2))), (Option.some (Go.Eng.AV.sc (Go.Eng.SV.slc 0 Option.none b))), (Option.some (Go.Eng.AV.sc (Go.Eng.SV.int Go.IntKind.i64 n3))), (Option.some (Go.Eng.AV.sc (Go.Eng.SV.int Go.IntKind.i64 n4)))] [(Option.some (Go.Eng.HE.mk Bool.false (Go.Eng.HB.rows (Go.Sa.B.u8 l))))] =
      s_impl_ybytesOf_0 N n2 b n3 n4 l (fun n4 l => AG [(Option.some (Go.Eng.AV.sc (Go.Eng.SV.int Go.IntKind.i64 n2))), (Option.some (Go.Eng.AV.sc (Go.Eng.SV.slc 0 Option.none b))), (Option.some (Go.Eng.AV.sc (Go.Eng.SV.int Go.IntKind.i64 n3))), (Option.some (Go.Eng.AV.sc (Go.Eng.SV.int Go.IntKind.i64 n4)))] [(Option.some (Go.Eng.HE.mk Bool.false (Go.Eng.HB.rows (Go.Sa.B.u8 l))))])  (fun l2 => KL Go.Eng.Ex.normal [(Option.some (Go.Eng.AV.sc (Go.Eng.SV.slc 0 Option.none b)))] [(Option.some (Go.Eng.HE.mk Bool.false (Go.Eng.HB.rows (Go.Sa.B.u8 l2))))]) := by kernel_rfl
theorem le_impl_ybytesOf_0 (N : Nat) {R : Type} (n2 : Int) (b : Bool) (n3 : Int) (KL : Ex → List (Option AV) → Hp E → Option R) : ∀ (f : Nat), ∀ (n4 : Int) (l : List Int), iterK (E := E) (O_impl_ybytesOf N) (fun {R} => LI (noIt) 0 25 sl_impl_ybytesOf (R := R)) J_impl_ybytesOf 0 25 0 [0, 5, 10, 11] [5] (body Go.Proofs.Try.f90 0) f [(Option.some (Go.Eng.AV.sc (Go.Eng.SV.int Go.IntKind.i64 n2))), (Option.some (Go.Eng.AV.sc (Go.Eng.SV.slc 0 Option.none b))), (Option.some (Go.Eng.AV.sc (Go.Eng.SV.int Go.IntKind.i64 n3))), (Option.some (Go.Eng.AV.sc (Go.Eng.SV.int Go.IntKind.i64 n4)))] [(Option.some (Go.Eng.HE.mk Bool.false (Go.Eng.HB.rows (Go.Sa.B.u8 l))))] KL = l_impl_ybytesOf_0 N n2 b n3 (fun l2 => KL Go.Eng.Ex.normal [(Option.some (Go.Eng.AV.sc (Go.Eng.SV.slc 0 Option.none b)))] [(Option.some (Go.Eng.HE.mk Bool.false (Go.Eng.HB.rows (Go.Sa.B.u8 l2))))]) f n4 l := by
  intro f
  induction f with
  | zero => intros; rfl
  | succ f ih =>
    intro n4 l
    rw [iterK_succ, se_impl_ybytesOf_0]
    exact (congrArg (fun z0 => s_impl_ybytesOf_0 N n2 b n3 n4 l z0 (fun l2 => KL Go.Eng.Ex.normal [(Option.some (Go.Eng.AV.sc (Go.Eng.SV.slc 0 Option.none b)))] [(Option.some (Go.Eng.HE.mk Bool.false (Go.Eng.HB.rows (Go.Sa.B.u8 l2))))])) (funext fun n4 => funext fun l => ih n4 l))
def i_impl_ybytesOf_0 (N : Nat) {R : Type} (vs : List (Option AV)) (H : Hp E) (KL : Ex → List (Option AV) → Hp E → Option R) : Option R :=
  match vs, H with
  | [(Option.some (Go.Eng.AV.sc (Go.Eng.SV.int Go.IntKind.i64 n2))), (Option.some (Go.Eng.AV.sc (Go.Eng.SV.slc 0 Option.none b))), (Option.some (Go.Eng.AV.sc (Go.Eng.SV.int Go.IntKind.i64 n3))), (Option.some (Go.Eng.AV.sc (Go.Eng.SV.int Go.IntKind.i64 n4)))], [(Option.some (Go.Eng.HE.mk Bool.false (Go.Eng.HB.rows (Go.Sa.B.u8 l))))] => c_impl_ybytesOf_0 N n2 b n3 n4 l (fun l3 => KL Go.Eng.Ex.normal [(Option.some (Go.Eng.AV.sc (Go.Eng.SV.slc 0 Option.none b)))] [(Option.some (Go.Eng.HE.mk Bool.false (Go.Eng.HB.rows (Go.Sa.B.u8 l3))))])
  | _, _ => none
noncomputable def IT_impl_ybytesOf_0 (N : Nat) : Its E := addIt 0 (i_impl_ybytesOf_0 N) (noIt)
theorem IT_impl_ybytesOf_0_ok (N : Nat) : ItOk (IT_impl_ybytesOf_0 N) 0 25 sl_impl_ybytesOf (lsB Go.Proofs.Try.f90 [0]) :=
  addItB_ok (inner := []) ok (O_impl_ybytesOf_ok N) (jn_ok _ _) (noIt_ok) rfl (by kernel_rfl) rfl fun vs H KL r h => by
    unfold i_impl_ybytesOf_0 at h
    split at h
    · exact ⟨_, (le_impl_ybytesOf_0 N _ _ _ KL N _ _).trans h⟩
    · cases h
def g_impl_ybytesOf (N : Nat) {R : Type} (n : Int) (n1 : Int) (k : ByteArray → Option R) : Option R :=
  (cond (((decide ((n1 = n1))) && (decide (((0 : Int) ≤ n1)))) && (Go.Eng.roomOk (Int.toNat n1) 1))
  (c_impl_ybytesOf_0 N n Bool.false (((List.length (List.replicate (Int.toNat n1) (0 : Int))) : Nat) : Int) (0 : Int) (List.replicate (Int.toNat n1) (0 : Int)) fun l1 =>
    (cond (Nat.ble (0 + (List.length l1)) (List.length l1))
    (k (Go.Eng.toBytes (Go.Eng.seg l1 0 (List.length l1))))
    none))
  none)
theorem e_impl_ybytesOf (N : Nat) {R : Type} (n : Int) (n1 : Int) (K : AV → Hp E → Option R) :
    runFnI (E := E) (O_impl_ybytesOf N) (IT_impl_ybytesOf_0 N) sl_impl_ybytesOf J_impl_ybytesOf Go.Proofs.Try.f90 [(Go.Eng.AV.sc (Go.Eng.SV.int Go.IntKind.i64 n)), (Go.Eng.AV.sc (Go.Eng.SV.int Go.IntKind.i64 n1))] [] K =
      g_impl_ybytesOf N n n1 (fun s => K (Go.Eng.AV.sc (Go.Eng.SV.str s)) []) := by kernel_rfl
def o_impl_ybytesOf (N : Nat) {R : Type} (args : List AV) (H : Hp E) (K : AV → Hp E → Option R) : Option R :=
  match args, H with
  | [(Go.Eng.AV.sc (Go.Eng.SV.int Go.IntKind.i64 n)), (Go.Eng.AV.sc (Go.Eng.SV.int Go.IntKind.i64 n1))], [] => g_impl_ybytesOf N n n1 (fun s => K (Go.Eng.AV.sc (Go.Eng.SV.str s)) [])
  | _, _ => none
theorem o_impl_ybytesOf_ok (N : Nat) : FnOk E 90 (o_impl_ybytesOf N) := by
  intro R args H K r h
  unfold o_impl_ybytesOf at h
  dsimp only at h
  split at h
  · exact fnB_ok (ids := [0]) (top := [0]) ok (O_impl_ybytesOf_ok N) (jn_ok _ _) Go.Proofs.Try.func90 (by kernel_rfl) (IT := IT_impl_ybytesOf_0 N) (sl := sl_impl_ybytesOf) (J := J_impl_ybytesOf) (K := K) (H := []) (IT_impl_ybytesOf_0_ok N) (by kernel_rfl) rfl ((e_impl_ybytesOf N _ _ K).trans h)
  · cases h
/-! ### loop.example/g00038/impl.PutWord -/
abbrev sl_impl_PutWord : SlotT := []
abbrev J_impl_PutWord : JT := jn [] []
noncomputable def O_impl_PutWord (N : Nat) : Orc E := noFn
theorem O_impl_PutWord_ok (N : Nat) : OrcOk (O_impl_PutWord N) := noFn_ok
def g_impl_PutWord (N : Nat) {R : Type} (n : Int) (k : ByteArray → Option R) : Option R :=
  (k (Go.Eng.toBytes (Go.Eng.seg [(Go.IntKind.wrap Go.IntKind.u8 (Go.IntKind.wrap Go.IntKind.u32 n)), (Go.IntKind.wrap Go.IntKind.u8 (Int.fdiv (Go.IntKind.wrap Go.IntKind.u32 n) (256 : Int))), (Go.IntKind.wrap Go.IntKind.u8 (Int.fdiv (Go.IntKind.wrap Go.IntKind.u32 n) (65536 : Int))), (Go.IntKind.wrap Go.IntKind.u8 (Int.fdiv (Go.IntKind.wrap Go.IntKind.u32 n) (16777216 : Int)))] 0 (List.length [(Go.IntKind.wrap Go.IntKind.u8 (Go.IntKind.wrap Go.IntKind.u32 n)), (Go.IntKind.wrap Go.IntKind.u8 (Int.fdiv (Go.IntKind.wrap Go.IntKind.u32 n) (256 : Int))), (Go.IntKind.wrap Go.IntKind.u8 (Int.fdiv (Go.IntKind.wrap Go.IntKind.u32 n) (65536 : Int))), (Go.IntKind.wrap Go.IntKind.u8 (Int.fdiv (Go.IntKind.wrap Go.IntKind.u32 n) (16777216 : Int)))]))))
theorem e_impl_PutWord (N : Nat) {R : Type} (n : Int) (K : AV → Hp E → Option R) :
    runFnI (E := E) (O_impl_PutWord N) (noIt) sl_impl_PutWord J_impl_PutWord Go.Proofs.Try.f91 [(Go.Eng.AV.sc (Go.Eng.SV.int Go.IntKind.i64 n))] [] K =
      g_impl_PutWord N n (fun s => K (Go.Eng.AV.sc (Go.Eng.SV.str s)) []) := by kernel_rfl
def o_impl_PutWord (N : Nat) {R : Type} (args : List AV) (H : Hp E) (K : AV → Hp E → Option R) : Option R :=
  match args, H with
  | [(Go.Eng.AV.sc (Go.Eng.SV.int Go.IntKind.i64 n))], [] => g_impl_PutWord N n (fun s => K (Go.Eng.AV.sc (Go.Eng.SV.str s)) [])
  | _, _ => none
theorem o_impl_PutWord_ok (N : Nat) : FnOk E 91 (o_impl_PutWord N) := by
  intro R args H K r h
  unfold o_impl_PutWord at h
  dsimp only at h
  split at h
  · exact fnB_ok (ids := []) (top := []) ok (O_impl_PutWord_ok N) (jn_ok _ _) Go.Proofs.Try.func91 (by kernel_rfl) (IT := noIt) (sl := sl_impl_PutWord) (J := J_impl_PutWord) (K := K) (H := []) (noIt_ok) (by kernel_rfl) rfl ((e_impl_PutWord N _ K).trans h)
  · cases h
/-! ### loop.example/g00038/impl.yjoin -/
abbrev sl_impl_yjoin_r : SlotT := []
abbrev J_impl_yjoin_r : JT := jn [] []
noncomputable def O_impl_yjoin_r (N : Nat) : Orc E := addFn 140 osp_140 (noFn)
theorem O_impl_yjoin_r_ok (N : Nat) : OrcOk (O_impl_yjoin_r N) := addFn_ok osp_140_ok (noFn_ok)
def g_impl_yjoin_r (N : Nat) {R : Type} (b : Bool) (l : List ByteArray) (k : ByteArray → Option R) : Option R :=
  (cond (Go.Eng.joinOk l (ByteArray.mk (List.toArray [])))
  (k (Go.Eng.joinB l (ByteArray.mk (List.toArray []))))
  none)
theorem e_impl_yjoin_r (N : Nat) {R : Type} (b : Bool) (l : List ByteArray) (K : AV → Hp E → Option R) :
    runFnI (E := E) (O_impl_yjoin_r N) (noIt) sl_impl_yjoin_r J_impl_yjoin_r Go.Proofs.Try.f89 [(Go.Eng.AV.sc (Go.Eng.SV.slc 0 Option.none b))] [(Option.some (Go.Eng.HE.mk Bool.true (Go.Eng.HB.rows (Go.Sa.B.str l))))] K =
      g_impl_yjoin_r N b l (fun s => K (Go.Eng.AV.sc (Go.Eng.SV.str s)) [(Option.some (Go.Eng.HE.mk Bool.true (Go.Eng.HB.rows (Go.Sa.B.str l))))]) := by kernel_rfl
def o_impl_yjoin_r (N : Nat) {R : Type} (args : List AV) (H : Hp E) (K : AV → Hp E → Option R) : Option R :=
  match args, H with
  | [(Go.Eng.AV.sc (Go.Eng.SV.slc 0 Option.none b))], [(Option.some (Go.Eng.HE.mk Bool.true (Go.Eng.HB.rows (Go.Sa.B.str l))))] => g_impl_yjoin_r N b l (fun s => K (Go.Eng.AV.sc (Go.Eng.SV.str s)) [(Option.some (Go.Eng.HE.mk Bool.true (Go.Eng.HB.rows (Go.Sa.B.str l))))])
  | _, _ => none
theorem o_impl_yjoin_r_ok (N : Nat) : FnOk E 89 (o_impl_yjoin_r N) := by
  intro R args H K r h
  unfold o_impl_yjoin_r at h
  dsimp only at h
  split at h
  · exact fnB_ok (ids := []) (top := []) ok (O_impl_yjoin_r_ok N) (jn_ok _ _) Go.Proofs.Try.func89 (by kernel_rfl) (IT := noIt) (sl := sl_impl_yjoin_r) (J := J_impl_yjoin_r) (K := K) (H := [(Option.some (Go.Eng.HE.mk Bool.true (Go.Eng.HB.rows (Go.Sa.B.str _))))]) (noIt_ok) (by kernel_rfl) rfl ((e_impl_yjoin_r N _ _ K).trans h)
  · cases h
/-! ### loop.example/g00038/impl.ymod -/
abbrev sl_impl_ymod : SlotT := []
abbrev J_impl_ymod : JT := jn [] [(9, [(0, .i .i64)])]
noncomputable def O_impl_ymod (N : Nat) : Orc E := noFn
theorem O_impl_ymod_ok (N : Nat) : OrcOk (O_impl_ymod N) := noFn_ok
def g_impl_ymod (N : Nat) {R : Type} (n : Int) (n1 : Int) (k : Int → Option R) : Option R :=
  (cond (n1 == (0 : Int))
  none
  (oK (cond (decide (((Int.tmod n n1) < (0 : Int))))
      (some (Go.IntKind.wrap Go.IntKind.i64 ((Int.tmod n n1) + n1)))
      (some (Int.tmod n n1))) fun j =>
    (k j)))
theorem e_impl_ymod (N : Nat) {R : Type} (n : Int) (n1 : Int) (K : AV → Hp E → Option R) :
    runFnI (E := E) (O_impl_ymod N) (noIt) sl_impl_ymod J_impl_ymod Go.Proofs.Try.f141 [(Go.Eng.AV.sc (Go.Eng.SV.int Go.IntKind.i64 n)), (Go.Eng.AV.sc (Go.Eng.SV.int Go.IntKind.i64 n1))] [] K =
      g_impl_ymod N n n1 (fun n2 => K (Go.Eng.AV.sc (Go.Eng.SV.int Go.IntKind.i64 n2)) []) := by kernel_rfl
def o_impl_ymod (N : Nat) {R : Type} (args : List AV) (H : Hp E) (K : AV → Hp E → Option R) : Option R :=
  match args, H with
  | [(Go.Eng.AV.sc (Go.Eng.SV.int Go.IntKind.i64 n)), (Go.Eng.AV.sc (Go.Eng.SV.int Go.IntKind.i64 n1))], [] => g_impl_ymod N n n1 (fun n2 => K (Go.Eng.AV.sc (Go.Eng.SV.int Go.IntKind.i64 n2)) [])
  | _, _ => none
theorem o_impl_ymod_ok (N : Nat) : FnOk E 141 (o_impl_ymod N) := by
  intro R args H K r h
  unfold o_impl_ymod at h
  dsimp only at h
  split at h
  · exact fnB_ok (ids := []) (top := []) ok (O_impl_ymod_ok N) (jn_ok _ _) Go.Proofs.Try.func141 (by kernel_rfl) (IT := noIt) (sl := sl_impl_ymod) (J := J_impl_ymod) (K := K) (H := []) (noIt_ok) (by kernel_rfl) rfl ((e_impl_ymod N _ _ K).trans h)
  · cases h
/-! ### loop.example/g00038/impl.ymix -/
abbrev sl_impl_ymix : SlotT := [(0, ([0, 5, 11, 12], [5]))]
abbrev J_impl_ymix : JT := jn [] []
noncomputable def O_impl_ymix (N : Nat) : Orc E := addFn 141 (o_impl_ymod N) (noFn)
theorem O_impl_ymix_ok (N : Nat) : OrcOk (O_impl_ymix N) := addFn_ok (o_impl_ymod_ok N) (noFn_ok)
def s_impl_ymix_0 (N : Nat) {R : Type} (s1 : ByteArray) (n3 : Int) (n2 : Int) (n4 : Int) (ag : Int → Int → Option R)  (kN : Int → Option R) : Option R :=
  (cond (decide ((n4 < n3)))
  (cond ((decide (((0 : Int) ≤ n4))) && (decide ((n4 < (((ByteArray.size s1) : Nat) : Int)))))
    (ag (Int.tmod (Go.IntKind.wrap Go.IntKind.i64 ((Go.IntKind.wrap Go.IntKind.i64 ((Go.IntKind.wrap Go.IntKind.i64 (n2 * (65599 : Int))) + (Go.IntKind.wrap Go.IntKind.i64 (Go.Eng.bt s1 (Int.toNat n4))))) + (1 : Int))) (2147483629 : Int)) (Go.IntKind.wrap Go.IntKind.i64 (n4 + (1 : Int))))
    none)
  (kN n2))
def l_impl_ymix_0 (N : Nat) {R : Type} (s1 : ByteArray) (n3 : Int) (kN : Int → Option R) : Nat → Int → Int → Option R
  | 0, _, _ => none
  | f + 1, n2, n4 => s_impl_ymix_0 N s1 n3 n2 n4 (fun n2 n4 => l_impl_ymix_0 N s1 n3 kN f n2 n4)  kN
def c_impl_ymix_0 (N : Nat) {R : Type} (s1 : ByteArray) (n3 : Int) (n2 : Int) (n4 : Int) (kN : Int → Option R) : Option R := l_impl_ymix_0 N s1 n3 kN N n2 n4
theorem se_impl_ymix_0 (N : Nat) {R : Type} (s1 : ByteArray) (n3 : Int) (n2 : Int) (n4 : Int) (AG : List (Option AV) → Hp E → Option R) (KL : Ex → List (Option AV) → Hp E → Option R) :
    iterStep (E := E) (O_impl_ymix N) (fun {R} => LI (noIt) 0 29 sl_impl_ymix (R := R)) J_impl_ymix 0 29 0 [0, 5, 11, 12] [5] (body Go.Proofs.Try.f92 0) AG KL [(Option.some (Go.Eng.AV.sc (Go.Eng.SV.str s1))), (Option.some (Go.Eng.AV.sc (Go.Eng.SV.int Go.IntKind.i64 n2))), (Option.some (Go.Eng.AV.sc (Go.Eng.SV.int Go.IntKind.i64 n3))), (Option.some (Go.Eng.AV.sc (Go.Eng.SV.int Go.IntKind.i64 n4)))] [] =
      s_impl_ymix_0 N s1 n3 n2 n4 (fun n2 n4 => AG [(Option.some (Go.Eng.AV.sc (Go.Eng.SV.str s1))), (Option.some (Go.Eng.AV.sc (Go.Eng.SV.int Go.IntKind.i64 n2))), (Option.some (Go.Eng.AV.sc (Go.Eng.SV.int Go.IntKind.i64 n3))), (Option.some (Go.Eng.AV.sc (Go.Eng.SV.int Go.IntKind.i64 n4)))] [])  (fun n7 => KL Go.Eng.Ex.normal [(Option.some (Go.Eng.AV.sc (Go.Eng.SV.int Go.IntKind.i64 n7)))] []) := by kernel_rfl
theorem le_impl_ymix_0 (N : Nat) {R : Type} (s1 : ByteArray) (n3 : Int) (KL : Ex → List (Option AV) → Hp E → Option R) : ∀ (f : Nat), ∀ (n2 : Int) (n4 : Int), iterK (E := E) (O_impl_ymix N) (fun {R} => LI (noIt) 0 29 sl_impl_ymix (R := R)) J_impl_ymix 0 29 0 [0, 5, 11, 12] [5] (body Go.Proofs.Try.f92 0) f [(Option.some (Go.Eng.AV.sc (Go.Eng.SV.str s1))), (Option.some (Go.Eng.AV.sc (Go.Eng.SV.int Go.IntKind.i64 n2))), (Option.some (Go.Eng.AV.sc (Go.Eng.SV.int Go.IntKind.i64 n3))), (Option.some (Go.Eng.AV.sc (Go.Eng.SV.int Go.IntKind.i64 n4)))] [] KL = l_impl_ymix_0 N s1 n3 (fun n7 => KL Go.Eng.Ex.normal [(Option.some (Go.Eng.AV.sc (Go.Eng.SV.int Go.IntKind.i64 n7)))] []) f n2 n4 := by
  intro f
  induction f with
  | zero => intros; rfl
  | succ f ih =>
    intro n2 n4
    rw [iterK_succ, se_impl_ymix_0]
    exact (congrArg (fun z0 => s_impl_ymix_0 N s1 n3 n2 n4 z0 (fun n7 => KL Go.Eng.Ex.normal [(Option.some (Go.Eng.AV.sc (Go.Eng.SV.int Go.IntKind.i64 n7)))] [])) (funext fun n2 => funext fun n4 => ih n2 n4))
def i_impl_ymix_0 (N : Nat) {R : Type} (vs : List (Option AV)) (H : Hp E) (KL : Ex → List (Option AV) → Hp E → Option R) : Option R :=
  match vs, H with
  | [(Option.some (Go.Eng.AV.sc (Go.Eng.SV.str s1))), (Option.some (Go.Eng.AV.sc (Go.Eng.SV.int Go.IntKind.i64 n2))), (Option.some (Go.Eng.AV.sc (Go.Eng.SV.int Go.IntKind.i64 n3))), (Option.some (Go.Eng.AV.sc (Go.Eng.SV.int Go.IntKind.i64 n4)))], [] => c_impl_ymix_0 N s1 n3 n2 n4 (fun n8 => KL Go.Eng.Ex.normal [(Option.some (Go.Eng.AV.sc (Go.Eng.SV.int Go.IntKind.i64 n8)))] [])
  | _, _ => none
noncomputable def IT_impl_ymix_0 (N : Nat) : Its E := addIt 0 (i_impl_ymix_0 N) (noIt)
theorem IT_impl_ymix_0_ok (N : Nat) : ItOk (IT_impl_ymix_0 N) 0 29 sl_impl_ymix (lsB Go.Proofs.Try.f92 [0]) :=
  addItB_ok (inner := []) ok (O_impl_ymix_ok N) (jn_ok _ _) (noIt_ok) rfl (by kernel_rfl) rfl fun vs H KL r h => by
    unfold i_impl_ymix_0 at h
    split at h
    · exact ⟨_, (le_impl_ymix_0 N _ _ KL N _ _).trans h⟩
    · cases h
def g_impl_ymix (N : Nat) {R : Type} (s : ByteArray) (n : Int) (k : Int → Option R) : Option R :=
  (g_impl_ymod N n (2147483629 : Int) fun n1 =>
  (c_impl_ymix_0 N s (((ByteArray.size s) : Nat) : Int) (Go.IntKind.wrap Go.IntKind.i64 (n1 + (1 : Int))) (0 : Int) fun n5 =>
  (k (Int.tmod (Go.IntKind.wrap Go.IntKind.i64 ((Go.IntKind.wrap Go.IntKind.i64 (n5 * (40503 : Int))) + (77 : Int))) (2147483629 : Int)))))
theorem e_impl_ymix (N : Nat) {R : Type} (s : ByteArray) (n : Int) (K : AV → Hp E → Option R) :
    runFnI (E := E) (O_impl_ymix N) (IT_impl_ymix_0 N) sl_impl_ymix J_impl_ymix Go.Proofs.Try.f92 [(Go.Eng.AV.sc (Go.Eng.SV.str s)), (Go.Eng.AV.sc (Go.Eng.SV.int Go.IntKind.i64 n))] [] K =
      g_impl_ymix N s n (fun n6 => K (Go.Eng.AV.sc (Go.Eng.SV.int Go.IntKind.i64 n6)) []) := by kernel_rfl
def o_impl_ymix (N : Nat) {R : Type} (args : List AV) (H : Hp E) (K : AV → Hp E → Option R) : Option R :=
  match args, H with
  | [(Go.Eng.AV.sc (Go.Eng.SV.str s)), (Go.Eng.AV.sc (Go.Eng.SV.int Go.IntKind.i64 n))], [] => g_impl_ymix N s n (fun n6 => K (Go.Eng.AV.sc (Go.Eng.SV.int Go.IntKind.i64 n6)) [])
  | _, _ => none
theorem o_impl_ymix_ok (N : Nat) : FnOk E 92 (o_impl_ymix N) := by
  intro R args H K r h
  unfold o_impl_ymix at h
  dsimp only at h
  split at h
  · exact fnB_ok (ids := [0]) (top := [0]) ok (O_impl_ymix_ok N) (jn_ok _ _) Go.Proofs.Try.func92 (by kernel_rfl) (IT := IT_impl_ymix_0 N) (sl := sl_impl_ymix) (J := J_impl_ymix) (K := K) (H := []) (IT_impl_ymix_0_ok N) (by kernel_rfl) rfl ((e_impl_ymix N _ _ K).trans h)
  · cases h
/-! ### loop.example/g00038/impl.WrapFrame -/
abbrev sl_impl_WrapFrame : SlotT := []
abbrev J_impl_WrapFrame : JT := jn [(1, [(27, .b)])] []
noncomputable def O_impl_WrapFrame (N : Nat) : Orc E := addFn 92 (o_impl_ymix N) (addFn 89 (o_impl_yjoin_r N) (addFn 91 (o_impl_PutWord N) (addFn 90 (o_impl_ybytesOf N) (addFn 75 (o_impl_yisWord N) (addFn 71 (o_impl_yin N) (addFn 18 (o_impl_FrameFault N) (noFn)))))))
theorem O_impl_WrapFrame_ok (N : Nat) : OrcOk (O_impl_WrapFrame N) := addFn_ok (o_impl_ymix_ok N) (addFn_ok (o_impl_yjoin_r_ok N) (addFn_ok (o_impl_PutWord_ok N) (addFn_ok (o_impl_ybytesOf_ok N) (addFn_ok (o_impl_yisWord_ok N) (addFn_ok (o_impl_yin_ok N) (addFn_ok (o_impl_FrameFault_ok N) (noFn_ok)))))))
def g_impl_WrapFrame (N : Nat) {R : Type} (n : Int) (n1 : Int) (n2 : Int) (s : ByteArray) (n3 : Int) (n4 : Int) (n5 : Int) (k : ByteArray → Option R) : Option R :=
  (oK (g_impl_FrameFault N n n1 n2 s fun n6 =>
    (cond (n6 != (0 : Int))
    (some Bool.true)
    (g_impl_yin N n3 (0 : Int) (16777215 : Int) fun b =>
      (cond (!b)
      (some Bool.true)
      (g_impl_yisWord N n4 fun b1 =>
        (cond (!b1)
        (some Bool.true)
        (g_impl_yisWord N n5 fun b2 =>
          (some (!b2))))))))) fun j =>
  (cond j
  (k (ByteArray.mk (List.toArray [])))
  (g_impl_ybytesOf N n3 (3 : Int) fun s1 =>
    (g_impl_PutWord N n4 fun s2 =>
    (g_impl_PutWord N n5 fun s3 =>
    (g_impl_ybytesOf N n (6 : Int) fun s4 =>
    (g_impl_ybytesOf N n1 (6 : Int) fun s5 =>
    (g_impl_ybytesOf N n2 (2 : Int) fun s6 =>
    (g_impl_ybytesOf N (((ByteArray.size s) : Nat) : Int) (2 : Int) fun s7 =>
    (g_impl_yjoin_r N Bool.false [(ByteArray.mk (List.toArray [(78 : UInt8), (86 : UInt8)])), s1, s2, s3, s4, s5, s6, s7, s] fun s8 =>
    (g_impl_ymix N s8 (51 : Int) fun n7 =>
    (g_impl_PutWord N n7 fun s9 =>
    (cond (Nat.ble ((ByteArray.size s8) + (ByteArray.size s9)) 9223372036854775807)
    (k (s8 ++ s9))
    none)))))))))))))
theorem e_impl_WrapFrame (N : Nat) {R : Type} (n : Int) (n1 : Int) (n2 : Int) (s : ByteArray) (n3 : Int) (n4 : Int) (n5 : Int) (K : AV → Hp E → Option R) :
    runFnI (E := E) (O_impl_WrapFrame N) (noIt) sl_impl_WrapFrame J_impl_WrapFrame Go.Proofs.Try.f40 [(Go.Eng.AV.agg [(Go.Eng.SV.int Go.IntKind.i64 n), (Go.Eng.SV.int Go.IntKind.i64 n1), (Go.Eng.SV.int Go.IntKind.i64 n2), (Go.Eng.SV.str s)]), (Go.Eng.AV.sc (Go.Eng.SV.int Go.IntKind.i64 n3)), (Go.Eng.AV.sc (Go.Eng.SV.int Go.IntKind.i64 n4)), (Go.Eng.AV.sc (Go.Eng.SV.int Go.IntKind.i64 n5))] [] K =
      g_impl_WrapFrame N n n1 n2 s n3 n4 n5 (fun s10 => K (Go.Eng.AV.sc (Go.Eng.SV.str s10)) []) := by kernel_rfl
def o_impl_WrapFrame (N : Nat) {R : Type} (args : List AV) (H : Hp E) (K : AV → Hp E → Option R) : Option R :=
  match args, H with
  | [(Go.Eng.AV.agg [(Go.Eng.SV.int Go.IntKind.i64 n), (Go.Eng.SV.int Go.IntKind.i64 n1), (Go.Eng.SV.int Go.IntKind.i64 n2), (Go.Eng.SV.str s)]), (Go.Eng.AV.sc (Go.Eng.SV.int Go.IntKind.i64 n3)), (Go.Eng.AV.sc (Go.Eng.SV.int Go.IntKind.i64 n4)), (Go.Eng.AV.sc (Go.Eng.SV.int Go.IntKind.i64 n5))], [] => g_impl_WrapFrame N n n1 n2 s n3 n4 n5 (fun s10 => K (Go.Eng.AV.sc (Go.Eng.SV.str s10)) [])
  | _, _ => none
theorem o_impl_WrapFrame_ok (N : Nat) : FnOk E 40 (o_impl_WrapFrame N) := by
  intro R args H K r h
  unfold o_impl_WrapFrame at h
  dsimp only at h
  split at h
  · exact fnB_ok (ids := []) (top := []) ok (O_impl_WrapFrame_ok N) (jn_ok _ _) Go.Proofs.Try.func40 (by kernel_rfl) (IT := noIt) (sl := sl_impl_WrapFrame) (J := J_impl_WrapFrame) (K := K) (H := []) (noIt_ok) (by kernel_rfl) rfl ((e_impl_WrapFrame N _ _ _ _ _ _ _ K).trans h)
  · cases h
/-! ### loop.example/g00038/laws.FnExactWrapFrame -/
abbrev sl_laws_FnExactWrapFrame : SlotT := []
abbrev J_laws_FnExactWrapFrame : JT := jn [] []
noncomputable def O_laws_FnExactWrapFrame (N : Nat) : Orc E := addFn 40 (o_impl_WrapFrame N) (addFn 39 (o_spec_WrapFrame N) (addFn 17 (o_laws_toFrame N) (addFn 15 (o_laws_szFrame N) (noFn))))
theorem O_laws_FnExactWrapFrame_ok (N : Nat) : OrcOk (O_laws_FnExactWrapFrame N) := addFn_ok (o_impl_WrapFrame_ok N) (addFn_ok (o_spec_WrapFrame_ok N) (addFn_ok (o_laws_toFrame_ok N) (addFn_ok (o_laws_szFrame_ok N) (noFn_ok))))
def g_laws_FnExactWrapFrame (N : Nat) {R : Type} (n : Int) (n1 : Int) (n2 : Int) (s : ByteArray) (n3 : Int) (n4 : Int) (n5 : Int) (k : Bool → Option R) : Option R :=
  (g_laws_szFrame N n n1 n2 s (1048576 : Int) fun n6 =>
  (cond (decide ((n6 < (0 : Int))))
  (k Bool.true)
  (g_laws_toFrame N n n1 n2 s 
    (g_spec_WrapFrame N n n1 n2 s n3 n4 n5 fun s1 =>
    (g_laws_toFrame N n n1 n2 s 
    (g_impl_WrapFrame N n n1 n2 s n3 n4 n5 fun s2 =>
    (cond (!(decide ((s2 = s1))))
    (k Bool.false)
    (k Bool.true))))))))
theorem e_laws_FnExactWrapFrame (N : Nat) {R : Type} (n : Int) (n1 : Int) (n2 : Int) (s : ByteArray) (n3 : Int) (n4 : Int) (n5 : Int) (K : AV → Hp E → Option R) :
    runFnI (E := E) (O_laws_FnExactWrapFrame N) (noIt) sl_laws_FnExactWrapFrame J_laws_FnExactWrapFrame Go.Proofs.Try.f8 [(Go.Eng.AV.agg [(Go.Eng.SV.int Go.IntKind.i64 n), (Go.Eng.SV.int Go.IntKind.i64 n1), (Go.Eng.SV.int Go.IntKind.i64 n2), (Go.Eng.SV.str s)]), (Go.Eng.AV.sc (Go.Eng.SV.int Go.IntKind.i64 n3)), (Go.Eng.AV.sc (Go.Eng.SV.int Go.IntKind.i64 n4)), (Go.Eng.AV.sc (Go.Eng.SV.int Go.IntKind.i64 n5))] [] K =
      g_laws_FnExactWrapFrame N n n1 n2 s n3 n4 n5 (fun b => K (Go.Eng.AV.sc (Go.Eng.SV.bool b)) []) := by kernel_rfl
def o_laws_FnExactWrapFrame (N : Nat) {R : Type} (args : List AV) (H : Hp E) (K : AV → Hp E → Option R) : Option R :=
  match args, H with
  | [(Go.Eng.AV.agg [(Go.Eng.SV.int Go.IntKind.i64 n), (Go.Eng.SV.int Go.IntKind.i64 n1), (Go.Eng.SV.int Go.IntKind.i64 n2), (Go.Eng.SV.str s)]), (Go.Eng.AV.sc (Go.Eng.SV.int Go.IntKind.i64 n3)), (Go.Eng.AV.sc (Go.Eng.SV.int Go.IntKind.i64 n4)), (Go.Eng.AV.sc (Go.Eng.SV.int Go.IntKind.i64 n5))], [] => g_laws_FnExactWrapFrame N n n1 n2 s n3 n4 n5 (fun b => K (Go.Eng.AV.sc (Go.Eng.SV.bool b)) [])
  | _, _ => none
theorem o_laws_FnExactWrapFrame_ok (N : Nat) : FnOk E 8 (o_laws_FnExactWrapFrame N) := by
  intro R args H K r h
  unfold o_laws_FnExactWrapFrame at h
  dsimp only at h
  split at h
  · exact fnB_ok (ids := []) (top := []) ok (O_laws_FnExactWrapFrame_ok N) (jn_ok _ _) Go.Proofs.Try.func8 (by kernel_rfl) (IT := noIt) (sl := sl_laws_FnExactWrapFrame) (J := J_laws_FnExactWrapFrame) (K := K) (H := []) (noIt_ok) (by kernel_rfl) rfl ((e_laws_FnExactWrapFrame N _ _ _ _ _ _ _ K).trans h)
  · cases h
end Go.Sa
