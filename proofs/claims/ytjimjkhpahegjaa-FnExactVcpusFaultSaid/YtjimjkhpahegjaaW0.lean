import Derived.Test.YtjimjkhpahegjaaEnv
import Derived.Test.YtjimjkhpahegjaaPL
set_option linter.all false
namespace Go.Sa
open Go Go.Eng Go.Proofs
set_option maxRecDepth 100000
/-! ### loop.example/g00038/impl.yin -/
abbrev sl_impl_yin : SlotT := []
abbrev J_impl_yin : JT := jn [(1, [(6, .b)])] []
noncomputable def O_impl_yin (N : Nat) : Orc E := noFn
theorem O_impl_yin_ok (N : Nat) : OrcOk (O_impl_yin N) := noFn_ok
def g_impl_yin (N : Nat) {R : Type} (n : Int) (n1 : Int) (n2 : Int) (k : Bool → Option R) : Option R :=
  (oK (cond (decide ((n ≥ n1)))
    (some (decide ((n ≤ n2))))
    (some Bool.false)) fun j =>
  (k j))
theorem e_impl_yin (N : Nat) {R : Type} (n : Int) (n1 : Int) (n2 : Int) (K : AV → Hp E → Option R) :
    runFnI (E := E) (O_impl_yin N) (noIt) sl_impl_yin J_impl_yin Go.Proofs.Try.f71 [(Go.Eng.AV.sc (Go.Eng.SV.int Go.IntKind.i64 n)), (Go.Eng.AV.sc (Go.Eng.SV.int Go.IntKind.i64 n1)), (Go.Eng.AV.sc (Go.Eng.SV.int Go.IntKind.i64 n2))] [] K =
      g_impl_yin N n n1 n2 (fun b => K (Go.Eng.AV.sc (Go.Eng.SV.bool b)) []) := by kernel_rfl
def o_impl_yin (N : Nat) {R : Type} (args : List AV) (H : Hp E) (K : AV → Hp E → Option R) : Option R :=
  match args, H with
  | [(Go.Eng.AV.sc (Go.Eng.SV.int Go.IntKind.i64 n)), (Go.Eng.AV.sc (Go.Eng.SV.int Go.IntKind.i64 n1)), (Go.Eng.AV.sc (Go.Eng.SV.int Go.IntKind.i64 n2))], [] => g_impl_yin N n n1 n2 (fun b => K (Go.Eng.AV.sc (Go.Eng.SV.bool b)) [])
  | _, _ => none
theorem o_impl_yin_ok (N : Nat) : FnOk E 71 (o_impl_yin N) := by
  intro R args H K r h
  unfold o_impl_yin at h
  dsimp only at h
  split at h
  · exact fnB_ok (ids := []) (top := []) ok (O_impl_yin_ok N) (jn_ok _ _) Go.Proofs.Try.func71 (by kernel_rfl) (IT := noIt) (sl := sl_impl_yin) (J := J_impl_yin) (K := K) (H := []) (noIt_ok) (by kernel_rfl) rfl ((e_impl_yin N _ _ _ K).trans h)
  · cases h
/-! ### loop.example/g00038/laws.szVcpuS -/
abbrev sl_laws_szVcpuS_r : SlotT := []
abbrev J_laws_szVcpuS_r : JT := jn [] []
noncomputable def O_laws_szVcpuS_r (N : Nat) : Orc E := noFn
theorem O_laws_szVcpuS_r_ok (N : Nat) : OrcOk (O_laws_szVcpuS_r N) := noFn_ok
def g_laws_szVcpuS_r (N : Nat) {R : Type} (b : Bool) (n : Int) (l : List Go.Sa.Vcpu) (k : Int → Option R) : Option R :=
  (cond (decide (((Go.IntKind.wrap Go.IntKind.i64 (n - (((List.length l) : Nat) : Int))) < (0 : Int))))
  (k (-(1 : Int)))
  (k (Go.IntKind.wrap Go.IntKind.i64 (n - (((List.length l) : Nat) : Int)))))
theorem e_laws_szVcpuS_r (N : Nat) {R : Type} (b : Bool) (n : Int) (l : List Go.Sa.Vcpu) (K : AV → Hp E → Option R) :
    runFnI (E := E) (O_laws_szVcpuS_r N) (noIt) sl_laws_szVcpuS_r J_laws_szVcpuS_r Go.Proofs.Try.f29 [(Go.Eng.AV.sc (Go.Eng.SV.slc 0 Option.none b)), (Go.Eng.AV.sc (Go.Eng.SV.int Go.IntKind.i64 n))] [(Option.some (Go.Eng.HE.mk Bool.true (Go.Eng.HB.rows (Go.Sa.B.lVcpu l))))] K =
      g_laws_szVcpuS_r N b n l (fun n1 => K (Go.Eng.AV.sc (Go.Eng.SV.int Go.IntKind.i64 n1)) [(Option.some (Go.Eng.HE.mk Bool.true (Go.Eng.HB.rows (Go.Sa.B.lVcpu l))))]) := by kernel_rfl
def o_laws_szVcpuS_r (N : Nat) {R : Type} (args : List AV) (H : Hp E) (K : AV → Hp E → Option R) : Option R :=
  match args, H with
  | [(Go.Eng.AV.sc (Go.Eng.SV.slc 0 Option.none b)), (Go.Eng.AV.sc (Go.Eng.SV.int Go.IntKind.i64 n))], [(Option.some (Go.Eng.HE.mk Bool.true (Go.Eng.HB.rows (Go.Sa.B.lVcpu l))))] => g_laws_szVcpuS_r N b n l (fun n1 => K (Go.Eng.AV.sc (Go.Eng.SV.int Go.IntKind.i64 n1)) [(Option.some (Go.Eng.HE.mk Bool.true (Go.Eng.HB.rows (Go.Sa.B.lVcpu l))))])
  | _, _ => none
theorem o_laws_szVcpuS_r_ok (N : Nat) : FnOk E 29 (o_laws_szVcpuS_r N) := by
  intro R args H K r h
  unfold o_laws_szVcpuS_r at h
  dsimp only at h
  split at h
  · exact fnB_ok (ids := []) (top := []) ok (O_laws_szVcpuS_r_ok N) (jn_ok _ _) Go.Proofs.Try.func29 (by kernel_rfl) (IT := noIt) (sl := sl_laws_szVcpuS_r) (J := J_laws_szVcpuS_r) (K := K) (H := [(Option.some (Go.Eng.HE.mk Bool.true (Go.Eng.HB.rows (Go.Sa.B.lVcpu _))))]) (noIt_ok) (by kernel_rfl) rfl ((e_laws_szVcpuS_r N _ _ _ K).trans h)
  · cases h
/-! ### loop.example/g00038/laws.toVcpu -/
abbrev sl_laws_toVcpu : SlotT := []
abbrev J_laws_toVcpu : JT := jn [] []
noncomputable def O_laws_toVcpu (N : Nat) : Orc E := noFn
theorem O_laws_toVcpu_ok (N : Nat) : OrcOk (O_laws_toVcpu N) := noFn_ok
def g_laws_toVcpu (N : Nat) {R : Type} (n : Int) (n1 : Int) (n2 : Int) (n3 : Int) (b : Bool) (n4 : Int) (n5 : Int) (n6 : Int) (n7 : Int) (k : Option R) : Option R :=
  k
theorem e_laws_toVcpu (N : Nat) {R : Type} (n : Int) (n1 : Int) (n2 : Int) (n3 : Int) (b : Bool) (n4 : Int) (n5 : Int) (n6 : Int) (n7 : Int) (K : AV → Hp E → Option R) :
    runFnI (E := E) (O_laws_toVcpu N) (noIt) sl_laws_toVcpu J_laws_toVcpu Go.Proofs.Try.f80 [(Go.Eng.AV.agg [(Go.Eng.SV.int Go.IntKind.i64 n), (Go.Eng.SV.int Go.IntKind.i64 n1), (Go.Eng.SV.int Go.IntKind.i64 n2), (Go.Eng.SV.int Go.IntKind.i64 n3), (Go.Eng.SV.bool b), (Go.Eng.SV.int Go.IntKind.i64 n4), (Go.Eng.SV.int Go.IntKind.i64 n5), (Go.Eng.SV.int Go.IntKind.i64 n6), (Go.Eng.SV.int Go.IntKind.i64 n7)])] [] K =
      g_laws_toVcpu N n n1 n2 n3 b n4 n5 n6 n7 (K (Go.Eng.AV.agg [(Go.Eng.SV.int Go.IntKind.i64 n), (Go.Eng.SV.int Go.IntKind.i64 n1), (Go.Eng.SV.int Go.IntKind.i64 n2), (Go.Eng.SV.int Go.IntKind.i64 n3), (Go.Eng.SV.bool b), (Go.Eng.SV.int Go.IntKind.i64 n4), (Go.Eng.SV.int Go.IntKind.i64 n5), (Go.Eng.SV.int Go.IntKind.i64 n6), (Go.Eng.SV.int Go.IntKind.i64 n7)]) []) := by kernel_rfl
def o_laws_toVcpu (N : Nat) {R : Type} (args : List AV) (H : Hp E) (K : AV → Hp E → Option R) : Option R :=
  match args, H with
  | [(Go.Eng.AV.agg [(Go.Eng.SV.int Go.IntKind.i64 n), (Go.Eng.SV.int Go.IntKind.i64 n1), (Go.Eng.SV.int Go.IntKind.i64 n2), (Go.Eng.SV.int Go.IntKind.i64 n3), (Go.Eng.SV.bool b), (Go.Eng.SV.int Go.IntKind.i64 n4), (Go.Eng.SV.int Go.IntKind.i64 n5), (Go.Eng.SV.int Go.IntKind.i64 n6), (Go.Eng.SV.int Go.IntKind.i64 n7)])], [] => g_laws_toVcpu N n n1 n2 n3 b n4 n5 n6 n7 (K (Go.Eng.AV.agg [(Go.Eng.SV.int Go.IntKind.i64 n), (Go.Eng.SV.int Go.IntKind.i64 n1), (Go.Eng.SV.int Go.IntKind.i64 n2), (Go.Eng.SV.int Go.IntKind.i64 n3), (Go.Eng.SV.bool b), (Go.Eng.SV.int Go.IntKind.i64 n4), (Go.Eng.SV.int Go.IntKind.i64 n5), (Go.Eng.SV.int Go.IntKind.i64 n6), (Go.Eng.SV.int Go.IntKind.i64 n7)]) [])
  | _, _ => none
theorem o_laws_toVcpu_ok (N : Nat) : FnOk E 80 (o_laws_toVcpu N) := by
  intro R args H K r h
  unfold o_laws_toVcpu at h
  dsimp only at h
  split at h
  · exact fnB_ok (ids := []) (top := []) ok (O_laws_toVcpu_ok N) (jn_ok _ _) Go.Proofs.Try.func80 (by kernel_rfl) (IT := noIt) (sl := sl_laws_toVcpu) (J := J_laws_toVcpu) (K := K) (H := []) (noIt_ok) (by kernel_rfl) rfl ((e_laws_toVcpu N _ _ _ _ _ _ _ _ _ K).trans h)
  · cases h
/-! ### loop.example/g00038/laws.toVcpuS -/
abbrev sl_laws_toVcpuS_r : SlotT := [(0, ([0, 3, 4], [3]))]
abbrev J_laws_toVcpuS_r : JT := jn [] []
noncomputable def O_laws_toVcpuS_r (N : Nat) : Orc E := addFn 80 (o_laws_toVcpu N) (noFn)
theorem O_laws_toVcpuS_r_ok (N : Nat) : OrcOk (O_laws_toVcpuS_r N) := addFn_ok (o_laws_toVcpu_ok N) (noFn_ok)
def s_laws_toVcpuS_r_0 (N : Nat) {R : Type} (b1 : Bool) (b2 : Bool) (l1 : List Go.Sa.Vcpu) (n : Int) (l2 : List Go.Sa.Vcpu) (ag : Int → (List Go.Sa.Vcpu) → Option R) (kN : (List Go.Sa.Vcpu) → Option R) : Option R :=
  (cond (decide ((n < (((List.length l1) : Nat) : Int))))
  (cond ((decide (((0 : Int) ≤ n))) && (decide ((n < (((List.length l1) : Nat) : Int)))))
    (elemK l1 (Int.toNat n) fun x =>
      (g_laws_toVcpu N (Go.Sa.Vcpu.fGuest x) (Go.Sa.Vcpu.fWeight x) (Go.Sa.Vcpu.fCap x) (Go.Sa.Vcpu.fMask x) (Go.Sa.Vcpu.fAwake x) (Go.Sa.Vcpu.fCredit x) (Go.Sa.Vcpu.fUsed x) (Go.Sa.Vcpu.fRan x) (Go.Sa.Vcpu.fStolen x) 
      (cond ((decide (((0 : Int) ≤ n))) && (decide ((n < (((List.length l2) : Nat) : Int)))))
      (elemK l2 (Int.toNat n) fun x1 =>
        (cond (Nat.blt (Int.toNat n) (List.length l2))
        (ag (Go.IntKind.wrap Go.IntKind.i64 (n + (1 : Int))) (Go.Eng.nset l2 (Int.toNat n) (Go.Sa.Vcpu.mk (Go.Sa.Vcpu.fGuest x) (Go.Sa.Vcpu.fWeight x) (Go.Sa.Vcpu.fCap x) (Go.Sa.Vcpu.fMask x) (Go.Sa.Vcpu.fAwake x) (Go.Sa.Vcpu.fCredit x) (Go.Sa.Vcpu.fUsed x) (Go.Sa.Vcpu.fRan x) (Go.Sa.Vcpu.fStolen x))))
        none))
      none)))
    none)
  (kN l2))
def l_laws_toVcpuS_r_0 (N : Nat) {R : Type} (b1 : Bool) (b2 : Bool) (l1 : List Go.Sa.Vcpu) (kN : (List Go.Sa.Vcpu) → Option R) : Nat → Int → (List Go.Sa.Vcpu) → Option R
  | 0, _, _ => none
  | f + 1, n, l2 => s_laws_toVcpuS_r_0 N b1 b2 l1 n l2 (fun n l2 => l_laws_toVcpuS_r_0 N b1 b2 l1 kN f n l2) kN
def c_laws_toVcpuS_r_0 (N : Nat) {R : Type} (b1 : Bool) (b2 : Bool) (l1 : List Go.Sa.Vcpu) (n : Int) (l2 : List Go.Sa.Vcpu) (kN : (List Go.Sa.Vcpu) → Option R) : Option R := l_laws_toVcpuS_r_0 N b1 b2 l1 kN N n l2
theorem se_laws_toVcpuS_r_0 (N : Nat) {R : Type} (b1 : Bool) (b2 : Bool) (l1 : List Go.Sa.Vcpu) (n : Int) (l2 : List Go.Sa.Vcpu) (AG : List (Option AV) → Hp E → Option R) (KL : Ex → List (Option AV) → Hp E → Option R) :
    iterStep (E := E) (O_laws_toVcpuS_r N) (fun {R} => LI (noIt) 1 23 sl_laws_toVcpuS_r (R := R)) J_laws_toVcpuS_r 1 23 0 [0, 3, 4] [3] (body Go.Proofs.Try.f31 0) AG KL [(Option.some (Go.Eng.AV.sc (Go.Eng.SV.slc 0 Option.none b1))), (Option.some (Go.Eng.AV.sc (Go.Eng.SV.slc 1 Option.none b2))), (Option.some (Go.Eng.AV.sc (Go.Eng.SV.int Go.IntKind.i64 n)))] [(Option.some (Go.Eng.HE.mk Bool.true (Go.Eng.HB.rows (Go.Sa.B.lVcpu l1)))), (Option.some (Go.Eng.HE.mk Bool.false (Go.Eng.HB.rows (Go.Sa.B.iVcpu l2))))] =
      s_laws_toVcpuS_r_0 N b1 b2 l1 n l2 (fun n l2 => AG [(Option.some (Go.Eng.AV.sc (Go.Eng.SV.slc 0 Option.none b1))), (Option.some (Go.Eng.AV.sc (Go.Eng.SV.slc 1 Option.none b2))), (Option.some (Go.Eng.AV.sc (Go.Eng.SV.int Go.IntKind.i64 n)))] [(Option.some (Go.Eng.HE.mk Bool.true (Go.Eng.HB.rows (Go.Sa.B.lVcpu l1)))), (Option.some (Go.Eng.HE.mk Bool.false (Go.Eng.HB.rows (Go.Sa.B.iVcpu l2))))]) (fun l3 => KL Go.Eng.Ex.normal [(Option.some (Go.Eng.AV.sc (Go.Eng.SV.slc 1 Option.none b2)))] [(Option.some (Go.Eng.HE.mk Bool.true (Go.Eng.HB.rows (Go.Sa.B.lVcpu l1)))), (Option.some (Go.Eng.HE.mk Bool.false (Go.Eng.HB.rows (Go.Sa.B.iVcpu l3))))]) := by kernel_rfl
theorem le_laws_toVcpuS_r_0 (N : Nat) {R : Type} (b1 : Bool) (b2 : Bool) (l1 : List Go.Sa.Vcpu) (KL : Ex → List (Option AV) → Hp E → Option R) : ∀ (f : Nat), ∀ (n : Int) (l2 : List Go.Sa.Vcpu), iterK (E := E) (O_laws_toVcpuS_r N) (fun {R} => LI (noIt) 1 23 sl_laws_toVcpuS_r (R := R)) J_laws_toVcpuS_r 1 23 0 [0, 3, 4] [3] (body Go.Proofs.Try.f31 0) f [(Option.some (Go.Eng.AV.sc (Go.Eng.SV.slc 0 Option.none b1))), (Option.some (Go.Eng.AV.sc (Go.Eng.SV.slc 1 Option.none b2))), (Option.some (Go.Eng.AV.sc (Go.Eng.SV.int Go.IntKind.i64 n)))] [(Option.some (Go.Eng.HE.mk Bool.true (Go.Eng.HB.rows (Go.Sa.B.lVcpu l1)))), (Option.some (Go.Eng.HE.mk Bool.false (Go.Eng.HB.rows (Go.Sa.B.iVcpu l2))))] KL = l_laws_toVcpuS_r_0 N b1 b2 l1 (fun l3 => KL Go.Eng.Ex.normal [(Option.some (Go.Eng.AV.sc (Go.Eng.SV.slc 1 Option.none b2)))] [(Option.some (Go.Eng.HE.mk Bool.true (Go.Eng.HB.rows (Go.Sa.B.lVcpu l1)))), (Option.some (Go.Eng.HE.mk Bool.false (Go.Eng.HB.rows (Go.Sa.B.iVcpu l3))))]) f n l2 := by
  intro f
  induction f with
  | zero => intros; rfl
  | succ f ih =>
    intro n l2
    rw [iterK_succ, se_laws_toVcpuS_r_0]
    exact congrArg (fun ag => s_laws_toVcpuS_r_0 N b1 b2 l1 n l2 ag (fun l3 => KL Go.Eng.Ex.normal [(Option.some (Go.Eng.AV.sc (Go.Eng.SV.slc 1 Option.none b2)))] [(Option.some (Go.Eng.HE.mk Bool.true (Go.Eng.HB.rows (Go.Sa.B.lVcpu l1)))), (Option.some (Go.Eng.HE.mk Bool.false (Go.Eng.HB.rows (Go.Sa.B.iVcpu l3))))])) (funext fun n => funext fun l2 => ih n l2)
def i_laws_toVcpuS_r_0 (N : Nat) {R : Type} (vs : List (Option AV)) (H : Hp E) (KL : Ex → List (Option AV) → Hp E → Option R) : Option R :=
  match vs, H with
  | [(Option.some (Go.Eng.AV.sc (Go.Eng.SV.slc 0 Option.none b1))), (Option.some (Go.Eng.AV.sc (Go.Eng.SV.slc 1 Option.none b2))), (Option.some (Go.Eng.AV.sc (Go.Eng.SV.int Go.IntKind.i64 n)))], [(Option.some (Go.Eng.HE.mk Bool.true (Go.Eng.HB.rows (Go.Sa.B.lVcpu l1)))), (Option.some (Go.Eng.HE.mk Bool.false (Go.Eng.HB.rows (Go.Sa.B.iVcpu l2))))] => c_laws_toVcpuS_r_0 N b1 b2 l1 n l2 (fun l3 => KL Go.Eng.Ex.normal [(Option.some (Go.Eng.AV.sc (Go.Eng.SV.slc 1 Option.none b2)))] [(Option.some (Go.Eng.HE.mk Bool.true (Go.Eng.HB.rows (Go.Sa.B.lVcpu l1)))), (Option.some (Go.Eng.HE.mk Bool.false (Go.Eng.HB.rows (Go.Sa.B.iVcpu l3))))])
  | _, _ => none
noncomputable def IT_laws_toVcpuS_r_0 (N : Nat) : Its E := addIt 0 (i_laws_toVcpuS_r_0 N) (noIt)
theorem IT_laws_toVcpuS_r_0_ok (N : Nat) : ItOk (IT_laws_toVcpuS_r_0 N) 1 23 sl_laws_toVcpuS_r (lsB Go.Proofs.Try.f31 [0]) :=
  addItB_ok (inner := []) ok (O_laws_toVcpuS_r_ok N) (jn_ok _ _) (noIt_ok) rfl (by kernel_rfl) rfl fun vs H KL r h => by
    unfold i_laws_toVcpuS_r_0 at h
    split at h
    · exact ⟨_, (le_laws_toVcpuS_r_0 N _ _ _ KL N _ _).trans h⟩
    · cases h
def g_laws_toVcpuS_r (N : Nat) {R : Type} (b : Bool) (l : List Go.Sa.Vcpu) (k : (List Go.Sa.Vcpu) → Option R) : Option R :=
  (cond (((decide (((((List.length l) : Nat) : Int) = (((List.length l) : Nat) : Int)))) && Bool.true) && (Go.Eng.roomOk (Int.toNat (((List.length l) : Nat) : Int)) 72))
  (c_laws_toVcpuS_r_0 N b Bool.false l (0 : Int) (List.replicate (Int.toNat (((List.length l) : Nat) : Int)) (Go.Sa.Vcpu.mk (0 : Int) (0 : Int) (0 : Int) (0 : Int) Bool.false (0 : Int) (0 : Int) (0 : Int) (0 : Int))) fun l4 =>
    (k l4))
  none)
theorem e_laws_toVcpuS_r (N : Nat) {R : Type} (b : Bool) (l : List Go.Sa.Vcpu) (K : AV → Hp E → Option R) :
    runFnI (E := E) (O_laws_toVcpuS_r N) (IT_laws_toVcpuS_r_0 N) sl_laws_toVcpuS_r J_laws_toVcpuS_r Go.Proofs.Try.f31 [(Go.Eng.AV.sc (Go.Eng.SV.slc 0 Option.none b))] [(Option.some (Go.Eng.HE.mk Bool.true (Go.Eng.HB.rows (Go.Sa.B.lVcpu l))))] K =
      g_laws_toVcpuS_r N b l (fun l5 => K (Go.Eng.AV.sc (Go.Eng.SV.slc 1 Option.none Bool.false)) [(Option.some (Go.Eng.HE.mk Bool.true (Go.Eng.HB.rows (Go.Sa.B.lVcpu l)))), (Option.some (Go.Eng.HE.mk Bool.false (Go.Eng.HB.rows (Go.Sa.B.iVcpu l5))))]) := by kernel_rfl
def o_laws_toVcpuS_r (N : Nat) {R : Type} (args : List AV) (H : Hp E) (K : AV → Hp E → Option R) : Option R :=
  match args, H with
  | [(Go.Eng.AV.sc (Go.Eng.SV.slc 0 Option.none b))], [(Option.some (Go.Eng.HE.mk Bool.true (Go.Eng.HB.rows (Go.Sa.B.lVcpu l))))] => g_laws_toVcpuS_r N b l (fun l5 => K (Go.Eng.AV.sc (Go.Eng.SV.slc 1 Option.none Bool.false)) [(Option.some (Go.Eng.HE.mk Bool.true (Go.Eng.HB.rows (Go.Sa.B.lVcpu l)))), (Option.some (Go.Eng.HE.mk Bool.false (Go.Eng.HB.rows (Go.Sa.B.iVcpu l5))))])
  | _, _ => none
theorem o_laws_toVcpuS_r_ok (N : Nat) : FnOk E 31 (o_laws_toVcpuS_r N) := by
  intro R args H K r h
  unfold o_laws_toVcpuS_r at h
  dsimp only at h
  split at h
  · exact fnB_ok (ids := [0]) (top := [0]) ok (O_laws_toVcpuS_r_ok N) (jn_ok _ _) Go.Proofs.Try.func31 (by kernel_rfl) (IT := IT_laws_toVcpuS_r_0 N) (sl := sl_laws_toVcpuS_r) (J := J_laws_toVcpuS_r) (K := K) (H := [(Option.some (Go.Eng.HE.mk Bool.true (Go.Eng.HB.rows (Go.Sa.B.lVcpu _))))]) (IT_laws_toVcpuS_r_0_ok N) (by kernel_rfl) rfl ((e_laws_toVcpuS_r N _ _ K).trans h)
  · cases h
/-! ### loop.example/g00038/spec.VcpusFault -/
abbrev sl_spec_VcpusFault_w : SlotT := [(0, ([0, 1, 5], [4]))]
abbrev J_spec_VcpusFault_w : JT := jn [(1, [(17, .b)]), (7, [(68, .b)]), (9, [(106, .b)])] []
noncomputable def O_spec_VcpusFault_w (N : Nat) : Orc E := noFn
theorem O_spec_VcpusFault_w_ok (N : Nat) : OrcOk (O_spec_VcpusFault_w N) := noFn_ok
def s_spec_VcpusFault_w_0 (N : Nat) {R : Type} (b1 : Bool) (n1 : Int) (l1 : List Go.Sa.Vcpu) (n2 : Int) (ag : Int → Option R) (kR : Option R) (kN : Option R) : Option R :=
  (cond (decide ((n2 < (((List.length l1) : Nat) : Int))))
  (cond ((decide (((0 : Int) ≤ n2))) && (decide ((n2 < (((List.length l1) : Nat) : Int)))))
    (elemK l1 (Int.toNat n2) fun x =>
      (oK (cond (decide (((Go.Sa.Vcpu.fGuest x) < (0 : Int))))
        (some Bool.true)
        (cond (decide (((Go.Sa.Vcpu.fGuest x) > (99 : Int))))
          (some Bool.true)
          (cond (decide (((Go.Sa.Vcpu.fWeight x) < (1 : Int))))
            (some Bool.true)
            (cond (decide (((Go.Sa.Vcpu.fWeight x) > (1000 : Int))))
              (some Bool.true)
              (cond (decide (((Go.Sa.Vcpu.fCap x) < (0 : Int))))
                (some Bool.true)
                (cond (decide (((Go.Sa.Vcpu.fCap x) > (10 : Int))))
                  (some Bool.true)
                  (cond (decide (((Go.Sa.Vcpu.fMask x) < (1 : Int))))
                    (some Bool.true)
                    (cond (decide (((Go.IntKind.wrap Go.IntKind.u64 n1) < (0 : Int))))
                      none
                      (some (decide (((Go.Sa.Vcpu.fMask x) ≥ (Go.IntKind.wrap Go.IntKind.i64 ((1 : Int) * ((2 : Int) ^ (Min.min (Int.toNat (Go.IntKind.wrap Go.IntKind.u64 n1)) 64)))))))))))))))) fun j1 =>
      (cond j1
      kR
      (oK (cond (decide (((Go.Sa.Vcpu.fCredit x) < (-(1099511627776 : Int)))))
          (some Bool.true)
          (cond (decide (((Go.Sa.Vcpu.fCredit x) > (1099511627776 : Int))))
            (some Bool.true)
            (cond (decide (((Go.Sa.Vcpu.fUsed x) < (0 : Int))))
              (some Bool.true)
              (cond (decide (((Go.Sa.Vcpu.fUsed x) > (10 : Int))))
                (some Bool.true)
                (cond (decide (((Go.Sa.Vcpu.fRan x) < (0 : Int))))
                  (some Bool.true)
                  (cond (decide (((Go.Sa.Vcpu.fRan x) > (1099511627776 : Int))))
                    (some Bool.true)
                    (cond (decide (((Go.Sa.Vcpu.fStolen x) < (0 : Int))))
                      (some Bool.true)
                      (some (decide (((Go.Sa.Vcpu.fStolen x) > (1099511627776 : Int)))))))))))) fun j2 =>
        (cond j2
        kR
        (ag (Go.IntKind.wrap Go.IntKind.i64 (n2 + (1 : Int)))))))))
    none)
  kN)
def l_spec_VcpusFault_w_0 (N : Nat) {R : Type} (b1 : Bool) (n1 : Int) (l1 : List Go.Sa.Vcpu) (kR : Option R) (kN : Option R) : Nat → Int → Option R
  | 0, _ => none
  | f + 1, n2 => s_spec_VcpusFault_w_0 N b1 n1 l1 n2 (fun n2 => l_spec_VcpusFault_w_0 N b1 n1 l1 kR kN f n2) kR kN
def c_spec_VcpusFault_w_0 (N : Nat) {R : Type} (b1 : Bool) (n1 : Int) (l1 : List Go.Sa.Vcpu) (n2 : Int) (kR : Option R) (kN : Option R) : Option R := l_spec_VcpusFault_w_0 N b1 n1 l1 kR kN N n2
theorem se_spec_VcpusFault_w_0 (N : Nat) {R : Type} (b1 : Bool) (n1 : Int) (l1 : List Go.Sa.Vcpu) (n2 : Int) (AG : List (Option AV) → Hp E → Option R) (KL : Ex → List (Option AV) → Hp E → Option R) :
    iterStep (E := E) (O_spec_VcpusFault_w N) (fun {R} => LI (noIt) 1 107 sl_spec_VcpusFault_w (R := R)) J_spec_VcpusFault_w 1 107 0 [0, 1, 5] [4] (body Go.Proofs.Try.f30 0) AG KL [(Option.some (Go.Eng.AV.sc (Go.Eng.SV.slc 0 Option.none b1))), (Option.some (Go.Eng.AV.sc (Go.Eng.SV.int Go.IntKind.i64 n1))), (Option.some (Go.Eng.AV.sc (Go.Eng.SV.int Go.IntKind.i64 n2)))] [(Option.some (Go.Eng.HE.mk Bool.false (Go.Eng.HB.rows (Go.Sa.B.iVcpu l1))))] =
      s_spec_VcpusFault_w_0 N b1 n1 l1 n2 (fun n2 => AG [(Option.some (Go.Eng.AV.sc (Go.Eng.SV.slc 0 Option.none b1))), (Option.some (Go.Eng.AV.sc (Go.Eng.SV.int Go.IntKind.i64 n1))), (Option.some (Go.Eng.AV.sc (Go.Eng.SV.int Go.IntKind.i64 n2)))] [(Option.some (Go.Eng.HE.mk Bool.false (Go.Eng.HB.rows (Go.Sa.B.iVcpu l1))))]) (KL Go.Eng.Ex.ret [(Option.some (Go.Eng.AV.sc (Go.Eng.SV.int Go.IntKind.i64 (1 : Int))))] [(Option.some (Go.Eng.HE.mk Bool.false (Go.Eng.HB.rows (Go.Sa.B.iVcpu l1))))]) (KL Go.Eng.Ex.normal [Option.none] [(Option.some (Go.Eng.HE.mk Bool.false (Go.Eng.HB.rows (Go.Sa.B.iVcpu l1))))]) := by kernel_rfl
theorem le_spec_VcpusFault_w_0 (N : Nat) {R : Type} (b1 : Bool) (n1 : Int) (l1 : List Go.Sa.Vcpu) (KL : Ex → List (Option AV) → Hp E → Option R) : ∀ (f : Nat), ∀ (n2 : Int), iterK (E := E) (O_spec_VcpusFault_w N) (fun {R} => LI (noIt) 1 107 sl_spec_VcpusFault_w (R := R)) J_spec_VcpusFault_w 1 107 0 [0, 1, 5] [4] (body Go.Proofs.Try.f30 0) f [(Option.some (Go.Eng.AV.sc (Go.Eng.SV.slc 0 Option.none b1))), (Option.some (Go.Eng.AV.sc (Go.Eng.SV.int Go.IntKind.i64 n1))), (Option.some (Go.Eng.AV.sc (Go.Eng.SV.int Go.IntKind.i64 n2)))] [(Option.some (Go.Eng.HE.mk Bool.false (Go.Eng.HB.rows (Go.Sa.B.iVcpu l1))))] KL = l_spec_VcpusFault_w_0 N b1 n1 l1 (KL Go.Eng.Ex.ret [(Option.some (Go.Eng.AV.sc (Go.Eng.SV.int Go.IntKind.i64 (1 : Int))))] [(Option.some (Go.Eng.HE.mk Bool.false (Go.Eng.HB.rows (Go.Sa.B.iVcpu l1))))]) (KL Go.Eng.Ex.normal [Option.none] [(Option.some (Go.Eng.HE.mk Bool.false (Go.Eng.HB.rows (Go.Sa.B.iVcpu l1))))]) f n2 := by
  intro f
  induction f with
  | zero => intros; rfl
  | succ f ih =>
    intro n2
    rw [iterK_succ, se_spec_VcpusFault_w_0]
    exact congrArg (fun ag => s_spec_VcpusFault_w_0 N b1 n1 l1 n2 ag (KL Go.Eng.Ex.ret [(Option.some (Go.Eng.AV.sc (Go.Eng.SV.int Go.IntKind.i64 (1 : Int))))] [(Option.some (Go.Eng.HE.mk Bool.false (Go.Eng.HB.rows (Go.Sa.B.iVcpu l1))))]) (KL Go.Eng.Ex.normal [Option.none] [(Option.some (Go.Eng.HE.mk Bool.false (Go.Eng.HB.rows (Go.Sa.B.iVcpu l1))))])) (funext fun n2 => ih n2)
def i_spec_VcpusFault_w_0 (N : Nat) {R : Type} (vs : List (Option AV)) (H : Hp E) (KL : Ex → List (Option AV) → Hp E → Option R) : Option R :=
  match vs, H with
  | [(Option.some (Go.Eng.AV.sc (Go.Eng.SV.slc 0 Option.none b1))), (Option.some (Go.Eng.AV.sc (Go.Eng.SV.int Go.IntKind.i64 n1))), (Option.some (Go.Eng.AV.sc (Go.Eng.SV.int Go.IntKind.i64 n2)))], [(Option.some (Go.Eng.HE.mk Bool.false (Go.Eng.HB.rows (Go.Sa.B.iVcpu l1))))] => c_spec_VcpusFault_w_0 N b1 n1 l1 n2 (KL Go.Eng.Ex.ret [(Option.some (Go.Eng.AV.sc (Go.Eng.SV.int Go.IntKind.i64 (1 : Int))))] [(Option.some (Go.Eng.HE.mk Bool.false (Go.Eng.HB.rows (Go.Sa.B.iVcpu l1))))]) (KL Go.Eng.Ex.normal [Option.none] [(Option.some (Go.Eng.HE.mk Bool.false (Go.Eng.HB.rows (Go.Sa.B.iVcpu l1))))])
  | _, _ => none
noncomputable def IT_spec_VcpusFault_w_0 (N : Nat) : Its E := addIt 0 (i_spec_VcpusFault_w_0 N) (noIt)
theorem IT_spec_VcpusFault_w_0_ok (N : Nat) : ItOk (IT_spec_VcpusFault_w_0 N) 1 107 sl_spec_VcpusFault_w (lsB Go.Proofs.Try.f30 [0]) :=
  addItB_ok (inner := []) ok (O_spec_VcpusFault_w_ok N) (jn_ok _ _) (noIt_ok) rfl (by kernel_rfl) rfl fun vs H KL r h => by
    unfold i_spec_VcpusFault_w_0 at h
    split at h
    · exact ⟨_, (le_spec_VcpusFault_w_0 N _ _ _ KL N _).trans h⟩
    · cases h
def g_spec_VcpusFault_w (N : Nat) {R : Type} (b : Bool) (n : Int) (l : List Go.Sa.Vcpu) (k : Int → Option R) : Option R :=
  (oK (cond (decide ((n < (1 : Int))))
    (some Bool.true)
    (cond (decide ((n > (8 : Int))))
      (some Bool.true)
      (some (decide (((((List.length l) : Nat) : Int) > (16 : Int))))))) fun j =>
  (cond j
  (k (1 : Int))
  (c_spec_VcpusFault_w_0 N b n l (0 : Int) (
    (k (1 : Int))) (
    (k (0 : Int))))))
theorem e_spec_VcpusFault_w (N : Nat) {R : Type} (b : Bool) (n : Int) (l : List Go.Sa.Vcpu) (K : AV → Hp E → Option R) :
    runFnI (E := E) (O_spec_VcpusFault_w N) (IT_spec_VcpusFault_w_0 N) sl_spec_VcpusFault_w J_spec_VcpusFault_w Go.Proofs.Try.f30 [(Go.Eng.AV.sc (Go.Eng.SV.slc 0 Option.none b)), (Go.Eng.AV.sc (Go.Eng.SV.int Go.IntKind.i64 n))] [(Option.some (Go.Eng.HE.mk Bool.false (Go.Eng.HB.rows (Go.Sa.B.iVcpu l))))] K =
      g_spec_VcpusFault_w N b n l (fun n3 => K (Go.Eng.AV.sc (Go.Eng.SV.int Go.IntKind.i64 n3)) [(Option.some (Go.Eng.HE.mk Bool.false (Go.Eng.HB.rows (Go.Sa.B.iVcpu l))))]) := by kernel_rfl
def o_spec_VcpusFault_w (N : Nat) {R : Type} (args : List AV) (H : Hp E) (K : AV → Hp E → Option R) : Option R :=
  match args, H with
  | [(Go.Eng.AV.sc (Go.Eng.SV.slc 0 Option.none b)), (Go.Eng.AV.sc (Go.Eng.SV.int Go.IntKind.i64 n))], [(Option.some (Go.Eng.HE.mk Bool.false (Go.Eng.HB.rows (Go.Sa.B.iVcpu l))))] => g_spec_VcpusFault_w N b n l (fun n3 => K (Go.Eng.AV.sc (Go.Eng.SV.int Go.IntKind.i64 n3)) [(Option.some (Go.Eng.HE.mk Bool.false (Go.Eng.HB.rows (Go.Sa.B.iVcpu l))))])
  | _, _ => none
theorem o_spec_VcpusFault_w_ok (N : Nat) : FnOk E 30 (o_spec_VcpusFault_w N) := by
  intro R args H K r h
  unfold o_spec_VcpusFault_w at h
  dsimp only at h
  split at h
  · exact fnB_ok (ids := [0]) (top := [0]) ok (O_spec_VcpusFault_w_ok N) (jn_ok _ _) Go.Proofs.Try.func30 (by kernel_rfl) (IT := IT_spec_VcpusFault_w_0 N) (sl := sl_spec_VcpusFault_w) (J := J_spec_VcpusFault_w) (K := K) (H := [(Option.some (Go.Eng.HE.mk Bool.false (Go.Eng.HB.rows (Go.Sa.B.iVcpu _))))]) (IT_spec_VcpusFault_w_0_ok N) (by kernel_rfl) rfl ((e_spec_VcpusFault_w N _ _ _ K).trans h)
  · cases h
/-! ### loop.example/g00038/impl.VcpusFault -/
abbrev sl_impl_VcpusFault_w : SlotT := [(0, ([1, 15, 16, 17], [4]))]
abbrev J_impl_VcpusFault_w : JT := jn [(1, [(14, .b)]), (6, [(69, .b)])] []
noncomputable def O_impl_VcpusFault_w (N : Nat) : Orc E := addFn 71 (o_impl_yin N) (noFn)
theorem O_impl_VcpusFault_w_ok (N : Nat) : OrcOk (O_impl_VcpusFault_w N) := addFn_ok (o_impl_yin_ok N) (noFn_ok)
def s_impl_VcpusFault_w_0 (N : Nat) {R : Type} (n1 : Int) (b2 : Bool) (n2 : Int) (l1 : List Go.Sa.Vcpu) (n3 : Int) (ag : Int → Option R) (kR : Option R) (kN : Option R) : Option R :=
  (cond (decide ((n3 < n2)))
  (cond ((decide (((0 : Int) ≤ n3))) && (decide ((n3 < (((List.length l1) : Nat) : Int)))))
    (elemK l1 (Int.toNat n3) fun x =>
      (oK (g_impl_yin N (Go.Sa.Vcpu.fGuest x) (0 : Int) (99 : Int) fun b3 =>
        (cond (!b3)
        (some Bool.true)
        (g_impl_yin N (Go.Sa.Vcpu.fWeight x) (1 : Int) (1000 : Int) fun b4 =>
          (cond (!b4)
          (some Bool.true)
          (g_impl_yin N (Go.Sa.Vcpu.fCap x) (0 : Int) (10 : Int) fun b5 =>
            (cond (!b5)
            (some Bool.true)
            (cond (decide ((n1 < (0 : Int))))
              none
              (g_impl_yin N (Go.Sa.Vcpu.fMask x) (1 : Int) (Go.IntKind.wrap Go.IntKind.i64 ((Go.IntKind.wrap Go.IntKind.i64 ((1 : Int) * ((2 : Int) ^ (Min.min (Int.toNat n1) 64)))) - (1 : Int))) fun b6 =>
                (cond (!b6)
                (some Bool.true)
                (g_impl_yin N (Go.Sa.Vcpu.fCredit x) (-(1099511627776 : Int)) (1099511627776 : Int) fun b7 =>
                  (cond (!b7)
                  (some Bool.true)
                  (g_impl_yin N (Go.Sa.Vcpu.fUsed x) (0 : Int) (10 : Int) fun b8 =>
                    (cond (!b8)
                    (some Bool.true)
                    (g_impl_yin N (Go.Sa.Vcpu.fRan x) (0 : Int) (1099511627776 : Int) fun b9 =>
                      (cond (!b9)
                      (some Bool.true)
                      (g_impl_yin N (Go.Sa.Vcpu.fStolen x) (0 : Int) (1099511627776 : Int) fun b10 =>
                        (some (!b10)))))))))))))))))) fun j1 =>
      (cond j1
      kR
      (ag (Go.IntKind.wrap Go.IntKind.i64 (n3 + (1 : Int)))))))
    none)
  kN)
def l_impl_VcpusFault_w_0 (N : Nat) {R : Type} (n1 : Int) (b2 : Bool) (n2 : Int) (l1 : List Go.Sa.Vcpu) (kR : Option R) (kN : Option R) : Nat → Int → Option R
  | 0, _ => none
  | f + 1, n3 => s_impl_VcpusFault_w_0 N n1 b2 n2 l1 n3 (fun n3 => l_impl_VcpusFault_w_0 N n1 b2 n2 l1 kR kN f n3) kR kN
def c_impl_VcpusFault_w_0 (N : Nat) {R : Type} (n1 : Int) (b2 : Bool) (n2 : Int) (l1 : List Go.Sa.Vcpu) (n3 : Int) (kR : Option R) (kN : Option R) : Option R := l_impl_VcpusFault_w_0 N n1 b2 n2 l1 kR kN N n3
theorem se_impl_VcpusFault_w_0 (N : Nat) {R : Type} (n1 : Int) (b2 : Bool) (n2 : Int) (l1 : List Go.Sa.Vcpu) (n3 : Int) (AG : List (Option AV) → Hp E → Option R) (KL : Ex → List (Option AV) → Hp E → Option R) :
    iterStep (E := E) (O_impl_VcpusFault_w N) (fun {R} => LI (noIt) 1 71 sl_impl_VcpusFault_w (R := R)) J_impl_VcpusFault_w 1 71 0 [1, 15, 16, 17] [4] (body Go.Proofs.Try.f32 0) AG KL [(Option.some (Go.Eng.AV.sc (Go.Eng.SV.int Go.IntKind.i64 n1))), (Option.some (Go.Eng.AV.sc (Go.Eng.SV.slc 0 Option.none b2))), (Option.some (Go.Eng.AV.sc (Go.Eng.SV.int Go.IntKind.i64 n2))), (Option.some (Go.Eng.AV.sc (Go.Eng.SV.int Go.IntKind.i64 n3)))] [(Option.some (Go.Eng.HE.mk Bool.false (Go.Eng.HB.rows (Go.Sa.B.iVcpu l1))))] =
      s_impl_VcpusFault_w_0 N n1 b2 n2 l1 n3 (fun n3 => AG [(Option.some (Go.Eng.AV.sc (Go.Eng.SV.int Go.IntKind.i64 n1))), (Option.some (Go.Eng.AV.sc (Go.Eng.SV.slc 0 Option.none b2))), (Option.some (Go.Eng.AV.sc (Go.Eng.SV.int Go.IntKind.i64 n2))), (Option.some (Go.Eng.AV.sc (Go.Eng.SV.int Go.IntKind.i64 n3)))] [(Option.some (Go.Eng.HE.mk Bool.false (Go.Eng.HB.rows (Go.Sa.B.iVcpu l1))))]) (KL Go.Eng.Ex.ret [(Option.some (Go.Eng.AV.sc (Go.Eng.SV.int Go.IntKind.i64 (1 : Int))))] [(Option.some (Go.Eng.HE.mk Bool.false (Go.Eng.HB.rows (Go.Sa.B.iVcpu l1))))]) (KL Go.Eng.Ex.normal [Option.none] [(Option.some (Go.Eng.HE.mk Bool.false (Go.Eng.HB.rows (Go.Sa.B.iVcpu l1))))]) := by kernel_rfl
theorem le_impl_VcpusFault_w_0 (N : Nat) {R : Type} (n1 : Int) (b2 : Bool) (n2 : Int) (l1 : List Go.Sa.Vcpu) (KL : Ex → List (Option AV) → Hp E → Option R) : ∀ (f : Nat), ∀ (n3 : Int), iterK (E := E) (O_impl_VcpusFault_w N) (fun {R} => LI (noIt) 1 71 sl_impl_VcpusFault_w (R := R)) J_impl_VcpusFault_w 1 71 0 [1, 15, 16, 17] [4] (body Go.Proofs.Try.f32 0) f [(Option.some (Go.Eng.AV.sc (Go.Eng.SV.int Go.IntKind.i64 n1))), (Option.some (Go.Eng.AV.sc (Go.Eng.SV.slc 0 Option.none b2))), (Option.some (Go.Eng.AV.sc (Go.Eng.SV.int Go.IntKind.i64 n2))), (Option.some (Go.Eng.AV.sc (Go.Eng.SV.int Go.IntKind.i64 n3)))] [(Option.some (Go.Eng.HE.mk Bool.false (Go.Eng.HB.rows (Go.Sa.B.iVcpu l1))))] KL = l_impl_VcpusFault_w_0 N n1 b2 n2 l1 (KL Go.Eng.Ex.ret [(Option.some (Go.Eng.AV.sc (Go.Eng.SV.int Go.IntKind.i64 (1 : Int))))] [(Option.some (Go.Eng.HE.mk Bool.false (Go.Eng.HB.rows (Go.Sa.B.iVcpu l1))))]) (KL Go.Eng.Ex.normal [Option.none] [(Option.some (Go.Eng.HE.mk Bool.false (Go.Eng.HB.rows (Go.Sa.B.iVcpu l1))))]) f n3 := by
  intro f
  induction f with
  | zero => intros; rfl
  | succ f ih =>
    intro n3
    rw [iterK_succ, se_impl_VcpusFault_w_0]
    exact congrArg (fun ag => s_impl_VcpusFault_w_0 N n1 b2 n2 l1 n3 ag (KL Go.Eng.Ex.ret [(Option.some (Go.Eng.AV.sc (Go.Eng.SV.int Go.IntKind.i64 (1 : Int))))] [(Option.some (Go.Eng.HE.mk Bool.false (Go.Eng.HB.rows (Go.Sa.B.iVcpu l1))))]) (KL Go.Eng.Ex.normal [Option.none] [(Option.some (Go.Eng.HE.mk Bool.false (Go.Eng.HB.rows (Go.Sa.B.iVcpu l1))))])) (funext fun n3 => ih n3)
def i_impl_VcpusFault_w_0 (N : Nat) {R : Type} (vs : List (Option AV)) (H : Hp E) (KL : Ex → List (Option AV) → Hp E → Option R) : Option R :=
  match vs, H with
  | [(Option.some (Go.Eng.AV.sc (Go.Eng.SV.int Go.IntKind.i64 n1))), (Option.some (Go.Eng.AV.sc (Go.Eng.SV.slc 0 Option.none b2))), (Option.some (Go.Eng.AV.sc (Go.Eng.SV.int Go.IntKind.i64 n2))), (Option.some (Go.Eng.AV.sc (Go.Eng.SV.int Go.IntKind.i64 n3)))], [(Option.some (Go.Eng.HE.mk Bool.false (Go.Eng.HB.rows (Go.Sa.B.iVcpu l1))))] => c_impl_VcpusFault_w_0 N n1 b2 n2 l1 n3 (KL Go.Eng.Ex.ret [(Option.some (Go.Eng.AV.sc (Go.Eng.SV.int Go.IntKind.i64 (1 : Int))))] [(Option.some (Go.Eng.HE.mk Bool.false (Go.Eng.HB.rows (Go.Sa.B.iVcpu l1))))]) (KL Go.Eng.Ex.normal [Option.none] [(Option.some (Go.Eng.HE.mk Bool.false (Go.Eng.HB.rows (Go.Sa.B.iVcpu l1))))])
  | _, _ => none
noncomputable def IT_impl_VcpusFault_w_0 (N : Nat) : Its E := addIt 0 (i_impl_VcpusFault_w_0 N) (noIt)
theorem IT_impl_VcpusFault_w_0_ok (N : Nat) : ItOk (IT_impl_VcpusFault_w_0 N) 1 71 sl_impl_VcpusFault_w (lsB Go.Proofs.Try.f32 [0]) :=
  addItB_ok (inner := []) ok (O_impl_VcpusFault_w_ok N) (jn_ok _ _) (noIt_ok) rfl (by kernel_rfl) rfl fun vs H KL r h => by
    unfold i_impl_VcpusFault_w_0 at h
    split at h
    · exact ⟨_, (le_impl_VcpusFault_w_0 N _ _ _ _ KL N _).trans h⟩
    · cases h
def g_impl_VcpusFault_w (N : Nat) {R : Type} (b : Bool) (n : Int) (l : List Go.Sa.Vcpu) (k : Int → Option R) : Option R :=
  (oK (g_impl_yin N n (1 : Int) (8 : Int) fun b1 =>
    (cond (!b1)
    (some Bool.true)
    (some (decide (((((List.length l) : Nat) : Int) > (16 : Int))))))) fun j =>
  (cond j
  (k (1 : Int))
  (c_impl_VcpusFault_w_0 N n b (((List.length l) : Nat) : Int) l (0 : Int) (
    (k (1 : Int))) (
    (k (0 : Int))))))
theorem e_impl_VcpusFault_w (N : Nat) {R : Type} (b : Bool) (n : Int) (l : List Go.Sa.Vcpu) (K : AV → Hp E → Option R) :
    runFnI (E := E) (O_impl_VcpusFault_w N) (IT_impl_VcpusFault_w_0 N) sl_impl_VcpusFault_w J_impl_VcpusFault_w Go.Proofs.Try.f32 [(Go.Eng.AV.sc (Go.Eng.SV.slc 0 Option.none b)), (Go.Eng.AV.sc (Go.Eng.SV.int Go.IntKind.i64 n))] [(Option.some (Go.Eng.HE.mk Bool.false (Go.Eng.HB.rows (Go.Sa.B.iVcpu l))))] K =
      g_impl_VcpusFault_w N b n l (fun n4 => K (Go.Eng.AV.sc (Go.Eng.SV.int Go.IntKind.i64 n4)) [(Option.some (Go.Eng.HE.mk Bool.false (Go.Eng.HB.rows (Go.Sa.B.iVcpu l))))]) := by kernel_rfl
def o_impl_VcpusFault_w (N : Nat) {R : Type} (args : List AV) (H : Hp E) (K : AV → Hp E → Option R) : Option R :=
  match args, H with
  | [(Go.Eng.AV.sc (Go.Eng.SV.slc 0 Option.none b)), (Go.Eng.AV.sc (Go.Eng.SV.int Go.IntKind.i64 n))], [(Option.some (Go.Eng.HE.mk Bool.false (Go.Eng.HB.rows (Go.Sa.B.iVcpu l))))] => g_impl_VcpusFault_w N b n l (fun n4 => K (Go.Eng.AV.sc (Go.Eng.SV.int Go.IntKind.i64 n4)) [(Option.some (Go.Eng.HE.mk Bool.false (Go.Eng.HB.rows (Go.Sa.B.iVcpu l))))])
  | _, _ => none
theorem o_impl_VcpusFault_w_ok (N : Nat) : FnOk E 32 (o_impl_VcpusFault_w N) := by
  intro R args H K r h
  unfold o_impl_VcpusFault_w at h
  dsimp only at h
  split at h
  · exact fnB_ok (ids := [0]) (top := [0]) ok (O_impl_VcpusFault_w_ok N) (jn_ok _ _) Go.Proofs.Try.func32 (by kernel_rfl) (IT := IT_impl_VcpusFault_w_0 N) (sl := sl_impl_VcpusFault_w) (J := J_impl_VcpusFault_w) (K := K) (H := [(Option.some (Go.Eng.HE.mk Bool.false (Go.Eng.HB.rows (Go.Sa.B.iVcpu _))))]) (IT_impl_VcpusFault_w_0_ok N) (by kernel_rfl) rfl ((e_impl_VcpusFault_w N _ _ _ K).trans h)
  · cases h
/-! ### loop.example/g00038/laws.eqVcpu -/
abbrev sl_laws_eqVcpu : SlotT := []
abbrev J_laws_eqVcpu : JT := jn [] []
noncomputable def O_laws_eqVcpu (N : Nat) : Orc E := noFn
theorem O_laws_eqVcpu_ok (N : Nat) : OrcOk (O_laws_eqVcpu N) := noFn_ok
def g_laws_eqVcpu (N : Nat) {R : Type} (n : Int) (n1 : Int) (n2 : Int) (n3 : Int) (b : Bool) (n4 : Int) (n5 : Int) (n6 : Int) (n7 : Int) (n8 : Int) (n9 : Int) (n10 : Int) (n11 : Int) (b1 : Bool) (n12 : Int) (n13 : Int) (n14 : Int) (n15 : Int) (k : Bool → Option R) : Option R :=
  (cond (n != n8)
  (k Bool.false)
  (cond (n1 != n9)
    (k Bool.false)
    (cond (n2 != n10)
      (k Bool.false)
      (cond (n3 != n11)
        (k Bool.false)
        (cond (!(b == b1))
          (k Bool.false)
          (cond (n4 != n12)
            (k Bool.false)
            (cond (n5 != n13)
              (k Bool.false)
              (cond (n6 != n14)
                (k Bool.false)
                (cond (n7 != n15)
                  (k Bool.false)
                  (k Bool.true))))))))))
theorem e_laws_eqVcpu (N : Nat) {R : Type} (n : Int) (n1 : Int) (n2 : Int) (n3 : Int) (b : Bool) (n4 : Int) (n5 : Int) (n6 : Int) (n7 : Int) (n8 : Int) (n9 : Int) (n10 : Int) (n11 : Int) (b1 : Bool) (n12 : Int) (n13 : Int) (n14 : Int) (n15 : Int) (K : AV → Hp E → Option R) :
    runFnI (E := E) (O_laws_eqVcpu N) (noIt) sl_laws_eqVcpu J_laws_eqVcpu Go.Proofs.Try.f81 [(Go.Eng.AV.agg [(Go.Eng.SV.int Go.IntKind.i64 n), (Go.Eng.SV.int Go.IntKind.i64 n1), (Go.Eng.SV.int Go.IntKind.i64 n2), (Go.Eng.SV.int Go.IntKind.i64 n3), (Go.Eng.SV.bool b), (Go.Eng.SV.int Go.IntKind.i64 n4), (Go.Eng.SV.int Go.IntKind.i64 n5), (Go.Eng.SV.int Go.IntKind.i64 n6), (Go.Eng.SV.int Go.IntKind.i64 n7)]), (Go.Eng.AV.agg [(Go.Eng.SV.int Go.IntKind.i64 n8), (Go.Eng.SV.int Go.IntKind.i64 n9), (Go.Eng.SV.int Go.IntKind.i64 n10), (Go.Eng.SV.int Go.IntKind.i64 n11), (Go.Eng.SV.bool b1), (Go.Eng.SV.int Go.IntKind.i64 n12), (Go.Eng.SV.int Go.IntKind.i64 n13), (Go.Eng.SV.int Go.IntKind.i64 n14), (Go.Eng.SV.int Go.IntKind.i64 n15)])] [] K =
      g_laws_eqVcpu N n n1 n2 n3 b n4 n5 n6 n7 n8 n9 n10 n11 b1 n12 n13 n14 n15 (fun b2 => K (Go.Eng.AV.sc (Go.Eng.SV.bool b2)) []) := by kernel_rfl
def o_laws_eqVcpu (N : Nat) {R : Type} (args : List AV) (H : Hp E) (K : AV → Hp E → Option R) : Option R :=
  match args, H with
  | [(Go.Eng.AV.agg [(Go.Eng.SV.int Go.IntKind.i64 n), (Go.Eng.SV.int Go.IntKind.i64 n1), (Go.Eng.SV.int Go.IntKind.i64 n2), (Go.Eng.SV.int Go.IntKind.i64 n3), (Go.Eng.SV.bool b), (Go.Eng.SV.int Go.IntKind.i64 n4), (Go.Eng.SV.int Go.IntKind.i64 n5), (Go.Eng.SV.int Go.IntKind.i64 n6), (Go.Eng.SV.int Go.IntKind.i64 n7)]), (Go.Eng.AV.agg [(Go.Eng.SV.int Go.IntKind.i64 n8), (Go.Eng.SV.int Go.IntKind.i64 n9), (Go.Eng.SV.int Go.IntKind.i64 n10), (Go.Eng.SV.int Go.IntKind.i64 n11), (Go.Eng.SV.bool b1), (Go.Eng.SV.int Go.IntKind.i64 n12), (Go.Eng.SV.int Go.IntKind.i64 n13), (Go.Eng.SV.int Go.IntKind.i64 n14), (Go.Eng.SV.int Go.IntKind.i64 n15)])], [] => g_laws_eqVcpu N n n1 n2 n3 b n4 n5 n6 n7 n8 n9 n10 n11 b1 n12 n13 n14 n15 (fun b2 => K (Go.Eng.AV.sc (Go.Eng.SV.bool b2)) [])
  | _, _ => none
theorem o_laws_eqVcpu_ok (N : Nat) : FnOk E 81 (o_laws_eqVcpu N) := by
  intro R args H K r h
  unfold o_laws_eqVcpu at h
  dsimp only at h
  split at h
  · exact fnB_ok (ids := []) (top := []) ok (O_laws_eqVcpu_ok N) (jn_ok _ _) Go.Proofs.Try.func81 (by kernel_rfl) (IT := noIt) (sl := sl_laws_eqVcpu) (J := J_laws_eqVcpu) (K := K) (H := []) (noIt_ok) (by kernel_rfl) rfl ((e_laws_eqVcpu N _ _ _ _ _ _ _ _ _ _ _ _ _ _ _ _ _ _ K).trans h)
  · cases h
/-! ### loop.example/g00038/laws.eqVcpuS -/
abbrev sl_laws_eqVcpuS_ww : SlotT := [(0, ([0, 1, 5], [4]))]
abbrev J_laws_eqVcpuS_ww : JT := jn [] []
noncomputable def O_laws_eqVcpuS_ww (N : Nat) : Orc E := addFn 81 (o_laws_eqVcpu N) (noFn)
theorem O_laws_eqVcpuS_ww_ok (N : Nat) : OrcOk (O_laws_eqVcpuS_ww N) := addFn_ok (o_laws_eqVcpu_ok N) (noFn_ok)
def s_laws_eqVcpuS_ww_0 (N : Nat) {R : Type} (b2 : Bool) (b3 : Bool) (l2 : List Go.Sa.Vcpu) (l3 : List Go.Sa.Vcpu) (n : Int) (ag : Int → Option R) (kR : Option R) (kN : Option R) : Option R :=
  (cond (decide ((n < (((List.length l2) : Nat) : Int))))
  (cond ((decide (((0 : Int) ≤ n))) && (decide ((n < (((List.length l2) : Nat) : Int)))))
    (elemK l2 (Int.toNat n) fun x =>
      (cond ((decide (((0 : Int) ≤ n))) && (decide ((n < (((List.length l3) : Nat) : Int)))))
      (elemK l3 (Int.toNat n) fun x1 =>
        (g_laws_eqVcpu N (Go.Sa.Vcpu.fGuest x) (Go.Sa.Vcpu.fWeight x) (Go.Sa.Vcpu.fCap x) (Go.Sa.Vcpu.fMask x) (Go.Sa.Vcpu.fAwake x) (Go.Sa.Vcpu.fCredit x) (Go.Sa.Vcpu.fUsed x) (Go.Sa.Vcpu.fRan x) (Go.Sa.Vcpu.fStolen x) (Go.Sa.Vcpu.fGuest x1) (Go.Sa.Vcpu.fWeight x1) (Go.Sa.Vcpu.fCap x1) (Go.Sa.Vcpu.fMask x1) (Go.Sa.Vcpu.fAwake x1) (Go.Sa.Vcpu.fCredit x1) (Go.Sa.Vcpu.fUsed x1) (Go.Sa.Vcpu.fRan x1) (Go.Sa.Vcpu.fStolen x1) fun b4 =>
        (cond (!b4)
        kR
        (ag (Go.IntKind.wrap Go.IntKind.i64 (n + (1 : Int)))))))
      none))
    none)
  kN)
def l_laws_eqVcpuS_ww_0 (N : Nat) {R : Type} (b2 : Bool) (b3 : Bool) (l2 : List Go.Sa.Vcpu) (l3 : List Go.Sa.Vcpu) (kR : Option R) (kN : Option R) : Nat → Int → Option R
  | 0, _ => none
  | f + 1, n => s_laws_eqVcpuS_ww_0 N b2 b3 l2 l3 n (fun n => l_laws_eqVcpuS_ww_0 N b2 b3 l2 l3 kR kN f n) kR kN
def c_laws_eqVcpuS_ww_0 (N : Nat) {R : Type} (b2 : Bool) (b3 : Bool) (l2 : List Go.Sa.Vcpu) (l3 : List Go.Sa.Vcpu) (n : Int) (kR : Option R) (kN : Option R) : Option R := l_laws_eqVcpuS_ww_0 N b2 b3 l2 l3 kR kN N n
theorem se_laws_eqVcpuS_ww_0 (N : Nat) {R : Type} (b2 : Bool) (b3 : Bool) (l2 : List Go.Sa.Vcpu) (l3 : List Go.Sa.Vcpu) (n : Int) (AG : List (Option AV) → Hp E → Option R) (KL : Ex → List (Option AV) → Hp E → Option R) :
    iterStep (E := E) (O_laws_eqVcpuS_ww N) (fun {R} => LI (noIt) 2 27 sl_laws_eqVcpuS_ww (R := R)) J_laws_eqVcpuS_ww 2 27 0 [0, 1, 5] [4] (body Go.Proofs.Try.f33 0) AG KL [(Option.some (Go.Eng.AV.sc (Go.Eng.SV.slc 0 Option.none b2))), (Option.some (Go.Eng.AV.sc (Go.Eng.SV.slc 1 Option.none b3))), (Option.some (Go.Eng.AV.sc (Go.Eng.SV.int Go.IntKind.i64 n)))] [(Option.some (Go.Eng.HE.mk Bool.false (Go.Eng.HB.rows (Go.Sa.B.iVcpu l2)))), (Option.some (Go.Eng.HE.mk Bool.false (Go.Eng.HB.rows (Go.Sa.B.iVcpu l3))))] =
      s_laws_eqVcpuS_ww_0 N b2 b3 l2 l3 n (fun n => AG [(Option.some (Go.Eng.AV.sc (Go.Eng.SV.slc 0 Option.none b2))), (Option.some (Go.Eng.AV.sc (Go.Eng.SV.slc 1 Option.none b3))), (Option.some (Go.Eng.AV.sc (Go.Eng.SV.int Go.IntKind.i64 n)))] [(Option.some (Go.Eng.HE.mk Bool.false (Go.Eng.HB.rows (Go.Sa.B.iVcpu l2)))), (Option.some (Go.Eng.HE.mk Bool.false (Go.Eng.HB.rows (Go.Sa.B.iVcpu l3))))]) (KL Go.Eng.Ex.ret [(Option.some (Go.Eng.AV.sc (Go.Eng.SV.bool Bool.false)))] [(Option.some (Go.Eng.HE.mk Bool.false (Go.Eng.HB.rows (Go.Sa.B.iVcpu l2)))), (Option.some (Go.Eng.HE.mk Bool.false (Go.Eng.HB.rows (Go.Sa.B.iVcpu l3))))]) (KL Go.Eng.Ex.normal [Option.none] [(Option.some (Go.Eng.HE.mk Bool.false (Go.Eng.HB.rows (Go.Sa.B.iVcpu l2)))), (Option.some (Go.Eng.HE.mk Bool.false (Go.Eng.HB.rows (Go.Sa.B.iVcpu l3))))]) := by kernel_rfl
theorem le_laws_eqVcpuS_ww_0 (N : Nat) {R : Type} (b2 : Bool) (b3 : Bool) (l2 : List Go.Sa.Vcpu) (l3 : List Go.Sa.Vcpu) (KL : Ex → List (Option AV) → Hp E → Option R) : ∀ (f : Nat), ∀ (n : Int), iterK (E := E) (O_laws_eqVcpuS_ww N) (fun {R} => LI (noIt) 2 27 sl_laws_eqVcpuS_ww (R := R)) J_laws_eqVcpuS_ww 2 27 0 [0, 1, 5] [4] (body Go.Proofs.Try.f33 0) f [(Option.some (Go.Eng.AV.sc (Go.Eng.SV.slc 0 Option.none b2))), (Option.some (Go.Eng.AV.sc (Go.Eng.SV.slc 1 Option.none b3))), (Option.some (Go.Eng.AV.sc (Go.Eng.SV.int Go.IntKind.i64 n)))] [(Option.some (Go.Eng.HE.mk Bool.false (Go.Eng.HB.rows (Go.Sa.B.iVcpu l2)))), (Option.some (Go.Eng.HE.mk Bool.false (Go.Eng.HB.rows (Go.Sa.B.iVcpu l3))))] KL = l_laws_eqVcpuS_ww_0 N b2 b3 l2 l3 (KL Go.Eng.Ex.ret [(Option.some (Go.Eng.AV.sc (Go.Eng.SV.bool Bool.false)))] [(Option.some (Go.Eng.HE.mk Bool.false (Go.Eng.HB.rows (Go.Sa.B.iVcpu l2)))), (Option.some (Go.Eng.HE.mk Bool.false (Go.Eng.HB.rows (Go.Sa.B.iVcpu l3))))]) (KL Go.Eng.Ex.normal [Option.none] [(Option.some (Go.Eng.HE.mk Bool.false (Go.Eng.HB.rows (Go.Sa.B.iVcpu l2)))), (Option.some (Go.Eng.HE.mk Bool.false (Go.Eng.HB.rows (Go.Sa.B.iVcpu l3))))]) f n := by
  intro f
  induction f with
  | zero => intros; rfl
  | succ f ih =>
    intro n
    rw [iterK_succ, se_laws_eqVcpuS_ww_0]
    exact congrArg (fun ag => s_laws_eqVcpuS_ww_0 N b2 b3 l2 l3 n ag (KL Go.Eng.Ex.ret [(Option.some (Go.Eng.AV.sc (Go.Eng.SV.bool Bool.false)))] [(Option.some (Go.Eng.HE.mk Bool.false (Go.Eng.HB.rows (Go.Sa.B.iVcpu l2)))), (Option.some (Go.Eng.HE.mk Bool.false (Go.Eng.HB.rows (Go.Sa.B.iVcpu l3))))]) (KL Go.Eng.Ex.normal [Option.none] [(Option.some (Go.Eng.HE.mk Bool.false (Go.Eng.HB.rows (Go.Sa.B.iVcpu l2)))), (Option.some (Go.Eng.HE.mk Bool.false (Go.Eng.HB.rows (Go.Sa.B.iVcpu l3))))])) (funext fun n => ih n)
def i_laws_eqVcpuS_ww_0 (N : Nat) {R : Type} (vs : List (Option AV)) (H : Hp E) (KL : Ex → List (Option AV) → Hp E → Option R) : Option R :=
  match vs, H with
  | [(Option.some (Go.Eng.AV.sc (Go.Eng.SV.slc 0 Option.none b2))), (Option.some (Go.Eng.AV.sc (Go.Eng.SV.slc 1 Option.none b3))), (Option.some (Go.Eng.AV.sc (Go.Eng.SV.int Go.IntKind.i64 n)))], [(Option.some (Go.Eng.HE.mk Bool.false (Go.Eng.HB.rows (Go.Sa.B.iVcpu l2)))), (Option.some (Go.Eng.HE.mk Bool.false (Go.Eng.HB.rows (Go.Sa.B.iVcpu l3))))] => c_laws_eqVcpuS_ww_0 N b2 b3 l2 l3 n (KL Go.Eng.Ex.ret [(Option.some (Go.Eng.AV.sc (Go.Eng.SV.bool Bool.false)))] [(Option.some (Go.Eng.HE.mk Bool.false (Go.Eng.HB.rows (Go.Sa.B.iVcpu l2)))), (Option.some (Go.Eng.HE.mk Bool.false (Go.Eng.HB.rows (Go.Sa.B.iVcpu l3))))]) (KL Go.Eng.Ex.normal [Option.none] [(Option.some (Go.Eng.HE.mk Bool.false (Go.Eng.HB.rows (Go.Sa.B.iVcpu l2)))), (Option.some (Go.Eng.HE.mk Bool.false (Go.Eng.HB.rows (Go.Sa.B.iVcpu l3))))])
  | _, _ => none
noncomputable def IT_laws_eqVcpuS_ww_0 (N : Nat) : Its E := addIt 0 (i_laws_eqVcpuS_ww_0 N) (noIt)
theorem IT_laws_eqVcpuS_ww_0_ok (N : Nat) : ItOk (IT_laws_eqVcpuS_ww_0 N) 2 27 sl_laws_eqVcpuS_ww (lsB Go.Proofs.Try.f33 [0]) :=
  addItB_ok (inner := []) ok (O_laws_eqVcpuS_ww_ok N) (jn_ok _ _) (noIt_ok) rfl (by kernel_rfl) rfl fun vs H KL r h => by
    unfold i_laws_eqVcpuS_ww_0 at h
    split at h
    · exact ⟨_, (le_laws_eqVcpuS_ww_0 N _ _ _ _ KL N _).trans h⟩
    · cases h
def g_laws_eqVcpuS_ww (N : Nat) {R : Type} (b : Bool) (b1 : Bool) (l : List Go.Sa.Vcpu) (l1 : List Go.Sa.Vcpu) (k : Bool → Option R) : Option R :=
  (cond ((((List.length l) : Nat) : Int) != (((List.length l1) : Nat) : Int))
  (k Bool.false)
  (c_laws_eqVcpuS_ww_0 N b b1 l l1 (0 : Int) (
    (k Bool.false)) (
    (k Bool.true))))
theorem e_laws_eqVcpuS_ww (N : Nat) {R : Type} (b : Bool) (b1 : Bool) (l : List Go.Sa.Vcpu) (l1 : List Go.Sa.Vcpu) (K : AV → Hp E → Option R) :
    runFnI (E := E) (O_laws_eqVcpuS_ww N) (IT_laws_eqVcpuS_ww_0 N) sl_laws_eqVcpuS_ww J_laws_eqVcpuS_ww Go.Proofs.Try.f33 [(Go.Eng.AV.sc (Go.Eng.SV.slc 0 Option.none b)), (Go.Eng.AV.sc (Go.Eng.SV.slc 1 Option.none b1))] [(Option.some (Go.Eng.HE.mk Bool.false (Go.Eng.HB.rows (Go.Sa.B.iVcpu l)))), (Option.some (Go.Eng.HE.mk Bool.false (Go.Eng.HB.rows (Go.Sa.B.iVcpu l1))))] K =
      g_laws_eqVcpuS_ww N b b1 l l1 (fun b5 => K (Go.Eng.AV.sc (Go.Eng.SV.bool b5)) [(Option.some (Go.Eng.HE.mk Bool.false (Go.Eng.HB.rows (Go.Sa.B.iVcpu l)))), (Option.some (Go.Eng.HE.mk Bool.false (Go.Eng.HB.rows (Go.Sa.B.iVcpu l1))))]) := by kernel_rfl
def o_laws_eqVcpuS_ww (N : Nat) {R : Type} (args : List AV) (H : Hp E) (K : AV → Hp E → Option R) : Option R :=
  match args, H with
  | [(Go.Eng.AV.sc (Go.Eng.SV.slc 0 Option.none b)), (Go.Eng.AV.sc (Go.Eng.SV.slc 1 Option.none b1))], [(Option.some (Go.Eng.HE.mk Bool.false (Go.Eng.HB.rows (Go.Sa.B.iVcpu l)))), (Option.some (Go.Eng.HE.mk Bool.false (Go.Eng.HB.rows (Go.Sa.B.iVcpu l1))))] => g_laws_eqVcpuS_ww N b b1 l l1 (fun b5 => K (Go.Eng.AV.sc (Go.Eng.SV.bool b5)) [(Option.some (Go.Eng.HE.mk Bool.false (Go.Eng.HB.rows (Go.Sa.B.iVcpu l)))), (Option.some (Go.Eng.HE.mk Bool.false (Go.Eng.HB.rows (Go.Sa.B.iVcpu l1))))])
  | _, _ => none
theorem o_laws_eqVcpuS_ww_ok (N : Nat) : FnOk E 33 (o_laws_eqVcpuS_ww N) := by
  intro R args H K r h
  unfold o_laws_eqVcpuS_ww at h
  dsimp only at h
  split at h
  · exact fnB_ok (ids := [0]) (top := [0]) ok (O_laws_eqVcpuS_ww_ok N) (jn_ok _ _) Go.Proofs.Try.func33 (by kernel_rfl) (IT := IT_laws_eqVcpuS_ww_0 N) (sl := sl_laws_eqVcpuS_ww) (J := J_laws_eqVcpuS_ww) (K := K) (H := [(Option.some (Go.Eng.HE.mk Bool.false (Go.Eng.HB.rows (Go.Sa.B.iVcpu _)))), (Option.some (Go.Eng.HE.mk Bool.false (Go.Eng.HB.rows (Go.Sa.B.iVcpu _))))]) (IT_laws_eqVcpuS_ww_0_ok N) (by kernel_rfl) rfl ((e_laws_eqVcpuS_ww N _ _ _ _ K).trans h)
  · cases h
/-! ### loop.example/g00038/laws.FnExactVcpusFault -/
abbrev sl_laws_FnExactVcpusFault_r : SlotT := []
abbrev J_laws_FnExactVcpusFault_r : JT := jn [] []
noncomputable def O_laws_FnExactVcpusFault_r (N : Nat) : Orc E := addFn 33 (o_laws_eqVcpuS_ww N) (addFn 32 (o_impl_VcpusFault_w N) (addFn 30 (o_spec_VcpusFault_w N) (addFn 31 (o_laws_toVcpuS_r N) (addFn 29 (o_laws_szVcpuS_r N) (noFn)))))
theorem O_laws_FnExactVcpusFault_r_ok (N : Nat) : OrcOk (O_laws_FnExactVcpusFault_r N) := addFn_ok (o_laws_eqVcpuS_ww_ok N) (addFn_ok (o_impl_VcpusFault_w_ok N) (addFn_ok (o_spec_VcpusFault_w_ok N) (addFn_ok (o_laws_toVcpuS_r_ok N) (addFn_ok (o_laws_szVcpuS_r_ok N) (noFn_ok)))))
def g_laws_FnExactVcpusFault_r (N : Nat) {R : Type} (b : Bool) (n : Int) (l : List Go.Sa.Vcpu) (k : Bool → Option R) : Option R :=
  (g_laws_szVcpuS_r N b (1048576 : Int) l fun n1 =>
  (cond (decide ((n1 < (0 : Int))))
  (k Bool.true)
  (g_laws_toVcpuS_r N b l fun l1 =>
    (g_spec_VcpusFault_w N Bool.false n l1 fun n2 =>
    (g_laws_toVcpuS_r N b l fun l2 =>
    (g_impl_VcpusFault_w N Bool.false n l2 fun n3 =>
    (cond (n3 != n2)
    (k Bool.false)
    (g_laws_toVcpuS_r N b l fun l3 =>
      (g_laws_eqVcpuS_ww N Bool.false Bool.false l2 l3 fun b1 =>
      (cond (!b1)
      (k Bool.false)
      (k Bool.true)))))))))))
theorem e_laws_FnExactVcpusFault_r (N : Nat) {R : Type} (b : Bool) (n : Int) (l : List Go.Sa.Vcpu) (K : AV → Hp E → Option R) :
    runFnI (E := E) (O_laws_FnExactVcpusFault_r N) (noIt) sl_laws_FnExactVcpusFault_r J_laws_FnExactVcpusFault_r Go.Proofs.Try.f6 [(Go.Eng.AV.sc (Go.Eng.SV.slc 0 Option.none b)), (Go.Eng.AV.sc (Go.Eng.SV.int Go.IntKind.i64 n))] [(Option.some (Go.Eng.HE.mk Bool.true (Go.Eng.HB.rows (Go.Sa.B.lVcpu l))))] K =
      g_laws_FnExactVcpusFault_r N b n l (fun b2 => K (Go.Eng.AV.sc (Go.Eng.SV.bool b2)) [(Option.some (Go.Eng.HE.mk Bool.true (Go.Eng.HB.rows (Go.Sa.B.lVcpu l))))]) := by kernel_rfl
def o_laws_FnExactVcpusFault_r (N : Nat) {R : Type} (args : List AV) (H : Hp E) (K : AV → Hp E → Option R) : Option R :=
  match args, H with
  | [(Go.Eng.AV.sc (Go.Eng.SV.slc 0 Option.none b)), (Go.Eng.AV.sc (Go.Eng.SV.int Go.IntKind.i64 n))], [(Option.some (Go.Eng.HE.mk Bool.true (Go.Eng.HB.rows (Go.Sa.B.lVcpu l))))] => g_laws_FnExactVcpusFault_r N b n l (fun b2 => K (Go.Eng.AV.sc (Go.Eng.SV.bool b2)) [(Option.some (Go.Eng.HE.mk Bool.true (Go.Eng.HB.rows (Go.Sa.B.lVcpu l))))])
  | _, _ => none
theorem o_laws_FnExactVcpusFault_r_ok (N : Nat) : FnOk E 6 (o_laws_FnExactVcpusFault_r N) := by
  intro R args H K r h
  unfold o_laws_FnExactVcpusFault_r at h
  dsimp only at h
  split at h
  · exact fnB_ok (ids := []) (top := []) ok (O_laws_FnExactVcpusFault_r_ok N) (jn_ok _ _) Go.Proofs.Try.func6 (by kernel_rfl) (IT := noIt) (sl := sl_laws_FnExactVcpusFault_r) (J := J_laws_FnExactVcpusFault_r) (K := K) (H := [(Option.some (Go.Eng.HE.mk Bool.true (Go.Eng.HB.rows (Go.Sa.B.lVcpu _))))]) (noIt_ok) (by kernel_rfl) rfl ((e_laws_FnExactVcpusFault_r N _ _ _ K).trans h)
  · cases h
end Go.Sa
