import Derived.Test.YtaffhdhamfilpaaSpec
import Derived.Test.YtaffhdhamfilpaaPLb
import Derived.Test.YtaffhdhamfilpaaW1
set_option linter.all false
namespace Go.Sa
open Go Go.Eng Go.Proofs
set_option maxRecDepth 100000
set_option maxHeartbeats 4000000
/-! ### loop.example/g00038/spec.l01Ints -/
abbrev sl_spec_l01Ints_w : SlotT := []
abbrev J_spec_l01Ints_w : JT := jn [] [] []
noncomputable def O_spec_l01Ints_w (N : Nat) : Orc E := noFn
theorem O_spec_l01Ints_w_ok (N : Nat) : OrcOk (O_spec_l01Ints_w N) := noFn_ok
noncomputable def g_spec_l01Ints_w (N : Nat) {R : Type} (b : Bool) (l : List Int) (k : Bool → (List Int) → Option R) : Option R :=
  (cond (Go.Eng.roomOk (0 + (List.length l)) 8)
  (k (cond (Nat.beq (List.length l) 0) false false) ([] ++ l))
  none)
theorem e_spec_l01Ints_w (N : Nat) {R : Type} (b : Bool) (l : List Int) (K : AV → Hp E → Option R) :
    runFnI (E := E) (O_spec_l01Ints_w N) (noIt) sl_spec_l01Ints_w J_spec_l01Ints_w Go.Proofs.Try.f87 [(AV.sc (SV.slc 0 none b))] [(some (HE.mk false (HB.rows (B.i64 l))))] K =
      g_spec_l01Ints_w N b l (fun b1 l1 => K (AV.sc (SV.slc 1 none b1)) [(some (HE.mk false (HB.rows (B.i64 l)))), (some (HE.mk false (HB.rows (B.i64 l1))))]) := by kernel_rfl
noncomputable def o_spec_l01Ints_w (N : Nat) {R : Type} (args : List AV) (H : Hp E) (K : AV → Hp E → Option R) : Option R :=
  match args, H with
  | [(AV.sc (SV.slc 0 none b))], [(some (HE.mk false (HB.rows (B.i64 l))))] => g_spec_l01Ints_w N b l (fun b1 l1 => K (AV.sc (SV.slc 1 none b1)) [(some (HE.mk false (HB.rows (B.i64 l)))), (some (HE.mk false (HB.rows (B.i64 l1))))])
  | _, _ => none
theorem o_spec_l01Ints_w_ok (N : Nat) : FnOk E 87 (o_spec_l01Ints_w N) := by
  intro R args H K r h
  unfold o_spec_l01Ints_w at h
  dsimp only at h
  split at h
  · exact fnB_ok (ids := []) (top := []) ok (O_spec_l01Ints_w_ok N) (jn_ok _ _ _) Go.Proofs.Try.func87 (by kernel_rfl) (IT := noIt) (sl := sl_spec_l01Ints_w) (J := J_spec_l01Ints_w) (K := K) (H := [(some (HE.mk false (HB.rows (B.i64 _))))]) (noIt_ok) (by kernel_rfl) rfl ((e_spec_l01Ints_w N _ _ K).trans h)
  · cases h
/-! ### loop.example/g00038/spec.Measure -/
abbrev sl_spec_Measure_ww : SlotT := [(0, ([1, 5, 6], [4, 5]))]
abbrev J_spec_Measure_ww : JT := jn [(1, [(15, .b)]), (8, [(46, .b)])] [] []
noncomputable def O_spec_Measure_ww (N : Nat) : Orc E := addFn 32 (o_spec_Mix N) (addFn 31 (o_spec_PutWord N) (addFn 87 (o_spec_l01Ints_w N) (addFn 86 (o_spec_l15Regs_r N) (noFn))))
noncomputable def pa_spec_Measure_ww__o_spec_Mix (N : Nat) (G_spec_Mix : ∀ {R : Type} (s : ByteArray) (n : Int) (k : Int → Option R), Option R) {R : Type} (args : List AV) (H : Hp E) (K : AV → Hp E → Option R) : Option R :=
  match args, H with
  | [(AV.sc (SV.str s)), (AV.sc (SV.int IntKind.i64 n))], [] => G_spec_Mix s n (fun n5 => K (AV.sc (SV.int IntKind.i64 n5)) [])
  | _, _ => none
noncomputable def pa_spec_Measure_ww__o_spec_PutWord (N : Nat) (G_spec_PutWord : ∀ {R : Type} (n : Int) (k : ByteArray → Option R), Option R) {R : Type} (args : List AV) (H : Hp E) (K : AV → Hp E → Option R) : Option R :=
  match args, H with
  | [(AV.sc (SV.int IntKind.i64 n))], [] => G_spec_PutWord n (fun s => K (AV.sc (SV.str s)) [])
  | _, _ => none
noncomputable def pa_spec_Measure_ww__o_spec_l01Ints_w (N : Nat) (G_spec_l01Ints_w : ∀ {R : Type} (b : Bool) (l : List Int) (k : Bool → (List Int) → Option R), Option R) {R : Type} (args : List AV) (H : Hp E) (K : AV → Hp E → Option R) : Option R :=
  match args, H with
  | [(AV.sc (SV.slc 0 none b))], [(some (HE.mk false (HB.rows (B.i64 l))))] => G_spec_l01Ints_w b l (fun b1 l1 => K (AV.sc (SV.slc 1 none b1)) [(some (HE.mk false (HB.rows (B.i64 l)))), (some (HE.mk false (HB.rows (B.i64 l1))))])
  | _, _ => none
noncomputable def pa_spec_Measure_ww__o_spec_l15Regs_r (N : Nat) (G_spec_l15Regs_r : ∀ {R : Type} (b : Bool) (l : List Int) (k : Bool → Option R), Option R) {R : Type} (args : List AV) (H : Hp E) (K : AV → Hp E → Option R) : Option R :=
  match args, H with
  | [(AV.sc (SV.slc 0 none b))], [(some (HE.mk true (HB.rows (B.i64 l))))] => G_spec_l15Regs_r b l (fun b2 => K (AV.sc (SV.bool b2)) [(some (HE.mk true (HB.rows (B.i64 l))))])
  | _, _ => none
noncomputable def OA_spec_Measure_ww (N : Nat) (G_spec_Mix : ∀ {R : Type} (s : ByteArray) (n : Int) (k : Int → Option R), Option R) (G_spec_PutWord : ∀ {R : Type} (n : Int) (k : ByteArray → Option R), Option R) (G_spec_l01Ints_w : ∀ {R : Type} (b : Bool) (l : List Int) (k : Bool → (List Int) → Option R), Option R) (G_spec_l15Regs_r : ∀ {R : Type} (b : Bool) (l : List Int) (k : Bool → Option R), Option R) : Orc E := addFn 32 (pa_spec_Measure_ww__o_spec_Mix N G_spec_Mix) (addFn 31 (pa_spec_Measure_ww__o_spec_PutWord N G_spec_PutWord) (addFn 87 (pa_spec_Measure_ww__o_spec_l01Ints_w N G_spec_l01Ints_w) (addFn 86 (pa_spec_Measure_ww__o_spec_l15Regs_r N G_spec_l15Regs_r) (noFn))))
theorem O_spec_Measure_ww_ok (N : Nat) : OrcOk (O_spec_Measure_ww N) := addFn_ok (o_spec_Mix_ok N) (addFn_ok (o_spec_PutWord_ok N) (addFn_ok (o_spec_l01Ints_w_ok N) (addFn_ok (o_spec_l15Regs_r_ok N) (noFn_ok))))
noncomputable def s_spec_Measure_ww_0 (N : Nat) {R : Type} (b4 : Bool) (b5 : Bool) (l3 : List Int) (l4 : List Stage) (n : Int) (l5 : List Int) (ag : Int → (List Int) → Option R)  (kR : (List Int) → Option R) (kN : (List Int) → Option R) : Option R :=
  (cond (decide ((n < (((List.length l4) : Nat) : Int))))
  (cond ((decide (((0 : Int) ≤ n))) && (decide ((n < (((List.length l4) : Nat) : Int)))))
    (elemK l4 (Int.toNat n) fun x =>
      (oK (cond (decide (((Stage.fReg x) < (0 : Int))))
        (some true)
        (cond (decide (((Stage.fReg x) ≥ (((List.length l5) : Nat) : Int))))
          (some true)
          (cond ((decide (((0 : Int) ≤ n))) && (decide ((n < (((List.length l4) : Nat) : Int)))))
            (elemK l4 (Int.toNat n) fun x1 =>
              (some (decide (((((ByteArray.size (Stage.fText x1)) : Nat) : Int) > (4096 : Int))))))
            none))) fun j1 =>
      (cond j1
      (kR l5)
      (cond ((decide (((0 : Int) ≤ (Stage.fReg x)))) && (decide (((Stage.fReg x) < (((List.length l5) : Nat) : Int)))))
        (elemK l5 (Int.toNat (Stage.fReg x)) fun x2 =>
          (g_spec_PutWord N x2 fun s =>
          (cond ((decide (((0 : Int) ≤ n))) && (decide ((n < (((List.length l4) : Nat) : Int)))))
          (elemK l4 (Int.toNat n) fun x3 =>
            (cond (Nat.ble ((ByteArray.size s) + (ByteArray.size (Stage.fText x3))) 9223372036854775807)
            (g_spec_Mix N (s ++ (Stage.fText x3)) (31 : Int) fun n1 =>
              (cond ((decide (((0 : Int) ≤ (Stage.fReg x)))) && (decide (((Stage.fReg x) < (((List.length l5) : Nat) : Int)))))
              (elemK l5 (Int.toNat (Stage.fReg x)) fun x4 =>
                (cond (Nat.blt (Int.toNat (Stage.fReg x)) (List.length l5))
                (ag (IntKind.wrap IntKind.i64 (n + (1 : Int))) (nset l5 (Int.toNat (Stage.fReg x)) n1))
                none))
              none))
            none))
          none)))
        none))))
    none)
  (kN l5))
noncomputable def ga_s_spec_Measure_ww_0 (N : Nat) (G_spec_Mix : ∀ {R : Type} (s : ByteArray) (n : Int) (k : Int → Option R), Option R) (G_spec_PutWord : ∀ {R : Type} (n : Int) (k : ByteArray → Option R), Option R) (G_spec_l01Ints_w : ∀ {R : Type} (b : Bool) (l : List Int) (k : Bool → (List Int) → Option R), Option R) (G_spec_l15Regs_r : ∀ {R : Type} (b : Bool) (l : List Int) (k : Bool → Option R), Option R) {R : Type} (b4 : Bool) (b5 : Bool) (l3 : List Int) (l4 : List Stage) (n : Int) (l5 : List Int) (ag : Int → (List Int) → Option R)  (kR : (List Int) → Option R) (kN : (List Int) → Option R) : Option R :=
  (cond (decide ((n < (((List.length l4) : Nat) : Int))))
  (cond ((decide (((0 : Int) ≤ n))) && (decide ((n < (((List.length l4) : Nat) : Int)))))
    (elemK l4 (Int.toNat n) fun x =>
      (oK (cond (decide (((Stage.fReg x) < (0 : Int))))
        (some true)
        (cond (decide (((Stage.fReg x) ≥ (((List.length l5) : Nat) : Int))))
          (some true)
          (cond ((decide (((0 : Int) ≤ n))) && (decide ((n < (((List.length l4) : Nat) : Int)))))
            (elemK l4 (Int.toNat n) fun x1 =>
              (some (decide (((((ByteArray.size (Stage.fText x1)) : Nat) : Int) > (4096 : Int))))))
            none))) fun j1 =>
      (cond j1
      (kR l5)
      (cond ((decide (((0 : Int) ≤ (Stage.fReg x)))) && (decide (((Stage.fReg x) < (((List.length l5) : Nat) : Int)))))
        (elemK l5 (Int.toNat (Stage.fReg x)) fun x2 =>
          (G_spec_PutWord x2 fun s =>
          (cond ((decide (((0 : Int) ≤ n))) && (decide ((n < (((List.length l4) : Nat) : Int)))))
          (elemK l4 (Int.toNat n) fun x3 =>
            (cond (Nat.ble ((ByteArray.size s) + (ByteArray.size (Stage.fText x3))) 9223372036854775807)
            (G_spec_Mix (s ++ (Stage.fText x3)) (31 : Int) fun n1 =>
              (cond ((decide (((0 : Int) ≤ (Stage.fReg x)))) && (decide (((Stage.fReg x) < (((List.length l5) : Nat) : Int)))))
              (elemK l5 (Int.toNat (Stage.fReg x)) fun x4 =>
                (cond (Nat.blt (Int.toNat (Stage.fReg x)) (List.length l5))
                (ag (IntKind.wrap IntKind.i64 (n + (1 : Int))) (nset l5 (Int.toNat (Stage.fReg x)) n1))
                none))
              none))
            none))
          none)))
        none))))
    none)
  (kN l5))
noncomputable def l_spec_Measure_ww_0 (N : Nat) {R : Type} (b4 : Bool) (b5 : Bool) (l3 : List Int) (l4 : List Stage) (kR : (List Int) → Option R) (kN : (List Int) → Option R) : Nat → Int → (List Int) → Option R
  | 0, _, _ => none
  | f + 1, n, l5 => s_spec_Measure_ww_0 N b4 b5 l3 l4 n l5 (fun n l5 => l_spec_Measure_ww_0 N b4 b5 l3 l4 kR kN f n l5)  kR kN
noncomputable def c_spec_Measure_ww_0 (N : Nat) {R : Type} (b4 : Bool) (b5 : Bool) (l3 : List Int) (l4 : List Stage) (n : Int) (l5 : List Int) (kR : (List Int) → Option R) (kN : (List Int) → Option R) : Option R := l_spec_Measure_ww_0 N b4 b5 l3 l4 kR kN N n l5
theorem ea_se_spec_Measure_ww_0 (N : Nat) (G_spec_Mix : ∀ {R : Type} (s : ByteArray) (n : Int) (k : Int → Option R), Option R) (G_spec_PutWord : ∀ {R : Type} (n : Int) (k : ByteArray → Option R), Option R) (G_spec_l01Ints_w : ∀ {R : Type} (b : Bool) (l : List Int) (k : Bool → (List Int) → Option R), Option R) (G_spec_l15Regs_r : ∀ {R : Type} (b : Bool) (l : List Int) (k : Bool → Option R), Option R) {R : Type} (b4 : Bool) (b5 : Bool) (l3 : List Int) (l4 : List Stage) (n : Int) (l5 : List Int) (AG : List (Option AV) → Hp E → Option R) (KL : Ex → List (Option AV) → Hp E → Option R) :
    iterStep (E := E) (OA_spec_Measure_ww N G_spec_Mix G_spec_PutWord G_spec_l01Ints_w G_spec_l15Regs_r) (fun {R} => LI (noIt) 2 64 sl_spec_Measure_ww (R := R)) J_spec_Measure_ww 2 64 0 [1, 5, 6] [4, 5] (body Go.Proofs.Try.f57 0) AG KL [(some (AV.sc (SV.slc 1 none b4))), (some (AV.sc (SV.slc 2 none b5))), (some (AV.sc (SV.int IntKind.i64 n)))] [(some (HE.mk false (HB.rows (B.i64 l3)))), (some (HE.mk false (HB.rows (B.iStage l4)))), (some (HE.mk false (HB.rows (B.i64 l5))))] =
      ga_s_spec_Measure_ww_0 N G_spec_Mix G_spec_PutWord G_spec_l01Ints_w G_spec_l15Regs_r b4 b5 l3 l4 n l5 (fun n l5 => AG [(some (AV.sc (SV.slc 1 none b4))), (some (AV.sc (SV.slc 2 none b5))), (some (AV.sc (SV.int IntKind.i64 n)))] [(some (HE.mk false (HB.rows (B.i64 l3)))), (some (HE.mk false (HB.rows (B.iStage l4)))), (some (HE.mk false (HB.rows (B.i64 l5))))])  (fun l9 => KL Ex.ret [(some (AV.sc (SV.slc 2 none false))), (some (AV.sc (SV.slc 3 none b5)))] [(some (HE.mk false (HB.rows (B.i64 l3)))), (some (HE.mk false (HB.rows (B.iStage l4)))), (some (HE.mk false (HB.rows (B.i64 [])))), (some (HE.mk false (HB.rows (B.i64 l9))))]) (fun l10 => KL Ex.normal [none, (some (AV.sc (SV.slc 2 none b5)))] [(some (HE.mk false (HB.rows (B.i64 l3)))), (some (HE.mk false (HB.rows (B.iStage l4)))), (some (HE.mk false (HB.rows (B.i64 l10))))]) := by kernel_rfl
theorem se_spec_Measure_ww_0 (N : Nat) {R : Type} (b4 : Bool) (b5 : Bool) (l3 : List Int) (l4 : List Stage) (n : Int) (l5 : List Int) (AG : List (Option AV) → Hp E → Option R) (KL : Ex → List (Option AV) → Hp E → Option R) :
    iterStep (E := E) (O_spec_Measure_ww N) (fun {R} => LI (noIt) 2 64 sl_spec_Measure_ww (R := R)) J_spec_Measure_ww 2 64 0 [1, 5, 6] [4, 5] (body Go.Proofs.Try.f57 0) AG KL [(some (AV.sc (SV.slc 1 none b4))), (some (AV.sc (SV.slc 2 none b5))), (some (AV.sc (SV.int IntKind.i64 n)))] [(some (HE.mk false (HB.rows (B.i64 l3)))), (some (HE.mk false (HB.rows (B.iStage l4)))), (some (HE.mk false (HB.rows (B.i64 l5))))] =
      s_spec_Measure_ww_0 N b4 b5 l3 l4 n l5 (fun n l5 => AG [(some (AV.sc (SV.slc 1 none b4))), (some (AV.sc (SV.slc 2 none b5))), (some (AV.sc (SV.int IntKind.i64 n)))] [(some (HE.mk false (HB.rows (B.i64 l3)))), (some (HE.mk false (HB.rows (B.iStage l4)))), (some (HE.mk false (HB.rows (B.i64 l5))))])  (fun l9 => KL Ex.ret [(some (AV.sc (SV.slc 2 none false))), (some (AV.sc (SV.slc 3 none b5)))] [(some (HE.mk false (HB.rows (B.i64 l3)))), (some (HE.mk false (HB.rows (B.iStage l4)))), (some (HE.mk false (HB.rows (B.i64 [])))), (some (HE.mk false (HB.rows (B.i64 l9))))]) (fun l10 => KL Ex.normal [none, (some (AV.sc (SV.slc 2 none b5)))] [(some (HE.mk false (HB.rows (B.i64 l3)))), (some (HE.mk false (HB.rows (B.iStage l4)))), (some (HE.mk false (HB.rows (B.i64 l10))))]) := castPr (by kernel_rfl) (ea_se_spec_Measure_ww_0 N (g_spec_Mix N) (g_spec_PutWord N) (g_spec_l01Ints_w N) (g_spec_l15Regs_r N) b4 b5 l3 l4 n l5 AG KL)
theorem le_spec_Measure_ww_0 (N : Nat) {R : Type} (b4 : Bool) (b5 : Bool) (l3 : List Int) (l4 : List Stage) (KL : Ex → List (Option AV) → Hp E → Option R) : ∀ (f : Nat), ∀ (n : Int) (l5 : List Int), iterK (E := E) (O_spec_Measure_ww N) (fun {R} => LI (noIt) 2 64 sl_spec_Measure_ww (R := R)) J_spec_Measure_ww 2 64 0 [1, 5, 6] [4, 5] (body Go.Proofs.Try.f57 0) f [(some (AV.sc (SV.slc 1 none b4))), (some (AV.sc (SV.slc 2 none b5))), (some (AV.sc (SV.int IntKind.i64 n)))] [(some (HE.mk false (HB.rows (B.i64 l3)))), (some (HE.mk false (HB.rows (B.iStage l4)))), (some (HE.mk false (HB.rows (B.i64 l5))))] KL = l_spec_Measure_ww_0 N b4 b5 l3 l4 (fun l9 => KL Ex.ret [(some (AV.sc (SV.slc 2 none false))), (some (AV.sc (SV.slc 3 none b5)))] [(some (HE.mk false (HB.rows (B.i64 l3)))), (some (HE.mk false (HB.rows (B.iStage l4)))), (some (HE.mk false (HB.rows (B.i64 [])))), (some (HE.mk false (HB.rows (B.i64 l9))))]) (fun l10 => KL Ex.normal [none, (some (AV.sc (SV.slc 2 none b5)))] [(some (HE.mk false (HB.rows (B.i64 l3)))), (some (HE.mk false (HB.rows (B.iStage l4)))), (some (HE.mk false (HB.rows (B.i64 l10))))]) f n l5 := by
  intro f
  induction f with
  | zero => intros; rfl
  | succ f ih =>
    intro n l5
    rw [iterK_succ, se_spec_Measure_ww_0]
    exact (congrArg (fun z0 => s_spec_Measure_ww_0 N b4 b5 l3 l4 n l5 z0 (fun l9 => KL Ex.ret [(some (AV.sc (SV.slc 2 none false))), (some (AV.sc (SV.slc 3 none b5)))] [(some (HE.mk false (HB.rows (B.i64 l3)))), (some (HE.mk false (HB.rows (B.iStage l4)))), (some (HE.mk false (HB.rows (B.i64 [])))), (some (HE.mk false (HB.rows (B.i64 l9))))]) (fun l10 => KL Ex.normal [none, (some (AV.sc (SV.slc 2 none b5)))] [(some (HE.mk false (HB.rows (B.i64 l3)))), (some (HE.mk false (HB.rows (B.iStage l4)))), (some (HE.mk false (HB.rows (B.i64 l10))))])) (funext fun n => funext fun l5 => ih n l5))
noncomputable def i_spec_Measure_ww_0 (N : Nat) {R : Type} (vs : List (Option AV)) (H : Hp E) (KL : Ex → List (Option AV) → Hp E → Option R) : Option R :=
  match vs, H with
  | [(some (AV.sc (SV.slc 1 none b4))), (some (AV.sc (SV.slc 2 none b5))), (some (AV.sc (SV.int IntKind.i64 n)))], [(some (HE.mk false (HB.rows (B.i64 l3)))), (some (HE.mk false (HB.rows (B.iStage l4)))), (some (HE.mk false (HB.rows (B.i64 l5))))] => c_spec_Measure_ww_0 N b4 b5 l3 l4 n l5 (fun l11 => KL Ex.ret [(some (AV.sc (SV.slc 2 none false))), (some (AV.sc (SV.slc 3 none b5)))] [(some (HE.mk false (HB.rows (B.i64 l3)))), (some (HE.mk false (HB.rows (B.iStage l4)))), (some (HE.mk false (HB.rows (B.i64 [])))), (some (HE.mk false (HB.rows (B.i64 l11))))]) (fun l12 => KL Ex.normal [none, (some (AV.sc (SV.slc 2 none b5)))] [(some (HE.mk false (HB.rows (B.i64 l3)))), (some (HE.mk false (HB.rows (B.iStage l4)))), (some (HE.mk false (HB.rows (B.i64 l12))))])
  | _, _ => none
noncomputable def IT_spec_Measure_ww_0 (N : Nat) : Its E := addIt 0 (i_spec_Measure_ww_0 N) (noIt)
theorem IT_spec_Measure_ww_0_ok (N : Nat) : ItOk (IT_spec_Measure_ww_0 N) 2 64 sl_spec_Measure_ww (lsB Go.Proofs.Try.f57 [0]) :=
  addItB_ok (inner := []) ok (O_spec_Measure_ww_ok N) (jn_ok _ _ _) (noIt_ok) rfl (by kernel_rfl) rfl fun vs H KL r h => by
    unfold i_spec_Measure_ww_0 at h
    split at h
    · exact ⟨_, (le_spec_Measure_ww_0 N _ _ _ _ KL N _ _).trans h⟩
    · cases h
noncomputable def g_spec_Measure_ww (N : Nat) {R : Type} (b : Bool) (b1 : Bool) (l : List Int) (l1 : List Stage) (k : Bool → (List Int) → Option R) : Option R :=
  (oK (g_spec_l15Regs_r N b l fun b2 =>
    (cond (!b2)
    (some true)
    (some (decide (((((List.length l1) : Nat) : Int) > (1000 : Int))))))) fun j =>
  (cond j
  (k false [])
  (g_spec_l01Ints_w N b l fun b3 l2 =>
    (c_spec_Measure_ww_0 N b1 b3 l l1 (0 : Int) l2 (fun l6 =>
    (k false [])) (fun l7 =>
    (k b3 l7))))))
noncomputable def ga_g_spec_Measure_ww (N : Nat) (G_spec_Mix : ∀ {R : Type} (s : ByteArray) (n : Int) (k : Int → Option R), Option R) (G_spec_PutWord : ∀ {R : Type} (n : Int) (k : ByteArray → Option R), Option R) (G_spec_l01Ints_w : ∀ {R : Type} (b : Bool) (l : List Int) (k : Bool → (List Int) → Option R), Option R) (G_spec_l15Regs_r : ∀ {R : Type} (b : Bool) (l : List Int) (k : Bool → Option R), Option R) {R : Type} (b : Bool) (b1 : Bool) (l : List Int) (l1 : List Stage) (k : Bool → (List Int) → Option R) : Option R :=
  (oK (G_spec_l15Regs_r b l fun b2 =>
    (cond (!b2)
    (some true)
    (some (decide (((((List.length l1) : Nat) : Int) > (1000 : Int))))))) fun j =>
  (cond j
  (k false [])
  (G_spec_l01Ints_w b l fun b3 l2 =>
    (c_spec_Measure_ww_0 N b1 b3 l l1 (0 : Int) l2 (fun l6 =>
    (k false [])) (fun l7 =>
    (k b3 l7))))))
theorem ea_e_spec_Measure_ww (N : Nat) (G_spec_Mix : ∀ {R : Type} (s : ByteArray) (n : Int) (k : Int → Option R), Option R) (G_spec_PutWord : ∀ {R : Type} (n : Int) (k : ByteArray → Option R), Option R) (G_spec_l01Ints_w : ∀ {R : Type} (b : Bool) (l : List Int) (k : Bool → (List Int) → Option R), Option R) (G_spec_l15Regs_r : ∀ {R : Type} (b : Bool) (l : List Int) (k : Bool → Option R), Option R) {R : Type} (b : Bool) (b1 : Bool) (l : List Int) (l1 : List Stage) (K : AV → Hp E → Option R) :
    runFnI (E := E) (OA_spec_Measure_ww N G_spec_Mix G_spec_PutWord G_spec_l01Ints_w G_spec_l15Regs_r) (IT_spec_Measure_ww_0 N) sl_spec_Measure_ww J_spec_Measure_ww Go.Proofs.Try.f57 [(AV.sc (SV.slc 0 none b)), (AV.sc (SV.slc 1 none b1))] [(some (HE.mk false (HB.rows (B.i64 l)))), (some (HE.mk false (HB.rows (B.iStage l1))))] K =
      ga_g_spec_Measure_ww N G_spec_Mix G_spec_PutWord G_spec_l01Ints_w G_spec_l15Regs_r b b1 l l1 (fun b6 l8 => K (AV.sc (SV.slc 2 none b6)) [(some (HE.mk false (HB.rows (B.i64 l)))), (some (HE.mk false (HB.rows (B.iStage l1)))), (some (HE.mk false (HB.rows (B.i64 l8))))]) := by kernel_rfl
theorem e_spec_Measure_ww (N : Nat) {R : Type} (b : Bool) (b1 : Bool) (l : List Int) (l1 : List Stage) (K : AV → Hp E → Option R) :
    runFnI (E := E) (O_spec_Measure_ww N) (IT_spec_Measure_ww_0 N) sl_spec_Measure_ww J_spec_Measure_ww Go.Proofs.Try.f57 [(AV.sc (SV.slc 0 none b)), (AV.sc (SV.slc 1 none b1))] [(some (HE.mk false (HB.rows (B.i64 l)))), (some (HE.mk false (HB.rows (B.iStage l1))))] K =
      g_spec_Measure_ww N b b1 l l1 (fun b6 l8 => K (AV.sc (SV.slc 2 none b6)) [(some (HE.mk false (HB.rows (B.i64 l)))), (some (HE.mk false (HB.rows (B.iStage l1)))), (some (HE.mk false (HB.rows (B.i64 l8))))]) := castPr (by kernel_rfl) (ea_e_spec_Measure_ww N (g_spec_Mix N) (g_spec_PutWord N) (g_spec_l01Ints_w N) (g_spec_l15Regs_r N) b b1 l l1 K)
noncomputable def o_spec_Measure_ww (N : Nat) {R : Type} (args : List AV) (H : Hp E) (K : AV → Hp E → Option R) : Option R :=
  match args, H with
  | [(AV.sc (SV.slc 0 none b)), (AV.sc (SV.slc 1 none b1))], [(some (HE.mk false (HB.rows (B.i64 l)))), (some (HE.mk false (HB.rows (B.iStage l1))))] => g_spec_Measure_ww N b b1 l l1 (fun b6 l8 => K (AV.sc (SV.slc 2 none b6)) [(some (HE.mk false (HB.rows (B.i64 l)))), (some (HE.mk false (HB.rows (B.iStage l1)))), (some (HE.mk false (HB.rows (B.i64 l8))))])
  | _, _ => none
theorem o_spec_Measure_ww_ok (N : Nat) : FnOk E 57 (o_spec_Measure_ww N) := by
  intro R args H K r h
  unfold o_spec_Measure_ww at h
  dsimp only at h
  split at h
  · exact fnB_ok (ids := [0]) (top := [0]) ok (O_spec_Measure_ww_ok N) (jn_ok _ _ _) Go.Proofs.Try.func57 (by kernel_rfl) (IT := IT_spec_Measure_ww_0 N) (sl := sl_spec_Measure_ww) (J := J_spec_Measure_ww) (K := K) (H := [(some (HE.mk false (HB.rows (B.i64 _)))), (some (HE.mk false (HB.rows (B.iStage _))))]) (IT_spec_Measure_ww_0_ok N) (by kernel_rfl) rfl ((e_spec_Measure_ww N _ _ _ _ K).trans h)
  · cases h
/-! ### loop.example/g00038/spec.Boot -/
abbrev sl_spec_Boot_w : SlotT := []
abbrev J_spec_Boot_w : JT := jn [(3, [(23, .b)]), (5, [(32, .b)]), (9, [(55, .b)])] [] [(26, [11])]
noncomputable def O_spec_Boot_w (N : Nat) : Orc E := addFn 57 (o_spec_Measure_ww N) (addFn 29 (o_spec_l06Frame N) (addFn 56 (o_spec_NewMachine N) (addFn 54 (o_spec_PutTables_w N) (addFn 55 (o_spec_TablesOf_w N) (addFn 32 (o_spec_Mix N) (addFn 53 (o_spec_l10In N) (addFn 52 (o_spec_l01Word N) (addFn 51 (o_spec_BoardFault_r N) (noFn)))))))))
noncomputable def pa_spec_Boot_w__o_spec_Measure_ww (N : Nat) (G_spec_Measure_ww : ∀ {R : Type} (b : Bool) (b1 : Bool) (l : List Int) (l1 : List Stage) (k : Bool → (List Int) → Option R), Option R) {R : Type} (args : List AV) (H : Hp E) (K : AV → Hp E → Option R) : Option R :=
  match args, H with
  | [(AV.sc (SV.slc 0 none b)), (AV.sc (SV.slc 1 none b1))], [(some (HE.mk false (HB.rows (B.i64 l)))), (some (HE.mk false (HB.rows (B.iStage l1))))] => G_spec_Measure_ww b b1 l l1 (fun b6 l8 => K (AV.sc (SV.slc 2 none b6)) [(some (HE.mk false (HB.rows (B.i64 l)))), (some (HE.mk false (HB.rows (B.iStage l1)))), (some (HE.mk false (HB.rows (B.i64 l8))))])
  | _, _ => none
noncomputable def pa_spec_Boot_w__o_spec_l06Frame (N : Nat) (G_spec_l06Frame : ∀ {R : Type} (s : ByteArray) (n : Int) (k : ByteArray → Option R), Option R) {R : Type} (args : List AV) (H : Hp E) (K : AV → Hp E → Option R) : Option R :=
  match args, H with
  | [(AV.sc (SV.str s)), (AV.sc (SV.int IntKind.i64 n))], [] => G_spec_l06Frame s n (fun s1 => K (AV.sc (SV.str s1)) [])
  | _, _ => none
noncomputable def pa_spec_Boot_w__o_spec_NewMachine (N : Nat) (G_spec_NewMachine : ∀ {R : Type} (s : ByteArray) (k : Bool → Int → Bool → Bool → ByteArray → (List Int) → (List Int) → (List Int) → Option R), Option R) {R : Type} (args : List AV) (H : Hp E) (K : AV → Hp E → Option R) : Option R :=
  match args, H with
  | [(AV.sc (SV.str s))], [] => G_spec_NewMachine s (fun b n1 b1 b2 s1 l l1 l2 => K (AV.agg [(SV.int IntKind.i64 (0 : Int)), (SV.slc 0 none b), (SV.int IntKind.i64 n1), (SV.slc 1 none b1), (SV.slc 2 none b2), (SV.str s1), (SV.int IntKind.i64 (0 : Int)), (SV.int IntKind.i64 (0 : Int)), (SV.int IntKind.i64 (0 : Int)), (SV.slc 3 none true), (SV.slc 4 none true), (SV.int IntKind.i64 (0 : Int))]) [(some (HE.mk false (HB.rows (B.i64 l)))), (some (HE.mk false (HB.rows (B.i64 l1)))), (some (HE.mk false (HB.rows (B.i64 l2)))), (some (HE.mk false (HB.rows (B.iPortValue [])))), (some (HE.mk false (HB.rows (B.iPortValue []))))])
  | _, _ => none
noncomputable def pa_spec_Boot_w__o_spec_PutTables_w (N : Nat) (G_spec_PutTables_w : ∀ {R : Type} (s : ByteArray) (n : Int) (b : Bool) (l : List FirmTable) (k : ByteArray → Option R), Option R) {R : Type} (args : List AV) (H : Hp E) (K : AV → Hp E → Option R) : Option R :=
  match args, H with
  | [(AV.sc (SV.str s)), (AV.sc (SV.int IntKind.i64 n)), (AV.sc (SV.slc 0 none b))], [(some (HE.mk false (HB.rows (B.iFirmTable l))))] => G_spec_PutTables_w s n b l (fun s12 => K (AV.sc (SV.str s12)) [(some (HE.mk false (HB.rows (B.iFirmTable l))))])
  | _, _ => none
noncomputable def pa_spec_Boot_w__o_spec_TablesOf_w (N : Nat) (G_spec_TablesOf_w : ∀ {R : Type} (n : Int) (n1 : Int) (b : Bool) (l : List Device) (k : (List FirmTable) → Option R), Option R) {R : Type} (args : List AV) (H : Hp E) (K : AV → Hp E → Option R) : Option R :=
  match args, H with
  | [(AV.agg [(SV.int IntKind.i64 n), (SV.int IntKind.i64 n1), (SV.slc 0 none b)])], [(some (HE.mk false (HB.rows (B.iDevice l))))] => G_spec_TablesOf_w n n1 b l (fun l2 => K (AV.sc (SV.slc 1 none false)) [(some (HE.mk false (HB.rows (B.iDevice l)))), (some (HE.mk false (HB.rows (B.iFirmTable l2))))])
  | _, _ => none
noncomputable def pa_spec_Boot_w__o_spec_Mix (N : Nat) (G_spec_Mix : ∀ {R : Type} (s : ByteArray) (n : Int) (k : Int → Option R), Option R) {R : Type} (args : List AV) (H : Hp E) (K : AV → Hp E → Option R) : Option R :=
  match args, H with
  | [(AV.sc (SV.str s)), (AV.sc (SV.int IntKind.i64 n))], [] => G_spec_Mix s n (fun n5 => K (AV.sc (SV.int IntKind.i64 n5)) [])
  | _, _ => none
noncomputable def pa_spec_Boot_w__o_spec_l10In (N : Nat) (G_spec_l10In : ∀ {R : Type} (s : ByteArray) (n : Int) (n1 : Int) (k : Bool → Option R), Option R) {R : Type} (args : List AV) (H : Hp E) (K : AV → Hp E → Option R) : Option R :=
  match args, H with
  | [(AV.sc (SV.str s)), (AV.sc (SV.int IntKind.i64 n)), (AV.sc (SV.int IntKind.i64 n1))], [] => G_spec_l10In s n n1 (fun b => K (AV.sc (SV.bool b)) [])
  | _, _ => none
noncomputable def pa_spec_Boot_w__o_spec_l01Word (N : Nat) (G_spec_l01Word : ∀ {R : Type} (s : ByteArray) (n : Int) (k : Int → Option R), Option R) {R : Type} (args : List AV) (H : Hp E) (K : AV → Hp E → Option R) : Option R :=
  match args, H with
  | [(AV.sc (SV.str s)), (AV.sc (SV.int IntKind.i64 n))], [] => G_spec_l01Word s n (fun n1 => K (AV.sc (SV.int IntKind.i64 n1)) [])
  | _, _ => none
noncomputable def pa_spec_Boot_w__o_spec_BoardFault_r (N : Nat) (G_spec_BoardFault_r : ∀ {R : Type} (n : Int) (n1 : Int) (b : Bool) (l : List Device) (k : Int → Option R), Option R) {R : Type} (args : List AV) (H : Hp E) (K : AV → Hp E → Option R) : Option R :=
  match args, H with
  | [(AV.agg [(SV.int IntKind.i64 n), (SV.int IntKind.i64 n1), (SV.slc 0 none b)])], [(some (HE.mk true (HB.rows (B.iDevice l))))] => G_spec_BoardFault_r n n1 b l (fun n5 => K (AV.sc (SV.int IntKind.i64 n5)) [(some (HE.mk true (HB.rows (B.iDevice l))))])
  | _, _ => none
noncomputable def OA_spec_Boot_w (N : Nat) (G_spec_Measure_ww : ∀ {R : Type} (b : Bool) (b1 : Bool) (l : List Int) (l1 : List Stage) (k : Bool → (List Int) → Option R), Option R) (G_spec_l06Frame : ∀ {R : Type} (s : ByteArray) (n : Int) (k : ByteArray → Option R), Option R) (G_spec_NewMachine : ∀ {R : Type} (s : ByteArray) (k : Bool → Int → Bool → Bool → ByteArray → (List Int) → (List Int) → (List Int) → Option R), Option R) (G_spec_PutTables_w : ∀ {R : Type} (s : ByteArray) (n : Int) (b : Bool) (l : List FirmTable) (k : ByteArray → Option R), Option R) (G_spec_TablesOf_w : ∀ {R : Type} (n : Int) (n1 : Int) (b : Bool) (l : List Device) (k : (List FirmTable) → Option R), Option R) (G_spec_Mix : ∀ {R : Type} (s : ByteArray) (n : Int) (k : Int → Option R), Option R) (G_spec_l10In : ∀ {R : Type} (s : ByteArray) (n : Int) (n1 : Int) (k : Bool → Option R), Option R) (G_spec_l01Word : ∀ {R : Type} (s : ByteArray) (n : Int) (k : Int → Option R), Option R) (G_spec_BoardFault_r : ∀ {R : Type} (n : Int) (n1 : Int) (b : Bool) (l : List Device) (k : Int → Option R), Option R) : Orc E := addFn 57 (pa_spec_Boot_w__o_spec_Measure_ww N G_spec_Measure_ww) (addFn 29 (pa_spec_Boot_w__o_spec_l06Frame N G_spec_l06Frame) (addFn 56 (pa_spec_Boot_w__o_spec_NewMachine N G_spec_NewMachine) (addFn 54 (pa_spec_Boot_w__o_spec_PutTables_w N G_spec_PutTables_w) (addFn 55 (pa_spec_Boot_w__o_spec_TablesOf_w N G_spec_TablesOf_w) (addFn 32 (pa_spec_Boot_w__o_spec_Mix N G_spec_Mix) (addFn 53 (pa_spec_Boot_w__o_spec_l10In N G_spec_l10In) (addFn 52 (pa_spec_Boot_w__o_spec_l01Word N G_spec_l01Word) (addFn 51 (pa_spec_Boot_w__o_spec_BoardFault_r N G_spec_BoardFault_r) (noFn)))))))))
theorem O_spec_Boot_w_ok (N : Nat) : OrcOk (O_spec_Boot_w N) := addFn_ok (o_spec_Measure_ww_ok N) (addFn_ok (o_spec_l06Frame_ok N) (addFn_ok (o_spec_NewMachine_ok N) (addFn_ok (o_spec_PutTables_w_ok N) (addFn_ok (o_spec_TablesOf_w_ok N) (addFn_ok (o_spec_Mix_ok N) (addFn_ok (o_spec_l10In_ok N) (addFn_ok (o_spec_l01Word_ok N) (addFn_ok (o_spec_BoardFault_r_ok N) (noFn_ok)))))))))
noncomputable def g_spec_Boot_w (N : Nat) {R : Type} (s : ByteArray) (n : Int) (n1 : Int) (b : Bool) (l : List Device) (k : Int → Int → Bool → Int → Bool → Bool → ByteArray → Bool → (List Int) → (List Int) → (List Int) → (List Int) → Option R) : Option R :=
  (cond (decide (((((ByteArray.size s) : Nat) : Int) > (65536 : Int))))
  (k (2 : Int) (0 : Int) true (0 : Int) true true (ByteArray.mk (List.toArray [])) true [] [] [] [])
  (oK (g_spec_BoardFault_r N n n1 b l fun n2 =>
      (cond (n2 != (0 : Int))
      (some true)
      (some ((Int.tmod (((ByteArray.size s) : Nat) : Int) (64 : Int)) != (0 : Int))))) fun j =>
    (cond j
    (k (1 : Int) (0 : Int) true (0 : Int) true true (ByteArray.mk (List.toArray [])) true [] [] [] [])
    (oK (cond ((((ByteArray.size s) : Nat) : Int) == (0 : Int))
        (some true)
        (cond (decide (((4 : Int) ≤ (((ByteArray.size s) : Nat) : Int))))
          (some (!(decide (((ByteArray.extract s 0 (Int.toNat (4 : Int))) = (ByteArray.mk (List.toArray [(66 : UInt8), (79 : UInt8), (79 : UInt8), (84 : UInt8)])))))))
          none)) fun j1 =>
      (cond j1
      (k (3 : Int) (0 : Int) true (0 : Int) true true (ByteArray.mk (List.toArray [])) true [] [] [] [])
      (g_spec_l01Word N s (4 : Int) fun n3 =>
        (g_spec_l01Word N s (12 : Int) fun n4 =>
        (oK (cond ((Int.tmod n3 (4 : Int)) != (0 : Int))
          (some true)
          (cond (decide ((n4 < (1 : Int))))
            (some true)
            (cond (decide ((n4 > (1000 : Int))))
              (some true)
              (g_spec_l10In N s (64 : Int) (IntKind.wrap IntKind.i64 ((4 : Int) * n4)) fun b1 =>
                (some (!b1)))))) fun j2 =>
        (cond j2
        (k (3 : Int) (0 : Int) true (0 : Int) true true (ByteArray.mk (List.toArray [])) true [] [] [] [])
        (cond ((decide (((64 : Int) ≤ (IntKind.wrap IntKind.i64 ((64 : Int) + (IntKind.wrap IntKind.i64 ((4 : Int) * n4))))))) && (decide (((IntKind.wrap IntKind.i64 ((64 : Int) + (IntKind.wrap IntKind.i64 ((4 : Int) * n4)))) ≤ (((ByteArray.size s) : Nat) : Int)))))
          (g_spec_Mix N (ByteArray.extract s 64 (Int.toNat (IntKind.wrap IntKind.i64 ((64 : Int) + (IntKind.wrap IntKind.i64 ((4 : Int) * n4)))))) (71 : Int) fun n5 =>
            (g_spec_l01Word N s (16 : Int) fun n6 =>
            (cond (n5 != n6)
            (k (10 : Int) (0 : Int) true (0 : Int) true true (ByteArray.mk (List.toArray [])) true [] [] [] [])
            (cond (decide (((IntKind.wrap IntKind.i64 (n3 + (IntKind.wrap IntKind.i64 ((4 : Int) * n4)))) > (IntKind.wrap IntKind.i64 ((IntKind.wrap IntKind.i64 (n - (1 : Int))) * (256 : Int))))))
              (k (2 : Int) (0 : Int) true (0 : Int) true true (ByteArray.mk (List.toArray [])) true [] [] [] [])
              (cond (((decide (((IntKind.wrap IntKind.i64 (n * (256 : Int))) = (IntKind.wrap IntKind.i64 (n * (256 : Int)))))) && (decide (((0 : Int) ≤ (IntKind.wrap IntKind.i64 (n * (256 : Int))))))) && (Go.Eng.roomOk (Int.toNat (IntKind.wrap IntKind.i64 (n * (256 : Int)))) 1))
                (cond (Nat.ble (0 + (List.length (List.replicate (Int.toNat (IntKind.wrap IntKind.i64 (n * (256 : Int)))) (0 : Int)))) (List.length (List.replicate (Int.toNat (IntKind.wrap IntKind.i64 (n * (256 : Int)))) (0 : Int))))
                  (cond ((decide (((0 : Int) ≤ n3))) && (decide ((n3 ≤ (((ByteArray.size (Go.Eng.toBytes (Go.Eng.seg (List.replicate (Int.toNat (IntKind.wrap IntKind.i64 (n * (256 : Int)))) (0 : Int)) 0 (List.length (List.replicate (Int.toNat (IntKind.wrap IntKind.i64 (n * (256 : Int)))) (0 : Int)))))) : Nat) : Int)))))
                    (cond (Nat.ble ((ByteArray.size (ByteArray.extract (Go.Eng.toBytes (Go.Eng.seg (List.replicate (Int.toNat (IntKind.wrap IntKind.i64 (n * (256 : Int)))) (0 : Int)) 0 (List.length (List.replicate (Int.toNat (IntKind.wrap IntKind.i64 (n * (256 : Int)))) (0 : Int))))) 0 (Int.toNat n3))) + (ByteArray.size (ByteArray.extract s 64 (Int.toNat (IntKind.wrap IntKind.i64 ((64 : Int) + (IntKind.wrap IntKind.i64 ((4 : Int) * n4)))))))) 9223372036854775807)
                      (cond (((decide (((0 : Int) ≤ (IntKind.wrap IntKind.i64 (n3 + (IntKind.wrap IntKind.i64 ((4 : Int) * n4))))))) && (decide (((IntKind.wrap IntKind.i64 (n3 + (IntKind.wrap IntKind.i64 ((4 : Int) * n4)))) ≤ (((ByteArray.size (Go.Eng.toBytes (Go.Eng.seg (List.replicate (Int.toNat (IntKind.wrap IntKind.i64 (n * (256 : Int)))) (0 : Int)) 0 (List.length (List.replicate (Int.toNat (IntKind.wrap IntKind.i64 (n * (256 : Int)))) (0 : Int)))))) : Nat) : Int))))) && (decide (((((ByteArray.size (Go.Eng.toBytes (Go.Eng.seg (List.replicate (Int.toNat (IntKind.wrap IntKind.i64 (n * (256 : Int)))) (0 : Int)) 0 (List.length (List.replicate (Int.toNat (IntKind.wrap IntKind.i64 (n * (256 : Int)))) (0 : Int)))))) : Nat) : Int) ≤ (((ByteArray.size (Go.Eng.toBytes (Go.Eng.seg (List.replicate (Int.toNat (IntKind.wrap IntKind.i64 (n * (256 : Int)))) (0 : Int)) 0 (List.length (List.replicate (Int.toNat (IntKind.wrap IntKind.i64 (n * (256 : Int)))) (0 : Int)))))) : Nat) : Int)))))
                        (cond (Nat.ble ((ByteArray.size ((ByteArray.extract (Go.Eng.toBytes (Go.Eng.seg (List.replicate (Int.toNat (IntKind.wrap IntKind.i64 (n * (256 : Int)))) (0 : Int)) 0 (List.length (List.replicate (Int.toNat (IntKind.wrap IntKind.i64 (n * (256 : Int)))) (0 : Int))))) 0 (Int.toNat n3)) ++ (ByteArray.extract s 64 (Int.toNat (IntKind.wrap IntKind.i64 ((64 : Int) + (IntKind.wrap IntKind.i64 ((4 : Int) * n4)))))))) + (ByteArray.size (ByteArray.extract (Go.Eng.toBytes (Go.Eng.seg (List.replicate (Int.toNat (IntKind.wrap IntKind.i64 (n * (256 : Int)))) (0 : Int)) 0 (List.length (List.replicate (Int.toNat (IntKind.wrap IntKind.i64 (n * (256 : Int)))) (0 : Int))))) (Int.toNat (IntKind.wrap IntKind.i64 (n3 + (IntKind.wrap IntKind.i64 ((4 : Int) * n4))))) (Int.toNat (((ByteArray.size (Go.Eng.toBytes (Go.Eng.seg (List.replicate (Int.toNat (IntKind.wrap IntKind.i64 (n * (256 : Int)))) (0 : Int)) 0 (List.length (List.replicate (Int.toNat (IntKind.wrap IntKind.i64 (n * (256 : Int)))) (0 : Int)))))) : Nat) : Int))))) 9223372036854775807)
                          (g_spec_TablesOf_w N n n1 b l fun l1 =>
                            (g_spec_PutTables_w N (((ByteArray.extract (Go.Eng.toBytes (Go.Eng.seg (List.replicate (Int.toNat (IntKind.wrap IntKind.i64 (n * (256 : Int)))) (0 : Int)) 0 (List.length (List.replicate (Int.toNat (IntKind.wrap IntKind.i64 (n * (256 : Int)))) (0 : Int))))) 0 (Int.toNat n3)) ++ (ByteArray.extract s 64 (Int.toNat (IntKind.wrap IntKind.i64 ((64 : Int) + (IntKind.wrap IntKind.i64 ((4 : Int) * n4))))))) ++ (ByteArray.extract (Go.Eng.toBytes (Go.Eng.seg (List.replicate (Int.toNat (IntKind.wrap IntKind.i64 (n * (256 : Int)))) (0 : Int)) 0 (List.length (List.replicate (Int.toNat (IntKind.wrap IntKind.i64 (n * (256 : Int)))) (0 : Int))))) (Int.toNat (IntKind.wrap IntKind.i64 (n3 + (IntKind.wrap IntKind.i64 ((4 : Int) * n4))))) (Int.toNat (((ByteArray.size (Go.Eng.toBytes (Go.Eng.seg (List.replicate (Int.toNat (IntKind.wrap IntKind.i64 (n * (256 : Int)))) (0 : Int)) 0 (List.length (List.replicate (Int.toNat (IntKind.wrap IntKind.i64 (n * (256 : Int)))) (0 : Int)))))) : Nat) : Int)))) (IntKind.wrap IntKind.i64 ((IntKind.wrap IntKind.i64 (n - (1 : Int))) * (256 : Int))) false l1 fun s1 =>
                            (cond (decide ((s1 = (ByteArray.mk (List.toArray [])))))
                            (k (2 : Int) (0 : Int) true (0 : Int) true true (ByteArray.mk (List.toArray [])) true [] [] [] [])
                            (g_spec_NewMachine N s1 fun b2 n7 b3 b4 s2 l2 l3 l4 =>
                              (g_spec_l01Word N s (8 : Int) fun n8 =>
                              (cond (decide (((1 : Int) < (((List.length l2) : Nat) : Int))))
                              (elemK l2 1 fun x =>
                                (cond (Nat.blt 1 (List.length l2))
                                (cond (decide (((2 : Int) < (((List.length (nset l2 1 (IntKind.wrap IntKind.i64 ((IntKind.wrap IntKind.i64 (n - (1 : Int))) * (256 : Int))))) : Nat) : Int))))
                                  (elemK (nset l2 1 (IntKind.wrap IntKind.i64 ((IntKind.wrap IntKind.i64 (n - (1 : Int))) * (256 : Int)))) 2 fun x1 =>
                                    (cond (Nat.blt 2 (List.length (nset l2 1 (IntKind.wrap IntKind.i64 ((IntKind.wrap IntKind.i64 (n - (1 : Int))) * (256 : Int))))))
                                    (g_spec_l06Frame N s1 (IntKind.wrap IntKind.i64 (n - (1 : Int))) fun s3 =>
                                      (g_spec_Measure_ww N false false [(0 : Int), (0 : Int)] [(Stage.mk (0 : Int) s3), (Stage.mk (1 : Int) (ByteArray.extract s 64 (Int.toNat (IntKind.wrap IntKind.i64 ((64 : Int) + (IntKind.wrap IntKind.i64 ((4 : Int) * n4)))))))] fun b5 l5 =>
                                      (k (0 : Int) n8 b2 n7 b3 b4 s2 b5 (nset (nset l2 1 (IntKind.wrap IntKind.i64 ((IntKind.wrap IntKind.i64 (n - (1 : Int))) * (256 : Int)))) 2 n4) l3 l4 l5)))
                                    none))
                                  none)
                                none))
                              none))))))
                          none)
                        none)
                      none)
                    none)
                  none)
                none)))))
          none))))))))))
noncomputable def ga_g_spec_Boot_w (N : Nat) (G_spec_Measure_ww : ∀ {R : Type} (b : Bool) (b1 : Bool) (l : List Int) (l1 : List Stage) (k : Bool → (List Int) → Option R), Option R) (G_spec_l06Frame : ∀ {R : Type} (s : ByteArray) (n : Int) (k : ByteArray → Option R), Option R) (G_spec_NewMachine : ∀ {R : Type} (s : ByteArray) (k : Bool → Int → Bool → Bool → ByteArray → (List Int) → (List Int) → (List Int) → Option R), Option R) (G_spec_PutTables_w : ∀ {R : Type} (s : ByteArray) (n : Int) (b : Bool) (l : List FirmTable) (k : ByteArray → Option R), Option R) (G_spec_TablesOf_w : ∀ {R : Type} (n : Int) (n1 : Int) (b : Bool) (l : List Device) (k : (List FirmTable) → Option R), Option R) (G_spec_Mix : ∀ {R : Type} (s : ByteArray) (n : Int) (k : Int → Option R), Option R) (G_spec_l10In : ∀ {R : Type} (s : ByteArray) (n : Int) (n1 : Int) (k : Bool → Option R), Option R) (G_spec_l01Word : ∀ {R : Type} (s : ByteArray) (n : Int) (k : Int → Option R), Option R) (G_spec_BoardFault_r : ∀ {R : Type} (n : Int) (n1 : Int) (b : Bool) (l : List Device) (k : Int → Option R), Option R) {R : Type} (s : ByteArray) (n : Int) (n1 : Int) (b : Bool) (l : List Device) (k : Int → Int → Bool → Int → Bool → Bool → ByteArray → Bool → (List Int) → (List Int) → (List Int) → (List Int) → Option R) : Option R :=
  (cond (decide (((((ByteArray.size s) : Nat) : Int) > (65536 : Int))))
  (k (2 : Int) (0 : Int) true (0 : Int) true true (ByteArray.mk (List.toArray [])) true [] [] [] [])
  (oK (G_spec_BoardFault_r n n1 b l fun n2 =>
      (cond (n2 != (0 : Int))
      (some true)
      (some ((Int.tmod (((ByteArray.size s) : Nat) : Int) (64 : Int)) != (0 : Int))))) fun j =>
    (cond j
    (k (1 : Int) (0 : Int) true (0 : Int) true true (ByteArray.mk (List.toArray [])) true [] [] [] [])
    (oK (cond ((((ByteArray.size s) : Nat) : Int) == (0 : Int))
        (some true)
        (cond (decide (((4 : Int) ≤ (((ByteArray.size s) : Nat) : Int))))
          (some (!(decide (((ByteArray.extract s 0 (Int.toNat (4 : Int))) = (ByteArray.mk (List.toArray [(66 : UInt8), (79 : UInt8), (79 : UInt8), (84 : UInt8)])))))))
          none)) fun j1 =>
      (cond j1
      (k (3 : Int) (0 : Int) true (0 : Int) true true (ByteArray.mk (List.toArray [])) true [] [] [] [])
      (G_spec_l01Word s (4 : Int) fun n3 =>
        (G_spec_l01Word s (12 : Int) fun n4 =>
        (oK (cond ((Int.tmod n3 (4 : Int)) != (0 : Int))
          (some true)
          (cond (decide ((n4 < (1 : Int))))
            (some true)
            (cond (decide ((n4 > (1000 : Int))))
              (some true)
              (G_spec_l10In s (64 : Int) (IntKind.wrap IntKind.i64 ((4 : Int) * n4)) fun b1 =>
                (some (!b1)))))) fun j2 =>
        (cond j2
        (k (3 : Int) (0 : Int) true (0 : Int) true true (ByteArray.mk (List.toArray [])) true [] [] [] [])
        (cond ((decide (((64 : Int) ≤ (IntKind.wrap IntKind.i64 ((64 : Int) + (IntKind.wrap IntKind.i64 ((4 : Int) * n4))))))) && (decide (((IntKind.wrap IntKind.i64 ((64 : Int) + (IntKind.wrap IntKind.i64 ((4 : Int) * n4)))) ≤ (((ByteArray.size s) : Nat) : Int)))))
          (G_spec_Mix (ByteArray.extract s 64 (Int.toNat (IntKind.wrap IntKind.i64 ((64 : Int) + (IntKind.wrap IntKind.i64 ((4 : Int) * n4)))))) (71 : Int) fun n5 =>
            (G_spec_l01Word s (16 : Int) fun n6 =>
            (cond (n5 != n6)
            (k (10 : Int) (0 : Int) true (0 : Int) true true (ByteArray.mk (List.toArray [])) true [] [] [] [])
            (cond (decide (((IntKind.wrap IntKind.i64 (n3 + (IntKind.wrap IntKind.i64 ((4 : Int) * n4)))) > (IntKind.wrap IntKind.i64 ((IntKind.wrap IntKind.i64 (n - (1 : Int))) * (256 : Int))))))
              (k (2 : Int) (0 : Int) true (0 : Int) true true (ByteArray.mk (List.toArray [])) true [] [] [] [])
              (cond (((decide (((IntKind.wrap IntKind.i64 (n * (256 : Int))) = (IntKind.wrap IntKind.i64 (n * (256 : Int)))))) && (decide (((0 : Int) ≤ (IntKind.wrap IntKind.i64 (n * (256 : Int))))))) && (Go.Eng.roomOk (Int.toNat (IntKind.wrap IntKind.i64 (n * (256 : Int)))) 1))
                (cond (Nat.ble (0 + (List.length (List.replicate (Int.toNat (IntKind.wrap IntKind.i64 (n * (256 : Int)))) (0 : Int)))) (List.length (List.replicate (Int.toNat (IntKind.wrap IntKind.i64 (n * (256 : Int)))) (0 : Int))))
                  (cond ((decide (((0 : Int) ≤ n3))) && (decide ((n3 ≤ (((ByteArray.size (Go.Eng.toBytes (Go.Eng.seg (List.replicate (Int.toNat (IntKind.wrap IntKind.i64 (n * (256 : Int)))) (0 : Int)) 0 (List.length (List.replicate (Int.toNat (IntKind.wrap IntKind.i64 (n * (256 : Int)))) (0 : Int)))))) : Nat) : Int)))))
                    (cond (Nat.ble ((ByteArray.size (ByteArray.extract (Go.Eng.toBytes (Go.Eng.seg (List.replicate (Int.toNat (IntKind.wrap IntKind.i64 (n * (256 : Int)))) (0 : Int)) 0 (List.length (List.replicate (Int.toNat (IntKind.wrap IntKind.i64 (n * (256 : Int)))) (0 : Int))))) 0 (Int.toNat n3))) + (ByteArray.size (ByteArray.extract s 64 (Int.toNat (IntKind.wrap IntKind.i64 ((64 : Int) + (IntKind.wrap IntKind.i64 ((4 : Int) * n4)))))))) 9223372036854775807)
                      (cond (((decide (((0 : Int) ≤ (IntKind.wrap IntKind.i64 (n3 + (IntKind.wrap IntKind.i64 ((4 : Int) * n4))))))) && (decide (((IntKind.wrap IntKind.i64 (n3 + (IntKind.wrap IntKind.i64 ((4 : Int) * n4)))) ≤ (((ByteArray.size (Go.Eng.toBytes (Go.Eng.seg (List.replicate (Int.toNat (IntKind.wrap IntKind.i64 (n * (256 : Int)))) (0 : Int)) 0 (List.length (List.replicate (Int.toNat (IntKind.wrap IntKind.i64 (n * (256 : Int)))) (0 : Int)))))) : Nat) : Int))))) && (decide (((((ByteArray.size (Go.Eng.toBytes (Go.Eng.seg (List.replicate (Int.toNat (IntKind.wrap IntKind.i64 (n * (256 : Int)))) (0 : Int)) 0 (List.length (List.replicate (Int.toNat (IntKind.wrap IntKind.i64 (n * (256 : Int)))) (0 : Int)))))) : Nat) : Int) ≤ (((ByteArray.size (Go.Eng.toBytes (Go.Eng.seg (List.replicate (Int.toNat (IntKind.wrap IntKind.i64 (n * (256 : Int)))) (0 : Int)) 0 (List.length (List.replicate (Int.toNat (IntKind.wrap IntKind.i64 (n * (256 : Int)))) (0 : Int)))))) : Nat) : Int)))))
                        (cond (Nat.ble ((ByteArray.size ((ByteArray.extract (Go.Eng.toBytes (Go.Eng.seg (List.replicate (Int.toNat (IntKind.wrap IntKind.i64 (n * (256 : Int)))) (0 : Int)) 0 (List.length (List.replicate (Int.toNat (IntKind.wrap IntKind.i64 (n * (256 : Int)))) (0 : Int))))) 0 (Int.toNat n3)) ++ (ByteArray.extract s 64 (Int.toNat (IntKind.wrap IntKind.i64 ((64 : Int) + (IntKind.wrap IntKind.i64 ((4 : Int) * n4)))))))) + (ByteArray.size (ByteArray.extract (Go.Eng.toBytes (Go.Eng.seg (List.replicate (Int.toNat (IntKind.wrap IntKind.i64 (n * (256 : Int)))) (0 : Int)) 0 (List.length (List.replicate (Int.toNat (IntKind.wrap IntKind.i64 (n * (256 : Int)))) (0 : Int))))) (Int.toNat (IntKind.wrap IntKind.i64 (n3 + (IntKind.wrap IntKind.i64 ((4 : Int) * n4))))) (Int.toNat (((ByteArray.size (Go.Eng.toBytes (Go.Eng.seg (List.replicate (Int.toNat (IntKind.wrap IntKind.i64 (n * (256 : Int)))) (0 : Int)) 0 (List.length (List.replicate (Int.toNat (IntKind.wrap IntKind.i64 (n * (256 : Int)))) (0 : Int)))))) : Nat) : Int))))) 9223372036854775807)
                          (G_spec_TablesOf_w n n1 b l fun l1 =>
                            (G_spec_PutTables_w (((ByteArray.extract (Go.Eng.toBytes (Go.Eng.seg (List.replicate (Int.toNat (IntKind.wrap IntKind.i64 (n * (256 : Int)))) (0 : Int)) 0 (List.length (List.replicate (Int.toNat (IntKind.wrap IntKind.i64 (n * (256 : Int)))) (0 : Int))))) 0 (Int.toNat n3)) ++ (ByteArray.extract s 64 (Int.toNat (IntKind.wrap IntKind.i64 ((64 : Int) + (IntKind.wrap IntKind.i64 ((4 : Int) * n4))))))) ++ (ByteArray.extract (Go.Eng.toBytes (Go.Eng.seg (List.replicate (Int.toNat (IntKind.wrap IntKind.i64 (n * (256 : Int)))) (0 : Int)) 0 (List.length (List.replicate (Int.toNat (IntKind.wrap IntKind.i64 (n * (256 : Int)))) (0 : Int))))) (Int.toNat (IntKind.wrap IntKind.i64 (n3 + (IntKind.wrap IntKind.i64 ((4 : Int) * n4))))) (Int.toNat (((ByteArray.size (Go.Eng.toBytes (Go.Eng.seg (List.replicate (Int.toNat (IntKind.wrap IntKind.i64 (n * (256 : Int)))) (0 : Int)) 0 (List.length (List.replicate (Int.toNat (IntKind.wrap IntKind.i64 (n * (256 : Int)))) (0 : Int)))))) : Nat) : Int)))) (IntKind.wrap IntKind.i64 ((IntKind.wrap IntKind.i64 (n - (1 : Int))) * (256 : Int))) false l1 fun s1 =>
                            (cond (decide ((s1 = (ByteArray.mk (List.toArray [])))))
                            (k (2 : Int) (0 : Int) true (0 : Int) true true (ByteArray.mk (List.toArray [])) true [] [] [] [])
                            (G_spec_NewMachine s1 fun b2 n7 b3 b4 s2 l2 l3 l4 =>
                              (G_spec_l01Word s (8 : Int) fun n8 =>
                              (cond (decide (((1 : Int) < (((List.length l2) : Nat) : Int))))
                              (elemK l2 1 fun x =>
                                (cond (Nat.blt 1 (List.length l2))
                                (cond (decide (((2 : Int) < (((List.length (nset l2 1 (IntKind.wrap IntKind.i64 ((IntKind.wrap IntKind.i64 (n - (1 : Int))) * (256 : Int))))) : Nat) : Int))))
                                  (elemK (nset l2 1 (IntKind.wrap IntKind.i64 ((IntKind.wrap IntKind.i64 (n - (1 : Int))) * (256 : Int)))) 2 fun x1 =>
                                    (cond (Nat.blt 2 (List.length (nset l2 1 (IntKind.wrap IntKind.i64 ((IntKind.wrap IntKind.i64 (n - (1 : Int))) * (256 : Int))))))
                                    (G_spec_l06Frame s1 (IntKind.wrap IntKind.i64 (n - (1 : Int))) fun s3 =>
                                      (G_spec_Measure_ww false false [(0 : Int), (0 : Int)] [(Stage.mk (0 : Int) s3), (Stage.mk (1 : Int) (ByteArray.extract s 64 (Int.toNat (IntKind.wrap IntKind.i64 ((64 : Int) + (IntKind.wrap IntKind.i64 ((4 : Int) * n4)))))))] fun b5 l5 =>
                                      (k (0 : Int) n8 b2 n7 b3 b4 s2 b5 (nset (nset l2 1 (IntKind.wrap IntKind.i64 ((IntKind.wrap IntKind.i64 (n - (1 : Int))) * (256 : Int)))) 2 n4) l3 l4 l5)))
                                    none))
                                  none)
                                none))
                              none))))))
                          none)
                        none)
                      none)
                    none)
                  none)
                none)))))
          none))))))))))
theorem ea_e_spec_Boot_w (N : Nat) (G_spec_Measure_ww : ∀ {R : Type} (b : Bool) (b1 : Bool) (l : List Int) (l1 : List Stage) (k : Bool → (List Int) → Option R), Option R) (G_spec_l06Frame : ∀ {R : Type} (s : ByteArray) (n : Int) (k : ByteArray → Option R), Option R) (G_spec_NewMachine : ∀ {R : Type} (s : ByteArray) (k : Bool → Int → Bool → Bool → ByteArray → (List Int) → (List Int) → (List Int) → Option R), Option R) (G_spec_PutTables_w : ∀ {R : Type} (s : ByteArray) (n : Int) (b : Bool) (l : List FirmTable) (k : ByteArray → Option R), Option R) (G_spec_TablesOf_w : ∀ {R : Type} (n : Int) (n1 : Int) (b : Bool) (l : List Device) (k : (List FirmTable) → Option R), Option R) (G_spec_Mix : ∀ {R : Type} (s : ByteArray) (n : Int) (k : Int → Option R), Option R) (G_spec_l10In : ∀ {R : Type} (s : ByteArray) (n : Int) (n1 : Int) (k : Bool → Option R), Option R) (G_spec_l01Word : ∀ {R : Type} (s : ByteArray) (n : Int) (k : Int → Option R), Option R) (G_spec_BoardFault_r : ∀ {R : Type} (n : Int) (n1 : Int) (b : Bool) (l : List Device) (k : Int → Option R), Option R) {R : Type} (s : ByteArray) (n : Int) (n1 : Int) (b : Bool) (l : List Device) (K : AV → Hp E → Option R) :
    runFnI (E := E) (OA_spec_Boot_w N G_spec_Measure_ww G_spec_l06Frame G_spec_NewMachine G_spec_PutTables_w G_spec_TablesOf_w G_spec_Mix G_spec_l10In G_spec_l01Word G_spec_BoardFault_r) (noIt) sl_spec_Boot_w J_spec_Boot_w Go.Proofs.Try.f14 [(AV.sc (SV.str s)), (AV.agg [(SV.int IntKind.i64 n), (SV.int IntKind.i64 n1), (SV.slc 0 none b)])] [(some (HE.mk false (HB.rows (B.iDevice l))))] K =
      ga_g_spec_Boot_w N G_spec_Measure_ww G_spec_l06Frame G_spec_NewMachine G_spec_PutTables_w G_spec_TablesOf_w G_spec_Mix G_spec_l10In G_spec_l01Word G_spec_BoardFault_r s n n1 b l (fun n9 n10 b6 n11 b7 b8 s4 b9 l6 l7 l8 l9 => K (AV.agg [(SV.int IntKind.i64 n9), (SV.int IntKind.i64 n10), (SV.slc 1 none b6), (SV.int IntKind.i64 n11), (SV.slc 2 none b7), (SV.slc 3 none b8), (SV.str s4), (SV.int IntKind.i64 (0 : Int)), (SV.int IntKind.i64 (0 : Int)), (SV.int IntKind.i64 (0 : Int)), (SV.slc 4 none true), (SV.slc 5 none true), (SV.int IntKind.i64 (0 : Int)), (SV.slc 6 none b9)]) [(some (HE.mk false (HB.rows (B.iDevice l)))), (some (HE.mk false (HB.rows (B.i64 l6)))), (some (HE.mk false (HB.rows (B.i64 l7)))), (some (HE.mk false (HB.rows (B.i64 l8)))), (some (HE.mk false (HB.rows (B.iPortValue [])))), (some (HE.mk false (HB.rows (B.iPortValue [])))), (some (HE.mk false (HB.rows (B.i64 l9))))]) := by kernel_rfl
theorem e_spec_Boot_w (N : Nat) {R : Type} (s : ByteArray) (n : Int) (n1 : Int) (b : Bool) (l : List Device) (K : AV → Hp E → Option R) :
    runFnI (E := E) (O_spec_Boot_w N) (noIt) sl_spec_Boot_w J_spec_Boot_w Go.Proofs.Try.f14 [(AV.sc (SV.str s)), (AV.agg [(SV.int IntKind.i64 n), (SV.int IntKind.i64 n1), (SV.slc 0 none b)])] [(some (HE.mk false (HB.rows (B.iDevice l))))] K =
      g_spec_Boot_w N s n n1 b l (fun n9 n10 b6 n11 b7 b8 s4 b9 l6 l7 l8 l9 => K (AV.agg [(SV.int IntKind.i64 n9), (SV.int IntKind.i64 n10), (SV.slc 1 none b6), (SV.int IntKind.i64 n11), (SV.slc 2 none b7), (SV.slc 3 none b8), (SV.str s4), (SV.int IntKind.i64 (0 : Int)), (SV.int IntKind.i64 (0 : Int)), (SV.int IntKind.i64 (0 : Int)), (SV.slc 4 none true), (SV.slc 5 none true), (SV.int IntKind.i64 (0 : Int)), (SV.slc 6 none b9)]) [(some (HE.mk false (HB.rows (B.iDevice l)))), (some (HE.mk false (HB.rows (B.i64 l6)))), (some (HE.mk false (HB.rows (B.i64 l7)))), (some (HE.mk false (HB.rows (B.i64 l8)))), (some (HE.mk false (HB.rows (B.iPortValue [])))), (some (HE.mk false (HB.rows (B.iPortValue [])))), (some (HE.mk false (HB.rows (B.i64 l9))))]) := castPr (by kernel_rfl) (ea_e_spec_Boot_w N (g_spec_Measure_ww N) (g_spec_l06Frame N) (g_spec_NewMachine N) (g_spec_PutTables_w N) (g_spec_TablesOf_w N) (g_spec_Mix N) (g_spec_l10In N) (g_spec_l01Word N) (g_spec_BoardFault_r N) s n n1 b l K)
noncomputable def o_spec_Boot_w (N : Nat) {R : Type} (args : List AV) (H : Hp E) (K : AV → Hp E → Option R) : Option R :=
  match args, H with
  | [(AV.sc (SV.str s)), (AV.agg [(SV.int IntKind.i64 n), (SV.int IntKind.i64 n1), (SV.slc 0 none b)])], [(some (HE.mk false (HB.rows (B.iDevice l))))] => g_spec_Boot_w N s n n1 b l (fun n9 n10 b6 n11 b7 b8 s4 b9 l6 l7 l8 l9 => K (AV.agg [(SV.int IntKind.i64 n9), (SV.int IntKind.i64 n10), (SV.slc 1 none b6), (SV.int IntKind.i64 n11), (SV.slc 2 none b7), (SV.slc 3 none b8), (SV.str s4), (SV.int IntKind.i64 (0 : Int)), (SV.int IntKind.i64 (0 : Int)), (SV.int IntKind.i64 (0 : Int)), (SV.slc 4 none true), (SV.slc 5 none true), (SV.int IntKind.i64 (0 : Int)), (SV.slc 6 none b9)]) [(some (HE.mk false (HB.rows (B.iDevice l)))), (some (HE.mk false (HB.rows (B.i64 l6)))), (some (HE.mk false (HB.rows (B.i64 l7)))), (some (HE.mk false (HB.rows (B.i64 l8)))), (some (HE.mk false (HB.rows (B.iPortValue [])))), (some (HE.mk false (HB.rows (B.iPortValue [])))), (some (HE.mk false (HB.rows (B.i64 l9))))])
  | _, _ => none
theorem o_spec_Boot_w_ok (N : Nat) : FnOk E 14 (o_spec_Boot_w N) := by
  intro R args H K r h
  unfold o_spec_Boot_w at h
  dsimp only at h
  split at h
  · exact fnB_ok (ids := []) (top := []) ok (O_spec_Boot_w_ok N) (jn_ok _ _ _) Go.Proofs.Try.func14 (by kernel_rfl) (IT := noIt) (sl := sl_spec_Boot_w) (J := J_spec_Boot_w) (K := K) (H := [(some (HE.mk false (HB.rows (B.iDevice _))))]) (noIt_ok) (by kernel_rfl) rfl ((e_spec_Boot_w N _ _ _ _ _ K).trans h)
  · cases h
/-! ### loop.example/g00038/impl.ybig -/
abbrev sl_impl_ybig_w : SlotT := [(0, ([5, 6, 7], [2]))]
abbrev J_impl_ybig_w : JT := jn [] [] []
noncomputable def O_impl_ybig_w (N : Nat) : Orc E := noFn
theorem O_impl_ybig_w_ok (N : Nat) : OrcOk (O_impl_ybig_w N) := noFn_ok
noncomputable def s_impl_ybig_w_0 (N : Nat) {R : Type} (b1 : Bool) (n : Int) (l1 : List ByteArray) (n1 : Int) (ag : Int → Option R)  (kR : Option R) (kN : Option R) : Option R :=
  (cond (decide ((n1 < n)))
  (cond ((decide (((0 : Int) ≤ n1))) && (decide ((n1 < (((List.length l1) : Nat) : Int)))))
    (elemK l1 (Int.toNat n1) fun x =>
      (cond (decide (((((ByteArray.size x) : Nat) : Int) > (65536 : Int))))
      kR
      (ag (IntKind.wrap IntKind.i64 (n1 + (1 : Int))))))
    none)
  kN)
noncomputable def l_impl_ybig_w_0 (N : Nat) {R : Type} (b1 : Bool) (n : Int) (l1 : List ByteArray) (kR : Option R) (kN : Option R) : Nat → Int → Option R
  | 0, _ => none
  | f + 1, n1 => s_impl_ybig_w_0 N b1 n l1 n1 (fun n1 => l_impl_ybig_w_0 N b1 n l1 kR kN f n1)  kR kN
noncomputable def c_impl_ybig_w_0 (N : Nat) {R : Type} (b1 : Bool) (n : Int) (l1 : List ByteArray) (n1 : Int) (kR : Option R) (kN : Option R) : Option R := l_impl_ybig_w_0 N b1 n l1 kR kN N n1
theorem se_impl_ybig_w_0 (N : Nat) {R : Type} (b1 : Bool) (n : Int) (l1 : List ByteArray) (n1 : Int) (AG : List (Option AV) → Hp E → Option R) (KL : Ex → List (Option AV) → Hp E → Option R) :
    iterStep (E := E) (O_impl_ybig_w N) (fun {R} => LI (noIt) 1 15 sl_impl_ybig_w (R := R)) J_impl_ybig_w 1 15 0 [5, 6, 7] [2] (body Go.Proofs.Try.f59 0) AG KL [(some (AV.sc (SV.slc 0 none b1))), (some (AV.sc (SV.int IntKind.i64 n))), (some (AV.sc (SV.int IntKind.i64 n1)))] [(some (HE.mk false (HB.rows (B.str l1))))] =
      s_impl_ybig_w_0 N b1 n l1 n1 (fun n1 => AG [(some (AV.sc (SV.slc 0 none b1))), (some (AV.sc (SV.int IntKind.i64 n))), (some (AV.sc (SV.int IntKind.i64 n1)))] [(some (HE.mk false (HB.rows (B.str l1))))])  (KL Ex.ret [(some (AV.sc (SV.bool true)))] [(some (HE.mk false (HB.rows (B.str l1))))]) (KL Ex.normal [none] [(some (HE.mk false (HB.rows (B.str l1))))]) := by kernel_rfl
theorem le_impl_ybig_w_0 (N : Nat) {R : Type} (b1 : Bool) (n : Int) (l1 : List ByteArray) (KL : Ex → List (Option AV) → Hp E → Option R) : ∀ (f : Nat), ∀ (n1 : Int), iterK (E := E) (O_impl_ybig_w N) (fun {R} => LI (noIt) 1 15 sl_impl_ybig_w (R := R)) J_impl_ybig_w 1 15 0 [5, 6, 7] [2] (body Go.Proofs.Try.f59 0) f [(some (AV.sc (SV.slc 0 none b1))), (some (AV.sc (SV.int IntKind.i64 n))), (some (AV.sc (SV.int IntKind.i64 n1)))] [(some (HE.mk false (HB.rows (B.str l1))))] KL = l_impl_ybig_w_0 N b1 n l1 (KL Ex.ret [(some (AV.sc (SV.bool true)))] [(some (HE.mk false (HB.rows (B.str l1))))]) (KL Ex.normal [none] [(some (HE.mk false (HB.rows (B.str l1))))]) f n1 := by
  intro f
  induction f with
  | zero => intros; rfl
  | succ f ih =>
    intro n1
    rw [iterK_succ, se_impl_ybig_w_0]
    exact (congrArg (fun z0 => s_impl_ybig_w_0 N b1 n l1 n1 z0 (KL Ex.ret [(some (AV.sc (SV.bool true)))] [(some (HE.mk false (HB.rows (B.str l1))))]) (KL Ex.normal [none] [(some (HE.mk false (HB.rows (B.str l1))))])) (funext fun n1 => ih n1))
noncomputable def i_impl_ybig_w_0 (N : Nat) {R : Type} (vs : List (Option AV)) (H : Hp E) (KL : Ex → List (Option AV) → Hp E → Option R) : Option R :=
  match vs, H with
  | [(some (AV.sc (SV.slc 0 none b1))), (some (AV.sc (SV.int IntKind.i64 n))), (some (AV.sc (SV.int IntKind.i64 n1)))], [(some (HE.mk false (HB.rows (B.str l1))))] => c_impl_ybig_w_0 N b1 n l1 n1 (KL Ex.ret [(some (AV.sc (SV.bool true)))] [(some (HE.mk false (HB.rows (B.str l1))))]) (KL Ex.normal [none] [(some (HE.mk false (HB.rows (B.str l1))))])
  | _, _ => none
noncomputable def IT_impl_ybig_w_0 (N : Nat) : Its E := addIt 0 (i_impl_ybig_w_0 N) (noIt)
theorem IT_impl_ybig_w_0_ok (N : Nat) : ItOk (IT_impl_ybig_w_0 N) 1 15 sl_impl_ybig_w (lsB Go.Proofs.Try.f59 [0]) :=
  addItB_ok (inner := []) ok (O_impl_ybig_w_ok N) (jn_ok _ _ _) (noIt_ok) rfl (by kernel_rfl) rfl fun vs H KL r h => by
    unfold i_impl_ybig_w_0 at h
    split at h
    · exact ⟨_, (le_impl_ybig_w_0 N _ _ _ KL N _).trans h⟩
    · cases h
noncomputable def g_impl_ybig_w (N : Nat) {R : Type} (b : Bool) (l : List ByteArray) (k : Bool → Option R) : Option R :=
  (c_impl_ybig_w_0 N b (((List.length l) : Nat) : Int) l (0 : Int) (
  (k true)) (
  (k false)))
theorem e_impl_ybig_w (N : Nat) {R : Type} (b : Bool) (l : List ByteArray) (K : AV → Hp E → Option R) :
    runFnI (E := E) (O_impl_ybig_w N) (IT_impl_ybig_w_0 N) sl_impl_ybig_w J_impl_ybig_w Go.Proofs.Try.f59 [(AV.sc (SV.slc 0 none b))] [(some (HE.mk false (HB.rows (B.str l))))] K =
      g_impl_ybig_w N b l (fun b2 => K (AV.sc (SV.bool b2)) [(some (HE.mk false (HB.rows (B.str l))))]) := by kernel_rfl
noncomputable def o_impl_ybig_w (N : Nat) {R : Type} (args : List AV) (H : Hp E) (K : AV → Hp E → Option R) : Option R :=
  match args, H with
  | [(AV.sc (SV.slc 0 none b))], [(some (HE.mk false (HB.rows (B.str l))))] => g_impl_ybig_w N b l (fun b2 => K (AV.sc (SV.bool b2)) [(some (HE.mk false (HB.rows (B.str l))))])
  | _, _ => none
theorem o_impl_ybig_w_ok (N : Nat) : FnOk E 59 (o_impl_ybig_w N) := by
  intro R args H K r h
  unfold o_impl_ybig_w at h
  dsimp only at h
  split at h
  · exact fnB_ok (ids := [0]) (top := [0]) ok (O_impl_ybig_w_ok N) (jn_ok _ _ _) Go.Proofs.Try.func59 (by kernel_rfl) (IT := IT_impl_ybig_w_0 N) (sl := sl_impl_ybig_w) (J := J_impl_ybig_w) (K := K) (H := [(some (HE.mk false (HB.rows (B.str _))))]) (IT_impl_ybig_w_0_ok N) (by kernel_rfl) rfl ((e_impl_ybig_w N _ _ K).trans h)
  · cases h
end Go.Sa
