import Derived.Test.YtaffhdhamfilpaaSpec
import Derived.Test.YtaffhdhamfilpaaPLb
import Derived.Test.YtaffhdhamfilpaaW0
set_option linter.all false
namespace Go.Sa
open Go Go.Eng Go.Proofs
set_option maxRecDepth 100000
set_option maxHeartbeats 4000000
/-! ### loop.example/g00038/spec.MachineFault -/
abbrev sl_spec_MachineFault_rrrrr : SlotT := []
abbrev J_spec_MachineFault_rrrrr : JT := jn [(1, [(37, .b)]), (3, [(85, .b)]), (5, [(123, .b)])] [] []
noncomputable def O_spec_MachineFault_rrrrr (N : Nat) : Orc E := addFn 70 (o_spec_l04Ports_r N) (addFn 69 (o_spec_l04Words_r N) (addFn 68 (o_spec_l01IsWord N) (addFn 67 (o_spec_MemFault N) (noFn))))
noncomputable def pa_spec_MachineFault_rrrrr__o_spec_l04Ports_r (N : Nat) (G_spec_l04Ports_r : ∀ {R : Type} (b : Bool) (l : List PortValue) (k : Bool → Option R), Option R) {R : Type} (args : List AV) (H : Hp E) (K : AV → Hp E → Option R) : Option R :=
 match args, H with
 | [(AV.sc (SV.slc 0 none b))], [(some (HE.mk true (HB.rows (B.iPortValue l))))] => G_spec_l04Ports_r b l (fun b3 => K (AV.sc (SV.bool b3)) [(some (HE.mk true (HB.rows (B.iPortValue l))))])
 | _, _ => none
noncomputable def pa_spec_MachineFault_rrrrr__o_spec_l04Words_r (N : Nat) (G_spec_l04Words_r : ∀ {R : Type} (b : Bool) (n : Int) (l : List Int) (k : Bool → Option R), Option R) {R : Type} (args : List AV) (H : Hp E) (K : AV → Hp E → Option R) : Option R :=
 match args, H with
 | [(AV.sc (SV.slc 0 none b)), (AV.sc (SV.int IntKind.i64 n))], [(some (HE.mk true (HB.rows (B.i64 l))))] => G_spec_l04Words_r b n l (fun b3 => K (AV.sc (SV.bool b3)) [(some (HE.mk true (HB.rows (B.i64 l))))])
 | _, _ => none
noncomputable def pa_spec_MachineFault_rrrrr__o_spec_l01IsWord (N : Nat) (G_spec_l01IsWord : ∀ {R : Type} (n : Int) (k : Bool → Option R), Option R) {R : Type} (args : List AV) (H : Hp E) (K : AV → Hp E → Option R) : Option R :=
 match args, H with
 | [(AV.sc (SV.int IntKind.i64 n))], [] => G_spec_l01IsWord n (fun b => K (AV.sc (SV.bool b)) [])
 | _, _ => none
noncomputable def pa_spec_MachineFault_rrrrr__o_spec_MemFault (N : Nat) (G_spec_MemFault : ∀ {R : Type} (s : ByteArray) (k : Int → Option R), Option R) {R : Type} (args : List AV) (H : Hp E) (K : AV → Hp E → Option R) : Option R :=
 match args, H with
 | [(AV.sc (SV.str s))], [] => G_spec_MemFault s (fun n => K (AV.sc (SV.int IntKind.i64 n)) [])
 | _, _ => none
noncomputable def OA_spec_MachineFault_rrrrr (N : Nat) (G_spec_l04Ports_r : ∀ {R : Type} (b : Bool) (l : List PortValue) (k : Bool → Option R), Option R) (G_spec_l04Words_r : ∀ {R : Type} (b : Bool) (n : Int) (l : List Int) (k : Bool → Option R), Option R) (G_spec_l01IsWord : ∀ {R : Type} (n : Int) (k : Bool → Option R), Option R) (G_spec_MemFault : ∀ {R : Type} (s : ByteArray) (k : Int → Option R), Option R) : Orc E := addFn 70 (pa_spec_MachineFault_rrrrr__o_spec_l04Ports_r N G_spec_l04Ports_r) (addFn 69 (pa_spec_MachineFault_rrrrr__o_spec_l04Words_r N G_spec_l04Words_r) (addFn 68 (pa_spec_MachineFault_rrrrr__o_spec_l01IsWord N G_spec_l01IsWord) (addFn 67 (pa_spec_MachineFault_rrrrr__o_spec_MemFault N G_spec_MemFault) (noFn))))
theorem O_spec_MachineFault_rrrrr_ok (N : Nat) : OrcOk (O_spec_MachineFault_rrrrr N) := addFn_ok (o_spec_l04Ports_r_ok N) (addFn_ok (o_spec_l04Words_r_ok N) (addFn_ok (o_spec_l01IsWord_ok N) (addFn_ok (o_spec_MemFault_ok N) (noFn_ok))))
noncomputable def g_spec_MachineFault_rrrrr (N : Nat) {R : Type} (n : Int) (b : Bool) (n1 : Int) (b1 : Bool) (b2 : Bool) (s : ByteArray) (n2 : Int) (n3 : Int) (n4 : Int) (b3 : Bool) (b4 : Bool) (n5 : Int) (l : List Int) (l1 : List Int) (l2 : List Int) (l3 : List PortValue) (l4 : List PortValue) (k : Int → Option R) : Option R :=
 (oK (g_spec_MemFault N s fun n6 =>
 (cond (n6 != (0 : Int))
 (some true)
 (g_spec_l01IsWord N n fun b5 =>
 (cond (!b5)
 (some true)
 (g_spec_l04Words_r N b (16 : Int) l fun b6 =>
 (cond (!b6)
 (some true)
 (cond (decide (((0 : Int) < (((List.length l) : Nat) : Int))))
 (elemK l 0 fun x =>
 (cond (x != (0 : Int))
 (some true)
 (g_spec_l04Words_r N b1 (12 : Int) l1 fun b7 =>
 (cond (!b7)
 (some true)
 (g_spec_l04Words_r N b2 (16 : Int) l2 fun b8 =>
 (some (!b8)))))))
 none))))))) fun j =>
 (cond j
 (k (1 : Int))
 (oK (cond (decide ((n1 < (0 : Int))))
 (some true)
 (cond (decide ((n1 > (1 : Int))))
 (some true)
 (cond (decide ((n2 < (0 : Int))))
 (some true)
 (cond (decide ((n2 > (2 : Int))))
 (some true)
 (cond (decide ((n3 < (0 : Int))))
 (some true)
 (cond (decide ((n3 > (1099511627776 : Int))))
 (some true)
 (cond (decide ((n4 < (0 : Int))))
 (some true)
 (cond (decide ((n4 > (127 : Int))))
 (some true)
 (cond (decide ((n5 < (0 : Int))))
 (some true)
 (some (decide ((n5 ≥ (2147483629 : Int)))))))))))))) fun j1 =>
 (cond j1
 (k (1 : Int))
 (oK (cond (decide (((0 : Int) < (((List.length l1) : Nat) : Int))))
 (elemK l1 0 fun x1 =>
 (cond (decide ((x1 ≥ (32 : Int))))
 (some true)
 (cond (decide (((8 : Int) < (((List.length l1) : Nat) : Int))))
 (elemK l1 8 fun x2 =>
 (cond (x2 != (0 : Int))
 (some true)
 (cond (decide (((9 : Int) < (((List.length l1) : Nat) : Int))))
 (elemK l1 9 fun x3 =>
 (cond (x3 != (0 : Int))
 (some true)
 (cond (decide (((11 : Int) < (((List.length l1) : Nat) : Int))))
 (elemK l1 11 fun x4 =>
 (cond (x4 != (0 : Int))
 (some true)
 (g_spec_l04Ports_r N b3 l3 fun b9 =>
 (cond (!b9)
 (some true)
 (g_spec_l04Ports_r N b4 l4 fun b10 =>
 (some (!b10)))))))
 none)))
 none)))
 none)))
 none) fun j2 =>
 (cond j2
 (k (1 : Int))
 (k (0 : Int))))))))
noncomputable def ga_g_spec_MachineFault_rrrrr (N : Nat) (G_spec_l04Ports_r : ∀ {R : Type} (b : Bool) (l : List PortValue) (k : Bool → Option R), Option R) (G_spec_l04Words_r : ∀ {R : Type} (b : Bool) (n : Int) (l : List Int) (k : Bool → Option R), Option R) (G_spec_l01IsWord : ∀ {R : Type} (n : Int) (k : Bool → Option R), Option R) (G_spec_MemFault : ∀ {R : Type} (s : ByteArray) (k : Int → Option R), Option R) {R : Type} (n : Int) (b : Bool) (n1 : Int) (b1 : Bool) (b2 : Bool) (s : ByteArray) (n2 : Int) (n3 : Int) (n4 : Int) (b3 : Bool) (b4 : Bool) (n5 : Int) (l : List Int) (l1 : List Int) (l2 : List Int) (l3 : List PortValue) (l4 : List PortValue) (k : Int → Option R) : Option R :=
 (oK (G_spec_MemFault s fun n6 =>
 (cond (n6 != (0 : Int))
 (some true)
 (G_spec_l01IsWord n fun b5 =>
 (cond (!b5)
 (some true)
 (G_spec_l04Words_r b (16 : Int) l fun b6 =>
 (cond (!b6)
 (some true)
 (cond (decide (((0 : Int) < (((List.length l) : Nat) : Int))))
 (elemK l 0 fun x =>
 (cond (x != (0 : Int))
 (some true)
 (G_spec_l04Words_r b1 (12 : Int) l1 fun b7 =>
 (cond (!b7)
 (some true)
 (G_spec_l04Words_r b2 (16 : Int) l2 fun b8 =>
 (some (!b8)))))))
 none))))))) fun j =>
 (cond j
 (k (1 : Int))
 (oK (cond (decide ((n1 < (0 : Int))))
 (some true)
 (cond (decide ((n1 > (1 : Int))))
 (some true)
 (cond (decide ((n2 < (0 : Int))))
 (some true)
 (cond (decide ((n2 > (2 : Int))))
 (some true)
 (cond (decide ((n3 < (0 : Int))))
 (some true)
 (cond (decide ((n3 > (1099511627776 : Int))))
 (some true)
 (cond (decide ((n4 < (0 : Int))))
 (some true)
 (cond (decide ((n4 > (127 : Int))))
 (some true)
 (cond (decide ((n5 < (0 : Int))))
 (some true)
 (some (decide ((n5 ≥ (2147483629 : Int)))))))))))))) fun j1 =>
 (cond j1
 (k (1 : Int))
 (oK (cond (decide (((0 : Int) < (((List.length l1) : Nat) : Int))))
 (elemK l1 0 fun x1 =>
 (cond (decide ((x1 ≥ (32 : Int))))
 (some true)
 (cond (decide (((8 : Int) < (((List.length l1) : Nat) : Int))))
 (elemK l1 8 fun x2 =>
 (cond (x2 != (0 : Int))
 (some true)
 (cond (decide (((9 : Int) < (((List.length l1) : Nat) : Int))))
 (elemK l1 9 fun x3 =>
 (cond (x3 != (0 : Int))
 (some true)
 (cond (decide (((11 : Int) < (((List.length l1) : Nat) : Int))))
 (elemK l1 11 fun x4 =>
 (cond (x4 != (0 : Int))
 (some true)
 (G_spec_l04Ports_r b3 l3 fun b9 =>
 (cond (!b9)
 (some true)
 (G_spec_l04Ports_r b4 l4 fun b10 =>
 (some (!b10)))))))
 none)))
 none)))
 none)))
 none) fun j2 =>
 (cond j2
 (k (1 : Int))
 (k (0 : Int))))))))
theorem ea_e_spec_MachineFault_rrrrr (N : Nat) (G_spec_l04Ports_r : ∀ {R : Type} (b : Bool) (l : List PortValue) (k : Bool → Option R), Option R) (G_spec_l04Words_r : ∀ {R : Type} (b : Bool) (n : Int) (l : List Int) (k : Bool → Option R), Option R) (G_spec_l01IsWord : ∀ {R : Type} (n : Int) (k : Bool → Option R), Option R) (G_spec_MemFault : ∀ {R : Type} (s : ByteArray) (k : Int → Option R), Option R) {R : Type} (n : Int) (b : Bool) (n1 : Int) (b1 : Bool) (b2 : Bool) (s : ByteArray) (n2 : Int) (n3 : Int) (n4 : Int) (b3 : Bool) (b4 : Bool) (n5 : Int) (l : List Int) (l1 : List Int) (l2 : List Int) (l3 : List PortValue) (l4 : List PortValue) (K : AV → Hp E → Option R) :
    runFnI (E := E) (OA_spec_MachineFault_rrrrr N G_spec_l04Ports_r G_spec_l04Words_r G_spec_l01IsWord G_spec_MemFault) (noIt) sl_spec_MachineFault_rrrrr J_spec_MachineFault_rrrrr Try.f24 [(AV.agg [(SV.int IntKind.i64 n), (SV.slc 0 none b), (SV.int IntKind.i64 n1), (SV.slc 1 none b1), (SV.slc 2 none b2), (SV.str s), (SV.int IntKind.i64 n2), (SV.int IntKind.i64 n3), (SV.int IntKind.i64 n4), (SV.slc 3 none b3), (SV.slc 4 none b4), (SV.int IntKind.i64 n5)])] [(some (HE.mk true (HB.rows (B.i64 l)))), (some (HE.mk true (HB.rows (B.i64 l1)))), (some (HE.mk true (HB.rows (B.i64 l2)))), (some (HE.mk true (HB.rows (B.iPortValue l3)))), (some (HE.mk true (HB.rows (B.iPortValue l4))))] K =
      ga_g_spec_MachineFault_rrrrr N G_spec_l04Ports_r G_spec_l04Words_r G_spec_l01IsWord G_spec_MemFault n b n1 b1 b2 s n2 n3 n4 b3 b4 n5 l l1 l2 l3 l4 (fun n7 => K (AV.sc (SV.int IntKind.i64 n7)) [(some (HE.mk true (HB.rows (B.i64 l)))), (some (HE.mk true (HB.rows (B.i64 l1)))), (some (HE.mk true (HB.rows (B.i64 l2)))), (some (HE.mk true (HB.rows (B.iPortValue l3)))), (some (HE.mk true (HB.rows (B.iPortValue l4))))]) := by kernel_rfl
theorem e_spec_MachineFault_rrrrr (N : Nat) {R : Type} (n : Int) (b : Bool) (n1 : Int) (b1 : Bool) (b2 : Bool) (s : ByteArray) (n2 : Int) (n3 : Int) (n4 : Int) (b3 : Bool) (b4 : Bool) (n5 : Int) (l : List Int) (l1 : List Int) (l2 : List Int) (l3 : List PortValue) (l4 : List PortValue) (K : AV → Hp E → Option R) :
    runFnI (E := E) (O_spec_MachineFault_rrrrr N) (noIt) sl_spec_MachineFault_rrrrr J_spec_MachineFault_rrrrr Try.f24 [(AV.agg [(SV.int IntKind.i64 n), (SV.slc 0 none b), (SV.int IntKind.i64 n1), (SV.slc 1 none b1), (SV.slc 2 none b2), (SV.str s), (SV.int IntKind.i64 n2), (SV.int IntKind.i64 n3), (SV.int IntKind.i64 n4), (SV.slc 3 none b3), (SV.slc 4 none b4), (SV.int IntKind.i64 n5)])] [(some (HE.mk true (HB.rows (B.i64 l)))), (some (HE.mk true (HB.rows (B.i64 l1)))), (some (HE.mk true (HB.rows (B.i64 l2)))), (some (HE.mk true (HB.rows (B.iPortValue l3)))), (some (HE.mk true (HB.rows (B.iPortValue l4))))] K =
      g_spec_MachineFault_rrrrr N n b n1 b1 b2 s n2 n3 n4 b3 b4 n5 l l1 l2 l3 l4 (fun n7 => K (AV.sc (SV.int IntKind.i64 n7)) [(some (HE.mk true (HB.rows (B.i64 l)))), (some (HE.mk true (HB.rows (B.i64 l1)))), (some (HE.mk true (HB.rows (B.i64 l2)))), (some (HE.mk true (HB.rows (B.iPortValue l3)))), (some (HE.mk true (HB.rows (B.iPortValue l4))))]) := castPr (by kernel_rfl) (ea_e_spec_MachineFault_rrrrr N (g_spec_l04Ports_r N) (g_spec_l04Words_r N) (g_spec_l01IsWord N) (g_spec_MemFault N) n b n1 b1 b2 s n2 n3 n4 b3 b4 n5 l l1 l2 l3 l4 K)
noncomputable def o_spec_MachineFault_rrrrr (N : Nat) {R : Type} (args : List AV) (H : Hp E) (K : AV → Hp E → Option R) : Option R :=
 match args, H with
 | [(AV.agg [(SV.int IntKind.i64 n), (SV.slc 0 none b), (SV.int IntKind.i64 n1), (SV.slc 1 none b1), (SV.slc 2 none b2), (SV.str s), (SV.int IntKind.i64 n2), (SV.int IntKind.i64 n3), (SV.int IntKind.i64 n4), (SV.slc 3 none b3), (SV.slc 4 none b4), (SV.int IntKind.i64 n5)])], [(some (HE.mk true (HB.rows (B.i64 l)))), (some (HE.mk true (HB.rows (B.i64 l1)))), (some (HE.mk true (HB.rows (B.i64 l2)))), (some (HE.mk true (HB.rows (B.iPortValue l3)))), (some (HE.mk true (HB.rows (B.iPortValue l4))))] => g_spec_MachineFault_rrrrr N n b n1 b1 b2 s n2 n3 n4 b3 b4 n5 l l1 l2 l3 l4 (fun n7 => K (AV.sc (SV.int IntKind.i64 n7)) [(some (HE.mk true (HB.rows (B.i64 l)))), (some (HE.mk true (HB.rows (B.i64 l1)))), (some (HE.mk true (HB.rows (B.i64 l2)))), (some (HE.mk true (HB.rows (B.iPortValue l3)))), (some (HE.mk true (HB.rows (B.iPortValue l4))))])
 | _, _ => none
theorem o_spec_MachineFault_rrrrr_ok (N : Nat) : FnOk E 24 (o_spec_MachineFault_rrrrr N) := by
  intro R args H K r h
  unfold o_spec_MachineFault_rrrrr at h
  dsimp only at h
  split at h
  · exact fnB_ok (ids := []) (top := []) ok (O_spec_MachineFault_rrrrr_ok N) (jn_ok _ _ _) Try.func24 (by kernel_rfl) (IT := noIt) (sl := sl_spec_MachineFault_rrrrr) (J := J_spec_MachineFault_rrrrr) (K := K) (H := [(some (HE.mk true (HB.rows (B.i64 _)))), (some (HE.mk true (HB.rows (B.i64 _)))), (some (HE.mk true (HB.rows (B.i64 _)))), (some (HE.mk true (HB.rows (B.iPortValue _)))), (some (HE.mk true (HB.rows (B.iPortValue _))))]) (noIt_ok) (by kernel_rfl) rfl ((e_spec_MachineFault_rrrrr N _ _ _ _ _ _ _ _ _ _ _ _ _ _ _ _ _ K).trans h)
  · cases h
/-! ### loop.example/g00038/spec.l20Frames -/
abbrev sl_spec_l20Frames : SlotT := []
abbrev J_spec_l20Frames : JT := jn [] [] []
noncomputable def O_spec_l20Frames (N : Nat) : Orc E := noFn
theorem O_spec_l20Frames_ok (N : Nat) : OrcOk (O_spec_l20Frames N) := noFn_ok
noncomputable def g_spec_l20Frames (N : Nat) {R : Type} (s : ByteArray) (k : Int → Option R) : Option R :=
 (k (IntKind.wrap IntKind.i64 (Int.tdiv (((ByteArray.size s) : Nat) : Int) (256 : Int))))
theorem e_spec_l20Frames (N : Nat) {R : Type} (s : ByteArray) (K : AV → Hp E → Option R) :
    runFnI (E := E) (O_spec_l20Frames N) (noIt) sl_spec_l20Frames J_spec_l20Frames Try.f25 [(AV.sc (SV.str s))] [] K =
      g_spec_l20Frames N s (fun n => K (AV.sc (SV.int IntKind.i64 n)) []) := by kernel_rfl
noncomputable def o_spec_l20Frames (N : Nat) {R : Type} (args : List AV) (H : Hp E) (K : AV → Hp E → Option R) : Option R :=
 match args, H with
 | [(AV.sc (SV.str s))], [] => g_spec_l20Frames N s (fun n => K (AV.sc (SV.int IntKind.i64 n)) [])
 | _, _ => none
theorem o_spec_l20Frames_ok (N : Nat) : FnOk E 25 (o_spec_l20Frames N) := by
  intro R args H K r h
  unfold o_spec_l20Frames at h
  dsimp only at h
  split at h
  · exact fnB_ok (ids := []) (top := []) ok (O_spec_l20Frames_ok N) (jn_ok _ _ _) Try.func25 (by kernel_rfl) (IT := noIt) (sl := sl_spec_l20Frames) (J := J_spec_l20Frames) (K := K) (H := []) (noIt_ok) (by kernel_rfl) rfl ((e_spec_l20Frames N _ K).trans h)
  · cases h
/-! ### loop.example/g00038/spec.l06Frame -/
abbrev sl_spec_l06Frame : SlotT := []
abbrev J_spec_l06Frame : JT := jn [] [] []
noncomputable def O_spec_l06Frame (N : Nat) : Orc E := noFn
theorem O_spec_l06Frame_ok (N : Nat) : OrcOk (O_spec_l06Frame N) := noFn_ok
noncomputable def g_spec_l06Frame (N : Nat) {R : Type} (s : ByteArray) (n : Int) (k : ByteArray → Option R) : Option R :=
 (cond (((decide (((0 : Int) ≤ (IntKind.wrap IntKind.i64 (n * (256 : Int)))))) && (decide (((IntKind.wrap IntKind.i64 (n * (256 : Int))) ≤ (IntKind.wrap IntKind.i64 ((IntKind.wrap IntKind.i64 (n + (1 : Int))) * (256 : Int))))))) && (decide (((IntKind.wrap IntKind.i64 ((IntKind.wrap IntKind.i64 (n + (1 : Int))) * (256 : Int))) ≤ (((ByteArray.size s) : Nat) : Int)))))
 (k (ByteArray.extract s (Int.toNat (IntKind.wrap IntKind.i64 (n * (256 : Int)))) (Int.toNat (IntKind.wrap IntKind.i64 ((IntKind.wrap IntKind.i64 (n + (1 : Int))) * (256 : Int))))))
 none)
theorem e_spec_l06Frame (N : Nat) {R : Type} (s : ByteArray) (n : Int) (K : AV → Hp E → Option R) :
    runFnI (E := E) (O_spec_l06Frame N) (noIt) sl_spec_l06Frame J_spec_l06Frame Try.f29 [(AV.sc (SV.str s)), (AV.sc (SV.int IntKind.i64 n))] [] K =
      g_spec_l06Frame N s n (fun s1 => K (AV.sc (SV.str s1)) []) := by kernel_rfl
noncomputable def o_spec_l06Frame (N : Nat) {R : Type} (args : List AV) (H : Hp E) (K : AV → Hp E → Option R) : Option R :=
 match args, H with
 | [(AV.sc (SV.str s)), (AV.sc (SV.int IntKind.i64 n))], [] => g_spec_l06Frame N s n (fun s1 => K (AV.sc (SV.str s1)) [])
 | _, _ => none
theorem o_spec_l06Frame_ok (N : Nat) : FnOk E 29 (o_spec_l06Frame N) := by
  intro R args H K r h
  unfold o_spec_l06Frame at h
  dsimp only at h
  split at h
  · exact fnB_ok (ids := []) (top := []) ok (O_spec_l06Frame_ok N) (jn_ok _ _ _) Try.func29 (by kernel_rfl) (IT := noIt) (sl := sl_spec_l06Frame) (J := J_spec_l06Frame) (K := K) (H := []) (noIt_ok) (by kernel_rfl) rfl ((e_spec_l06Frame N _ _ K).trans h)
  · cases h
/-! ### loop.example/g00038/spec.l20Zero -/
abbrev sl_spec_l20Zero : SlotT := []
abbrev J_spec_l20Zero : JT := jn [] [] []
noncomputable def O_spec_l20Zero (N : Nat) : Orc E := noFn
theorem O_spec_l20Zero_ok (N : Nat) : OrcOk (O_spec_l20Zero N) := noFn_ok
noncomputable def g_spec_l20Zero (N : Nat) {R : Type}  (k : Option R) : Option R :=
 k
theorem e_spec_l20Zero (N : Nat) {R : Type}  (K : AV → Hp E → Option R) :
    runFnI (E := E) (O_spec_l20Zero N) (noIt) sl_spec_l20Zero J_spec_l20Zero Try.f30 [] [] K =
      g_spec_l20Zero N  (K (AV.sc (SV.str (Go.Eng.toBytes (Go.Eng.seg (List.replicate 256 (0 : Int)) 0 256)))) []) := by kernel_rfl
noncomputable def o_spec_l20Zero (N : Nat) {R : Type} (args : List AV) (H : Hp E) (K : AV → Hp E → Option R) : Option R :=
 match args, H with
 | [], [] => g_spec_l20Zero N  (K (AV.sc (SV.str (Go.Eng.toBytes (Go.Eng.seg (List.replicate 256 (0 : Int)) 0 256)))) [])
 | _, _ => none
theorem o_spec_l20Zero_ok (N : Nat) : FnOk E 30 (o_spec_l20Zero N) := by
  intro R args H K r h
  unfold o_spec_l20Zero at h
  dsimp only at h
  split at h
  · exact fnB_ok (ids := []) (top := []) ok (O_spec_l20Zero_ok N) (jn_ok _ _ _) Try.func30 (by kernel_rfl) (IT := noIt) (sl := sl_spec_l20Zero) (J := J_spec_l20Zero) (K := K) (H := []) (noIt_ok) (by kernel_rfl) rfl ((e_spec_l20Zero N K).trans h)
  · cases h
/-! ### loop.example/g00038/spec.l06SetFrame -/
abbrev sl_spec_l06SetFrame : SlotT := []
abbrev J_spec_l06SetFrame : JT := jn [] [] []
noncomputable def O_spec_l06SetFrame (N : Nat) : Orc E := noFn
theorem O_spec_l06SetFrame_ok (N : Nat) : OrcOk (O_spec_l06SetFrame N) := noFn_ok
noncomputable def g_spec_l06SetFrame (N : Nat) {R : Type} (s : ByteArray) (n : Int) (s1 : ByteArray) (k : ByteArray → Option R) : Option R :=
 (cond ((decide (((0 : Int) ≤ (IntKind.wrap IntKind.i64 (n * (256 : Int)))))) && (decide (((IntKind.wrap IntKind.i64 (n * (256 : Int))) ≤ (((ByteArray.size s) : Nat) : Int)))))
 (cond (Nat.ble ((ByteArray.size (ByteArray.extract s 0 (Int.toNat (IntKind.wrap IntKind.i64 (n * (256 : Int)))))) + (ByteArray.size s1)) 9223372036854775807)
 (cond (((decide (((0 : Int) ≤ (IntKind.wrap IntKind.i64 ((IntKind.wrap IntKind.i64 (n + (1 : Int))) * (256 : Int)))))) && (decide (((IntKind.wrap IntKind.i64 ((IntKind.wrap IntKind.i64 (n + (1 : Int))) * (256 : Int))) ≤ (((ByteArray.size s) : Nat) : Int))))) && (decide (((((ByteArray.size s) : Nat) : Int) ≤ (((ByteArray.size s) : Nat) : Int)))))
 (cond (Nat.ble ((ByteArray.size ((ByteArray.extract s 0 (Int.toNat (IntKind.wrap IntKind.i64 (n * (256 : Int))))) ++ s1)) + (ByteArray.size (ByteArray.extract s (Int.toNat (IntKind.wrap IntKind.i64 ((IntKind.wrap IntKind.i64 (n + (1 : Int))) * (256 : Int)))) (Int.toNat (((ByteArray.size s) : Nat) : Int))))) 9223372036854775807)
 (k (((ByteArray.extract s 0 (Int.toNat (IntKind.wrap IntKind.i64 (n * (256 : Int))))) ++ s1) ++ (ByteArray.extract s (Int.toNat (IntKind.wrap IntKind.i64 ((IntKind.wrap IntKind.i64 (n + (1 : Int))) * (256 : Int)))) (Int.toNat (((ByteArray.size s) : Nat) : Int)))))
 none)
 none)
 none)
 none)
theorem e_spec_l06SetFrame (N : Nat) {R : Type} (s : ByteArray) (n : Int) (s1 : ByteArray) (K : AV → Hp E → Option R) :
    runFnI (E := E) (O_spec_l06SetFrame N) (noIt) sl_spec_l06SetFrame J_spec_l06SetFrame Try.f47 [(AV.sc (SV.str s)), (AV.sc (SV.int IntKind.i64 n)), (AV.sc (SV.str s1))] [] K =
      g_spec_l06SetFrame N s n s1 (fun s2 => K (AV.sc (SV.str s2)) []) := by kernel_rfl
noncomputable def o_spec_l06SetFrame (N : Nat) {R : Type} (args : List AV) (H : Hp E) (K : AV → Hp E → Option R) : Option R :=
 match args, H with
 | [(AV.sc (SV.str s)), (AV.sc (SV.int IntKind.i64 n)), (AV.sc (SV.str s1))], [] => g_spec_l06SetFrame N s n s1 (fun s2 => K (AV.sc (SV.str s2)) [])
 | _, _ => none
theorem o_spec_l06SetFrame_ok (N : Nat) : FnOk E 47 (o_spec_l06SetFrame N) := by
  intro R args H K r h
  unfold o_spec_l06SetFrame at h
  dsimp only at h
  split at h
  · exact fnB_ok (ids := []) (top := []) ok (O_spec_l06SetFrame_ok N) (jn_ok _ _ _) Try.func47 (by kernel_rfl) (IT := noIt) (sl := sl_spec_l06SetFrame) (J := J_spec_l06SetFrame) (K := K) (H := []) (noIt_ok) (by kernel_rfl) rfl ((e_spec_l06SetFrame N _ _ _ K).trans h)
  · cases h
/-! ### loop.example/g00038/spec.l01Mod -/
abbrev sl_spec_l01Mod : SlotT := []
abbrev J_spec_l01Mod : JT := jn [] [(10, [(5, .i .i64)])] []
noncomputable def O_spec_l01Mod (N : Nat) : Orc E := noFn
theorem O_spec_l01Mod_ok (N : Nat) : OrcOk (O_spec_l01Mod N) := noFn_ok
noncomputable def g_spec_l01Mod (N : Nat) {R : Type} (n : Int) (n1 : Int) (k : Int → Option R) : Option R :=
 (cond (n1 == (0 : Int))
 none
 (oK (cond (decide (((Int.tmod n n1) < (0 : Int))))
 (some (IntKind.wrap IntKind.i64 ((Int.tmod n n1) + n1)))
 (some (Int.tmod n n1))) fun j =>
 (k j)))
theorem e_spec_l01Mod (N : Nat) {R : Type} (n : Int) (n1 : Int) (K : AV → Hp E → Option R) :
    runFnI (E := E) (O_spec_l01Mod N) (noIt) sl_spec_l01Mod J_spec_l01Mod Try.f73 [(AV.sc (SV.int IntKind.i64 n)), (AV.sc (SV.int IntKind.i64 n1))] [] K =
      g_spec_l01Mod N n n1 (fun n2 => K (AV.sc (SV.int IntKind.i64 n2)) []) := by kernel_rfl
noncomputable def o_spec_l01Mod (N : Nat) {R : Type} (args : List AV) (H : Hp E) (K : AV → Hp E → Option R) : Option R :=
 match args, H with
 | [(AV.sc (SV.int IntKind.i64 n)), (AV.sc (SV.int IntKind.i64 n1))], [] => g_spec_l01Mod N n n1 (fun n2 => K (AV.sc (SV.int IntKind.i64 n2)) [])
 | _, _ => none
theorem o_spec_l01Mod_ok (N : Nat) : FnOk E 73 (o_spec_l01Mod N) := by
  intro R args H K r h
  unfold o_spec_l01Mod at h
  dsimp only at h
  split at h
  · exact fnB_ok (ids := []) (top := []) ok (O_spec_l01Mod_ok N) (jn_ok _ _ _) Try.func73 (by kernel_rfl) (IT := noIt) (sl := sl_spec_l01Mod) (J := J_spec_l01Mod) (K := K) (H := []) (noIt_ok) (by kernel_rfl) rfl ((e_spec_l01Mod N _ _ K).trans h)
  · cases h
/-! ### loop.example/g00038/spec.Word -/
abbrev sl_spec_Word : SlotT := []
abbrev J_spec_Word : JT := jn [] [] []
noncomputable def O_spec_Word (N : Nat) : Orc E := addFn 73 (o_spec_l01Mod N) (noFn)
theorem O_spec_Word_ok (N : Nat) : OrcOk (O_spec_Word N) := addFn_ok (o_spec_l01Mod_ok N) (noFn_ok)
noncomputable def g_spec_Word (N : Nat) {R : Type} (n : Int) (k : Int → Option R) : Option R :=
 (g_spec_l01Mod N n (4294967296 : Int) fun n1 =>
 (k n1))
theorem e_spec_Word (N : Nat) {R : Type} (n : Int) (K : AV → Hp E → Option R) :
    runFnI (E := E) (O_spec_Word N) (noIt) sl_spec_Word J_spec_Word Try.f72 [(AV.sc (SV.int IntKind.i64 n))] [] K =
      g_spec_Word N n (fun n2 => K (AV.sc (SV.int IntKind.i64 n2)) []) := by kernel_rfl
noncomputable def o_spec_Word (N : Nat) {R : Type} (args : List AV) (H : Hp E) (K : AV → Hp E → Option R) : Option R :=
 match args, H with
 | [(AV.sc (SV.int IntKind.i64 n))], [] => g_spec_Word N n (fun n2 => K (AV.sc (SV.int IntKind.i64 n2)) [])
 | _, _ => none
theorem o_spec_Word_ok (N : Nat) : FnOk E 72 (o_spec_Word N) := by
  intro R args H K r h
  unfold o_spec_Word at h
  dsimp only at h
  split at h
  · exact fnB_ok (ids := []) (top := []) ok (O_spec_Word_ok N) (jn_ok _ _ _) Try.func72 (by kernel_rfl) (IT := noIt) (sl := sl_spec_Word) (J := J_spec_Word) (K := K) (H := []) (noIt_ok) (by kernel_rfl) rfl ((e_spec_Word N _ K).trans h)
  · cases h
/-! ### loop.example/g00038/spec.PutWord -/
abbrev sl_spec_PutWord : SlotT := []
abbrev J_spec_PutWord : JT := jn [] [] []
noncomputable def O_spec_PutWord (N : Nat) : Orc E := addFn 72 (o_spec_Word N) (noFn)
theorem O_spec_PutWord_ok (N : Nat) : OrcOk (O_spec_PutWord N) := addFn_ok (o_spec_Word_ok N) (noFn_ok)
noncomputable def g_spec_PutWord (N : Nat) {R : Type} (n : Int) (k : ByteArray → Option R) : Option R :=
 (g_spec_Word N n fun n1 =>
 (k (Go.Eng.toBytes (Go.Eng.seg [(IntKind.wrap IntKind.u8 n1), (IntKind.wrap IntKind.u8 (Int.fdiv n1 (256 : Int))), (IntKind.wrap IntKind.u8 (Int.fdiv n1 (65536 : Int))), (IntKind.wrap IntKind.u8 (Int.fdiv n1 (16777216 : Int)))] 0 (List.length [(IntKind.wrap IntKind.u8 n1), (IntKind.wrap IntKind.u8 (Int.fdiv n1 (256 : Int))), (IntKind.wrap IntKind.u8 (Int.fdiv n1 (65536 : Int))), (IntKind.wrap IntKind.u8 (Int.fdiv n1 (16777216 : Int)))])))))
theorem e_spec_PutWord (N : Nat) {R : Type} (n : Int) (K : AV → Hp E → Option R) :
    runFnI (E := E) (O_spec_PutWord N) (noIt) sl_spec_PutWord J_spec_PutWord Try.f31 [(AV.sc (SV.int IntKind.i64 n))] [] K =
      g_spec_PutWord N n (fun s => K (AV.sc (SV.str s)) []) := by kernel_rfl
noncomputable def o_spec_PutWord (N : Nat) {R : Type} (args : List AV) (H : Hp E) (K : AV → Hp E → Option R) : Option R :=
 match args, H with
 | [(AV.sc (SV.int IntKind.i64 n))], [] => g_spec_PutWord N n (fun s => K (AV.sc (SV.str s)) [])
 | _, _ => none
theorem o_spec_PutWord_ok (N : Nat) : FnOk E 31 (o_spec_PutWord N) := by
  intro R args H K r h
  unfold o_spec_PutWord at h
  dsimp only at h
  split at h
  · exact fnB_ok (ids := []) (top := []) ok (O_spec_PutWord_ok N) (jn_ok _ _ _) Try.func31 (by kernel_rfl) (IT := noIt) (sl := sl_spec_PutWord) (J := J_spec_PutWord) (K := K) (H := []) (noIt_ok) (by kernel_rfl) rfl ((e_spec_PutWord N _ K).trans h)
  · cases h
/-! ### loop.example/g00038/spec.l20Words -/
abbrev sl_spec_l20Words_r : SlotT := [(0, ([0, 3, 4], [3]))]
abbrev J_spec_l20Words_r : JT := jn [] [] []
noncomputable def O_spec_l20Words_r (N : Nat) : Orc E := addFn 31 (o_spec_PutWord N) (noFn)
theorem O_spec_l20Words_r_ok (N : Nat) : OrcOk (O_spec_l20Words_r N) := addFn_ok (o_spec_PutWord_ok N) (noFn_ok)
noncomputable def s_spec_l20Words_r_0 (N : Nat) {R : Type} (b1 : Bool) (l1 : List Int) (s : ByteArray) (n : Int) (ag : ByteArray → Int → Option R)  (kN : ByteArray → Option R) : Option R :=
 (cond (decide ((n < (((List.length l1) : Nat) : Int))))
 (cond ((decide (((0 : Int) ≤ n))) && (decide ((n < (((List.length l1) : Nat) : Int)))))
 (elemK l1 (Int.toNat n) fun x =>
 (g_spec_PutWord N x fun s1 =>
 (cond (Nat.ble ((ByteArray.size s) + (ByteArray.size s1)) 9223372036854775807)
 (ag (s ++ s1) (IntKind.wrap IntKind.i64 (n + (1 : Int))))
 none)))
 none)
 (kN s))
noncomputable def l_spec_l20Words_r_0 (N : Nat) {R : Type} (b1 : Bool) (l1 : List Int) (kN : ByteArray → Option R) : Nat → ByteArray → Int → Option R
 | 0, _, _ => none
 | f + 1, s, n => s_spec_l20Words_r_0 N b1 l1 s n (fun s n => l_spec_l20Words_r_0 N b1 l1 kN f s n)  kN
noncomputable def c_spec_l20Words_r_0 (N : Nat) {R : Type} (b1 : Bool) (l1 : List Int) (s : ByteArray) (n : Int) (kN : ByteArray → Option R) : Option R := l_spec_l20Words_r_0 N b1 l1 kN N s n
theorem se_spec_l20Words_r_0 (N : Nat) {R : Type} (b1 : Bool) (l1 : List Int) (s : ByteArray) (n : Int) (AG : List (Option AV) → Hp E → Option R) (KL : Ex → List (Option AV) → Hp E → Option R) :
    iterStep (E := E) (O_spec_l20Words_r N) (fun {R} => LI (noIt) 1 19 sl_spec_l20Words_r (R := R)) J_spec_l20Words_r 1 19 0 [0, 3, 4] [3] (body Try.f26 0) AG KL [(some (AV.sc (SV.slc 0 none b1))), (some (AV.sc (SV.str s))), (some (AV.sc (SV.int IntKind.i64 n)))] [(some (HE.mk true (HB.rows (B.i64 l1))))] =
      s_spec_l20Words_r_0 N b1 l1 s n (fun s n => AG [(some (AV.sc (SV.slc 0 none b1))), (some (AV.sc (SV.str s))), (some (AV.sc (SV.int IntKind.i64 n)))] [(some (HE.mk true (HB.rows (B.i64 l1))))])  (fun s4 => KL Ex.normal [(some (AV.sc (SV.str s4)))] [(some (HE.mk true (HB.rows (B.i64 l1))))]) := by kernel_rfl
theorem le_spec_l20Words_r_0 (N : Nat) {R : Type} (b1 : Bool) (l1 : List Int) (KL : Ex → List (Option AV) → Hp E → Option R) : ∀ (f : Nat), ∀ (s : ByteArray) (n : Int), iterK (E := E) (O_spec_l20Words_r N) (fun {R} => LI (noIt) 1 19 sl_spec_l20Words_r (R := R)) J_spec_l20Words_r 1 19 0 [0, 3, 4] [3] (body Try.f26 0) f [(some (AV.sc (SV.slc 0 none b1))), (some (AV.sc (SV.str s))), (some (AV.sc (SV.int IntKind.i64 n)))] [(some (HE.mk true (HB.rows (B.i64 l1))))] KL = l_spec_l20Words_r_0 N b1 l1 (fun s4 => KL Ex.normal [(some (AV.sc (SV.str s4)))] [(some (HE.mk true (HB.rows (B.i64 l1))))]) f s n := by
  intro f
  induction f with
  | zero => intros; rfl
  | succ f ih =>
    intro s n
    rw [iterK_succ, se_spec_l20Words_r_0]
    exact (congrArg (fun z0 => s_spec_l20Words_r_0 N b1 l1 s n z0 (fun s4 => KL Ex.normal [(some (AV.sc (SV.str s4)))] [(some (HE.mk true (HB.rows (B.i64 l1))))])) (funext fun s => funext fun n => ih s n))
noncomputable def i_spec_l20Words_r_0 (N : Nat) {R : Type} (vs : List (Option AV)) (H : Hp E) (KL : Ex → List (Option AV) → Hp E → Option R) : Option R :=
 match vs, H with
 | [(some (AV.sc (SV.slc 0 none b1))), (some (AV.sc (SV.str s))), (some (AV.sc (SV.int IntKind.i64 n)))], [(some (HE.mk true (HB.rows (B.i64 l1))))] => c_spec_l20Words_r_0 N b1 l1 s n (fun s5 => KL Ex.normal [(some (AV.sc (SV.str s5)))] [(some (HE.mk true (HB.rows (B.i64 l1))))])
 | _, _ => none
noncomputable def IT_spec_l20Words_r_0 (N : Nat) : Its E := addIt 0 (i_spec_l20Words_r_0 N) (noIt)
theorem IT_spec_l20Words_r_0_ok (N : Nat) : ItOk (IT_spec_l20Words_r_0 N) 1 19 sl_spec_l20Words_r (lsB Try.f26 [0]) :=
  addItB_ok (inner := []) ok (O_spec_l20Words_r_ok N) (jn_ok _ _ _) (noIt_ok) rfl (by kernel_rfl) rfl fun vs H KL r h => by
    unfold i_spec_l20Words_r_0 at h
    split at h
    · exact ⟨_, (le_spec_l20Words_r_0 N _ _ KL N _ _).trans h⟩
    · cases h
noncomputable def g_spec_l20Words_r (N : Nat) {R : Type} (b : Bool) (l : List Int) (k : ByteArray → Option R) : Option R :=
 (c_spec_l20Words_r_0 N b l (ByteArray.mk (List.toArray [])) (0 : Int) fun s2 =>
 (k s2))
theorem e_spec_l20Words_r (N : Nat) {R : Type} (b : Bool) (l : List Int) (K : AV → Hp E → Option R) :
    runFnI (E := E) (O_spec_l20Words_r N) (IT_spec_l20Words_r_0 N) sl_spec_l20Words_r J_spec_l20Words_r Try.f26 [(AV.sc (SV.slc 0 none b))] [(some (HE.mk true (HB.rows (B.i64 l))))] K =
      g_spec_l20Words_r N b l (fun s3 => K (AV.sc (SV.str s3)) [(some (HE.mk true (HB.rows (B.i64 l))))]) := by kernel_rfl
noncomputable def o_spec_l20Words_r (N : Nat) {R : Type} (args : List AV) (H : Hp E) (K : AV → Hp E → Option R) : Option R :=
 match args, H with
 | [(AV.sc (SV.slc 0 none b))], [(some (HE.mk true (HB.rows (B.i64 l))))] => g_spec_l20Words_r N b l (fun s3 => K (AV.sc (SV.str s3)) [(some (HE.mk true (HB.rows (B.i64 l))))])
 | _, _ => none
theorem o_spec_l20Words_r_ok (N : Nat) : FnOk E 26 (o_spec_l20Words_r N) := by
  intro R args H K r h
  unfold o_spec_l20Words_r at h
  dsimp only at h
  split at h
  · exact fnB_ok (ids := [0]) (top := [0]) ok (O_spec_l20Words_r_ok N) (jn_ok _ _ _) Try.func26 (by kernel_rfl) (IT := IT_spec_l20Words_r_0 N) (sl := sl_spec_l20Words_r) (J := J_spec_l20Words_r) (K := K) (H := [(some (HE.mk true (HB.rows (B.i64 _))))]) (IT_spec_l20Words_r_0_ok N) (by kernel_rfl) rfl ((e_spec_l20Words_r N _ _ K).trans h)
  · cases h
/-! ### loop.example/g00038/spec.l20Ports -/
abbrev sl_spec_l20Ports_r : SlotT := [(0, ([0, 3, 4], [3]))]
abbrev J_spec_l20Ports_r : JT := jn [] [] []
noncomputable def O_spec_l20Ports_r (N : Nat) : Orc E := addFn 31 (o_spec_PutWord N) (noFn)
theorem O_spec_l20Ports_r_ok (N : Nat) : OrcOk (O_spec_l20Ports_r N) := addFn_ok (o_spec_PutWord_ok N) (noFn_ok)
noncomputable def s_spec_l20Ports_r_0 (N : Nat) {R : Type} (b1 : Bool) (l1 : List PortValue) (s : ByteArray) (n : Int) (ag : ByteArray → Int → Option R)  (kN : ByteArray → Option R) : Option R :=
 (cond (decide ((n < (((List.length l1) : Nat) : Int))))
 (cond ((decide (((0 : Int) ≤ n))) && (decide ((n < (((List.length l1) : Nat) : Int)))))
 (elemK l1 (Int.toNat n) fun x =>
 (g_spec_PutWord N (PortValue.fPort x) fun s1 =>
 (cond (Nat.ble ((ByteArray.size s) + (ByteArray.size s1)) 9223372036854775807)
 (cond ((decide (((0 : Int) ≤ n))) && (decide ((n < (((List.length l1) : Nat) : Int)))))
 (elemK l1 (Int.toNat n) fun x1 =>
 (g_spec_PutWord N (PortValue.fValue x1) fun s2 =>
 (cond (Nat.ble ((ByteArray.size (s ++ s1)) + (ByteArray.size s2)) 9223372036854775807)
 (ag ((s ++ s1) ++ s2) (IntKind.wrap IntKind.i64 (n + (1 : Int))))
 none)))
 none)
 none)))
 none)
 (kN s))
noncomputable def l_spec_l20Ports_r_0 (N : Nat) {R : Type} (b1 : Bool) (l1 : List PortValue) (kN : ByteArray → Option R) : Nat → ByteArray → Int → Option R
 | 0, _, _ => none
 | f + 1, s, n => s_spec_l20Ports_r_0 N b1 l1 s n (fun s n => l_spec_l20Ports_r_0 N b1 l1 kN f s n)  kN
noncomputable def c_spec_l20Ports_r_0 (N : Nat) {R : Type} (b1 : Bool) (l1 : List PortValue) (s : ByteArray) (n : Int) (kN : ByteArray → Option R) : Option R := l_spec_l20Ports_r_0 N b1 l1 kN N s n
theorem se_spec_l20Ports_r_0 (N : Nat) {R : Type} (b1 : Bool) (l1 : List PortValue) (s : ByteArray) (n : Int) (AG : List (Option AV) → Hp E → Option R) (KL : Ex → List (Option AV) → Hp E → Option R) :
    iterStep (E := E) (O_spec_l20Ports_r N) (fun {R} => LI (noIt) 1 27 sl_spec_l20Ports_r (R := R)) J_spec_l20Ports_r 1 27 0 [0, 3, 4] [3] (body Try.f27 0) AG KL [(some (AV.sc (SV.slc 0 none b1))), (some (AV.sc (SV.str s))), (some (AV.sc (SV.int IntKind.i64 n)))] [(some (HE.mk true (HB.rows (B.iPortValue l1))))] =
      s_spec_l20Ports_r_0 N b1 l1 s n (fun s n => AG [(some (AV.sc (SV.slc 0 none b1))), (some (AV.sc (SV.str s))), (some (AV.sc (SV.int IntKind.i64 n)))] [(some (HE.mk true (HB.rows (B.iPortValue l1))))])  (fun s5 => KL Ex.normal [(some (AV.sc (SV.str s5)))] [(some (HE.mk true (HB.rows (B.iPortValue l1))))]) := by kernel_rfl
theorem le_spec_l20Ports_r_0 (N : Nat) {R : Type} (b1 : Bool) (l1 : List PortValue) (KL : Ex → List (Option AV) → Hp E → Option R) : ∀ (f : Nat), ∀ (s : ByteArray) (n : Int), iterK (E := E) (O_spec_l20Ports_r N) (fun {R} => LI (noIt) 1 27 sl_spec_l20Ports_r (R := R)) J_spec_l20Ports_r 1 27 0 [0, 3, 4] [3] (body Try.f27 0) f [(some (AV.sc (SV.slc 0 none b1))), (some (AV.sc (SV.str s))), (some (AV.sc (SV.int IntKind.i64 n)))] [(some (HE.mk true (HB.rows (B.iPortValue l1))))] KL = l_spec_l20Ports_r_0 N b1 l1 (fun s5 => KL Ex.normal [(some (AV.sc (SV.str s5)))] [(some (HE.mk true (HB.rows (B.iPortValue l1))))]) f s n := by
  intro f
  induction f with
  | zero => intros; rfl
  | succ f ih =>
    intro s n
    rw [iterK_succ, se_spec_l20Ports_r_0]
    exact (congrArg (fun z0 => s_spec_l20Ports_r_0 N b1 l1 s n z0 (fun s5 => KL Ex.normal [(some (AV.sc (SV.str s5)))] [(some (HE.mk true (HB.rows (B.iPortValue l1))))])) (funext fun s => funext fun n => ih s n))
noncomputable def i_spec_l20Ports_r_0 (N : Nat) {R : Type} (vs : List (Option AV)) (H : Hp E) (KL : Ex → List (Option AV) → Hp E → Option R) : Option R :=
 match vs, H with
 | [(some (AV.sc (SV.slc 0 none b1))), (some (AV.sc (SV.str s))), (some (AV.sc (SV.int IntKind.i64 n)))], [(some (HE.mk true (HB.rows (B.iPortValue l1))))] => c_spec_l20Ports_r_0 N b1 l1 s n (fun s6 => KL Ex.normal [(some (AV.sc (SV.str s6)))] [(some (HE.mk true (HB.rows (B.iPortValue l1))))])
 | _, _ => none
noncomputable def IT_spec_l20Ports_r_0 (N : Nat) : Its E := addIt 0 (i_spec_l20Ports_r_0 N) (noIt)
theorem IT_spec_l20Ports_r_0_ok (N : Nat) : ItOk (IT_spec_l20Ports_r_0 N) 1 27 sl_spec_l20Ports_r (lsB Try.f27 [0]) :=
  addItB_ok (inner := []) ok (O_spec_l20Ports_r_ok N) (jn_ok _ _ _) (noIt_ok) rfl (by kernel_rfl) rfl fun vs H KL r h => by
    unfold i_spec_l20Ports_r_0 at h
    split at h
    · exact ⟨_, (le_spec_l20Ports_r_0 N _ _ KL N _ _).trans h⟩
    · cases h
noncomputable def g_spec_l20Ports_r (N : Nat) {R : Type} (b : Bool) (l : List PortValue) (k : ByteArray → Option R) : Option R :=
 (c_spec_l20Ports_r_0 N b l (ByteArray.mk (List.toArray [])) (0 : Int) fun s3 =>
 (k s3))
theorem e_spec_l20Ports_r (N : Nat) {R : Type} (b : Bool) (l : List PortValue) (K : AV → Hp E → Option R) :
    runFnI (E := E) (O_spec_l20Ports_r N) (IT_spec_l20Ports_r_0 N) sl_spec_l20Ports_r J_spec_l20Ports_r Try.f27 [(AV.sc (SV.slc 0 none b))] [(some (HE.mk true (HB.rows (B.iPortValue l))))] K =
      g_spec_l20Ports_r N b l (fun s4 => K (AV.sc (SV.str s4)) [(some (HE.mk true (HB.rows (B.iPortValue l))))]) := by kernel_rfl
noncomputable def o_spec_l20Ports_r (N : Nat) {R : Type} (args : List AV) (H : Hp E) (K : AV → Hp E → Option R) : Option R :=
 match args, H with
 | [(AV.sc (SV.slc 0 none b))], [(some (HE.mk true (HB.rows (B.iPortValue l))))] => g_spec_l20Ports_r N b l (fun s4 => K (AV.sc (SV.str s4)) [(some (HE.mk true (HB.rows (B.iPortValue l))))])
 | _, _ => none
theorem o_spec_l20Ports_r_ok (N : Nat) : FnOk E 27 (o_spec_l20Ports_r N) := by
  intro R args H K r h
  unfold o_spec_l20Ports_r at h
  dsimp only at h
  split at h
  · exact fnB_ok (ids := [0]) (top := [0]) ok (O_spec_l20Ports_r_ok N) (jn_ok _ _ _) Try.func27 (by kernel_rfl) (IT := IT_spec_l20Ports_r_0 N) (sl := sl_spec_l20Ports_r) (J := J_spec_l20Ports_r) (K := K) (H := [(some (HE.mk true (HB.rows (B.iPortValue _))))]) (IT_spec_l20Ports_r_0_ok N) (by kernel_rfl) rfl ((e_spec_l20Ports_r N _ _ K).trans h)
  · cases h
/-! ### loop.example/g00038/spec.HasBit -/
abbrev sl_spec_HasBit : SlotT := []
abbrev J_spec_HasBit : JT := jn [(1, [(4, .b)])] [] []
noncomputable def O_spec_HasBit (N : Nat) : Orc E := noFn
theorem O_spec_HasBit_ok (N : Nat) : OrcOk (O_spec_HasBit N) := noFn_ok
noncomputable def g_spec_HasBit (N : Nat) {R : Type} (s : ByteArray) (n : Int) (k : Bool → Option R) : Option R :=
 (oK (cond (decide (((((ByteArray.size s) : Nat) : Int) ≤ (65536 : Int))))
 (cond (decide ((n ≥ (0 : Int))))
 (cond (decide (((IntKind.wrap IntKind.i64 (Int.tdiv n (8 : Int))) < (((ByteArray.size s) : Nat) : Int))))
 (cond ((decide (((0 : Int) ≤ (IntKind.wrap IntKind.i64 (Int.tdiv n (8 : Int)))))) && (decide (((IntKind.wrap IntKind.i64 (Int.tdiv n (8 : Int))) < (((ByteArray.size s) : Nat) : Int)))))
 (cond (decide (((IntKind.wrap IntKind.u64 (Int.tmod n (8 : Int))) < (0 : Int))))
 none
 (some ((IntKind.wrap IntKind.u8 (((BitVec.toNat ((BitVec.ofInt 8 (Int.fdiv (Go.Eng.bt s (Int.toNat (IntKind.wrap IntKind.i64 (Int.tdiv n (8 : Int))))) ((2 : Int) ^ (Min.min (Int.toNat (IntKind.wrap IntKind.u64 (Int.tmod n (8 : Int)))) 8)))) &&& (BitVec.ofInt 8 (1 : Int)))) : Nat) : Int)) == (1 : Int))))
 none)
 (some false))
 (some false))
 (some false)) fun j =>
 (k j))
theorem e_spec_HasBit (N : Nat) {R : Type} (s : ByteArray) (n : Int) (K : AV → Hp E → Option R) :
    runFnI (E := E) (O_spec_HasBit N) (noIt) sl_spec_HasBit J_spec_HasBit Try.f102 [(AV.sc (SV.str s)), (AV.sc (SV.int IntKind.i64 n))] [] K =
      g_spec_HasBit N s n (fun b => K (AV.sc (SV.bool b)) []) := by kernel_rfl
noncomputable def o_spec_HasBit (N : Nat) {R : Type} (args : List AV) (H : Hp E) (K : AV → Hp E → Option R) : Option R :=
 match args, H with
 | [(AV.sc (SV.str s)), (AV.sc (SV.int IntKind.i64 n))], [] => g_spec_HasBit N s n (fun b => K (AV.sc (SV.bool b)) [])
 | _, _ => none
theorem o_spec_HasBit_ok (N : Nat) : FnOk E 102 (o_spec_HasBit N) := by
  intro R args H K r h
  unfold o_spec_HasBit at h
  dsimp only at h
  split at h
  · exact fnB_ok (ids := []) (top := []) ok (O_spec_HasBit_ok N) (jn_ok _ _ _) Try.func102 (by kernel_rfl) (IT := noIt) (sl := sl_spec_HasBit) (J := J_spec_HasBit) (K := K) (H := []) (noIt_ok) (by kernel_rfl) rfl ((e_spec_HasBit N _ _ K).trans h)
  · cases h
/-! ### loop.example/g00038/spec.PutBit -/
abbrev sl_spec_PutBit : SlotT := [(0, ([0, 1, 2, 7], [0, 1, 2, 7]))]
abbrev J_spec_PutBit : JT := jn [(1, [(18, .b)])] [] []
noncomputable def O_spec_PutBit (N : Nat) : Orc E := addFn 102 (o_spec_HasBit N) (noFn)
noncomputable def pa_spec_PutBit__o_spec_HasBit (N : Nat) (G_spec_HasBit : ∀ {R : Type} (s : ByteArray) (n : Int) (k : Bool → Option R), Option R) {R : Type} (args : List AV) (H : Hp E) (K : AV → Hp E → Option R) : Option R :=
 match args, H with
 | [(AV.sc (SV.str s)), (AV.sc (SV.int IntKind.i64 n))], [] => G_spec_HasBit s n (fun b => K (AV.sc (SV.bool b)) [])
 | _, _ => none
noncomputable def OA_spec_PutBit (N : Nat) (G_spec_HasBit : ∀ {R : Type} (s : ByteArray) (n : Int) (k : Bool → Option R), Option R) : Orc E := addFn 102 (pa_spec_PutBit__o_spec_HasBit N G_spec_HasBit) (noFn)
theorem O_spec_PutBit_ok (N : Nat) : OrcOk (O_spec_PutBit N) := addFn_ok (o_spec_HasBit_ok N) (noFn_ok)
noncomputable def s_spec_PutBit_0 (N : Nat) {R : Type} (s1 : ByteArray) (n1 : Int) (b1 : Bool) (b2 : Bool) (l : List Int) (ag : Bool → (List Int) → Option R)  (kN : Bool → (List Int) → Option R) : Option R :=
 (cond (decide (((((List.length l) : Nat) : Int) ≤ (IntKind.wrap IntKind.i64 (Int.tdiv n1 (8 : Int))))))
 (cond (Go.Eng.roomOk ((List.length l) + 1) 1)
 (ag false (l ++ [(0 : Int)]))
 none)
 (kN b2 l))
noncomputable def ga_s_spec_PutBit_0 (N : Nat) (G_spec_HasBit : ∀ {R : Type} (s : ByteArray) (n : Int) (k : Bool → Option R), Option R) {R : Type} (s1 : ByteArray) (n1 : Int) (b1 : Bool) (b2 : Bool) (l : List Int) (ag : Bool → (List Int) → Option R)  (kN : Bool → (List Int) → Option R) : Option R :=
 (cond (decide (((((List.length l) : Nat) : Int) ≤ (IntKind.wrap IntKind.i64 (Int.tdiv n1 (8 : Int))))))
 (cond (Go.Eng.roomOk ((List.length l) + 1) 1)
 (ag false (l ++ [(0 : Int)]))
 none)
 (kN b2 l))
noncomputable def l_spec_PutBit_0 (N : Nat) {R : Type} (s1 : ByteArray) (n1 : Int) (b1 : Bool) (kN : Bool → (List Int) → Option R) : Nat → Bool → (List Int) → Option R
 | 0, _, _ => none
 | f + 1, b2, l => s_spec_PutBit_0 N s1 n1 b1 b2 l (fun b2 l => l_spec_PutBit_0 N s1 n1 b1 kN f b2 l)  kN
noncomputable def c_spec_PutBit_0 (N : Nat) {R : Type} (s1 : ByteArray) (n1 : Int) (b1 : Bool) (b2 : Bool) (l : List Int) (kN : Bool → (List Int) → Option R) : Option R := l_spec_PutBit_0 N s1 n1 b1 kN N b2 l
theorem ea_se_spec_PutBit_0 (N : Nat) (G_spec_HasBit : ∀ {R : Type} (s : ByteArray) (n : Int) (k : Bool → Option R), Option R) {R : Type} (s1 : ByteArray) (n1 : Int) (b1 : Bool) (b2 : Bool) (l : List Int) (AG : List (Option AV) → Hp E → Option R) (KL : Ex → List (Option AV) → Hp E → Option R) :
    iterStep (E := E) (OA_spec_PutBit N G_spec_HasBit) (fun {R} => LI (noIt) 0 50 sl_spec_PutBit (R := R)) J_spec_PutBit 0 50 0 [0, 1, 2, 7] [0, 1, 2, 7] (body Try.f71 0) AG KL [(some (AV.sc (SV.str s1))), (some (AV.sc (SV.int IntKind.i64 n1))), (some (AV.sc (SV.bool b1))), (some (AV.sc (SV.slc 0 none b2)))] [(some (HE.mk false (HB.rows (B.u8 l))))] =
      ga_s_spec_PutBit_0 N G_spec_HasBit s1 n1 b1 b2 l (fun b2 l => AG [(some (AV.sc (SV.str s1))), (some (AV.sc (SV.int IntKind.i64 n1))), (some (AV.sc (SV.bool b1))), (some (AV.sc (SV.slc 0 none b2)))] [(some (HE.mk false (HB.rows (B.u8 l))))])  (fun b5 l2 => KL Ex.normal [(some (AV.sc (SV.str s1))), (some (AV.sc (SV.int IntKind.i64 n1))), (some (AV.sc (SV.bool b1))), (some (AV.sc (SV.slc 0 none b5)))] [(some (HE.mk false (HB.rows (B.u8 l2))))]) := by kernel_rfl
theorem se_spec_PutBit_0 (N : Nat) {R : Type} (s1 : ByteArray) (n1 : Int) (b1 : Bool) (b2 : Bool) (l : List Int) (AG : List (Option AV) → Hp E → Option R) (KL : Ex → List (Option AV) → Hp E → Option R) :
    iterStep (E := E) (O_spec_PutBit N) (fun {R} => LI (noIt) 0 50 sl_spec_PutBit (R := R)) J_spec_PutBit 0 50 0 [0, 1, 2, 7] [0, 1, 2, 7] (body Try.f71 0) AG KL [(some (AV.sc (SV.str s1))), (some (AV.sc (SV.int IntKind.i64 n1))), (some (AV.sc (SV.bool b1))), (some (AV.sc (SV.slc 0 none b2)))] [(some (HE.mk false (HB.rows (B.u8 l))))] =
      s_spec_PutBit_0 N s1 n1 b1 b2 l (fun b2 l => AG [(some (AV.sc (SV.str s1))), (some (AV.sc (SV.int IntKind.i64 n1))), (some (AV.sc (SV.bool b1))), (some (AV.sc (SV.slc 0 none b2)))] [(some (HE.mk false (HB.rows (B.u8 l))))])  (fun b5 l2 => KL Ex.normal [(some (AV.sc (SV.str s1))), (some (AV.sc (SV.int IntKind.i64 n1))), (some (AV.sc (SV.bool b1))), (some (AV.sc (SV.slc 0 none b5)))] [(some (HE.mk false (HB.rows (B.u8 l2))))]) := castPr (by kernel_rfl) (ea_se_spec_PutBit_0 N (g_spec_HasBit N) s1 n1 b1 b2 l AG KL)
theorem le_spec_PutBit_0 (N : Nat) {R : Type} (s1 : ByteArray) (n1 : Int) (b1 : Bool) (KL : Ex → List (Option AV) → Hp E → Option R) : ∀ (f : Nat), ∀ (b2 : Bool) (l : List Int), iterK (E := E) (O_spec_PutBit N) (fun {R} => LI (noIt) 0 50 sl_spec_PutBit (R := R)) J_spec_PutBit 0 50 0 [0, 1, 2, 7] [0, 1, 2, 7] (body Try.f71 0) f [(some (AV.sc (SV.str s1))), (some (AV.sc (SV.int IntKind.i64 n1))), (some (AV.sc (SV.bool b1))), (some (AV.sc (SV.slc 0 none b2)))] [(some (HE.mk false (HB.rows (B.u8 l))))] KL = l_spec_PutBit_0 N s1 n1 b1 (fun b5 l2 => KL Ex.normal [(some (AV.sc (SV.str s1))), (some (AV.sc (SV.int IntKind.i64 n1))), (some (AV.sc (SV.bool b1))), (some (AV.sc (SV.slc 0 none b5)))] [(some (HE.mk false (HB.rows (B.u8 l2))))]) f b2 l := by
  intro f
  induction f with
  | zero => intros; rfl
  | succ f ih =>
    intro b2 l
    rw [iterK_succ, se_spec_PutBit_0]
    exact (congrArg (fun z0 => s_spec_PutBit_0 N s1 n1 b1 b2 l z0 (fun b5 l2 => KL Ex.normal [(some (AV.sc (SV.str s1))), (some (AV.sc (SV.int IntKind.i64 n1))), (some (AV.sc (SV.bool b1))), (some (AV.sc (SV.slc 0 none b5)))] [(some (HE.mk false (HB.rows (B.u8 l2))))])) (funext fun b2 => funext fun l => ih b2 l))
noncomputable def i_spec_PutBit_0 (N : Nat) {R : Type} (vs : List (Option AV)) (H : Hp E) (KL : Ex → List (Option AV) → Hp E → Option R) : Option R :=
 match vs, H with
 | [(some (AV.sc (SV.str s1))), (some (AV.sc (SV.int IntKind.i64 n1))), (some (AV.sc (SV.bool b1))), (some (AV.sc (SV.slc 0 none b2)))], [(some (HE.mk false (HB.rows (B.u8 l))))] => c_spec_PutBit_0 N s1 n1 b1 b2 l (fun b6 l3 => KL Ex.normal [(some (AV.sc (SV.str s1))), (some (AV.sc (SV.int IntKind.i64 n1))), (some (AV.sc (SV.bool b1))), (some (AV.sc (SV.slc 0 none b6)))] [(some (HE.mk false (HB.rows (B.u8 l3))))])
 | _, _ => none
noncomputable def IT_spec_PutBit_0 (N : Nat) : Its E := addIt 0 (i_spec_PutBit_0 N) (noIt)
theorem IT_spec_PutBit_0_ok (N : Nat) : ItOk (IT_spec_PutBit_0 N) 0 50 sl_spec_PutBit (lsB Try.f71 [0]) :=
  addItB_ok (inner := []) ok (O_spec_PutBit_ok N) (jn_ok _ _ _) (noIt_ok) rfl (by kernel_rfl) rfl fun vs H KL r h => by
    unfold i_spec_PutBit_0 at h
    split at h
    · exact ⟨_, (le_spec_PutBit_0 N _ _ _ KL N _ _).trans h⟩
    · cases h
noncomputable def g_spec_PutBit (N : Nat) {R : Type} (s : ByteArray) (n : Int) (b : Bool) (k : ByteArray → Option R) : Option R :=
 (oK (cond (decide (((((ByteArray.size s) : Nat) : Int) > (65536 : Int))))
 (some true)
 (cond (decide ((n < (0 : Int))))
 (some true)
 (some (decide ((n ≥ (524288 : Int))))))) fun j =>
 (cond j
 (k (ByteArray.mk (List.toArray [])))
 (c_spec_PutBit_0 N s n b false (Go.Eng.ofBytes s) fun b3 l1 =>
 (g_spec_HasBit N s n fun b4 =>
 (cond (!(b4 == b))
 (cond ((decide (((0 : Int) ≤ (IntKind.wrap IntKind.i64 (Int.tdiv n (8 : Int)))))) && (decide (((IntKind.wrap IntKind.i64 (Int.tdiv n (8 : Int))) < (((List.length l1) : Nat) : Int)))))
 (elemK l1 (Int.toNat (IntKind.wrap IntKind.i64 (Int.tdiv n (8 : Int)))) fun x =>
 (cond (decide (((IntKind.wrap IntKind.u64 (Int.tmod n (8 : Int))) < (0 : Int))))
 none
 (cond ((decide (((0 : Int) ≤ (IntKind.wrap IntKind.i64 (Int.tdiv n (8 : Int)))))) && (decide (((IntKind.wrap IntKind.i64 (Int.tdiv n (8 : Int))) < (((List.length l1) : Nat) : Int)))))
 (elemK l1 (Int.toNat (IntKind.wrap IntKind.i64 (Int.tdiv n (8 : Int)))) fun x1 =>
 (cond (Nat.blt (Int.toNat (IntKind.wrap IntKind.i64 (Int.tdiv n (8 : Int)))) (List.length l1))
 (cond (Nat.ble (0 + (List.length (nset l1 (Int.toNat (IntKind.wrap IntKind.i64 (Int.tdiv n (8 : Int)))) (IntKind.wrap IntKind.u8 (((BitVec.toNat ((BitVec.ofInt 8 x) ^^^ (BitVec.ofInt 8 (IntKind.wrap IntKind.u8 ((1 : Int) * ((2 : Int) ^ (Min.min (Int.toNat (IntKind.wrap IntKind.u64 (Int.tmod n (8 : Int)))) 8))))))) : Nat) : Int))))) (List.length (nset l1 (Int.toNat (IntKind.wrap IntKind.i64 (Int.tdiv n (8 : Int)))) (IntKind.wrap IntKind.u8 (((BitVec.toNat ((BitVec.ofInt 8 x) ^^^ (BitVec.ofInt 8 (IntKind.wrap IntKind.u8 ((1 : Int) * ((2 : Int) ^ (Min.min (Int.toNat (IntKind.wrap IntKind.u64 (Int.tmod n (8 : Int)))) 8))))))) : Nat) : Int)))))
 (k (Go.Eng.toBytes (Go.Eng.seg (nset l1 (Int.toNat (IntKind.wrap IntKind.i64 (Int.tdiv n (8 : Int)))) (IntKind.wrap IntKind.u8 (((BitVec.toNat ((BitVec.ofInt 8 x) ^^^ (BitVec.ofInt 8 (IntKind.wrap IntKind.u8 ((1 : Int) * ((2 : Int) ^ (Min.min (Int.toNat (IntKind.wrap IntKind.u64 (Int.tmod n (8 : Int)))) 8))))))) : Nat) : Int))) 0 (List.length (nset l1 (Int.toNat (IntKind.wrap IntKind.i64 (Int.tdiv n (8 : Int)))) (IntKind.wrap IntKind.u8 (((BitVec.toNat ((BitVec.ofInt 8 x) ^^^ (BitVec.ofInt 8 (IntKind.wrap IntKind.u8 ((1 : Int) * ((2 : Int) ^ (Min.min (Int.toNat (IntKind.wrap IntKind.u64 (Int.tmod n (8 : Int)))) 8))))))) : Nat) : Int)))))))
 none)
 none))
 none)))
 none)
 (cond (Nat.ble (0 + (List.length l1)) (List.length l1))
 (k (Go.Eng.toBytes (Go.Eng.seg l1 0 (List.length l1))))
 none))))))
noncomputable def ga_g_spec_PutBit (N : Nat) (G_spec_HasBit : ∀ {R : Type} (s : ByteArray) (n : Int) (k : Bool → Option R), Option R) {R : Type} (s : ByteArray) (n : Int) (b : Bool) (k : ByteArray → Option R) : Option R :=
 (oK (cond (decide (((((ByteArray.size s) : Nat) : Int) > (65536 : Int))))
 (some true)
 (cond (decide ((n < (0 : Int))))
 (some true)
 (some (decide ((n ≥ (524288 : Int))))))) fun j =>
 (cond j
 (k (ByteArray.mk (List.toArray [])))
 (c_spec_PutBit_0 N s n b false (Go.Eng.ofBytes s) fun b3 l1 =>
 (G_spec_HasBit s n fun b4 =>
 (cond (!(b4 == b))
 (cond ((decide (((0 : Int) ≤ (IntKind.wrap IntKind.i64 (Int.tdiv n (8 : Int)))))) && (decide (((IntKind.wrap IntKind.i64 (Int.tdiv n (8 : Int))) < (((List.length l1) : Nat) : Int)))))
 (elemK l1 (Int.toNat (IntKind.wrap IntKind.i64 (Int.tdiv n (8 : Int)))) fun x =>
 (cond (decide (((IntKind.wrap IntKind.u64 (Int.tmod n (8 : Int))) < (0 : Int))))
 none
 (cond ((decide (((0 : Int) ≤ (IntKind.wrap IntKind.i64 (Int.tdiv n (8 : Int)))))) && (decide (((IntKind.wrap IntKind.i64 (Int.tdiv n (8 : Int))) < (((List.length l1) : Nat) : Int)))))
 (elemK l1 (Int.toNat (IntKind.wrap IntKind.i64 (Int.tdiv n (8 : Int)))) fun x1 =>
 (cond (Nat.blt (Int.toNat (IntKind.wrap IntKind.i64 (Int.tdiv n (8 : Int)))) (List.length l1))
 (cond (Nat.ble (0 + (List.length (nset l1 (Int.toNat (IntKind.wrap IntKind.i64 (Int.tdiv n (8 : Int)))) (IntKind.wrap IntKind.u8 (((BitVec.toNat ((BitVec.ofInt 8 x) ^^^ (BitVec.ofInt 8 (IntKind.wrap IntKind.u8 ((1 : Int) * ((2 : Int) ^ (Min.min (Int.toNat (IntKind.wrap IntKind.u64 (Int.tmod n (8 : Int)))) 8))))))) : Nat) : Int))))) (List.length (nset l1 (Int.toNat (IntKind.wrap IntKind.i64 (Int.tdiv n (8 : Int)))) (IntKind.wrap IntKind.u8 (((BitVec.toNat ((BitVec.ofInt 8 x) ^^^ (BitVec.ofInt 8 (IntKind.wrap IntKind.u8 ((1 : Int) * ((2 : Int) ^ (Min.min (Int.toNat (IntKind.wrap IntKind.u64 (Int.tmod n (8 : Int)))) 8))))))) : Nat) : Int)))))
 (k (Go.Eng.toBytes (Go.Eng.seg (nset l1 (Int.toNat (IntKind.wrap IntKind.i64 (Int.tdiv n (8 : Int)))) (IntKind.wrap IntKind.u8 (((BitVec.toNat ((BitVec.ofInt 8 x) ^^^ (BitVec.ofInt 8 (IntKind.wrap IntKind.u8 ((1 : Int) * ((2 : Int) ^ (Min.min (Int.toNat (IntKind.wrap IntKind.u64 (Int.tmod n (8 : Int)))) 8))))))) : Nat) : Int))) 0 (List.length (nset l1 (Int.toNat (IntKind.wrap IntKind.i64 (Int.tdiv n (8 : Int)))) (IntKind.wrap IntKind.u8 (((BitVec.toNat ((BitVec.ofInt 8 x) ^^^ (BitVec.ofInt 8 (IntKind.wrap IntKind.u8 ((1 : Int) * ((2 : Int) ^ (Min.min (Int.toNat (IntKind.wrap IntKind.u64 (Int.tmod n (8 : Int)))) 8))))))) : Nat) : Int)))))))
 none)
 none))
 none)))
 none)
 (cond (Nat.ble (0 + (List.length l1)) (List.length l1))
 (k (Go.Eng.toBytes (Go.Eng.seg l1 0 (List.length l1))))
 none))))))
theorem ea_e_spec_PutBit (N : Nat) (G_spec_HasBit : ∀ {R : Type} (s : ByteArray) (n : Int) (k : Bool → Option R), Option R) {R : Type} (s : ByteArray) (n : Int) (b : Bool) (K : AV → Hp E → Option R) :
    runFnI (E := E) (OA_spec_PutBit N G_spec_HasBit) (IT_spec_PutBit_0 N) sl_spec_PutBit J_spec_PutBit Try.f71 [(AV.sc (SV.str s)), (AV.sc (SV.int IntKind.i64 n)), (AV.sc (SV.bool b))] [] K =
      ga_g_spec_PutBit N G_spec_HasBit s n b (fun s2 => K (AV.sc (SV.str s2)) []) := by kernel_rfl
theorem e_spec_PutBit (N : Nat) {R : Type} (s : ByteArray) (n : Int) (b : Bool) (K : AV → Hp E → Option R) :
    runFnI (E := E) (O_spec_PutBit N) (IT_spec_PutBit_0 N) sl_spec_PutBit J_spec_PutBit Try.f71 [(AV.sc (SV.str s)), (AV.sc (SV.int IntKind.i64 n)), (AV.sc (SV.bool b))] [] K =
      g_spec_PutBit N s n b (fun s2 => K (AV.sc (SV.str s2)) []) := castPr (by kernel_rfl) (ea_e_spec_PutBit N (g_spec_HasBit N) s n b K)
noncomputable def o_spec_PutBit (N : Nat) {R : Type} (args : List AV) (H : Hp E) (K : AV → Hp E → Option R) : Option R :=
 match args, H with
 | [(AV.sc (SV.str s)), (AV.sc (SV.int IntKind.i64 n)), (AV.sc (SV.bool b))], [] => g_spec_PutBit N s n b (fun s2 => K (AV.sc (SV.str s2)) [])
 | _, _ => none
theorem o_spec_PutBit_ok (N : Nat) : FnOk E 71 (o_spec_PutBit N) := by
  intro R args H K r h
  unfold o_spec_PutBit at h
  dsimp only at h
  split at h
  · exact fnB_ok (ids := [0]) (top := [0]) ok (O_spec_PutBit_ok N) (jn_ok _ _ _) Try.func71 (by kernel_rfl) (IT := IT_spec_PutBit_0 N) (sl := sl_spec_PutBit) (J := J_spec_PutBit) (K := K) (H := []) (IT_spec_PutBit_0_ok N) (by kernel_rfl) rfl ((e_spec_PutBit N _ _ _ K).trans h)
  · cases h
end Go.Sa
