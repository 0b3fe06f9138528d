import Derived.Test.YtflmjaehnbnjnaaSpec
import Derived.Test.YtflmjaehnbnjnaaPLb
import Derived.Test.YtflmjaehnbnjnaaW5
set_option linter.all false
namespace Go.Sa
open Go Go.Eng Go.Proofs
set_option maxRecDepth 100000
set_option maxHeartbeats 4000000
/-! ### loop.example/g00038/spec.l11Dma -/
abbrev sl_spec_l11Dma : SlotT := [(0, ([0, 1, 2, 3, 4, 10, 13, 14], [0, 10, 11, 12, 13, 14]))]
abbrev J_spec_l11Dma : JT := jn [(3, [(53, .b)])] [] []
noncomputable def O_spec_l11Dma (N : Nat) : Orc E := addFn 9 (o_spec_Walk N) (addFn 69 (o_spec_l01Min N) (addFn 10 (o_spec_MemFault N) (noFn)))
noncomputable def pa_spec_l11Dma__o_spec_Walk (N : Nat) (G_spec_Walk : ∀ {R : Type} (s : ByteArray) (n : Int) (n1 : Int) (n2 : Int) (b : Bool) (k : Int → Int → Int → Bool → Bool → ByteArray → (List Int) → Option R), Option R) {R : Type} (args : List AV) (H : Hp E) (K : AV → Hp E → Option R) : Option R :=
 match args, H with
 | [(AV.sc (SV.str s)), (AV.sc (SV.int IntKind.i64 n)), (AV.sc (SV.int IntKind.i64 n1)), (AV.sc (SV.int IntKind.i64 n2)), (AV.sc (SV.bool b))], [] => G_spec_Walk s n n1 n2 b (fun n6 n7 n8 b6 b7 s3 l => K (AV.agg [(SV.int IntKind.i64 n6), (SV.int IntKind.i64 n7), (SV.int IntKind.i64 n8), (SV.bool b6), (SV.slc 0 none b7), (SV.str s3)]) [(some (HE.mk false (HB.rows (B.i64 l))))])
 | _, _ => none
noncomputable def pa_spec_l11Dma__o_spec_l01Min (N : Nat) (G_spec_l01Min : ∀ {R : Type} (n : Int) (n1 : Int) (k : Int → Option R), Option R) {R : Type} (args : List AV) (H : Hp E) (K : AV → Hp E → Option R) : Option R :=
 match args, H with
 | [(AV.sc (SV.int IntKind.i64 n)), (AV.sc (SV.int IntKind.i64 n1))], [] => G_spec_l01Min n n1 (fun n2 => K (AV.sc (SV.int IntKind.i64 n2)) [])
 | _, _ => none
noncomputable def pa_spec_l11Dma__o_spec_MemFault (N : Nat) (G_spec_MemFault : ∀ {R : Type} (s : ByteArray) (k : Int → Option R), Option R) {R : Type} (args : List AV) (H : Hp E) (K : AV → Hp E → Option R) : Option R :=
 match args, H with
 | [(AV.sc (SV.str s))], [] => G_spec_MemFault s (fun n => K (AV.sc (SV.int IntKind.i64 n)) [])
 | _, _ => none
noncomputable def OA_spec_l11Dma (N : Nat) (G_spec_Walk : ∀ {R : Type} (s : ByteArray) (n : Int) (n1 : Int) (n2 : Int) (b : Bool) (k : Int → Int → Int → Bool → Bool → ByteArray → (List Int) → Option R), Option R) (G_spec_l01Min : ∀ {R : Type} (n : Int) (n1 : Int) (k : Int → Option R), Option R) (G_spec_MemFault : ∀ {R : Type} (s : ByteArray) (k : Int → Option R), Option R) : Orc E := addFn 9 (pa_spec_l11Dma__o_spec_Walk N G_spec_Walk) (addFn 69 (pa_spec_l11Dma__o_spec_l01Min N G_spec_l01Min) (addFn 10 (pa_spec_l11Dma__o_spec_MemFault N G_spec_MemFault) (noFn)))
theorem O_spec_l11Dma_ok (N : Nat) : OrcOk (O_spec_l11Dma N) := addFn_ok (o_spec_Walk_ok N) (addFn_ok (o_spec_l01Min_ok N) (addFn_ok (o_spec_MemFault_ok N) (noFn_ok)))
noncomputable def s_spec_l11Dma_0 (N : Nat) {R : Type} (n5 : Int) (n8 : Int) (n9 : Int) (n10 : Int) (s2 : ByteArray) (s3 : ByteArray) (s1 : ByteArray) (n6 : Int) (n7 : Int) (b : Bool) (b1 : Bool) (l : List Int) (l1 : List Int) (ag : ByteArray → Int → Int → Bool → Bool → (List Int) → (List Int) → Option R)  (kR : ByteArray → Bool → Bool → Int → (List Int) → (List Int) → Option R) (kN : ByteArray → Bool → Bool → (List Int) → (List Int) → Option R) : Option R :=
 (cond (decide ((n7 > (0 : Int))))
 (g_spec_l01Min N n7 (IntKind.wrap IntKind.i64 ((256 : Int) - (Int.tmod n6 (256 : Int)))) fun n11 =>
 (g_spec_Walk N s1 n5 n6 n8 true fun n12 n13 n14 b2 b3 s4 l2 =>
 (cond (n12 != (0 : Int))
 (kR s1 b b1 n6 l l1)
 (cond (Go.Eng.roomOk ((List.length l) + (List.length [n13])) 8)
 (cond (Go.Eng.roomOk ((List.length l1) + (List.length [n11])) 8)
 (ag s4 (IntKind.wrap IntKind.i64 (n6 + n11)) (IntKind.wrap IntKind.i64 (n7 - n11)) (cond (Nat.beq (List.length [n13]) 0) b false) (cond (Nat.beq (List.length [n11]) 0) b1 false) (l ++ [n13]) (l1 ++ [n11]))
 none)
 none))))
 (kN s1 b b1 l l1))
noncomputable def ga_s_spec_l11Dma_0 (N : Nat) (G_spec_Walk : ∀ {R : Type} (s : ByteArray) (n : Int) (n1 : Int) (n2 : Int) (b : Bool) (k : Int → Int → Int → Bool → Bool → ByteArray → (List Int) → Option R), Option R) (G_spec_l01Min : ∀ {R : Type} (n : Int) (n1 : Int) (k : Int → Option R), Option R) (G_spec_MemFault : ∀ {R : Type} (s : ByteArray) (k : Int → Option R), Option R) {R : Type} (n5 : Int) (n8 : Int) (n9 : Int) (n10 : Int) (s2 : ByteArray) (s3 : ByteArray) (s1 : ByteArray) (n6 : Int) (n7 : Int) (b : Bool) (b1 : Bool) (l : List Int) (l1 : List Int) (ag : ByteArray → Int → Int → Bool → Bool → (List Int) → (List Int) → Option R)  (kR : ByteArray → Bool → Bool → Int → (List Int) → (List Int) → Option R) (kN : ByteArray → Bool → Bool → (List Int) → (List Int) → Option R) : Option R :=
 (cond (decide ((n7 > (0 : Int))))
 (G_spec_l01Min n7 (IntKind.wrap IntKind.i64 ((256 : Int) - (Int.tmod n6 (256 : Int)))) fun n11 =>
 (G_spec_Walk s1 n5 n6 n8 true fun n12 n13 n14 b2 b3 s4 l2 =>
 (cond (n12 != (0 : Int))
 (kR s1 b b1 n6 l l1)
 (cond (Go.Eng.roomOk ((List.length l) + (List.length [n13])) 8)
 (cond (Go.Eng.roomOk ((List.length l1) + (List.length [n11])) 8)
 (ag s4 (IntKind.wrap IntKind.i64 (n6 + n11)) (IntKind.wrap IntKind.i64 (n7 - n11)) (cond (Nat.beq (List.length [n13]) 0) b false) (cond (Nat.beq (List.length [n11]) 0) b1 false) (l ++ [n13]) (l1 ++ [n11]))
 none)
 none))))
 (kN s1 b b1 l l1))
noncomputable def l_spec_l11Dma_0 (N : Nat) {R : Type} (n5 : Int) (n8 : Int) (n9 : Int) (n10 : Int) (s2 : ByteArray) (s3 : ByteArray) (kR : ByteArray → Bool → Bool → Int → (List Int) → (List Int) → Option R) (kN : ByteArray → Bool → Bool → (List Int) → (List Int) → Option R) : Nat → ByteArray → Int → Int → Bool → Bool → (List Int) → (List Int) → Option R
 | 0, _, _, _, _, _, _, _ => none
 | f + 1, s1, n6, n7, b, b1, l, l1 => s_spec_l11Dma_0 N n5 n8 n9 n10 s2 s3 s1 n6 n7 b b1 l l1 (fun s1 n6 n7 b b1 l l1 => l_spec_l11Dma_0 N n5 n8 n9 n10 s2 s3 kR kN f s1 n6 n7 b b1 l l1)  kR kN
noncomputable def c_spec_l11Dma_0 (N : Nat) {R : Type} (n5 : Int) (n8 : Int) (n9 : Int) (n10 : Int) (s2 : ByteArray) (s3 : ByteArray) (s1 : ByteArray) (n6 : Int) (n7 : Int) (b : Bool) (b1 : Bool) (l : List Int) (l1 : List Int) (kR : ByteArray → Bool → Bool → Int → (List Int) → (List Int) → Option R) (kN : ByteArray → Bool → Bool → (List Int) → (List Int) → Option R) : Option R := l_spec_l11Dma_0 N n5 n8 n9 n10 s2 s3 kR kN N s1 n6 n7 b b1 l l1
theorem ea_se_spec_l11Dma_0 (N : Nat) (G_spec_Walk : ∀ {R : Type} (s : ByteArray) (n : Int) (n1 : Int) (n2 : Int) (b : Bool) (k : Int → Int → Int → Bool → Bool → ByteArray → (List Int) → Option R), Option R) (G_spec_l01Min : ∀ {R : Type} (n : Int) (n1 : Int) (k : Int → Option R), Option R) (G_spec_MemFault : ∀ {R : Type} (s : ByteArray) (k : Int → Option R), Option R) {R : Type} (n5 : Int) (n8 : Int) (n9 : Int) (n10 : Int) (s2 : ByteArray) (s3 : ByteArray) (s1 : ByteArray) (n6 : Int) (n7 : Int) (b : Bool) (b1 : Bool) (l : List Int) (l1 : List Int) (AG : List (Option AV) → Hp E → Option R) (KL : Ex → List (Option AV) → Hp E → Option R) :
    iterStep (E := E) (OA_spec_l11Dma N G_spec_Walk G_spec_l01Min G_spec_MemFault) (fun {R} => LI (noIt) 0 95 sl_spec_l11Dma (R := R)) J_spec_l11Dma 0 95 0 [0, 1, 2, 3, 4, 10, 13, 14] [0, 10, 11, 12, 13, 14] (body Try.f63 0) AG KL [(some (AV.sc (SV.str s1))), (some (AV.sc (SV.int IntKind.i64 n5))), (some (AV.sc (SV.int IntKind.i64 n6))), (some (AV.sc (SV.int IntKind.i64 n7))), (some (AV.sc (SV.int IntKind.i64 n8))), (some (AV.sc (SV.ptr 0 0 0))), (some (AV.sc (SV.slc 1 none b))), (some (AV.sc (SV.slc 2 none b1)))] [(some (HE.mk false (HB.exp none [(SV.int IntKind.i64 n9), (SV.int IntKind.i64 n10), (SV.str s2), (SV.str s3)]))), (some (HE.mk false (HB.rows (B.i64 l)))), (some (HE.mk false (HB.rows (B.i64 l1))))] =
      ga_s_spec_l11Dma_0 N G_spec_Walk G_spec_l01Min G_spec_MemFault n5 n8 n9 n10 s2 s3 s1 n6 n7 b b1 l l1 (fun s1 n6 n7 b b1 l l1 => AG [(some (AV.sc (SV.str s1))), (some (AV.sc (SV.int IntKind.i64 n5))), (some (AV.sc (SV.int IntKind.i64 n6))), (some (AV.sc (SV.int IntKind.i64 n7))), (some (AV.sc (SV.int IntKind.i64 n8))), (some (AV.sc (SV.ptr 0 0 0))), (some (AV.sc (SV.slc 1 none b))), (some (AV.sc (SV.slc 2 none b1)))] [(some (HE.mk false (HB.exp none [(SV.int IntKind.i64 n9), (SV.int IntKind.i64 n10), (SV.str s2), (SV.str s3)]))), (some (HE.mk false (HB.rows (B.i64 l)))), (some (HE.mk false (HB.rows (B.i64 l1))))])  (fun s8 b10 b11 n18 l9 l10 => KL Ex.ret [(some (AV.sc (SV.str s8))), (some (AV.sc (SV.ptr 0 0 0))), (some (AV.sc (SV.slc 1 none true))), (some (AV.sc (SV.slc 2 none true))), (some (AV.sc (SV.slc 3 none b10))), (some (AV.sc (SV.slc 4 none b11)))] [(some (HE.mk false (HB.exp none [(SV.int IntKind.i64 (7 : Int)), (SV.int IntKind.i64 n18), (SV.str (ByteArray.mk (List.toArray []))), (SV.str (ByteArray.mk (List.toArray [])))]))), (some (HE.mk false (HB.rows (B.i64 [])))), (some (HE.mk false (HB.rows (B.i64 [])))), (some (HE.mk false (HB.rows (B.i64 l9)))), (some (HE.mk false (HB.rows (B.i64 l10))))]) (fun s9 b12 b13 l11 l12 => KL Ex.normal [(some (AV.sc (SV.str s9))), (some (AV.sc (SV.ptr 0 0 0))), none, none, (some (AV.sc (SV.slc 1 none b12))), (some (AV.sc (SV.slc 2 none b13)))] [(some (HE.mk false (HB.exp none [(SV.int IntKind.i64 n9), (SV.int IntKind.i64 n10), (SV.str s2), (SV.str s3)]))), (some (HE.mk false (HB.rows (B.i64 l11)))), (some (HE.mk false (HB.rows (B.i64 l12))))]) := by kernel_rfl
theorem se_spec_l11Dma_0 (N : Nat) {R : Type} (n5 : Int) (n8 : Int) (n9 : Int) (n10 : Int) (s2 : ByteArray) (s3 : ByteArray) (s1 : ByteArray) (n6 : Int) (n7 : Int) (b : Bool) (b1 : Bool) (l : List Int) (l1 : List Int) (AG : List (Option AV) → Hp E → Option R) (KL : Ex → List (Option AV) → Hp E → Option R) :
    iterStep (E := E) (O_spec_l11Dma N) (fun {R} => LI (noIt) 0 95 sl_spec_l11Dma (R := R)) J_spec_l11Dma 0 95 0 [0, 1, 2, 3, 4, 10, 13, 14] [0, 10, 11, 12, 13, 14] (body Try.f63 0) AG KL [(some (AV.sc (SV.str s1))), (some (AV.sc (SV.int IntKind.i64 n5))), (some (AV.sc (SV.int IntKind.i64 n6))), (some (AV.sc (SV.int IntKind.i64 n7))), (some (AV.sc (SV.int IntKind.i64 n8))), (some (AV.sc (SV.ptr 0 0 0))), (some (AV.sc (SV.slc 1 none b))), (some (AV.sc (SV.slc 2 none b1)))] [(some (HE.mk false (HB.exp none [(SV.int IntKind.i64 n9), (SV.int IntKind.i64 n10), (SV.str s2), (SV.str s3)]))), (some (HE.mk false (HB.rows (B.i64 l)))), (some (HE.mk false (HB.rows (B.i64 l1))))] =
      s_spec_l11Dma_0 N n5 n8 n9 n10 s2 s3 s1 n6 n7 b b1 l l1 (fun s1 n6 n7 b b1 l l1 => AG [(some (AV.sc (SV.str s1))), (some (AV.sc (SV.int IntKind.i64 n5))), (some (AV.sc (SV.int IntKind.i64 n6))), (some (AV.sc (SV.int IntKind.i64 n7))), (some (AV.sc (SV.int IntKind.i64 n8))), (some (AV.sc (SV.ptr 0 0 0))), (some (AV.sc (SV.slc 1 none b))), (some (AV.sc (SV.slc 2 none b1)))] [(some (HE.mk false (HB.exp none [(SV.int IntKind.i64 n9), (SV.int IntKind.i64 n10), (SV.str s2), (SV.str s3)]))), (some (HE.mk false (HB.rows (B.i64 l)))), (some (HE.mk false (HB.rows (B.i64 l1))))])  (fun s8 b10 b11 n18 l9 l10 => KL Ex.ret [(some (AV.sc (SV.str s8))), (some (AV.sc (SV.ptr 0 0 0))), (some (AV.sc (SV.slc 1 none true))), (some (AV.sc (SV.slc 2 none true))), (some (AV.sc (SV.slc 3 none b10))), (some (AV.sc (SV.slc 4 none b11)))] [(some (HE.mk false (HB.exp none [(SV.int IntKind.i64 (7 : Int)), (SV.int IntKind.i64 n18), (SV.str (ByteArray.mk (List.toArray []))), (SV.str (ByteArray.mk (List.toArray [])))]))), (some (HE.mk false (HB.rows (B.i64 [])))), (some (HE.mk false (HB.rows (B.i64 [])))), (some (HE.mk false (HB.rows (B.i64 l9)))), (some (HE.mk false (HB.rows (B.i64 l10))))]) (fun s9 b12 b13 l11 l12 => KL Ex.normal [(some (AV.sc (SV.str s9))), (some (AV.sc (SV.ptr 0 0 0))), none, none, (some (AV.sc (SV.slc 1 none b12))), (some (AV.sc (SV.slc 2 none b13)))] [(some (HE.mk false (HB.exp none [(SV.int IntKind.i64 n9), (SV.int IntKind.i64 n10), (SV.str s2), (SV.str s3)]))), (some (HE.mk false (HB.rows (B.i64 l11)))), (some (HE.mk false (HB.rows (B.i64 l12))))]) := castPr (by kernel_rfl) (ea_se_spec_l11Dma_0 N (g_spec_Walk N) (g_spec_l01Min N) (g_spec_MemFault N) n5 n8 n9 n10 s2 s3 s1 n6 n7 b b1 l l1 AG KL)
theorem le_spec_l11Dma_0 (N : Nat) {R : Type} (n5 : Int) (n8 : Int) (n9 : Int) (n10 : Int) (s2 : ByteArray) (s3 : ByteArray) (KL : Ex → List (Option AV) → Hp E → Option R) : ∀ (f : Nat), ∀ (s1 : ByteArray) (n6 : Int) (n7 : Int) (b : Bool) (b1 : Bool) (l : List Int) (l1 : List Int), iterK (E := E) (O_spec_l11Dma N) (fun {R} => LI (noIt) 0 95 sl_spec_l11Dma (R := R)) J_spec_l11Dma 0 95 0 [0, 1, 2, 3, 4, 10, 13, 14] [0, 10, 11, 12, 13, 14] (body Try.f63 0) f [(some (AV.sc (SV.str s1))), (some (AV.sc (SV.int IntKind.i64 n5))), (some (AV.sc (SV.int IntKind.i64 n6))), (some (AV.sc (SV.int IntKind.i64 n7))), (some (AV.sc (SV.int IntKind.i64 n8))), (some (AV.sc (SV.ptr 0 0 0))), (some (AV.sc (SV.slc 1 none b))), (some (AV.sc (SV.slc 2 none b1)))] [(some (HE.mk false (HB.exp none [(SV.int IntKind.i64 n9), (SV.int IntKind.i64 n10), (SV.str s2), (SV.str s3)]))), (some (HE.mk false (HB.rows (B.i64 l)))), (some (HE.mk false (HB.rows (B.i64 l1))))] KL = l_spec_l11Dma_0 N n5 n8 n9 n10 s2 s3 (fun s8 b10 b11 n18 l9 l10 => KL Ex.ret [(some (AV.sc (SV.str s8))), (some (AV.sc (SV.ptr 0 0 0))), (some (AV.sc (SV.slc 1 none true))), (some (AV.sc (SV.slc 2 none true))), (some (AV.sc (SV.slc 3 none b10))), (some (AV.sc (SV.slc 4 none b11)))] [(some (HE.mk false (HB.exp none [(SV.int IntKind.i64 (7 : Int)), (SV.int IntKind.i64 n18), (SV.str (ByteArray.mk (List.toArray []))), (SV.str (ByteArray.mk (List.toArray [])))]))), (some (HE.mk false (HB.rows (B.i64 [])))), (some (HE.mk false (HB.rows (B.i64 [])))), (some (HE.mk false (HB.rows (B.i64 l9)))), (some (HE.mk false (HB.rows (B.i64 l10))))]) (fun s9 b12 b13 l11 l12 => KL Ex.normal [(some (AV.sc (SV.str s9))), (some (AV.sc (SV.ptr 0 0 0))), none, none, (some (AV.sc (SV.slc 1 none b12))), (some (AV.sc (SV.slc 2 none b13)))] [(some (HE.mk false (HB.exp none [(SV.int IntKind.i64 n9), (SV.int IntKind.i64 n10), (SV.str s2), (SV.str s3)]))), (some (HE.mk false (HB.rows (B.i64 l11)))), (some (HE.mk false (HB.rows (B.i64 l12))))]) f s1 n6 n7 b b1 l l1 := by
  intro f
  induction f with
  | zero => intros; rfl
  | succ f ih =>
    intro s1 n6 n7 b b1 l l1
    rw [iterK_succ, se_spec_l11Dma_0]
    exact (congrArg (fun z0 => s_spec_l11Dma_0 N n5 n8 n9 n10 s2 s3 s1 n6 n7 b b1 l l1 z0 (fun s8 b10 b11 n18 l9 l10 => KL Ex.ret [(some (AV.sc (SV.str s8))), (some (AV.sc (SV.ptr 0 0 0))), (some (AV.sc (SV.slc 1 none true))), (some (AV.sc (SV.slc 2 none true))), (some (AV.sc (SV.slc 3 none b10))), (some (AV.sc (SV.slc 4 none b11)))] [(some (HE.mk false (HB.exp none [(SV.int IntKind.i64 (7 : Int)), (SV.int IntKind.i64 n18), (SV.str (ByteArray.mk (List.toArray []))), (SV.str (ByteArray.mk (List.toArray [])))]))), (some (HE.mk false (HB.rows (B.i64 [])))), (some (HE.mk false (HB.rows (B.i64 [])))), (some (HE.mk false (HB.rows (B.i64 l9)))), (some (HE.mk false (HB.rows (B.i64 l10))))]) (fun s9 b12 b13 l11 l12 => KL Ex.normal [(some (AV.sc (SV.str s9))), (some (AV.sc (SV.ptr 0 0 0))), none, none, (some (AV.sc (SV.slc 1 none b12))), (some (AV.sc (SV.slc 2 none b13)))] [(some (HE.mk false (HB.exp none [(SV.int IntKind.i64 n9), (SV.int IntKind.i64 n10), (SV.str s2), (SV.str s3)]))), (some (HE.mk false (HB.rows (B.i64 l11)))), (some (HE.mk false (HB.rows (B.i64 l12))))])) (funext fun s1 => funext fun n6 => funext fun n7 => funext fun b => funext fun b1 => funext fun l => funext fun l1 => ih s1 n6 n7 b b1 l l1))
noncomputable def i_spec_l11Dma_0 (N : Nat) {R : Type} (vs : List (Option AV)) (H : Hp E) (KL : Ex → List (Option AV) → Hp E → Option R) : Option R :=
 match vs, H with
 | [(some (AV.sc (SV.str s1))), (some (AV.sc (SV.int IntKind.i64 n5))), (some (AV.sc (SV.int IntKind.i64 n6))), (some (AV.sc (SV.int IntKind.i64 n7))), (some (AV.sc (SV.int IntKind.i64 n8))), (some (AV.sc (SV.ptr 0 0 0))), (some (AV.sc (SV.slc 1 none b))), (some (AV.sc (SV.slc 2 none b1)))], [(some (HE.mk false (HB.exp none [(SV.int IntKind.i64 n9), (SV.int IntKind.i64 n10), (SV.str s2), (SV.str s3)]))), (some (HE.mk false (HB.rows (B.i64 l)))), (some (HE.mk false (HB.rows (B.i64 l1))))] => c_spec_l11Dma_0 N n5 n8 n9 n10 s2 s3 s1 n6 n7 b b1 l l1 (fun s10 b14 b15 n19 l13 l14 => KL Ex.ret [(some (AV.sc (SV.str s10))), (some (AV.sc (SV.ptr 0 0 0))), (some (AV.sc (SV.slc 1 none true))), (some (AV.sc (SV.slc 2 none true))), (some (AV.sc (SV.slc 3 none b14))), (some (AV.sc (SV.slc 4 none b15)))] [(some (HE.mk false (HB.exp none [(SV.int IntKind.i64 (7 : Int)), (SV.int IntKind.i64 n19), (SV.str (ByteArray.mk (List.toArray []))), (SV.str (ByteArray.mk (List.toArray [])))]))), (some (HE.mk false (HB.rows (B.i64 [])))), (some (HE.mk false (HB.rows (B.i64 [])))), (some (HE.mk false (HB.rows (B.i64 l13)))), (some (HE.mk false (HB.rows (B.i64 l14))))]) (fun s11 b16 b17 l15 l16 => KL Ex.normal [(some (AV.sc (SV.str s11))), (some (AV.sc (SV.ptr 0 0 0))), none, none, (some (AV.sc (SV.slc 1 none b16))), (some (AV.sc (SV.slc 2 none b17)))] [(some (HE.mk false (HB.exp none [(SV.int IntKind.i64 n9), (SV.int IntKind.i64 n10), (SV.str s2), (SV.str s3)]))), (some (HE.mk false (HB.rows (B.i64 l15)))), (some (HE.mk false (HB.rows (B.i64 l16))))])
 | _, _ => none
noncomputable def IT_spec_l11Dma_0 (N : Nat) : Its E := addIt 0 (i_spec_l11Dma_0 N) (noIt)
theorem IT_spec_l11Dma_0_ok (N : Nat) : ItOk (IT_spec_l11Dma_0 N) 0 95 sl_spec_l11Dma (lsB Try.f63 [0]) :=
  addItB_ok (inner := []) ok (O_spec_l11Dma_ok N) (jn_ok _ _ _) (noIt_ok) rfl (by kernel_rfl) rfl fun vs H KL r h => by
    unfold i_spec_l11Dma_0 at h
    split at h
    · exact ⟨_, (le_spec_l11Dma_0 N _ _ _ _ _ _ KL N _ _ _ _ _ _ _).trans h⟩
    · cases h
noncomputable def g_spec_l11Dma (N : Nat) {R : Type} (s : ByteArray) (n : Int) (n1 : Int) (n2 : Int) (n3 : Int) (k : Int → Int → ByteArray → Bool → Bool → (List Int) → (List Int) → Option R) : Option R :=
 (cond (decide (((((ByteArray.size s) : Nat) : Int) > (65536 : Int))))
 (k (2 : Int) (0 : Int) (ByteArray.mk (List.toArray [])) true true [] [])
 (oK (g_spec_MemFault N s fun n4 =>
 (cond (n4 != (0 : Int))
 (some true)
 (cond (decide ((n < (0 : Int))))
 (some true)
 (cond (decide ((n > (255 : Int))))
 (some true)
 (cond (decide ((n1 < (0 : Int))))
 (some true)
 (cond (decide ((n1 ≥ (262144 : Int))))
 (some true)
 (cond (decide ((n2 < (0 : Int))))
 (some true)
 (cond (decide ((n2 > (65536 : Int))))
 (some true)
 (some (decide (((IntKind.wrap IntKind.i64 (n1 + n2)) > (262144 : Int))))))))))))) fun j =>
 (cond j
 (k (1 : Int) (0 : Int) (ByteArray.mk (List.toArray [])) true true [] [])
 (c_spec_l11Dma_0 N n n3 (0 : Int) (0 : Int) (ByteArray.mk (List.toArray [])) (ByteArray.mk (List.toArray [])) s n1 n2 false false [] [] (fun s5 b4 b5 n15 l3 l4 =>
 (k (7 : Int) n15 (ByteArray.mk (List.toArray [])) true true [] [])) (fun s6 b6 b7 l5 l6 =>
 (k (0 : Int) (0 : Int) s6 b6 b7 l5 l6))))))
noncomputable def ga_g_spec_l11Dma (N : Nat) (G_spec_Walk : ∀ {R : Type} (s : ByteArray) (n : Int) (n1 : Int) (n2 : Int) (b : Bool) (k : Int → Int → Int → Bool → Bool → ByteArray → (List Int) → Option R), Option R) (G_spec_l01Min : ∀ {R : Type} (n : Int) (n1 : Int) (k : Int → Option R), Option R) (G_spec_MemFault : ∀ {R : Type} (s : ByteArray) (k : Int → Option R), Option R) {R : Type} (s : ByteArray) (n : Int) (n1 : Int) (n2 : Int) (n3 : Int) (k : Int → Int → ByteArray → Bool → Bool → (List Int) → (List Int) → Option R) : Option R :=
 (cond (decide (((((ByteArray.size s) : Nat) : Int) > (65536 : Int))))
 (k (2 : Int) (0 : Int) (ByteArray.mk (List.toArray [])) true true [] [])
 (oK (G_spec_MemFault s fun n4 =>
 (cond (n4 != (0 : Int))
 (some true)
 (cond (decide ((n < (0 : Int))))
 (some true)
 (cond (decide ((n > (255 : Int))))
 (some true)
 (cond (decide ((n1 < (0 : Int))))
 (some true)
 (cond (decide ((n1 ≥ (262144 : Int))))
 (some true)
 (cond (decide ((n2 < (0 : Int))))
 (some true)
 (cond (decide ((n2 > (65536 : Int))))
 (some true)
 (some (decide (((IntKind.wrap IntKind.i64 (n1 + n2)) > (262144 : Int))))))))))))) fun j =>
 (cond j
 (k (1 : Int) (0 : Int) (ByteArray.mk (List.toArray [])) true true [] [])
 (c_spec_l11Dma_0 N n n3 (0 : Int) (0 : Int) (ByteArray.mk (List.toArray [])) (ByteArray.mk (List.toArray [])) s n1 n2 false false [] [] (fun s5 b4 b5 n15 l3 l4 =>
 (k (7 : Int) n15 (ByteArray.mk (List.toArray [])) true true [] [])) (fun s6 b6 b7 l5 l6 =>
 (k (0 : Int) (0 : Int) s6 b6 b7 l5 l6))))))
theorem ea_e_spec_l11Dma (N : Nat) (G_spec_Walk : ∀ {R : Type} (s : ByteArray) (n : Int) (n1 : Int) (n2 : Int) (b : Bool) (k : Int → Int → Int → Bool → Bool → ByteArray → (List Int) → Option R), Option R) (G_spec_l01Min : ∀ {R : Type} (n : Int) (n1 : Int) (k : Int → Option R), Option R) (G_spec_MemFault : ∀ {R : Type} (s : ByteArray) (k : Int → Option R), Option R) {R : Type} (s : ByteArray) (n : Int) (n1 : Int) (n2 : Int) (n3 : Int) (K : AV → Hp E → Option R) :
    runFnI (E := E) (OA_spec_l11Dma N G_spec_Walk G_spec_l01Min G_spec_MemFault) (IT_spec_l11Dma_0 N) sl_spec_l11Dma J_spec_l11Dma Try.f63 [(AV.sc (SV.str s)), (AV.sc (SV.int IntKind.i64 n)), (AV.sc (SV.int IntKind.i64 n1)), (AV.sc (SV.int IntKind.i64 n2)), (AV.sc (SV.int IntKind.i64 n3))] [] K =
      ga_g_spec_l11Dma N G_spec_Walk G_spec_l01Min G_spec_MemFault s n n1 n2 n3 (fun n16 n17 s7 b8 b9 l7 l8 => K (AV.tup [(true, [(SV.int IntKind.i64 n16), (SV.int IntKind.i64 n17), (SV.str (ByteArray.mk (List.toArray []))), (SV.str s7)]), (false, [(SV.slc 0 none b8)]), (false, [(SV.slc 1 none b9)])]) [(some (HE.mk false (HB.rows (B.i64 l7)))), (some (HE.mk false (HB.rows (B.i64 l8))))]) := by kernel_rfl
theorem e_spec_l11Dma (N : Nat) {R : Type} (s : ByteArray) (n : Int) (n1 : Int) (n2 : Int) (n3 : Int) (K : AV → Hp E → Option R) :
    runFnI (E := E) (O_spec_l11Dma N) (IT_spec_l11Dma_0 N) sl_spec_l11Dma J_spec_l11Dma Try.f63 [(AV.sc (SV.str s)), (AV.sc (SV.int IntKind.i64 n)), (AV.sc (SV.int IntKind.i64 n1)), (AV.sc (SV.int IntKind.i64 n2)), (AV.sc (SV.int IntKind.i64 n3))] [] K =
      g_spec_l11Dma N s n n1 n2 n3 (fun n16 n17 s7 b8 b9 l7 l8 => K (AV.tup [(true, [(SV.int IntKind.i64 n16), (SV.int IntKind.i64 n17), (SV.str (ByteArray.mk (List.toArray []))), (SV.str s7)]), (false, [(SV.slc 0 none b8)]), (false, [(SV.slc 1 none b9)])]) [(some (HE.mk false (HB.rows (B.i64 l7)))), (some (HE.mk false (HB.rows (B.i64 l8))))]) := castPr (by kernel_rfl) (ea_e_spec_l11Dma N (g_spec_Walk N) (g_spec_l01Min N) (g_spec_MemFault N) s n n1 n2 n3 K)
noncomputable def o_spec_l11Dma (N : Nat) {R : Type} (args : List AV) (H : Hp E) (K : AV → Hp E → Option R) : Option R :=
 match args, H with
 | [(AV.sc (SV.str s)), (AV.sc (SV.int IntKind.i64 n)), (AV.sc (SV.int IntKind.i64 n1)), (AV.sc (SV.int IntKind.i64 n2)), (AV.sc (SV.int IntKind.i64 n3))], [] => g_spec_l11Dma N s n n1 n2 n3 (fun n16 n17 s7 b8 b9 l7 l8 => K (AV.tup [(true, [(SV.int IntKind.i64 n16), (SV.int IntKind.i64 n17), (SV.str (ByteArray.mk (List.toArray []))), (SV.str s7)]), (false, [(SV.slc 0 none b8)]), (false, [(SV.slc 1 none b9)])]) [(some (HE.mk false (HB.rows (B.i64 l7)))), (some (HE.mk false (HB.rows (B.i64 l8))))])
 | _, _ => none
theorem o_spec_l11Dma_ok (N : Nat) : FnOk E 63 (o_spec_l11Dma N) := by
  intro R args H K r h
  unfold o_spec_l11Dma at h
  dsimp only at h
  split at h
  · exact fnB_ok (ids := [0]) (top := [0]) ok (O_spec_l11Dma_ok N) (jn_ok _ _ _) Try.func63 (by kernel_rfl) (IT := IT_spec_l11Dma_0 N) (sl := sl_spec_l11Dma) (J := J_spec_l11Dma) (K := K) (H := []) (IT_spec_l11Dma_0_ok N) (by kernel_rfl) rfl ((e_spec_l11Dma N _ _ _ _ _ K).trans h)
  · cases h
/-! ### loop.example/g00038/spec.DmaWrite -/
abbrev sl_spec_DmaWrite : SlotT := [(0, ([3, 8, 9, 10, 11, 12], [8, 9]))]
abbrev J_spec_DmaWrite : JT := jn [] [] []
noncomputable def O_spec_DmaWrite (N : Nat) : Orc E := addFn 63 (o_spec_l11Dma N) (noFn)
noncomputable def pa_spec_DmaWrite__o_spec_l11Dma (N : Nat) (G_spec_l11Dma : ∀ {R : Type} (s : ByteArray) (n : Int) (n1 : Int) (n2 : Int) (n3 : Int) (k : Int → Int → ByteArray → Bool → Bool → (List Int) → (List Int) → Option R), Option R) {R : Type} (args : List AV) (H : Hp E) (K : AV → Hp E → Option R) : Option R :=
 match args, H with
 | [(AV.sc (SV.str s)), (AV.sc (SV.int IntKind.i64 n)), (AV.sc (SV.int IntKind.i64 n1)), (AV.sc (SV.int IntKind.i64 n2)), (AV.sc (SV.int IntKind.i64 n3))], [] => G_spec_l11Dma s n n1 n2 n3 (fun n16 n17 s7 b8 b9 l7 l8 => K (AV.tup [(true, [(SV.int IntKind.i64 n16), (SV.int IntKind.i64 n17), (SV.str (ByteArray.mk (List.toArray []))), (SV.str s7)]), (false, [(SV.slc 0 none b8)]), (false, [(SV.slc 1 none b9)])]) [(some (HE.mk false (HB.rows (B.i64 l7)))), (some (HE.mk false (HB.rows (B.i64 l8))))])
 | _, _ => none
noncomputable def OA_spec_DmaWrite (N : Nat) (G_spec_l11Dma : ∀ {R : Type} (s : ByteArray) (n : Int) (n1 : Int) (n2 : Int) (n3 : Int) (k : Int → Int → ByteArray → Bool → Bool → (List Int) → (List Int) → Option R), Option R) : Orc E := addFn 63 (pa_spec_DmaWrite__o_spec_l11Dma N G_spec_l11Dma) (noFn)
theorem O_spec_DmaWrite_ok (N : Nat) : OrcOk (O_spec_DmaWrite N) := addFn_ok (o_spec_l11Dma_ok N) (noFn_ok)
noncomputable def s_spec_DmaWrite_0 (N : Nat) {R : Type} (b2 : Bool) (b3 : Bool) (n5 : Int) (n6 : Int) (s4 : ByteArray) (s5 : ByteArray) (n7 : Int) (n8 : Int) (s6 : ByteArray) (l2 : List Int) (l3 : List Int) (s3 : ByteArray) (n4 : Int) (s7 : ByteArray) (ag : ByteArray → Int → ByteArray → Option R)  (kN : ByteArray → Option R) : Option R :=
 (cond (decide ((n4 < (((List.length l2) : Nat) : Int))))
 (cond ((decide (((0 : Int) ≤ n4))) && (decide ((n4 < (((List.length l2) : Nat) : Int)))))
 (elemK l2 (Int.toNat n4) fun x =>
 (cond ((decide (((0 : Int) ≤ x))) && (decide ((x ≤ (((ByteArray.size s7) : Nat) : Int)))))
 (cond ((decide (((0 : Int) ≤ n4))) && (decide ((n4 < (((List.length l3) : Nat) : Int)))))
 (elemK l3 (Int.toNat n4) fun x1 =>
 (cond ((decide (((0 : Int) ≤ x1))) && (decide ((x1 ≤ (((ByteArray.size s3) : Nat) : Int)))))
 (cond (Nat.ble ((ByteArray.size (ByteArray.extract s7 0 (Int.toNat x))) + (ByteArray.size (ByteArray.extract s3 0 (Int.toNat x1)))) 9223372036854775807)
 (cond ((decide (((0 : Int) ≤ n4))) && (decide ((n4 < (((List.length l2) : Nat) : Int)))))
 (elemK l2 (Int.toNat n4) fun x2 =>
 (cond ((decide (((0 : Int) ≤ n4))) && (decide ((n4 < (((List.length l3) : Nat) : Int)))))
 (elemK l3 (Int.toNat n4) fun x3 =>
 (cond (((decide (((0 : Int) ≤ (IntKind.wrap IntKind.i64 (x2 + x3))))) && (decide (((IntKind.wrap IntKind.i64 (x2 + x3)) ≤ (((ByteArray.size s7) : Nat) : Int))))) && (decide (((((ByteArray.size s7) : Nat) : Int) ≤ (((ByteArray.size s7) : Nat) : Int)))))
 (cond (Nat.ble ((ByteArray.size ((ByteArray.extract s7 0 (Int.toNat x)) ++ (ByteArray.extract s3 0 (Int.toNat x1)))) + (ByteArray.size (ByteArray.extract s7 (Int.toNat (IntKind.wrap IntKind.i64 (x2 + x3))) (Int.toNat (((ByteArray.size s7) : Nat) : Int))))) 9223372036854775807)
 (cond ((decide (((0 : Int) ≤ n4))) && (decide ((n4 < (((List.length l3) : Nat) : Int)))))
 (elemK l3 (Int.toNat n4) fun x4 =>
 (cond (((decide (((0 : Int) ≤ x4))) && (decide ((x4 ≤ (((ByteArray.size s3) : Nat) : Int))))) && (decide (((((ByteArray.size s3) : Nat) : Int) ≤ (((ByteArray.size s3) : Nat) : Int)))))
 (ag (ByteArray.extract s3 (Int.toNat x4) (Int.toNat (((ByteArray.size s3) : Nat) : Int))) (IntKind.wrap IntKind.i64 (n4 + (1 : Int))) (((ByteArray.extract s7 0 (Int.toNat x)) ++ (ByteArray.extract s3 0 (Int.toNat x1))) ++ (ByteArray.extract s7 (Int.toNat (IntKind.wrap IntKind.i64 (x2 + x3))) (Int.toNat (((ByteArray.size s7) : Nat) : Int)))))
 none))
 none)
 none)
 none))
 none))
 none)
 none)
 none))
 none)
 none))
 none)
 (kN s7))
noncomputable def ga_s_spec_DmaWrite_0 (N : Nat) (G_spec_l11Dma : ∀ {R : Type} (s : ByteArray) (n : Int) (n1 : Int) (n2 : Int) (n3 : Int) (k : Int → Int → ByteArray → Bool → Bool → (List Int) → (List Int) → Option R), Option R) {R : Type} (b2 : Bool) (b3 : Bool) (n5 : Int) (n6 : Int) (s4 : ByteArray) (s5 : ByteArray) (n7 : Int) (n8 : Int) (s6 : ByteArray) (l2 : List Int) (l3 : List Int) (s3 : ByteArray) (n4 : Int) (s7 : ByteArray) (ag : ByteArray → Int → ByteArray → Option R)  (kN : ByteArray → Option R) : Option R :=
 (cond (decide ((n4 < (((List.length l2) : Nat) : Int))))
 (cond ((decide (((0 : Int) ≤ n4))) && (decide ((n4 < (((List.length l2) : Nat) : Int)))))
 (elemK l2 (Int.toNat n4) fun x =>
 (cond ((decide (((0 : Int) ≤ x))) && (decide ((x ≤ (((ByteArray.size s7) : Nat) : Int)))))
 (cond ((decide (((0 : Int) ≤ n4))) && (decide ((n4 < (((List.length l3) : Nat) : Int)))))
 (elemK l3 (Int.toNat n4) fun x1 =>
 (cond ((decide (((0 : Int) ≤ x1))) && (decide ((x1 ≤ (((ByteArray.size s3) : Nat) : Int)))))
 (cond (Nat.ble ((ByteArray.size (ByteArray.extract s7 0 (Int.toNat x))) + (ByteArray.size (ByteArray.extract s3 0 (Int.toNat x1)))) 9223372036854775807)
 (cond ((decide (((0 : Int) ≤ n4))) && (decide ((n4 < (((List.length l2) : Nat) : Int)))))
 (elemK l2 (Int.toNat n4) fun x2 =>
 (cond ((decide (((0 : Int) ≤ n4))) && (decide ((n4 < (((List.length l3) : Nat) : Int)))))
 (elemK l3 (Int.toNat n4) fun x3 =>
 (cond (((decide (((0 : Int) ≤ (IntKind.wrap IntKind.i64 (x2 + x3))))) && (decide (((IntKind.wrap IntKind.i64 (x2 + x3)) ≤ (((ByteArray.size s7) : Nat) : Int))))) && (decide (((((ByteArray.size s7) : Nat) : Int) ≤ (((ByteArray.size s7) : Nat) : Int)))))
 (cond (Nat.ble ((ByteArray.size ((ByteArray.extract s7 0 (Int.toNat x)) ++ (ByteArray.extract s3 0 (Int.toNat x1)))) + (ByteArray.size (ByteArray.extract s7 (Int.toNat (IntKind.wrap IntKind.i64 (x2 + x3))) (Int.toNat (((ByteArray.size s7) : Nat) : Int))))) 9223372036854775807)
 (cond ((decide (((0 : Int) ≤ n4))) && (decide ((n4 < (((List.length l3) : Nat) : Int)))))
 (elemK l3 (Int.toNat n4) fun x4 =>
 (cond (((decide (((0 : Int) ≤ x4))) && (decide ((x4 ≤ (((ByteArray.size s3) : Nat) : Int))))) && (decide (((((ByteArray.size s3) : Nat) : Int) ≤ (((ByteArray.size s3) : Nat) : Int)))))
 (ag (ByteArray.extract s3 (Int.toNat x4) (Int.toNat (((ByteArray.size s3) : Nat) : Int))) (IntKind.wrap IntKind.i64 (n4 + (1 : Int))) (((ByteArray.extract s7 0 (Int.toNat x)) ++ (ByteArray.extract s3 0 (Int.toNat x1))) ++ (ByteArray.extract s7 (Int.toNat (IntKind.wrap IntKind.i64 (x2 + x3))) (Int.toNat (((ByteArray.size s7) : Nat) : Int)))))
 none))
 none)
 none)
 none))
 none))
 none)
 none)
 none))
 none)
 none))
 none)
 (kN s7))
noncomputable def l_spec_DmaWrite_0 (N : Nat) {R : Type} (b2 : Bool) (b3 : Bool) (n5 : Int) (n6 : Int) (s4 : ByteArray) (s5 : ByteArray) (n7 : Int) (n8 : Int) (s6 : ByteArray) (l2 : List Int) (l3 : List Int) (kN : ByteArray → Option R) : Nat → ByteArray → Int → ByteArray → Option R
 | 0, _, _, _ => none
 | f + 1, s3, n4, s7 => s_spec_DmaWrite_0 N b2 b3 n5 n6 s4 s5 n7 n8 s6 l2 l3 s3 n4 s7 (fun s3 n4 s7 => l_spec_DmaWrite_0 N b2 b3 n5 n6 s4 s5 n7 n8 s6 l2 l3 kN f s3 n4 s7)  kN
noncomputable def c_spec_DmaWrite_0 (N : Nat) {R : Type} (b2 : Bool) (b3 : Bool) (n5 : Int) (n6 : Int) (s4 : ByteArray) (s5 : ByteArray) (n7 : Int) (n8 : Int) (s6 : ByteArray) (l2 : List Int) (l3 : List Int) (s3 : ByteArray) (n4 : Int) (s7 : ByteArray) (kN : ByteArray → Option R) : Option R := l_spec_DmaWrite_0 N b2 b3 n5 n6 s4 s5 n7 n8 s6 l2 l3 kN N s3 n4 s7
theorem ea_se_spec_DmaWrite_0 (N : Nat) (G_spec_l11Dma : ∀ {R : Type} (s : ByteArray) (n : Int) (n1 : Int) (n2 : Int) (n3 : Int) (k : Int → Int → ByteArray → Bool → Bool → (List Int) → (List Int) → Option R), Option R) {R : Type} (b2 : Bool) (b3 : Bool) (n5 : Int) (n6 : Int) (s4 : ByteArray) (s5 : ByteArray) (n7 : Int) (n8 : Int) (s6 : ByteArray) (l2 : List Int) (l3 : List Int) (s3 : ByteArray) (n4 : Int) (s7 : ByteArray) (AG : List (Option AV) → Hp E → Option R) (KL : Ex → List (Option AV) → Hp E → Option R) :
    iterStep (E := E) (OA_spec_DmaWrite N G_spec_l11Dma) (fun {R} => LI (noIt) 0 68 sl_spec_DmaWrite (R := R)) J_spec_DmaWrite 0 68 0 [3, 8, 9, 10, 11, 12] [8, 9] (body Try.f19 0) AG KL [(some (AV.sc (SV.str s3))), (some (AV.sc (SV.ptr 0 0 0))), (some (AV.sc (SV.ptr 1 0 0))), (some (AV.sc (SV.slc 2 none b2))), (some (AV.sc (SV.slc 3 none b3))), (some (AV.sc (SV.int IntKind.i64 n4)))] [(some (HE.mk false (HB.exp none [(SV.int IntKind.i64 n5), (SV.int IntKind.i64 n6), (SV.str s4), (SV.str s5)]))), (some (HE.mk false (HB.exp none [(SV.int IntKind.i64 n7), (SV.int IntKind.i64 n8), (SV.str s6), (SV.str s7)]))), (some (HE.mk false (HB.rows (B.i64 l2)))), (some (HE.mk false (HB.rows (B.i64 l3))))] =
      ga_s_spec_DmaWrite_0 N G_spec_l11Dma b2 b3 n5 n6 s4 s5 n7 n8 s6 l2 l3 s3 n4 s7 (fun s3 n4 s7 => AG [(some (AV.sc (SV.str s3))), (some (AV.sc (SV.ptr 0 0 0))), (some (AV.sc (SV.ptr 1 0 0))), (some (AV.sc (SV.slc 2 none b2))), (some (AV.sc (SV.slc 3 none b3))), (some (AV.sc (SV.int IntKind.i64 n4)))] [(some (HE.mk false (HB.exp none [(SV.int IntKind.i64 n5), (SV.int IntKind.i64 n6), (SV.str s4), (SV.str s5)]))), (some (HE.mk false (HB.exp none [(SV.int IntKind.i64 n7), (SV.int IntKind.i64 n8), (SV.str s6), (SV.str s7)]))), (some (HE.mk false (HB.rows (B.i64 l2)))), (some (HE.mk false (HB.rows (B.i64 l3))))])  (fun s10 => KL Ex.normal [(some (AV.sc (SV.ptr 0 0 0))), (some (AV.sc (SV.ptr 1 0 0)))] [(some (HE.mk false (HB.exp none [(SV.int IntKind.i64 n5), (SV.int IntKind.i64 n6), (SV.str s4), (SV.str s5)]))), (some (HE.mk false (HB.exp none [(SV.int IntKind.i64 n7), (SV.int IntKind.i64 n8), (SV.str s6), (SV.str s10)])))]) := by kernel_rfl
theorem se_spec_DmaWrite_0 (N : Nat) {R : Type} (b2 : Bool) (b3 : Bool) (n5 : Int) (n6 : Int) (s4 : ByteArray) (s5 : ByteArray) (n7 : Int) (n8 : Int) (s6 : ByteArray) (l2 : List Int) (l3 : List Int) (s3 : ByteArray) (n4 : Int) (s7 : ByteArray) (AG : List (Option AV) → Hp E → Option R) (KL : Ex → List (Option AV) → Hp E → Option R) :
    iterStep (E := E) (O_spec_DmaWrite N) (fun {R} => LI (noIt) 0 68 sl_spec_DmaWrite (R := R)) J_spec_DmaWrite 0 68 0 [3, 8, 9, 10, 11, 12] [8, 9] (body Try.f19 0) AG KL [(some (AV.sc (SV.str s3))), (some (AV.sc (SV.ptr 0 0 0))), (some (AV.sc (SV.ptr 1 0 0))), (some (AV.sc (SV.slc 2 none b2))), (some (AV.sc (SV.slc 3 none b3))), (some (AV.sc (SV.int IntKind.i64 n4)))] [(some (HE.mk false (HB.exp none [(SV.int IntKind.i64 n5), (SV.int IntKind.i64 n6), (SV.str s4), (SV.str s5)]))), (some (HE.mk false (HB.exp none [(SV.int IntKind.i64 n7), (SV.int IntKind.i64 n8), (SV.str s6), (SV.str s7)]))), (some (HE.mk false (HB.rows (B.i64 l2)))), (some (HE.mk false (HB.rows (B.i64 l3))))] =
      s_spec_DmaWrite_0 N b2 b3 n5 n6 s4 s5 n7 n8 s6 l2 l3 s3 n4 s7 (fun s3 n4 s7 => AG [(some (AV.sc (SV.str s3))), (some (AV.sc (SV.ptr 0 0 0))), (some (AV.sc (SV.ptr 1 0 0))), (some (AV.sc (SV.slc 2 none b2))), (some (AV.sc (SV.slc 3 none b3))), (some (AV.sc (SV.int IntKind.i64 n4)))] [(some (HE.mk false (HB.exp none [(SV.int IntKind.i64 n5), (SV.int IntKind.i64 n6), (SV.str s4), (SV.str s5)]))), (some (HE.mk false (HB.exp none [(SV.int IntKind.i64 n7), (SV.int IntKind.i64 n8), (SV.str s6), (SV.str s7)]))), (some (HE.mk false (HB.rows (B.i64 l2)))), (some (HE.mk false (HB.rows (B.i64 l3))))])  (fun s10 => KL Ex.normal [(some (AV.sc (SV.ptr 0 0 0))), (some (AV.sc (SV.ptr 1 0 0)))] [(some (HE.mk false (HB.exp none [(SV.int IntKind.i64 n5), (SV.int IntKind.i64 n6), (SV.str s4), (SV.str s5)]))), (some (HE.mk false (HB.exp none [(SV.int IntKind.i64 n7), (SV.int IntKind.i64 n8), (SV.str s6), (SV.str s10)])))]) := castPr (by kernel_rfl) (ea_se_spec_DmaWrite_0 N (g_spec_l11Dma N) b2 b3 n5 n6 s4 s5 n7 n8 s6 l2 l3 s3 n4 s7 AG KL)
theorem le_spec_DmaWrite_0 (N : Nat) {R : Type} (b2 : Bool) (b3 : Bool) (n5 : Int) (n6 : Int) (s4 : ByteArray) (s5 : ByteArray) (n7 : Int) (n8 : Int) (s6 : ByteArray) (l2 : List Int) (l3 : List Int) (KL : Ex → List (Option AV) → Hp E → Option R) : ∀ (f : Nat), ∀ (s3 : ByteArray) (n4 : Int) (s7 : ByteArray), iterK (E := E) (O_spec_DmaWrite N) (fun {R} => LI (noIt) 0 68 sl_spec_DmaWrite (R := R)) J_spec_DmaWrite 0 68 0 [3, 8, 9, 10, 11, 12] [8, 9] (body Try.f19 0) f [(some (AV.sc (SV.str s3))), (some (AV.sc (SV.ptr 0 0 0))), (some (AV.sc (SV.ptr 1 0 0))), (some (AV.sc (SV.slc 2 none b2))), (some (AV.sc (SV.slc 3 none b3))), (some (AV.sc (SV.int IntKind.i64 n4)))] [(some (HE.mk false (HB.exp none [(SV.int IntKind.i64 n5), (SV.int IntKind.i64 n6), (SV.str s4), (SV.str s5)]))), (some (HE.mk false (HB.exp none [(SV.int IntKind.i64 n7), (SV.int IntKind.i64 n8), (SV.str s6), (SV.str s7)]))), (some (HE.mk false (HB.rows (B.i64 l2)))), (some (HE.mk false (HB.rows (B.i64 l3))))] KL = l_spec_DmaWrite_0 N b2 b3 n5 n6 s4 s5 n7 n8 s6 l2 l3 (fun s10 => KL Ex.normal [(some (AV.sc (SV.ptr 0 0 0))), (some (AV.sc (SV.ptr 1 0 0)))] [(some (HE.mk false (HB.exp none [(SV.int IntKind.i64 n5), (SV.int IntKind.i64 n6), (SV.str s4), (SV.str s5)]))), (some (HE.mk false (HB.exp none [(SV.int IntKind.i64 n7), (SV.int IntKind.i64 n8), (SV.str s6), (SV.str s10)])))]) f s3 n4 s7 := by
  intro f
  induction f with
  | zero => intros; rfl
  | succ f ih =>
    intro s3 n4 s7
    rw [iterK_succ, se_spec_DmaWrite_0]
    exact (congrArg (fun z0 => s_spec_DmaWrite_0 N b2 b3 n5 n6 s4 s5 n7 n8 s6 l2 l3 s3 n4 s7 z0 (fun s10 => KL Ex.normal [(some (AV.sc (SV.ptr 0 0 0))), (some (AV.sc (SV.ptr 1 0 0)))] [(some (HE.mk false (HB.exp none [(SV.int IntKind.i64 n5), (SV.int IntKind.i64 n6), (SV.str s4), (SV.str s5)]))), (some (HE.mk false (HB.exp none [(SV.int IntKind.i64 n7), (SV.int IntKind.i64 n8), (SV.str s6), (SV.str s10)])))])) (funext fun s3 => funext fun n4 => funext fun s7 => ih s3 n4 s7))
noncomputable def i_spec_DmaWrite_0 (N : Nat) {R : Type} (vs : List (Option AV)) (H : Hp E) (KL : Ex → List (Option AV) → Hp E → Option R) : Option R :=
 match vs, H with
 | [(some (AV.sc (SV.str s3))), (some (AV.sc (SV.ptr 0 0 0))), (some (AV.sc (SV.ptr 1 0 0))), (some (AV.sc (SV.slc 2 none b2))), (some (AV.sc (SV.slc 3 none b3))), (some (AV.sc (SV.int IntKind.i64 n4)))], [(some (HE.mk false (HB.exp none [(SV.int IntKind.i64 n5), (SV.int IntKind.i64 n6), (SV.str s4), (SV.str s5)]))), (some (HE.mk false (HB.exp none [(SV.int IntKind.i64 n7), (SV.int IntKind.i64 n8), (SV.str s6), (SV.str s7)]))), (some (HE.mk false (HB.rows (B.i64 l2)))), (some (HE.mk false (HB.rows (B.i64 l3))))] => c_spec_DmaWrite_0 N b2 b3 n5 n6 s4 s5 n7 n8 s6 l2 l3 s3 n4 s7 (fun s11 => KL Ex.normal [(some (AV.sc (SV.ptr 0 0 0))), (some (AV.sc (SV.ptr 1 0 0)))] [(some (HE.mk false (HB.exp none [(SV.int IntKind.i64 n5), (SV.int IntKind.i64 n6), (SV.str s4), (SV.str s5)]))), (some (HE.mk false (HB.exp none [(SV.int IntKind.i64 n7), (SV.int IntKind.i64 n8), (SV.str s6), (SV.str s11)])))])
 | _, _ => none
noncomputable def IT_spec_DmaWrite_0 (N : Nat) : Its E := addIt 0 (i_spec_DmaWrite_0 N) (noIt)
theorem IT_spec_DmaWrite_0_ok (N : Nat) : ItOk (IT_spec_DmaWrite_0 N) 0 68 sl_spec_DmaWrite (lsB Try.f19 [0]) :=
  addItB_ok (inner := []) ok (O_spec_DmaWrite_ok N) (jn_ok _ _ _) (noIt_ok) rfl (by kernel_rfl) rfl fun vs H KL r h => by
    unfold i_spec_DmaWrite_0 at h
    split at h
    · exact ⟨_, (le_spec_DmaWrite_0 N _ _ _ _ _ _ _ _ _ _ _ KL N _ _ _).trans h⟩
    · cases h
noncomputable def g_spec_DmaWrite (N : Nat) {R : Type} (s : ByteArray) (n : Int) (n1 : Int) (s1 : ByteArray) (k : Int → Int → ByteArray → Option R) : Option R :=
 (cond (decide (((((ByteArray.size s1) : Nat) : Int) > (65536 : Int))))
 (k (2 : Int) (0 : Int) (ByteArray.mk (List.toArray [])))
 (g_spec_l11Dma N s n n1 (((ByteArray.size s1) : Nat) : Int) (2 : Int) fun n2 n3 s2 b b1 l l1 =>
 (c_spec_DmaWrite_0 N b b1 (0 : Int) (0 : Int) (ByteArray.mk (List.toArray [])) (ByteArray.mk (List.toArray [])) n2 n3 (ByteArray.mk (List.toArray [])) l l1 s1 (0 : Int) s2 fun s8 =>
 (k n2 n3 s8))))
noncomputable def ga_g_spec_DmaWrite (N : Nat) (G_spec_l11Dma : ∀ {R : Type} (s : ByteArray) (n : Int) (n1 : Int) (n2 : Int) (n3 : Int) (k : Int → Int → ByteArray → Bool → Bool → (List Int) → (List Int) → Option R), Option R) {R : Type} (s : ByteArray) (n : Int) (n1 : Int) (s1 : ByteArray) (k : Int → Int → ByteArray → Option R) : Option R :=
 (cond (decide (((((ByteArray.size s1) : Nat) : Int) > (65536 : Int))))
 (k (2 : Int) (0 : Int) (ByteArray.mk (List.toArray [])))
 (G_spec_l11Dma s n n1 (((ByteArray.size s1) : Nat) : Int) (2 : Int) fun n2 n3 s2 b b1 l l1 =>
 (c_spec_DmaWrite_0 N b b1 (0 : Int) (0 : Int) (ByteArray.mk (List.toArray [])) (ByteArray.mk (List.toArray [])) n2 n3 (ByteArray.mk (List.toArray [])) l l1 s1 (0 : Int) s2 fun s8 =>
 (k n2 n3 s8))))
theorem ea_e_spec_DmaWrite (N : Nat) (G_spec_l11Dma : ∀ {R : Type} (s : ByteArray) (n : Int) (n1 : Int) (n2 : Int) (n3 : Int) (k : Int → Int → ByteArray → Bool → Bool → (List Int) → (List Int) → Option R), Option R) {R : Type} (s : ByteArray) (n : Int) (n1 : Int) (s1 : ByteArray) (K : AV → Hp E → Option R) :
    runFnI (E := E) (OA_spec_DmaWrite N G_spec_l11Dma) (IT_spec_DmaWrite_0 N) sl_spec_DmaWrite J_spec_DmaWrite Try.f19 [(AV.sc (SV.str s)), (AV.sc (SV.int IntKind.i64 n)), (AV.sc (SV.int IntKind.i64 n1)), (AV.sc (SV.str s1))] [] K =
      ga_g_spec_DmaWrite N G_spec_l11Dma s n n1 s1 (fun n9 n10 s9 => K (AV.agg [(SV.int IntKind.i64 n9), (SV.int IntKind.i64 n10), (SV.str (ByteArray.mk (List.toArray []))), (SV.str s9)]) []) := by kernel_rfl
theorem e_spec_DmaWrite (N : Nat) {R : Type} (s : ByteArray) (n : Int) (n1 : Int) (s1 : ByteArray) (K : AV → Hp E → Option R) :
    runFnI (E := E) (O_spec_DmaWrite N) (IT_spec_DmaWrite_0 N) sl_spec_DmaWrite J_spec_DmaWrite Try.f19 [(AV.sc (SV.str s)), (AV.sc (SV.int IntKind.i64 n)), (AV.sc (SV.int IntKind.i64 n1)), (AV.sc (SV.str s1))] [] K =
      g_spec_DmaWrite N s n n1 s1 (fun n9 n10 s9 => K (AV.agg [(SV.int IntKind.i64 n9), (SV.int IntKind.i64 n10), (SV.str (ByteArray.mk (List.toArray []))), (SV.str s9)]) []) := castPr (by kernel_rfl) (ea_e_spec_DmaWrite N (g_spec_l11Dma N) s n n1 s1 K)
noncomputable def o_spec_DmaWrite (N : Nat) {R : Type} (args : List AV) (H : Hp E) (K : AV → Hp E → Option R) : Option R :=
 match args, H with
 | [(AV.sc (SV.str s)), (AV.sc (SV.int IntKind.i64 n)), (AV.sc (SV.int IntKind.i64 n1)), (AV.sc (SV.str s1))], [] => g_spec_DmaWrite N s n n1 s1 (fun n9 n10 s9 => K (AV.agg [(SV.int IntKind.i64 n9), (SV.int IntKind.i64 n10), (SV.str (ByteArray.mk (List.toArray []))), (SV.str s9)]) [])
 | _, _ => none
theorem o_spec_DmaWrite_ok (N : Nat) : FnOk E 19 (o_spec_DmaWrite N) := by
  intro R args H K r h
  unfold o_spec_DmaWrite at h
  dsimp only at h
  split at h
  · exact fnB_ok (ids := [0]) (top := [0]) ok (O_spec_DmaWrite_ok N) (jn_ok _ _ _) Try.func19 (by kernel_rfl) (IT := IT_spec_DmaWrite_0 N) (sl := sl_spec_DmaWrite) (J := J_spec_DmaWrite) (K := K) (H := []) (IT_spec_DmaWrite_0_ok N) (by kernel_rfl) rfl ((e_spec_DmaWrite N _ _ _ _ K).trans h)
  · cases h
/-! ### loop.example/g00038/impl.ybig -/
abbrev sl_impl_ybig_w : SlotT := [(0, ([5, 6, 7], [2]))]
abbrev J_impl_ybig_w : JT := jn [] [] []
noncomputable def O_impl_ybig_w (N : Nat) : Orc E := noFn
theorem O_impl_ybig_w_ok (N : Nat) : OrcOk (O_impl_ybig_w N) := noFn_ok
noncomputable def s_impl_ybig_w_0 (N : Nat) {R : Type} (b1 : Bool) (n : Int) (l1 : List ByteArray) (n1 : Int) (ag : Int → Option R)  (kR : Option R) (kN : Option R) : Option R :=
 (cond (decide ((n1 < n)))
 (cond ((decide (((0 : Int) ≤ n1))) && (decide ((n1 < (((List.length l1) : Nat) : Int)))))
 (elemK l1 (Int.toNat n1) fun x =>
 (cond (decide (((((ByteArray.size x) : Nat) : Int) > (65536 : Int))))
 kR
 (ag (IntKind.wrap IntKind.i64 (n1 + (1 : Int))))))
 none)
 kN)
noncomputable def l_impl_ybig_w_0 (N : Nat) {R : Type} (b1 : Bool) (n : Int) (l1 : List ByteArray) (kR : Option R) (kN : Option R) : Nat → Int → Option R
 | 0, _ => none
 | f + 1, n1 => s_impl_ybig_w_0 N b1 n l1 n1 (fun n1 => l_impl_ybig_w_0 N b1 n l1 kR kN f n1)  kR kN
noncomputable def c_impl_ybig_w_0 (N : Nat) {R : Type} (b1 : Bool) (n : Int) (l1 : List ByteArray) (n1 : Int) (kR : Option R) (kN : Option R) : Option R := l_impl_ybig_w_0 N b1 n l1 kR kN N n1
theorem se_impl_ybig_w_0 (N : Nat) {R : Type} (b1 : Bool) (n : Int) (l1 : List ByteArray) (n1 : Int) (AG : List (Option AV) → Hp E → Option R) (KL : Ex → List (Option AV) → Hp E → Option R) :
    iterStep (E := E) (O_impl_ybig_w N) (fun {R} => LI (noIt) 1 15 sl_impl_ybig_w (R := R)) J_impl_ybig_w 1 15 0 [5, 6, 7] [2] (body Try.f54 0) AG KL [(some (AV.sc (SV.slc 0 none b1))), (some (AV.sc (SV.int IntKind.i64 n))), (some (AV.sc (SV.int IntKind.i64 n1)))] [(some (HE.mk false (HB.rows (B.str l1))))] =
      s_impl_ybig_w_0 N b1 n l1 n1 (fun n1 => AG [(some (AV.sc (SV.slc 0 none b1))), (some (AV.sc (SV.int IntKind.i64 n))), (some (AV.sc (SV.int IntKind.i64 n1)))] [(some (HE.mk false (HB.rows (B.str l1))))])  (KL Ex.ret [(some (AV.sc (SV.bool true)))] [(some (HE.mk false (HB.rows (B.str l1))))]) (KL Ex.normal [none] [(some (HE.mk false (HB.rows (B.str l1))))]) := by kernel_rfl
theorem le_impl_ybig_w_0 (N : Nat) {R : Type} (b1 : Bool) (n : Int) (l1 : List ByteArray) (KL : Ex → List (Option AV) → Hp E → Option R) : ∀ (f : Nat), ∀ (n1 : Int), iterK (E := E) (O_impl_ybig_w N) (fun {R} => LI (noIt) 1 15 sl_impl_ybig_w (R := R)) J_impl_ybig_w 1 15 0 [5, 6, 7] [2] (body Try.f54 0) f [(some (AV.sc (SV.slc 0 none b1))), (some (AV.sc (SV.int IntKind.i64 n))), (some (AV.sc (SV.int IntKind.i64 n1)))] [(some (HE.mk false (HB.rows (B.str l1))))] KL = l_impl_ybig_w_0 N b1 n l1 (KL Ex.ret [(some (AV.sc (SV.bool true)))] [(some (HE.mk false (HB.rows (B.str l1))))]) (KL Ex.normal [none] [(some (HE.mk false (HB.rows (B.str l1))))]) f n1 := by
  intro f
  induction f with
  | zero => intros; rfl
  | succ f ih =>
    intro n1
    rw [iterK_succ, se_impl_ybig_w_0]
    exact (congrArg (fun z0 => s_impl_ybig_w_0 N b1 n l1 n1 z0 (KL Ex.ret [(some (AV.sc (SV.bool true)))] [(some (HE.mk false (HB.rows (B.str l1))))]) (KL Ex.normal [none] [(some (HE.mk false (HB.rows (B.str l1))))])) (funext fun n1 => ih n1))
noncomputable def i_impl_ybig_w_0 (N : Nat) {R : Type} (vs : List (Option AV)) (H : Hp E) (KL : Ex → List (Option AV) → Hp E → Option R) : Option R :=
 match vs, H with
 | [(some (AV.sc (SV.slc 0 none b1))), (some (AV.sc (SV.int IntKind.i64 n))), (some (AV.sc (SV.int IntKind.i64 n1)))], [(some (HE.mk false (HB.rows (B.str l1))))] => c_impl_ybig_w_0 N b1 n l1 n1 (KL Ex.ret [(some (AV.sc (SV.bool true)))] [(some (HE.mk false (HB.rows (B.str l1))))]) (KL Ex.normal [none] [(some (HE.mk false (HB.rows (B.str l1))))])
 | _, _ => none
noncomputable def IT_impl_ybig_w_0 (N : Nat) : Its E := addIt 0 (i_impl_ybig_w_0 N) (noIt)
theorem IT_impl_ybig_w_0_ok (N : Nat) : ItOk (IT_impl_ybig_w_0 N) 1 15 sl_impl_ybig_w (lsB Try.f54 [0]) :=
  addItB_ok (inner := []) ok (O_impl_ybig_w_ok N) (jn_ok _ _ _) (noIt_ok) rfl (by kernel_rfl) rfl fun vs H KL r h => by
    unfold i_impl_ybig_w_0 at h
    split at h
    · exact ⟨_, (le_impl_ybig_w_0 N _ _ _ KL N _).trans h⟩
    · cases h
noncomputable def g_impl_ybig_w (N : Nat) {R : Type} (b : Bool) (l : List ByteArray) (k : Bool → Option R) : Option R :=
 (c_impl_ybig_w_0 N b (((List.length l) : Nat) : Int) l (0 : Int) (
 (k true)) (
 (k false)))
theorem e_impl_ybig_w (N : Nat) {R : Type} (b : Bool) (l : List ByteArray) (K : AV → Hp E → Option R) :
    runFnI (E := E) (O_impl_ybig_w N) (IT_impl_ybig_w_0 N) sl_impl_ybig_w J_impl_ybig_w Try.f54 [(AV.sc (SV.slc 0 none b))] [(some (HE.mk false (HB.rows (B.str l))))] K =
      g_impl_ybig_w N b l (fun b2 => K (AV.sc (SV.bool b2)) [(some (HE.mk false (HB.rows (B.str l))))]) := by kernel_rfl
noncomputable def o_impl_ybig_w (N : Nat) {R : Type} (args : List AV) (H : Hp E) (K : AV → Hp E → Option R) : Option R :=
 match args, H with
 | [(AV.sc (SV.slc 0 none b))], [(some (HE.mk false (HB.rows (B.str l))))] => g_impl_ybig_w N b l (fun b2 => K (AV.sc (SV.bool b2)) [(some (HE.mk false (HB.rows (B.str l))))])
 | _, _ => none
theorem o_impl_ybig_w_ok (N : Nat) : FnOk E 54 (o_impl_ybig_w N) := by
  intro R args H K r h
  unfold o_impl_ybig_w at h
  dsimp only at h
  split at h
  · exact fnB_ok (ids := [0]) (top := [0]) ok (O_impl_ybig_w_ok N) (jn_ok _ _ _) Try.func54 (by kernel_rfl) (IT := IT_impl_ybig_w_0 N) (sl := sl_impl_ybig_w) (J := J_impl_ybig_w) (K := K) (H := [(some (HE.mk false (HB.rows (B.str _))))]) (IT_impl_ybig_w_0_ok N) (by kernel_rfl) rfl ((e_impl_ybig_w N _ _ K).trans h)
  · cases h
/-! ### loop.example/g00038/impl.ymemOk -/
abbrev sl_impl_ymemOk : SlotT := []
abbrev J_impl_ymemOk : JT := jn [(1, [(2, .b)])] [] []
noncomputable def O_impl_ymemOk (N : Nat) : Orc E := noFn
theorem O_impl_ymemOk_ok (N : Nat) : OrcOk (O_impl_ymemOk N) := noFn_ok
noncomputable def g_impl_ymemOk (N : Nat) {R : Type} (s : ByteArray) (k : Bool → Option R) : Option R :=
 (oK (cond (decide (((((ByteArray.size s) : Nat) : Int) ≥ (256 : Int))))
 (cond (decide (((((ByteArray.size s) : Nat) : Int) ≤ (65536 : Int))))
 (some ((Int.tmod (((ByteArray.size s) : Nat) : Int) (256 : Int)) == (0 : Int)))
 (some false))
 (some false)) fun j =>
 (k j))
theorem e_impl_ymemOk (N : Nat) {R : Type} (s : ByteArray) (K : AV → Hp E → Option R) :
    runFnI (E := E) (O_impl_ymemOk N) (noIt) sl_impl_ymemOk J_impl_ymemOk Try.f30 [(AV.sc (SV.str s))] [] K =
      g_impl_ymemOk N s (fun b => K (AV.sc (SV.bool b)) []) := by kernel_rfl
noncomputable def o_impl_ymemOk (N : Nat) {R : Type} (args : List AV) (H : Hp E) (K : AV → Hp E → Option R) : Option R :=
 match args, H with
 | [(AV.sc (SV.str s))], [] => g_impl_ymemOk N s (fun b => K (AV.sc (SV.bool b)) [])
 | _, _ => none
theorem o_impl_ymemOk_ok (N : Nat) : FnOk E 30 (o_impl_ymemOk N) := by
  intro R args H K r h
  unfold o_impl_ymemOk at h
  dsimp only at h
  split at h
  · exact fnB_ok (ids := []) (top := []) ok (O_impl_ymemOk_ok N) (jn_ok _ _ _) Try.func30 (by kernel_rfl) (IT := noIt) (sl := sl_impl_ymemOk) (J := J_impl_ymemOk) (K := K) (H := []) (noIt_ok) (by kernel_rfl) rfl ((e_impl_ymemOk N _ K).trans h)
  · cases h
/-! ### loop.example/g00038/impl.yin -/
abbrev sl_impl_yin : SlotT := []
abbrev J_impl_yin : JT := jn [(1, [(6, .b)])] [] []
noncomputable def O_impl_yin (N : Nat) : Orc E := noFn
theorem O_impl_yin_ok (N : Nat) : OrcOk (O_impl_yin N) := noFn_ok
noncomputable def g_impl_yin (N : Nat) {R : Type} (n : Int) (n1 : Int) (n2 : Int) (k : Bool → Option R) : Option R :=
 (oK (cond (decide ((n ≥ n1)))
 (some (decide ((n ≤ n2))))
 (some false)) fun j =>
 (k j))
theorem e_impl_yin (N : Nat) {R : Type} (n : Int) (n1 : Int) (n2 : Int) (K : AV → Hp E → Option R) :
    runFnI (E := E) (O_impl_yin N) (noIt) sl_impl_yin J_impl_yin Try.f42 [(AV.sc (SV.int IntKind.i64 n)), (AV.sc (SV.int IntKind.i64 n1)), (AV.sc (SV.int IntKind.i64 n2))] [] K =
      g_impl_yin N n n1 n2 (fun b => K (AV.sc (SV.bool b)) []) := by kernel_rfl
noncomputable def o_impl_yin (N : Nat) {R : Type} (args : List AV) (H : Hp E) (K : AV → Hp E → Option R) : Option R :=
 match args, H with
 | [(AV.sc (SV.int IntKind.i64 n)), (AV.sc (SV.int IntKind.i64 n1)), (AV.sc (SV.int IntKind.i64 n2))], [] => g_impl_yin N n n1 n2 (fun b => K (AV.sc (SV.bool b)) [])
 | _, _ => none
theorem o_impl_yin_ok (N : Nat) : FnOk E 42 (o_impl_yin N) := by
  intro R args H K r h
  unfold o_impl_yin at h
  dsimp only at h
  split at h
  · exact fnB_ok (ids := []) (top := []) ok (O_impl_yin_ok N) (jn_ok _ _ _) Try.func42 (by kernel_rfl) (IT := noIt) (sl := sl_impl_yin) (J := J_impl_yin) (K := K) (H := []) (noIt_ok) (by kernel_rfl) rfl ((e_impl_yin N _ _ _ K).trans h)
  · cases h
/-! ### loop.example/g00038/impl.yframes -/
abbrev sl_impl_yframes_w : SlotT := []
abbrev J_impl_yframes_w : JT := jn [] [] []
noncomputable def O_impl_yframes_w (N : Nat) : Orc E := noFn
theorem O_impl_yframes_w_ok (N : Nat) : OrcOk (O_impl_yframes_w N) := noFn_ok
noncomputable def g_impl_yframes_w (N : Nat) {R : Type} (b : Bool) (l : List Int) (k : Int → Option R) : Option R :=
 (k (IntKind.wrap IntKind.i64 (Int.tdiv (((List.length l) : Nat) : Int) (256 : Int))))
theorem e_impl_yframes_w (N : Nat) {R : Type} (b : Bool) (l : List Int) (K : AV → Hp E → Option R) :
    runFnI (E := E) (O_impl_yframes_w N) (noIt) sl_impl_yframes_w J_impl_yframes_w Try.f66 [(AV.sc (SV.slc 0 none b))] [(some (HE.mk false (HB.rows (B.u8 l))))] K =
      g_impl_yframes_w N b l (fun n => K (AV.sc (SV.int IntKind.i64 n)) [(some (HE.mk false (HB.rows (B.u8 l))))]) := by kernel_rfl
noncomputable def o_impl_yframes_w (N : Nat) {R : Type} (args : List AV) (H : Hp E) (K : AV → Hp E → Option R) : Option R :=
 match args, H with
 | [(AV.sc (SV.slc 0 none b))], [(some (HE.mk false (HB.rows (B.u8 l))))] => g_impl_yframes_w N b l (fun n => K (AV.sc (SV.int IntKind.i64 n)) [(some (HE.mk false (HB.rows (B.u8 l))))])
 | _, _ => none
theorem o_impl_yframes_w_ok (N : Nat) : FnOk E 66 (o_impl_yframes_w N) := by
  intro R args H K r h
  unfold o_impl_yframes_w at h
  dsimp only at h
  split at h
  · exact fnB_ok (ids := []) (top := []) ok (O_impl_yframes_w_ok N) (jn_ok _ _ _) Try.func66 (by kernel_rfl) (IT := noIt) (sl := sl_impl_yframes_w) (J := J_impl_yframes_w) (K := K) (H := [(some (HE.mk false (HB.rows (B.u8 _))))]) (noIt_ok) (by kernel_rfl) rfl ((e_impl_yframes_w N _ _ K).trans h)
  · cases h
/-! ### loop.example/g00038/impl.ygetWord -/
abbrev sl_impl_ygetWord_w : SlotT := []
abbrev J_impl_ygetWord_w : JT := jn [] [] []
noncomputable def O_impl_ygetWord_w (N : Nat) : Orc E := noFn
theorem O_impl_ygetWord_w_ok (N : Nat) : OrcOk (O_impl_ygetWord_w N) := noFn_ok
noncomputable def g_impl_ygetWord_w (N : Nat) {R : Type} (b : Bool) (n : Int) (l : List Int) (k : Int → Option R) : Option R :=
 (cond ((decide (((0 : Int) ≤ n))) && (decide ((n < (((List.length l) : Nat) : Int)))))
 (elemK l (Int.toNat n) fun x =>
 (cond ((decide (((0 : Int) ≤ (IntKind.wrap IntKind.i64 (n + (1 : Int)))))) && (decide (((IntKind.wrap IntKind.i64 (n + (1 : Int))) < (((List.length l) : Nat) : Int)))))
 (elemK l (Int.toNat (IntKind.wrap IntKind.i64 (n + (1 : Int)))) fun x1 =>
 (cond ((decide (((0 : Int) ≤ (IntKind.wrap IntKind.i64 (n + (2 : Int)))))) && (decide (((IntKind.wrap IntKind.i64 (n + (2 : Int))) < (((List.length l) : Nat) : Int)))))
 (elemK l (Int.toNat (IntKind.wrap IntKind.i64 (n + (2 : Int)))) fun x2 =>
 (cond ((decide (((0 : Int) ≤ (IntKind.wrap IntKind.i64 (n + (3 : Int)))))) && (decide (((IntKind.wrap IntKind.i64 (n + (3 : Int))) < (((List.length l) : Nat) : Int)))))
 (elemK l (Int.toNat (IntKind.wrap IntKind.i64 (n + (3 : Int)))) fun x3 =>
 (k (IntKind.wrap IntKind.i64 (((BitVec.toNat ((BitVec.ofInt 64 (IntKind.wrap IntKind.i64 (((BitVec.toNat ((BitVec.ofInt 64 (IntKind.wrap IntKind.i64 (((BitVec.toNat ((BitVec.ofInt 64 (IntKind.wrap IntKind.i64 x)) ||| (BitVec.ofInt 64 (IntKind.wrap IntKind.i64 ((IntKind.wrap IntKind.i64 x1) * (256 : Int)))))) : Nat) : Int))) ||| (BitVec.ofInt 64 (IntKind.wrap IntKind.i64 ((IntKind.wrap IntKind.i64 x2) * (65536 : Int)))))) : Nat) : Int))) ||| (BitVec.ofInt 64 (IntKind.wrap IntKind.i64 ((IntKind.wrap IntKind.i64 x3) * (16777216 : Int)))))) : Nat) : Int))))
 none))
 none))
 none))
 none)
theorem e_impl_ygetWord_w (N : Nat) {R : Type} (b : Bool) (n : Int) (l : List Int) (K : AV → Hp E → Option R) :
    runFnI (E := E) (O_impl_ygetWord_w N) (noIt) sl_impl_ygetWord_w J_impl_ygetWord_w Try.f46 [(AV.sc (SV.slc 0 none b)), (AV.sc (SV.int IntKind.i64 n))] [(some (HE.mk false (HB.rows (B.u8 l))))] K =
      g_impl_ygetWord_w N b n l (fun n1 => K (AV.sc (SV.int IntKind.i64 n1)) [(some (HE.mk false (HB.rows (B.u8 l))))]) := by kernel_rfl
noncomputable def o_impl_ygetWord_w (N : Nat) {R : Type} (args : List AV) (H : Hp E) (K : AV → Hp E → Option R) : Option R :=
 match args, H with
 | [(AV.sc (SV.slc 0 none b)), (AV.sc (SV.int IntKind.i64 n))], [(some (HE.mk false (HB.rows (B.u8 l))))] => g_impl_ygetWord_w N b n l (fun n1 => K (AV.sc (SV.int IntKind.i64 n1)) [(some (HE.mk false (HB.rows (B.u8 l))))])
 | _, _ => none
theorem o_impl_ygetWord_w_ok (N : Nat) : FnOk E 46 (o_impl_ygetWord_w N) := by
  intro R args H K r h
  unfold o_impl_ygetWord_w at h
  dsimp only at h
  split at h
  · exact fnB_ok (ids := []) (top := []) ok (O_impl_ygetWord_w_ok N) (jn_ok _ _ _) Try.func46 (by kernel_rfl) (IT := noIt) (sl := sl_impl_ygetWord_w) (J := J_impl_ygetWord_w) (K := K) (H := [(some (HE.mk false (HB.rows (B.u8 _))))]) (noIt_ok) (by kernel_rfl) rfl ((e_impl_ygetWord_w N _ _ _ K).trans h)
  · cases h
end Go.Sa
