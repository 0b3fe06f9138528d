import Derived.Test.YtnopbegjbbbdhaaP0
set_option linter.all false
namespace Go.Sa
open Go Go.Eng
section
variable {R : Type} (N : Nat)
variable {R : Type}

theorem fw_size {l0 : List Int} {s s1 : ByteArray} {n : Int} {b1 b b2 : Bool} {l l2 : List FirmTable} {n1 : Int} (hl : l.length ≤ 10) (hx : ∀ x ∈ l, tblOk x = true) (hN : 2 ^ 40 < N) (kN : Int → Option R) :
    c_laws_FnFirmware_r_0 N b s n b1 s1 l0 l n1 b2 l2 (IntKind.wrap .i64 (12 + IntKind.wrap .i64 (4 * ((l.length : Nat) : Int)))) 0 kN = kN ((12 + 4 * l.length + (catB (l.map tblText)).size : Nat) : Int) := by
  have e0 : IntKind.wrap .i64 (12 + IntKind.wrap .i64 (4 * ((l.length : Nat) : Int))) = ((12 + 4 * l.length : Nat) : Int) := by
    rw [w64 (n := 4 * (l.length : Int)) (by omega) (by omega), w64 (by omega) (by omega)]; omega
  rw [e0]
  unfold c_laws_FnFirmware_r_0
  have hb := catB_tbl_size hx
  obtain ⟨h1, h2⟩ := foldL (fun f i z => l_laws_FnFirmware_r_0 N b s n b1 s1 l0 l n1 b2 l2 kN f z i) l (fun z x => IntKind.wrap .i64 (IntKind.wrap .i64 (z + 8) + (x.fBody.size : Int))) (fun i z => z = ((12 + 4 * l.length + (catB ((l.take i).map tblText)).size : Nat) : Int)) kN (fun f i z x hi hx1 hz => by
    have hm : x ∈ l := nth_mem hx1
    have hs := tblText_size_ok (hx x hm)
    have hc := take_cat hx1
    have hq := (catB_tbl_size (l := l.take i) fun y hy => hx y (List.mem_of_mem_take hy)).1
    have hti : (l.take i).length ≤ 10 := by rw [List.length_take]; omega
    have q4 := (tblOk_facts (hx x hm)).2.2.2.1
    refine ⟨?_, ?_⟩
    · rw [l_laws_FnFirmware_r_0, s_laws_FnFirmware_r_0, dec_lt hi, cond_true, dec_nn, Bool.and_self, cond_true, Int.toNat_natCast, elemK_some hx1, wrap_next hi (by omega)]
    · rw [hz, hc, w64 (n := ((12 + 4 * l.length + (catB ((l.take i).map tblText)).size : Nat) : Int) + 8) (by omega) (by omega), w64 (by omega) (by omega)]; omega) (fun f z _ => by
    rw [l_laws_FnFirmware_r_0, s_laws_FnFirmware_r_0, dec_nlt, cond_false]) (s := ((12 + 4 * l.length : Nat) : Int)) (by show _ = ((12 + 4 * l.length + 0 : Nat) : Int); rfl) (f := N) (by omega)
  refine h1.trans ?_
  rw [h2, List.take_length]

theorem law_Firmware {b : Bool} {l : List Int} (hN : 2 ^ 40 < N) (k : Bool → Option R) : g_laws_FnFirmware_r N b l k = k true := by
  unfold g_laws_FnFirmware_r
  by_cases h : (l.length : Int) > 1048576
  · rw [decide_eq_true h]; rfl
  rw [decide_eq_false h, cond_false]
  have hl : l.length ≤ 2 ^ 30 := by omega
  obtain ⟨s, n, b1, L, hs, hL, hsm, hd⟩ := DrawPutTables_ok (R := R) N (b := b) hl hN
  have hb := fw_board (R := R) N (b := b) hl hN k
  rw [hd, impl_PutTables_eq N (by omega) (by omega) (fun x hx => by have := hsm x hx; omega) hN, spec_PutTables_eq N (by omega) (fun x hx => by have := hsm x hx; omega) hN, decide_eq_true rfl, Bool.not_true, cond_false]
  by_cases hne : putTables s n L = ⟨[].toArray⟩
  · rw [decide_eq_true hne, Bool.not_true, cond_false]
    exact hb
  rw [decide_eq_false hne, Bool.not_false, cond_true]
  obtain ⟨b2, hr⟩ := impl_ReadTables_put (R := R) N hne hN
  obtain ⟨i, e, rfl, hie, hes, hsz, he, hs6, hl10, hok, x1, x2⟩ := put_outside hne
  obtain ⟨t, ht⟩ : ∃ t, putTables s (i : Int) L = t := ⟨_, rfl⟩
  rw [ht] at hr hsz x1 x2
  rw [ht, hr, fw_size N hl10 hok hN]
  have e1 : IntKind.wrap .i64 ((i : Int) + ((12 + 4 * L.length + (catB (L.map tblText)).size : Nat) : Int)) = (e : Int) := by rw [w64 (by omega) (by omega)]; omega
  rw [bne_self_eq_false, cond_false, bne_self_eq_false, cond_false, e1, hsz, dec_nn, decide_eq_true (show (i : Int) ≤ (s.size : Int) by omega), Bool.and_self, cond_true, cond_true, Int.toNat_natCast, x1, decide_eq_true rfl, Bool.not_true, cond_false, dec_nn, decide_eq_true (show (e : Int) ≤ (s.size : Int) by omega), decide_eq_true (show (s.size : Int) ≤ (s.size : Int) by omega), Bool.and_self, Bool.and_self, cond_true, cond_true, Int.toNat_natCast, Int.toNat_natCast, x2, decide_eq_true rfl, Bool.not_true, oK_some_eq, cond_false]
  have hgo : ∀ kN : Option R, c_laws_FnFirmware_r_2 N b b1 l L 0 b2 L 0 (k false) kN = kN := fun kN => by
    unfold c_laws_FnFirmware_r_2
    rw [srch (fun f j => l_laws_FnFirmware_r_2 N b b1 l L 0 b2 L (k false) kN f j) L.length (fun _ => false) (k false) kN (fun f j hj => ?_) (fun f => ?_) (by omega)]
    · have : (List.range L.length).any (fun _ => false) = false := by rw [List.any_eq_false]; intro x _; simp
      rw [this, cond_false]
    · obtain ⟨x, hx⟩ := nth_some hj
      rw [l_laws_FnFirmware_r_2, s_laws_FnFirmware_r_2, dec_lt hj, cond_true, dec_nn, Bool.and_self, cond_true, Int.toNat_natCast, elemK_some hx, cond_true, elemK_some hx, beq_self_eq_true, decide_eq_true rfl, decide_eq_true rfl, wrap_next hj (by omega)]
      rfl
    · rw [l_laws_FnFirmware_r_2, s_laws_FnFirmware_r_2, dec_nlt, cond_false]
  rw [hgo]
  exact hb

end
end Go.Sa
