/- Walks: sets of numbers as numbers, bit by bit. -/
import Derived.Test.YtnbmcbkokaoapaaGreatDoorRefcard3
namespace Go.Proofs.YtnbmcbkokaoapaaGreatDoor
open Go Go.AV
set_option maxRecDepth 100000
set_option maxHeartbeats 1000000
theorem u64_in {n : Int} (h : 0 ≤ n ∧ n < 18446744073709551616) : IntKind.u64.wrap n = n := by rw [IntKind.wrap_u64]; omega
section
variable {P : Program} {G : Nat → Option (List V)} {h : Hp} {o : Oper} {ρ : Operand → V}
theorem q_quoU {t t2 : TypeId} {x y : Operand} (ho : o.op = .binOp .quo t x y t2) {m n : Int} (hx : ρ x = .int .u64 m) (hy : ρ y = .int .u64 n) (hm : 0 ≤ m ∧ m < 18446744073709551616) (hn : 0 < n) : QOp P G h o ρ (.int .u64 (m / n)) := by
  have := q_quo (P := P) (G := G) (h := h) ho hx hy (by omega)
  rw [Int.tdiv_eq_ediv_of_nonneg hm.1, u64_in ⟨Int.ediv_nonneg hm.1 (by omega), Int.lt_of_le_of_lt (Int.ediv_le_self _ hm.1) hm.2⟩] at this
  exact this
theorem q_remU {t t2 : TypeId} {x y : Operand} (ho : o.op = .binOp .rem t x y t2) {m n : Int} (hx : ρ x = .int .u64 m) (hy : ρ y = .int .u64 n) (hm : 0 ≤ m) (hn : 0 < n) : QOp P G h o ρ (.int .u64 (m % n)) := by
  have := q_rem (P := P) (G := G) (h := h) ho hx hy (by omega)
  rw [Int.tmod_eq_emod_of_nonneg hm] at this
  exact this
theorem q_addU {t t2 : TypeId} {x y : Operand} (ho : o.op = .binOp .add t x y t2) {m n : Int} (hx : ρ x = .int .u64 m) (hy : ρ y = .int .u64 n) (hm : 0 ≤ m + n ∧ m + n < 18446744073709551616) : QOp P G h o ρ (.int .u64 (m + n)) := by
  have := q_add (P := P) (G := G) (h := h) ho hx hy
  rwa [u64_in hm] at this
theorem q_convU {s t : TypeId} {x : Operand} (ho : o.op = .convert s t x) {d : TypeDesc} (hs : P.underlying s = some d) (ht : P.underlying t = some (.int .u64)) {k2 : IntKind} {n : Int} (hx : ρ x = .int k2 n) (hn : 0 ≤ n ∧ n < 18446744073709551616) : QOp P G h o ρ (.int .u64 n) := by
  have := q_conv (P := P) (G := G) (h := h) ho hs ht hx
  rwa [u64_in hn] at this
end
/-- The bits of a number. -/
def bitF (x : Int) (j : Nat) : Bool := x / 2 ^ j % 2 == 1
def cBits (b : Nat → Bool) : List V := (List.range 64).map fun j => .bool (b j)
/-- The number of some bits. -/
def ofUp (b : Nat → Bool) : Nat → Int
  | 0 => 0
  | k + 1 => if b k then ofUp b k + 2 ^ k else ofUp b k
def ofB (b : Nat → Bool) : Int := ofUp b 64
def setB (x : Int) (i : Int) (is : Bool) : Int := ofB (if 0 ≤ i ∧ i < 64 then upd (bitF x) i.toNat is else bitF x)
/-- Words with those of a number, or without them. -/
def turnedUp (w n : Int) (is : Bool) : Nat → Int
  | 0 => w
  | k + 1 => if bitF n k then setB (turnedUp w n is k) k is else turnedUp w n is k
def turnedF (w n : Int) (is : Bool) : Int := turnedUp w n is 8
theorem cBits_len (b : Nat → Bool) : (cBits b).length = 64 := by simp [cBits]
theorem cBits_at {b : Nat → Bool} {j : Nat} (hj : j < 64) : (cBits b)[j]? = some (.bool (b j)) := by simp [cBits, hj]
theorem cBits_elem {b : Nat → Bool} {i : Int} (h0 : 0 ≤ i) (h1 : i < 64) : ((cBits b).drop (i.toNat * 1)).take 1 = [.bool (b i.toNat)] := by
  obtain ⟨n, rfl⟩ := Int.eq_ofNat_of_zero_le h0
  have hn : n < (cBits b).length := by rw [cBits_len]; omega
  simp only [Int.toNat_natCast, Nat.mul_one]
  rw [List.drop_eq_getElem_cons hn]
  have : (cBits b)[n] = .bool (b n) := by simp [cBits]
  rw [this]; rfl
theorem cBits_hd {b : Nat → Bool} {i : Int} (h0 : 0 ≤ i) (h1 : i < 64) : ((cBits b).drop (i.toNat * 1))[0]? = some (.bool (b i.toNat)) := by
  rw [List.getElem?_drop, Nat.add_zero, Nat.mul_one, cBits_at (by omega)]
theorem cBits_set {b : Nat → Bool} {i : Int} {v : Bool} (h0 : 0 ≤ i) (h1 : i < 64) : splice (cBits b) (0 + i.toNat * 1) [.bool v] = cBits (upd b i.toNat v) := by
  obtain ⟨n, rfl⟩ := Int.eq_ofNat_of_zero_le h0
  have hn : n < 64 := by omega
  rw [splice_eq _ _ _ (by rw [cBits_len]; simp; omega)]
  refine List.ext_getElem? fun j => ?_
  simp only [Int.toNat_natCast, Nat.mul_one, Nat.zero_add, List.length_singleton]
  by_cases e : j < n
  · rw [List.append_assoc, List.getElem?_append_left (by rw [List.length_take, cBits_len]; omega), List.getElem?_take_of_lt e, cBits_at (by omega), cBits_at (by omega), upd, if_neg (by omega)]
  · by_cases e2 : j = n
    · subst e2
      rw [List.append_assoc, List.getElem?_append_right (by rw [List.length_take, cBits_len]; omega), cBits_at hn, List.length_take, cBits_len, show j - min j 64 = 0 by omega, upd, if_pos rfl]; rfl
    · rw [List.getElem?_append_right (by rw [List.length_append, List.length_take, cBits_len, List.length_singleton]; omega), List.length_append, List.length_take, cBits_len, List.length_singleton, List.getElem?_drop, show n + 1 + (j - (min n 64 + 1)) = j by omega]
      by_cases e3 : j < 64
      · rw [cBits_at e3, cBits_at e3, upd, if_neg e2]
      · rw [List.getElem?_eq_none (by rw [cBits_len]; omega), List.getElem?_eq_none (by rw [cBits_len]; omega)]
def bitUp (x : Int) (i : Nat) (j : Nat) : Bool := decide (j < i) && bitF x j
theorem bitUp_zero {x : Int} : cBits (bitUp x 0) = cBits fun _ => false := by
  simp [cBits, bitUp]
theorem bitUp_next {x : Int} {i : Nat} : upd (bitUp x i) i (bitF x i) = bitUp x (i + 1) := by
  funext j; unfold upd bitUp
  by_cases e : j = i
  · subst e; simp
  · by_cases e2 : j < i
    · simp [e, e2, Nat.lt_succ_of_lt e2]
    · have : ¬ j < i + 1 := by omega
      simp [e, e2, this]
theorem bitUp_all {x : Int} : cBits (bitUp x 64) = cBits (bitF x) := by
  refine List.map_congr_left fun j hj => ?_
  have : j < 64 := by simpa using hj
  simp [bitUp, this]
theorem half_next {x : Int} {i : Nat} : x / 2 ^ i / 2 = x / 2 ^ (i + 1) := by
  rw [Int.ediv_ediv_of_nonneg (by exact Int.le_of_lt (Int.pow_pos (by decide))), Int.pow_succ]
theorem half_in {x : Int} (hx : 0 ≤ x ∧ x < 18446744073709551616) (i : Nat) : 0 ≤ x / 2 ^ i ∧ x / 2 ^ i < 18446744073709551616 :=
  ⟨Int.ediv_nonneg hx.1 (Int.le_of_lt (Int.pow_pos (by decide))), Int.lt_of_le_of_lt (Int.ediv_le_self _ hx.1) hx.2⟩
theorem ofUp_in (b : Nat → Bool) : ∀ k, 0 ≤ ofUp b k ∧ ofUp b k < 2 ^ k
  | 0 => by simp [ofUp]
  | k + 1 => by
    have ih := ofUp_in b k
    rw [ofUp, Int.pow_succ]
    split <;> omega
theorem pow_in {k : Nat} (h : k < 64) : 0 < (2 : Int) ^ k ∧ 2 * (2 : Int) ^ k ≤ 18446744073709551616 := by
  have : (2 : Int) ^ (k + 1) ≤ 2 ^ 64 := by exact_mod_cast Nat.pow_le_pow_right (by decide) (by omega)
  rw [Int.pow_succ] at this
  exact ⟨Int.pow_pos (by decide), by omega⟩
theorem ofB_in (b : Nat → Bool) : 0 ≤ ofB b ∧ ofB b < 18446744073709551616 := ofUp_in b 64
theorem setB_in (x i : Int) (is : Bool) : 0 ≤ setB x i is ∧ setB x i is < 18446744073709551616 := ofB_in _
theorem turned_in64 {w n : Int} {is : Bool} (hw : 0 ≤ w ∧ w < 18446744073709551616) : ∀ k, 0 ≤ turnedUp w n is k ∧ turnedUp w n is k < 18446744073709551616
  | 0 => hw
  | k + 1 => by
    rw [turnedUp]; split
    · exact setB_in _ _ _
    · exact turned_in64 hw k
theorem worth_next {k : Nat} : IntKind.u64.wrap (IntKind.u64.wrap (2 ^ k) * 2) = IntKind.u64.wrap (2 ^ (k + 1)) := by
  rw [IntKind.wrap_u64, IntKind.wrap_u64, IntKind.wrap_u64, Int.pow_succ]
  generalize (2 : Int) ^ k = a; omega
theorem worth_in {k : Nat} (h : k < 64) : IntKind.u64.wrap (2 ^ k) = 2 ^ k := u64_in (by have := pow_in h; omega)

theorem bits_calls (x : Int) (hx : 0 ≤ x ∧ x < 18446744073709551616) (h : Hp) : ACalls Tryz.prog G 91 [.int .u64 x] h fun r h' => r = .agg (cBits (bitF x)) ∧ h' = h := by
  refine ACalls.enter Tryz.func91 rfl Tryz.ntmps91 Tryz.results91 rfl ?_
  refine AW.seq ?_
  refine AW.region ?_
  refine AOps.s rfl rfl rfl (a_alloc rfl Tryz.zeroValue137 rfl (fun id2 hid2 => ?_))
  refine AOps.nil ?_
  refine AW.seq ?_
  refine AW.region ?_
  refine AOps.s rfl rfl rfl (a_alloc rfl Tryz.zeroValue137 rfl (fun id3 hid3 => ?_))
  refine AOps.nil ?_
  refine AW.seq ?_
  refine AW.seq ?_
  refine AW.region ?_
  refine AOps.q rfl rfl rfl (q_as rfl (rfl : _ = V.int _ _)) ?_
  refine AOps.nil ?_
  refine AW.block ?_
  refine AW.loop (fun n T hh => ∃ (i : Nat) , i ≤ 64 ∧ n = 64 - i ∧ T = put (put (put (put (T0) 4 (V.int .i64 (i : Nat))) 3 (V.ptr id3 0)) 2 (V.ptr id2 0)) 0 (V.int .u64 (x / 2 ^ i)) ∧ hh = (h.setBox id2 (cBits fun _ => false)).setBox id3 (cBits (bitUp x i))) (64) ?_ ?_
  · skip
    refine Wk.mk (TLe.put (d := 0) (VLe.of_eq (congrArg (V.int .u64) (by simp))) (TLe.put (d := 2) (VLe.refl _) (TLe.put (d := 3) (VLe.refl _) (TLe.put (d := 4) (by exact VLe.of_eq (congrArg (V.int .i64) (by first | rfl | omega))) (TLe.zero _))))) (HLe.refl _) ⟨0, Nat.zero_le _, rfl, rfl, by rw [bitUp_zero]; rfl⟩
  · skip
    rintro n T h' ⟨i, hi, rfl, rfl, rfl⟩
    refine AW.seq ?_
    refine AW.seq ?_
    refine AW.region ?_
    refine AOps.q rfl rfl rfl (q_mv rfl (rfl : _ = V.int _ _)) ?_
    refine AOps.q rfl rfl rfl (q_lt rfl rfl rfl) ?_
    refine AOps.nil ?_
    refine AW.cond rfl (fun c0 => ?_) (fun c0 => ?_)
    · have hlt : i < 64 := by have := of_decide_eq_true c0; omega
      refine AW.skip ?_
      refine AW.seq ?_
      refine AW.block ?_
      refine AW.seq ?_
      refine AW.region ?_
      refine AOps.q rfl rfl rfl (q_mv rfl (rfl : _ = V.int _ _)) ?_
      refine AOps.q rfl rfl rfl (q_mv rfl (rfl : _ = V.int _ _)) ?_
      refine AOps.q rfl rfl rfl (q_remU rfl rfl rfl (half_in hx i).1 (by decide)) ?_
      refine AOps.q rfl rfl rfl (q_eq rfl rfl rfl) ?_
      refine AOps.q rfl rfl rfl (q_ia_ab rfl Tryz.underlying137 Tryz.sizeOf4 rfl rfl (by omega) (by omega)) ?_
      refine AOps.s0 rfl rfl (a_store1 rfl Tryz.sizeOf4 rfl (by exact Hp.box_setBox _ _ _) (rfl : _ = V.bool _) rfl rfl (by first | decide | exact Nat.le_of_ble_eq_true rfl | (rw [cBits_len]; omega)) ?_)
      refine AOps.nil ?_
      refine AW.region ?_
      refine AOps.q rfl rfl rfl (q_mv rfl (rfl : _ = V.int _ _)) ?_
      refine AOps.q rfl rfl rfl (q_quoU rfl rfl rfl (half_in hx i) (by decide)) ?_
      refine AOps.q rfl rfl rfl (q_as rfl (rfl : _ = V.int _ _)) ?_
      refine AOps.nil ?_
      refine AW.region ?_
      refine AOps.q rfl rfl rfl (q_mv rfl (rfl : _ = V.int _ _)) ?_
      refine AOps.q rfl rfl rfl (q_add' rfl rfl rfl (by omega)) ?_
      refine AOps.q rfl rfl rfl (q_as rfl (rfl : _ = V.int _ _)) ?_
      refine AOps.nil ?_
      refine Wk.mk (TLe.put (d := 0) (VLe.of_eq (congrArg (V.int .u64) half_next)) (TLe.put (d := 2) (VLe.refl _) (TLe.put (d := 3) (VLe.refl _) (TLe.put (d := 4) (by exact VLe.of_eq (congrArg (V.int .i64) (by first | rfl | omega))) (TLe.zero _))))) (HLe.refl _) ⟨_, ?_, i + 1, ?_, rfl, rfl, by rw [Hp.setBox_setBox, cBits_set (by omega) (by omega), Int.toNat_natCast, ← bitUp_next]; rfl⟩
      · omega
      · omega
    · obtain rfl : i = 64 := by have := of_decide_eq_false c0; omega
      rw [bitUp_all]
      refine AW.exit ?_
      refine AW.seq ?_
      refine AW.done 3 rfl (Hp.fresh_swap hid3) ?_
      refine AW.region ?_
      refine AOps.q rfl rfl rfl (q_load_iW rfl Tryz.isAgg137 Tryz.sizeOf137 rfl (by rfl)) ?_
      refine AOps.s0 rfl rfl (a_storeWA rfl Tryz.sizeOf137 rfl rfl (rfl : _ = V.agg _) rfl rfl ?_)
      refine AOps.nil ?_
      refine AW.ret ?_
      exact retQ.mk' (Res.cellB Tryz.isAgg137 Tryz.sizeOf137 rfl (by exact Hp.box_setBox _ _ _) rfl) (VLe.refl _) (HLe.setBox hid2.1) ⟨rfl, rfl⟩

theorem bitsOf_calls (b : Nat → Bool) (h : Hp) : ACalls Tryz.prog G 120 [.agg (cBits b)] h fun r h' => r = .int .u64 (ofB b) ∧ h' = h := by
  refine ACalls.enter Tryz.func120 rfl Tryz.ntmps120 Tryz.results120 rfl ?_
  refine AW.seq ?_
  refine AW.region ?_
  refine AOps.q rfl rfl rfl (q_boxa rfl (rfl : _ = V.agg _)) ?_
  refine AOps.q rfl rfl rfl (q_as rfl (rfl : _ = V.int _ _)) ?_
  refine AOps.nil ?_
  refine AW.seq ?_
  refine AW.region ?_
  refine AOps.q rfl rfl rfl (q_as rfl (rfl : _ = V.int _ _)) ?_
  refine AOps.q rfl rfl rfl (q_as rfl (rfl : _ = V.int _ _)) ?_
  refine AOps.nil ?_
  refine AW.seq ?_
  refine AW.seq ?_
  refine AW.region ?_
  refine AOps.q rfl rfl rfl (q_as rfl (rfl : _ = V.int _ _)) ?_
  refine AOps.nil ?_
  refine AW.block ?_
  refine AW.loop (fun n T hh => ∃ (i : Nat) , i ≤ 64 ∧ n = 64 - i ∧ T = put (put (put (put (T0) 5 (V.int .i64 (i : Nat))) 4 (V.int .u64 (IntKind.u64.wrap (2 ^ i)))) 3 (V.int .u64 (ofUp b i))) 1 (V.iptr (cBits b)) ∧ hh = h) (64) ?_ ?_
  · skip
    refine Wk.mk (TLe.put (d := 1) (VLe.refl _) (TLe.put (d := 3) (VLe.refl _) (TLe.put (d := 4) (VLe.refl _) (TLe.put (d := 5) (by exact VLe.of_eq (congrArg (V.int .i64) (by first | rfl | omega))) (TLe.zero _))))) (HLe.refl _) ⟨0, Nat.zero_le _, rfl, rfl, rfl⟩
  · skip
    rintro n T h' ⟨i, hi, rfl, rfl, rfl⟩
    refine AW.seq ?_
    refine AW.seq ?_
    refine AW.region ?_
    refine AOps.q rfl rfl rfl (q_mv rfl (rfl : _ = V.int _ _)) ?_
    refine AOps.q rfl rfl rfl (q_lt rfl rfl rfl) ?_
    refine AOps.nil ?_
    refine AW.cond rfl (fun c0 => ?_) (fun c0 => ?_)
    · have hlt : i < 64 := by have := of_decide_eq_true c0; omega
      refine AW.skip ?_
      refine AW.seq ?_
      refine AW.block ?_
      refine AW.seq ?_
      refine AW.seq ?_
      refine AW.region ?_
      refine AOps.q rfl rfl rfl (q_mv rfl (rfl : _ = V.int _ _)) ?_
      refine AOps.q rfl rfl rfl (q_ia_ai rfl Tryz.underlying137 Tryz.sizeOf4 rfl rfl (by omega) (by omega) rfl) ?_
      refine AOps.q rfl rfl rfl (q_load_i1 rfl Tryz.isAgg4 rfl (cBits_hd (by omega) (by omega))) ?_
      refine AOps.nil ?_
      refine AW.cond rfl (fun c1 => ?_) (fun c1 => ?_)
      · skip
        refine AW.region ?_
        refine AOps.q rfl rfl rfl (q_mv rfl (rfl : _ = V.int .u64 _)) ?_
        refine AOps.q rfl rfl rfl (q_mv rfl (rfl : _ = V.int .u64 _)) ?_
        refine AOps.q rfl rfl rfl (q_addU rfl rfl rfl (by rw [worth_in (by omega)]; have h1 := ofUp_in b i; have h2 := pow_in (k := i) (by omega); omega)) ?_
        refine AOps.q rfl rfl rfl (q_as rfl (rfl : _ = V.int _ _)) ?_
        refine AOps.nil ?_
        refine AW.region ?_
        refine AOps.q rfl rfl rfl (q_mv rfl (rfl : _ = V.int .u64 _)) ?_
        refine AOps.q rfl rfl rfl (q_mul rfl rfl rfl) ?_
        refine AOps.q rfl rfl rfl (q_as rfl (rfl : _ = V.int .u64 _)) ?_
        refine AOps.nil ?_
        refine AW.region ?_
        refine AOps.q rfl rfl rfl (q_mv rfl (rfl : _ = V.int _ _)) ?_
        refine AOps.q rfl rfl rfl (q_add' rfl rfl rfl (by omega)) ?_
        refine AOps.q rfl rfl rfl (q_as rfl (rfl : _ = V.int _ _)) ?_
        refine AOps.nil ?_
        refine Wk.mk (TLe.put (d := 1) (VLe.refl _) (TLe.put (d := 3) (VLe.of_eq (congrArg (V.int .u64) (by first | (rw [ofUp, if_pos (by simpa using c1), worth_in (by omega)]; done) | rw [ofUp, if_neg (by simpa using c1)]))) (TLe.put (d := 4) (VLe.of_eq (congrArg (V.int .u64) worth_next)) (TLe.put (d := 5) (by exact VLe.of_eq (congrArg (V.int .i64) (by first | rfl | omega))) (TLe.zero _))))) (HLe.refl _) ⟨_, ?_, i + 1, ?_, rfl, rfl, rfl⟩
        · omega
        · omega
      · skip
        refine AW.skip ?_
        refine AW.region ?_
        refine AOps.q rfl rfl rfl (q_mv rfl (rfl : _ = V.int .u64 _)) ?_
        refine AOps.q rfl rfl rfl (q_mul rfl rfl rfl) ?_
        refine AOps.q rfl rfl rfl (q_as rfl (rfl : _ = V.int .u64 _)) ?_
        refine AOps.nil ?_
        refine AW.region ?_
        refine AOps.q rfl rfl rfl (q_mv rfl (rfl : _ = V.int _ _)) ?_
        refine AOps.q rfl rfl rfl (q_add' rfl rfl rfl (by omega)) ?_
        refine AOps.q rfl rfl rfl (q_as rfl (rfl : _ = V.int _ _)) ?_
        refine AOps.nil ?_
        refine Wk.mk (TLe.put (d := 1) (VLe.refl _) (TLe.put (d := 3) (VLe.of_eq (congrArg (V.int .u64) (by first | (rw [ofUp, if_pos (by simpa using c1), worth_in (by omega)]; done) | rw [ofUp, if_neg (by simpa using c1)]))) (TLe.put (d := 4) (VLe.of_eq (congrArg (V.int .u64) worth_next)) (TLe.put (d := 5) (by exact VLe.of_eq (congrArg (V.int .i64) (by first | rfl | omega))) (TLe.zero _))))) (HLe.refl _) ⟨_, ?_, i + 1, ?_, rfl, rfl, rfl⟩
        · omega
        · omega
    · obtain rfl : i = 64 := by have := of_decide_eq_false c0; omega
      refine AW.exit ?_
      refine AW.seq ?_
      refine AW.region ?_
      refine AOps.q rfl rfl rfl (q_mv rfl (rfl : _ = V.int .u64 _)) ?_
      refine AOps.q rfl rfl rfl (q_as rfl (rfl : _ = V.int .u64 _)) ?_
      refine AOps.nil ?_
      refine AW.ret ?_
      exact retQ.mk' (.one _) (VLe.refl _) (HLe.refl _) ⟨rfl, rfl⟩

theorem bitsSet_calls (x i : Int) (is : Bool) (hx : 0 ≤ x ∧ x < 18446744073709551616) (h : Hp) : ACalls Tryz.prog G 92 [.int .u64 x, .int .i64 i, .bool is] h fun r h' => r = .int .u64 (setB x i is) ∧ h' = h := by
  refine ACalls.enter Tryz.func92 rfl Tryz.ntmps92 Tryz.results92 rfl ?_
  refine AW.seq ?_
  refine AW.region ?_
  refine AOps.q rfl rfl rfl (q_as rfl (rfl : _ = V.int _ _)) ?_
  refine AOps.nil ?_
  refine AW.seq ?_
  refine AW.region ?_
  refine AOps.q rfl rfl rfl (q_mv rfl (rfl : _ = V.int _ _)) ?_
  refine AOps.q rfl rfl rfl (QOp.call rfl (by exact Tryz.call91) fun h' hl' => by exact bits_calls _ (by assumption) h') ?_
  refine AOps.s rfl rfl rfl (a_alloc rfl Tryz.zeroValue137 rfl (fun id7 hid7 => ?_))
  refine AOps.s0 rfl rfl (a_storeWA rfl Tryz.sizeOf137 rfl rfl (rfl : _ = V.agg _) rfl rfl ?_)
  refine AOps.nil ?_
  refine AW.seq ?_
  refine AW.seq ?_
  refine AW.region ?_
  refine AOps.q rfl rfl rfl (q_mv rfl (rfl : _ = V.int _ _)) ?_
  refine AOps.q rfl rfl rfl (q_ge rfl rfl rfl) ?_
  refine AOps.q rfl rfl rfl (q_mv rfl (rfl : _ = V.bool _)) ?_
  refine AOps.g (wanted_t rfl rfl) rfl rfl (fun hc => TLe.refl _) (fun hc => q_mv rfl (rfl : _ = V.int _ _)) ?_
  refine AOps.g (wanted_t rfl rfl) rfl rfl (fun hc => TLe.put (d := 13) (VLe.opt hc) (TLe.refl _)) (fun hc => q_lt rfl rfl rfl) ?_
  refine AOps.q rfl rfl rfl (q_pickg rfl rfl (fun hp => by first | exact VLe.opt hp | exact VLe.opt (by rw [hp]; rfl) | exact VLe.opt (by simp_all)) (fun hp => by exact VLe.refl _)) ?_
  refine AOps.nil ?_
  refine AW.cond rfl (fun c0 => ?_) (fun c0 => ?_)
  · have hi : 0 ≤ i ∧ i < 64 := cr_in c0
    refine AW.region ?_
    refine AOps.q rfl rfl rfl (q_mv rfl (rfl : _ = V.int _ _)) ?_
    refine AOps.q rfl rfl rfl (q_mv rfl (rfl : _ = V.bool _)) ?_
    refine AOps.q rfl rfl rfl (q_ia_ab rfl Tryz.underlying137 Tryz.sizeOf4 rfl rfl (by omega) (by omega)) ?_
    refine AOps.s0 rfl rfl (a_store1 rfl Tryz.sizeOf4 rfl (by exact Hp.box_setBox _ _ _) (rfl : _ = V.bool _) rfl rfl (by first | decide | exact Nat.le_of_ble_eq_true rfl | (rw [cBits_len]; omega)) ?_)
    refine AOps.nil ?_
    refine AW.seq ?_
    first | refine AW.hp (h' := h.setBox id7 (cBits (upd (bitF x) i.toNat is))) (by rw [Hp.setBox_setBox, cBits_set hi.1 hi.2]) ?_ | skip
    refine AW.done 7 rfl hid7 ?_
    refine AW.region ?_
    refine AOps.q rfl rfl rfl (q_load_iW rfl Tryz.isAgg137 Tryz.sizeOf137 rfl (by rfl)) ?_
    refine AOps.q rfl rfl rfl (QOp.call rfl (by exact Tryz.call120) fun h' hl' => by exact bitsOf_calls _ h') ?_
    refine AOps.q rfl rfl rfl (q_as rfl (rfl : _ = V.int _ _)) ?_
    refine AOps.nil ?_
    refine AW.ret ?_
    exact retQ.mk' (.one _) (VLe.of_eq (congrArg (V.int .u64) (by rw [setB, if_pos hi]))) (HLe.refl _) ⟨rfl, rfl⟩
  · have hi : ¬ (0 ≤ i ∧ i < 64) := fun e => by simp [e.1, e.2] at c0
    refine AW.skip ?_
    refine AW.seq ?_
    first | refine AW.hp (h' := h.setBox id7 (cBits (upd (bitF x) i.toNat is))) (by rw [Hp.setBox_setBox, cBits_set hi.1 hi.2]) ?_ | skip
    refine AW.done 7 rfl hid7 ?_
    refine AW.region ?_
    refine AOps.q rfl rfl rfl (q_load_iW rfl Tryz.isAgg137 Tryz.sizeOf137 rfl (by rfl)) ?_
    refine AOps.q rfl rfl rfl (QOp.call rfl (by exact Tryz.call120) fun h' hl' => by exact bitsOf_calls _ h') ?_
    refine AOps.q rfl rfl rfl (q_as rfl (rfl : _ = V.int _ _)) ?_
    refine AOps.nil ?_
    refine AW.ret ?_
    exact retQ.mk' (.one _) (VLe.of_eq (congrArg (V.int .u64) (by rw [setB, if_neg hi]))) (HLe.refl _) ⟨rfl, rfl⟩

theorem turned_calls (w v : Int) (is : Bool) (hw : 0 ≤ w ∧ w < 18446744073709551616) (hn : 0 ≤ v ∧ v < 18446744073709551616) (h : Hp) : ACalls Tryz.prog G 63 [.int .u64 w, .int .i64 v, .bool is] h fun r h' => r = .int .u64 (turnedF w v is) ∧ h' = h := by
  refine ACalls.enter Tryz.func63 rfl Tryz.ntmps63 Tryz.results63 rfl ?_
  refine AW.seq ?_
  refine AW.region ?_
  refine AOps.q rfl rfl rfl (q_as rfl (rfl : _ = V.int _ _)) ?_
  refine AOps.nil ?_
  refine AW.seq ?_
  refine AW.region ?_
  refine AOps.q rfl rfl rfl (q_mv rfl (rfl : _ = V.int _ _)) ?_
  refine AOps.q rfl rfl rfl (q_convU rfl Tryz.underlying3 Tryz.underlying94 rfl hn) ?_
  refine AOps.q rfl rfl rfl (QOp.call rfl (by exact Tryz.call91) fun h' hl' => by exact bits_calls _ (by assumption) h') ?_
  refine AOps.s rfl rfl rfl (a_alloc rfl Tryz.zeroValue137 rfl (fun id7 hid7 => ?_))
  refine AOps.s0 rfl rfl (a_storeWA rfl Tryz.sizeOf137 rfl rfl (rfl : _ = V.agg _) rfl rfl ?_)
  refine AOps.done 7 rfl hid7 ?_
  refine AOps.nil ?_
  refine AW.seq ?_
  refine AW.seq ?_
  refine AW.region ?_
  refine AOps.q rfl rfl rfl (q_as rfl (rfl : _ = V.int _ _)) ?_
  refine AOps.nil ?_
  refine AW.block ?_
  refine AW.loop (fun n T hh => ∃ (i : Nat) , i ≤ 8 ∧ n = 8 - i ∧ T = put (put (put (put (T0) 8 (V.int .i64 (i : Nat))) 7 (V.iptr (cBits (bitF v)))) 2 (V.bool is)) 0 (V.int .u64 (turnedUp w v is i)) ∧ hh = h) (8) ?_ ?_
  · skip
    refine Wk.mk (TLe.put (d := 0) (VLe.refl _) (TLe.put (d := 2) (VLe.refl _) (TLe.put (d := 7) (VLe.refl _) (TLe.put (d := 8) (by exact VLe.of_eq (congrArg (V.int .i64) (by first | rfl | omega))) (TLe.zero _))))) (HLe.refl _) ⟨0, Nat.zero_le _, rfl, rfl, rfl⟩
  · skip
    rintro n T h' ⟨i, hi, rfl, rfl, rfl⟩
    refine AW.seq ?_
    refine AW.seq ?_
    refine AW.region ?_
    refine AOps.q rfl rfl rfl (q_mv rfl (rfl : _ = V.int _ _)) ?_
    refine AOps.q rfl rfl rfl (q_lt rfl rfl rfl) ?_
    refine AOps.nil ?_
    refine AW.cond rfl (fun c0 => ?_) (fun c0 => ?_)
    · have hlt : i < 8 := by have := of_decide_eq_true c0; omega
      have hwi := turned_in64 (n := v) (is := is) hw i
      refine AW.skip ?_
      refine AW.seq ?_
      refine AW.block ?_
      refine AW.seq ?_
      refine AW.region ?_
      refine AOps.q rfl rfl rfl (q_mv rfl (rfl : _ = V.int _ _)) ?_
      refine AOps.q rfl rfl rfl (q_ia_ai rfl Tryz.underlying137 Tryz.sizeOf4 rfl rfl (by omega) (by omega) rfl) ?_
      refine AOps.q rfl rfl rfl (q_load_i1 rfl Tryz.isAgg4 rfl (cBits_hd (by omega) (by omega))) ?_
      refine AOps.nil ?_
      refine AW.cond rfl (fun c1 => ?_) (fun c1 => ?_)
      · skip
        refine AW.region ?_
        refine AOps.q rfl rfl rfl (q_mv rfl (rfl : _ = V.int .u64 _)) ?_
        refine AOps.q rfl rfl rfl (q_mv rfl (rfl : _ = V.int _ _)) ?_
        refine AOps.q rfl rfl rfl (q_mv rfl (rfl : _ = V.bool _)) ?_
        refine AOps.q rfl rfl rfl (QOp.call rfl (by exact Tryz.call92) fun h' hl' => by exact bitsSet_calls _ _ _ (by assumption) h') ?_
        refine AOps.q rfl rfl rfl (q_as rfl (rfl : _ = V.int _ _)) ?_
        refine AOps.nil ?_
        refine AW.region ?_
        refine AOps.q rfl rfl rfl (q_mv rfl (rfl : _ = V.int _ _)) ?_
        refine AOps.q rfl rfl rfl (q_add' rfl rfl rfl (by omega)) ?_
        refine AOps.q rfl rfl rfl (q_as rfl (rfl : _ = V.int _ _)) ?_
        refine AOps.nil ?_
        refine Wk.mk (TLe.put (d := 0) (VLe.of_eq (congrArg (V.int .u64) (by first | rw [turnedUp, if_pos (by simpa using c1)] | rw [turnedUp, if_neg (by simpa using c1)]))) (TLe.put (d := 2) (VLe.refl _) (TLe.put (d := 7) (VLe.refl _) (TLe.put (d := 8) (by exact VLe.of_eq (congrArg (V.int .i64) (by first | rfl | omega))) (TLe.zero _))))) (HLe.refl _) ⟨_, ?_, i + 1, ?_, rfl, rfl, rfl⟩
        · omega
        · omega
      · skip
        refine AW.skip ?_
        refine AW.region ?_
        refine AOps.q rfl rfl rfl (q_mv rfl (rfl : _ = V.int _ _)) ?_
        refine AOps.q rfl rfl rfl (q_add' rfl rfl rfl (by omega)) ?_
        refine AOps.q rfl rfl rfl (q_as rfl (rfl : _ = V.int _ _)) ?_
        refine AOps.nil ?_
        refine Wk.mk (TLe.put (d := 0) (VLe.of_eq (congrArg (V.int .u64) (by first | rw [turnedUp, if_pos (by simpa using c1)] | rw [turnedUp, if_neg (by simpa using c1)]))) (TLe.put (d := 2) (VLe.refl _) (TLe.put (d := 7) (VLe.refl _) (TLe.put (d := 8) (by exact VLe.of_eq (congrArg (V.int .i64) (by first | rfl | omega))) (TLe.zero _))))) (HLe.refl _) ⟨_, ?_, i + 1, ?_, rfl, rfl, rfl⟩
        · omega
        · omega
    · obtain rfl : i = 8 := by have := of_decide_eq_false c0; omega
      refine AW.exit ?_
      refine AW.seq ?_
      refine AW.region ?_
      refine AOps.q rfl rfl rfl (q_mv rfl (rfl : _ = V.int .u64 _)) ?_
      refine AOps.q rfl rfl rfl (q_as rfl (rfl : _ = V.int .u64 _)) ?_
      refine AOps.nil ?_
      refine AW.ret ?_
      exact retQ.mk' (.one _) (VLe.refl _) (HLe.refl _) ⟨rfl, rfl⟩

end Go.Proofs.YtnbmcbkokaoapaaGreatDoor
