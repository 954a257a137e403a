/- Walks: the document's cards. -/
import Derived.Test.YtijhmlkffkedeaaGreatDoorCs8
namespace Go.Proofs.YtijhmlkffkedeaaGreatDoor
open Go Go.AV Go.Proofs.Tryz
set_option maxRecDepth 100000
set_option maxHeartbeats 1000000
def cCardV (kind col : Int) (fast : Bool) (c : Cost) (p t s : Int) (v : V) : List V := [.int .i64 kind, .int .i64 col, .bool fast, .int .i64 (c 0), .int .i64 (c 1), .int .i64 (c 2), .int .i64 (c 3), .int .i64 (c 4), .int .i64 (c 5), .int .i64 p, .int .i64 t, .int .i64 s, v]
theorem ovr_len : ∀ cs ds : List V, (ovr cs ds).length = cs.length
  | cs, [] => by cases cs <;> rfl
  | [], _ :: _ => rfl
  | c :: cs, d :: ds => by rw [ovr, List.length_cons, ovr_len cs ds, List.length_cons]
theorem splice_len : ∀ (l : List V) (i : Nat) (x : List V), (splice l i x).length = l.length
  | l, 0, x => by rw [splice, ovr_len]
  | [], i + 1, x => rfl
  | c :: l, i + 1, x => by rw [splice, List.length_cons, splice_len l i x, List.length_cons]
def costR (c x k : Int) : Cost := fun j => if j = 5 then k else if (j : Int) = c then x else 0
def cost5 (k : Int) : Cost := fun j => if j = 5 then k else 0
theorem cardV_set {kind col p t s c x : Int} {fast : Bool} {v : V} (h0 : 0 ≤ c) (h1 : c < 6) : splice (cCardV kind col fast noCost p t s v) (3 + c.toNat * 1) [.int .i64 x] = cCardV kind col fast (oneCost c x) p t s v := by
  obtain ⟨k, rfl⟩ := Int.eq_ofNat_of_zero_le h0
  have : k = 0 ∨ k = 1 ∨ k = 2 ∨ k = 3 ∨ k = 4 ∨ k = 5 := by omega
  rcases this with e | e | e | e | e | e <;> subst e <;> rfl
theorem cardV_set2 {kind col p t s c x y : Int} {fast : Bool} {v : V} (h0 : 0 ≤ c) (h1 : c < 6) : splice (cCardV kind col fast (oneCost c y) p t s v) (3 + c.toNat * 1) [.int .i64 x] = cCardV kind col fast (oneCost c x) p t s v := by
  obtain ⟨k, rfl⟩ := Int.eq_ofNat_of_zero_le h0
  have : k = 0 ∨ k = 1 ∨ k = 2 ∨ k = 3 ∨ k = 4 ∨ k = 5 := by omega
  rcases this with e | e | e | e | e | e <;> subst e <;> rfl
def pw8 (k : Int) : Int := [1, 1, 2, 2, 3, 3, 4, 4].getD k.toNat 0
def tg8 (k : Int) : Int := [1, 2, 2, 3, 3, 4, 4, 5].getD k.toNat 0
def sy8 (k : Int) : Int := [1, 2, 4, 8, 16, 32, 64, 128].getD k.toNat 0
theorem getD_in {m : Int} (hm : 0 ≤ m) : ∀ {l : List Int} (_ : ∀ x ∈ l, 0 ≤ x ∧ x ≤ m) (i : Nat), 0 ≤ l.getD i 0 ∧ l.getD i 0 ≤ m
  | [], _, i => by simp [List.getD_eq_getElem?_getD, hm]
  | x :: l, h, 0 => h x (by simp)
  | x :: l, h, i + 1 => getD_in hm (l := l) (fun y hy => h y (by simp [hy])) i
theorem pw8_in (k : Int) : 0 ≤ pw8 k ∧ pw8 k ≤ 4 := getD_in (by decide) (by decide) _
theorem tg8_in (k : Int) : 0 ≤ tg8 k ∧ tg8 k ≤ 5 := getD_in (by decide) (by decide) _
/-- A creature's ability, by its colour. -/
def refBeastA (c k : Int) : List Abil :=
  if c = 0 then [⟨2, noCost, false, 0, ⟨2, k + 1, 0, 0, []⟩⟩] else if c = 1 then (if k % 2 = 0 then [] else [⟨2, noCost, false, 0, ⟨4, 1, 0, 0, []⟩⟩])
  else if c = 2 then [⟨3, noCost, false, 0, ⟨3, pw8 k, 0, 1, []⟩⟩] else if c = 3 then [⟨1, oneCost 3 1, true, 3, ⟨1, 1, 0, 2, []⟩⟩] else [⟨1, oneCost 4 1, false, 0, ⟨10, 1, 1, 3, []⟩⟩]
def specR (n : Int) : Card :=
  let r := specialRows.getD (n - 100).toNat []
  ⟨r.getD 0 0, 5, r.getD 2 0 == 1, cost5 (r.getD 1 0), r.getD 3 0, r.getD 4 0, r.getD 5 0, abilR (r.drop 6) :: (if n = 108 then [giveF 2 5] else [])⟩
/-- A card, by the document. -/
def refCardF (n : Int) : Card :=
  if n < 5 then ⟨0, n, false, noCost, 0, 0, 0, [giveF 1 n]⟩
  else if n < 10 then ⟨0, 5, false, noCost, 0, 0, 0, [⟨2, noCost, false, 0, ⟨3, n - 4, 0, 0, []⟩⟩, giveF ([1, 1, 2, 2, 3].getD (n - 5).toNat 0) 5]⟩
  else if n < 50 then ⟨1, n % 5, false, costR (n % 5) (if 3 < (n - 10) / 5 then 2 else 1) ((n - 10) / 5), if n % 5 = 3 then pw8 ((n - 10) / 5) + 1 else pw8 ((n - 10) / 5), if n % 5 = 4 then tg8 ((n - 10) / 5) + 1 else tg8 ((n - 10) / 5), sy8 ((n - 10) / 5), refBeastA (n % 5) ((n - 10) / 5)⟩
  else if n < 80 then ⟨2, n % 5, (n - 50) / 5 % 2 == 0, costR (n % 5) 1 ((n - 50) / 5), 0, 0, 0, [⟨0, noCost, false, (magicRows.getD (n - 50).toNat []).getD 0 0, effR ((magicRows.getD (n - 50).toNat []).drop 1)⟩]⟩
  else if n < 100 then ⟨3, n % 5, false, costR (n % 5) 1 ((n - 80) / 5 + 1), 0, 0, 0, [abilR (relicRows8.getD (n - 80).toNat [])]⟩
  else if n < 112 then specR n
  else ⟨1, 5, false, noCost, [1, 1, 2, 2, 3, 3, 4, 4].getD (n - 112).toNat 0, [1, 1, 2, 2, 3, 3, 4, 4].getD (n - 112).toNat 0, n % 2, []⟩
def costK (c : Cost) : List Int := [c 0, c 1, c 2, c 3, c 4, c 5]
def eff0K (e : Eff0) : List Int := [e.op, e.n, e.m, e.who]
def abilK (a : Abil) : List Int × Bool × List (List Int) := (a.when :: a.target :: a.doo.op :: a.doo.n :: a.doo.m :: a.doo.who :: costK a.cost, a.tap, a.doo.subs.map eff0K)
def cardK (c : Card) : List Int × Bool × List (List Int × Bool × List (List Int)) := (c.kind :: c.colour :: c.power :: c.tough :: c.says :: costK c.cost, c.fast, c.abs.map abilK)
theorem eff0_key {a b : Eff0} (h : eff0K a = eff0K b) : a = b := by
  obtain ⟨o, n, m, w⟩ := a; obtain ⟨o', n', m', w'⟩ := b
  simpa [eff0K] using h
theorem eff0s_key {a b : List Eff0} (h : a.map eff0K = b.map eff0K) : a = b := by
  induction a generalizing b with
  | nil => cases b <;> simp at h ⊢
  | cons x a ih => cases b with
    | nil => simp at h
    | cons y b => simp only [List.map_cons, List.cons.injEq] at h; rw [eff0_key h.1, ih h.2]
theorem abil_key {a b : Abil} (h : abilK a = abilK b) : cAbil a = cAbil b := by
  simp only [abilK, costK, Prod.mk.injEq, List.cons.injEq] at h
  obtain ⟨⟨h1, h2, h3, h4, h5, h6, k0, k1, k2, k3, k4, k5, _⟩, h7, h8⟩ := h
  simp only [cAbil, h1, h2, h3, h4, h5, h6, k0, k1, k2, k3, k4, k5, h7, eff0s_key h8]
theorem abils_key {a b : List Abil} (h : a.map abilK = b.map abilK) : a.length = b.length ∧ a.flatMap cAbil = b.flatMap cAbil := by
  induction a generalizing b with
  | nil => cases b <;> simp at h ⊢
  | cons x a ih => cases b with
    | nil => simp at h
    | cons y b => simp only [List.map_cons, List.cons.injEq] at h; simp [abil_key h.1, ih h.2]
theorem card_key {a b : Card} (h : cardK a = cardK b) : cCard a = cCard b := by
  simp only [cardK, costK, Prod.mk.injEq, List.cons.injEq] at h
  obtain ⟨⟨h1, h2, h3, h4, h5, k0, k1, k2, k3, k4, k5, _⟩, h7, h8⟩ := h
  have := abils_key h8
  simp only [cCard, cCardK, h1, h2, h3, h4, h5, k0, k1, k2, k3, k4, k5, h7, this.1, this.2]
instance abilKey : DecidableEq (List (List Int × Bool × List (List Int))) := inferInstance
instance cardKey : DecidableEq (List Int × Bool × List (List Int × Bool × List (List Int))) := inferInstance
theorem refCard_all : ∀ i : Fin 120, cardK (refCardF (i.val : Int)) = cardK (cardF (i.val : Int)) := by decide +kernel
/-- The document's card is the table's. -/
theorem refCard_eq {n : Int} (h0 : 0 ≤ n) (h1 : n < 120) : cCard (refCardF n) = cCard (cardF n) := by
  obtain ⟨k, rfl⟩ := Int.eq_ofNat_of_zero_le h0
  exact card_key (refCard_all ⟨k, by omega⟩)
theorem cCardV_le {kind col p t s : Int} {fast : Bool} {c : Cost} {v : V} {l : List Abil} (hv : VLe v (.sl .imm 14 l.length (l.flatMap cAbil))) : VLe (.agg (cCardV kind col fast c p t s v)) (eCard ⟨kind, col, fast, c, p, t, s, l⟩) :=
  LLe.agg (LLe.append (a := [.int .i64 kind, .int .i64 col, .bool fast, .int .i64 (c 0), .int .i64 (c 1), .int .i64 (c 2), .int .i64 (c 3), .int .i64 (c 4), .int .i64 (c 5), .int .i64 p, .int .i64 t, .int .i64 s]) (.refl _) (.cons hv .nil))
theorem card_end {n : Int} (h0 : 0 ≤ n) (h1 : n < 120) {kind col p t s : Int} {fast : Bool} {c : Cost} {v : V} {l : List Abil} (hv : VLe v (.sl .imm 14 l.length (l.flatMap cAbil))) (e : refCardF n = ⟨kind, col, fast, c, p, t, s, l⟩) {cs : List V} (hc : cs = cCardV kind col fast c p t s v) :
    VLe (.tup [.agg cs, .bool true]) (.tup [eCard (cardE n).1, .bool ((cardE n).2 == 0)]) := by
  rw [cardE, if_neg (by omega), hc]
  refine LLe.tup (.cons ((cCardV_le hv).trans (.of_eq ?_)) (.cons (.refl _) .nil))
  show V.agg _ = V.agg _
  rw [← e, ← refCard_eq h0 h1]
theorem magic_ok : ∀ i : Fin 30, 5 ≤ (magicRows.getD i.val []).length ∧ (magicRows.getD i.val []).length ≤ 50 ∧ ((magicRows.getD i.val []).length - 5) % 4 = 0 := by decide +kernel
theorem relic_ok : ∀ i : Fin 20, 8 ≤ (relicRows8.getD i.val []).length ∧ (relicRows8.getD i.val []).length ≤ 50 ∧ ((relicRows8.getD i.val []).length - 8) % 4 = 0 ∧ (relicRows8.getD i.val []).getD 1 0 < 6 := by decide +kernel
theorem special_ok : ∀ i : Fin 12, 14 ≤ (specialRows.getD i.val []).length ∧ (specialRows.getD i.val []).length ≤ 50 ∧ ((specialRows.getD i.val []).length - 14) % 4 = 0 ∧ ((specialRows.getD i.val []).drop 6).getD 1 0 < 6 := by decide +kernel
theorem magic_at {i : Nat} (h : i < 30) : 5 ≤ (magicRows.getD i []).length ∧ (magicRows.getD i []).length ≤ 50 ∧ ((magicRows.getD i []).length - 5) % 4 = 0 := magic_ok ⟨i, h⟩
theorem relic_at {i : Nat} (h : i < 20) : 8 ≤ (relicRows8.getD i []).length ∧ (relicRows8.getD i []).length ≤ 50 ∧ ((relicRows8.getD i []).length - 8) % 4 = 0 ∧ (relicRows8.getD i []).getD 1 0 < 6 := relic_ok ⟨i, h⟩
theorem special_atR {i : Nat} (h : i < 12) : 14 ≤ (specialRows.getD i []).length ∧ (specialRows.getD i []).length ≤ 50 ∧ ((specialRows.getD i []).length - 14) % 4 = 0 ∧ ((specialRows.getD i []).drop 6).getD 1 0 < 6 := special_ok ⟨i, h⟩
theorem out119 {i : Int} (h : (bif decide (i < 0) then true else decide (119 < i)) = true) : i < 0 ∨ 120 ≤ i := by
  by_cases h0 : i < 0
  · exact .inl h0
  · have : 119 < i := by simpa [h0] using h
    exact .inr (by omega)
theorem in119 {i : Int} (h : (bif decide (i < 0) then true else decide (119 < i)) = false) : 0 ≤ i ∧ i < 120 := by
  by_cases h0 : i < 0
  · simp [h0] at h
  · have : ¬ 119 < i := by simpa [h0] using h
    exact ⟨by omega, by omega⟩
theorem abils_le {k : SK} {l : List Abil} {n : Nat} (hn : n = l.length) : VLe (.sl k 14 n (l.flatMap cAbil)) (.sl .imm 14 l.length (l.flatMap cAbil)) := hn ▸ LLe.sl (LLe.refl _)
abbrev cAbilN (a : Abil) : List V := (cAbil a).take 13 ++ [.snil]
theorem abilN_le {a : Abil} (h : a.doo.subs = []) : LLe (cAbilN a) (cAbil a) := by
  have : cAbil a = (cAbil a).take 13 ++ [.sl .imm 5 0 []] := by simp only [cAbil, h]; rfl
  rw [this]; exact LLe.append (.refl _) (.cons .nilimm .nil)

theorem refCard_calls (n : Int) (h : Hp) : ACalls prog G 111 [.int .i64 n] h fun r h' => r = .tup [eCard (cardE n).1, .bool ((cardE n).2 == 0)] ∧ h' = h := by
  have hml : magicRows.length = 30 := rfl
  have hrl : relicRows8.length = 20 := rfl
  have hsl : specialRows.length = 12 := rfl
  refine ACalls.enter func111 rfl ntmps111 results111 rfl ?_
  refine .seq <|
    .region ?_
  refine AOps.s rfl rfl rfl (a_alloc rfl zeroValue111 rfl (fun id2 hid2 => ?_))
  refine .aB rfl rfl <|
    .nil <|
    .seq <|
    .seq <|
    .region <|
    .mI rfl rfl <|
    .ql rfl rfl rfl <|
    .mB rfl rfl ?_
  refine .gf rfl rfl rfl (fun _ => tl0) (fun hc => q_mv rfl (rfl : _ = V.int _ _)) ?_
  refine .gf rfl rfl rfl (fun hc => tl1 12 (.opt hc)) (fun hc => q_gt rfl rfl rfl) ?_
  refine .pf rfl rfl rfl rfl <|
    .nil ?_
  refine AW.cond rfl (fun c0 => ?_) (fun c0 => ?_)
  · skip
    refine .seq <|
      .region ?_
    refine .u rfl rfl rfl (q_buildS (ds := [.int .i64 0, .int .i64 0, .bool false, .int .i64 0, .int .i64 0, .int .i64 0, .int .i64 0, .int .i64 0, .int .i64 0, .int .i64 0, .int .i64 0, .int .i64 0, .snil]) rfl zeroValue111 underlying111 (pl111 underlying111) rfl (by kernel_rfl)) ?_
    refine .sw sizeOf111 rfl rfl rfl rfl <|
      .aB rfl rfl <|
      .nil ?_
    refine AW.ret ?_
    exact retQ.mk' (Res.cellB1 isAgg111 sizeOf111 rfl (by exact bsb) rfl) (by rw [cardE, if_pos (out119 c0)]; exact LLe.tup (.cons zCard_le.agg (.cons (.refl _) .nil))) (HLe.setBox hid2.1) ⟨rfl, rfl⟩
  · have hn := in119 c0
    have hc : 0 ≤ n % 5 ∧ n % 5 < 5 := by omega
    refine AW.skip ?_
    refine .seq <|
      .region ?_
    refine .u rfl rfl rfl (q_buildS (ds := cCardV 0 5 false noCost 0 0 0 .snil) rfl zeroValue111 underlying111 (pl111 underlying111) rfl (by kernel_rfl)) ?_
    refine AOps.s rfl rfl rfl (a_alloc rfl zeroValue111 rfl (fun id4 hid4 => ?_))
    refine .sw sizeOf111 rfl rfl rfl rfl <|
      .nil <|
      .seq <|
      .seq <|
      .region <|
      .mI rfl rfl <|
      .ql rfl rfl rfl <|
      .nil ?_
    refine AW.cond rfl (fun c1 => ?_) (fun c1 => ?_)
    · have h1 : n < 5 := by simpa using c1
      refine .seq <|
        .region <|
        .mI rfl rfl <|
        .fb rfl f111_1 rfl rfl ?_
      refine AOps.s0 rfl rfl (a_store1 rfl sizeOf3 rfl (by exact bsb) (rfl : _ = V.int _ _) rfl rfl (by first | decide | exact Nat.le_of_ble_eq_true rfl | (simp only [splice_len, cCardV, List.length_cons, List.length_nil]; omega)) ?_)
      refine .nil <|
        .region <|
        .mI rfl rfl ?_
      refine .u rfl rfl rfl (QOp.call rfl call128 fun h' hl' => by exact refGive_calls _ _ h') ?_
      refine .u rfl rfl rfl (q_buildSl (ds := cAbil (giveF 1 n)) rfl underlying109 sizeOf159 zeroValue159 rfl rfl rfl rfl (by kernel_rfl)) ?_
      refine .fb rfl f111_12 rfl rfl ?_
      refine AOps.s0 rfl rfl (a_store1 rfl sizeOf109 rfl (by exact bsb) (rfl : _ = V.sl _ _ _ _) rfl rfl (by first | decide | exact Nat.le_of_ble_eq_true rfl | (simp only [splice_len, cCardV, List.length_cons, List.length_nil]; omega)) ?_)
      refine .nil <|
        .seq ?_
      refine AW.stay (d := 4) (id := id4) (h0 := h.setBox id2 [.int .i64 0, .int .i64 0, .bool false, .int .i64 0, .int .i64 0, .int .i64 0, .int .i64 0, .int .i64 0, .int .i64 0, .int .i64 0, .int .i64 0, .int .i64 0, .snil]) (Hp.box_setBox _ _ _) (by repeat (first | exact HLe.refl _ | refine HLe.over ?_ hid4.1 | refine acc.hle.trans ?_)) hid4.1 Sealed.ptr ?_
      refine .region <|
        .lw rfl isAgg111 sizeOf111 rfl rfl <|
        .sw sizeOf111 rfl rfl rfl rfl <|
        .aB rfl rfl <|
        .nil ?_
      refine AW.ret ?_
      exact retQ.mk' (Res.cellB1 isAgg111 sizeOf111 rfl (by exact bsb) rfl) (card_end hn.1 hn.2 (l := [giveF 1 n]) (abils_le rfl) (by rw [refCardF, if_pos h1]) rfl) (HLe.setBox hid2.1) ⟨rfl, rfl⟩
    · have h1 : 5 ≤ n := by simpa using c1
      refine .seq <|
        .region <|
        .mI rfl rfl <|
        .ql rfl rfl rfl <|
        .nil ?_
      refine AW.cond rfl (fun c2 => ?_) (fun c2 => ?_)
      · have h2 : n < 10 := by simpa using c2
        refine .region <|
          .mI rfl rfl ?_
        refine .u rfl rfl rfl (q_sub' rfl rfl rfl (by omega)) ?_
        refine .u rfl rfl rfl (q_buildS (ds := [.int .i64 3, .int .i64 (n - 4), .int .i64 0, .int .i64 0, .snil]) rfl zeroValue118 underlying118 (pl118 underlying118) rfl (by kernel_rfl)) ?_
        refine .u rfl rfl rfl (q_buildS (ds := (cAbilN ⟨2, noCost, false, 0, ⟨3, (n - 4), 0, 0, []⟩⟩)) rfl zeroValue159 underlying159 (pl159 underlying159) rfl (by kernel_rfl)) ?_
        refine .u rfl rfl rfl (q_buildSl (ds := cInts [1, 1, 2, 2, 3]) rfl underlying23 sizeOf3 zeroValue3 rfl rfl rfl rfl (by kernel_rfl)) ?_
        refine .mI rfl rfl ?_
        refine .u rfl rfl rfl (q_sub' rfl rfl rfl (by omega)) ?_
        refine .u rfl rfl rfl (q_ia_s rfl underlying23 sizeOf3 rfl rfl (by omega) (by omega) (cInts_elem (by omega) (by simp only [List.length_cons, List.length_nil]; omega))) ?_
        refine .li rfl isAgg3 rfl rfl ?_
        refine .u rfl rfl rfl (QOp.call rfl call128 fun h' hl' => by exact refGive_calls _ _ h') ?_
        refine .u rfl rfl rfl (q_buildSl (ds := (cAbilN ⟨2, noCost, false, 0, ⟨3, (n - 4), 0, 0, []⟩⟩) ++ cAbil (giveF ([1, 1, 2, 2, 3].getD (n - 5).toNat 0) 5)) rfl underlying109 sizeOf159 zeroValue159 rfl rfl rfl rfl (by kernel_rfl)) ?_
        refine .fb rfl f111_12 rfl rfl ?_
        refine AOps.s0 rfl rfl (a_store1 rfl sizeOf109 rfl (by exact bsb) (rfl : _ = V.sl _ _ _ _) rfl rfl (by first | decide | exact Nat.le_of_ble_eq_true rfl | (simp only [splice_len, cCardV, List.length_cons, List.length_nil]; omega)) ?_)
        refine .nil <|
          .seq ?_
        refine AW.stay (d := 4) (id := id4) (h0 := h.setBox id2 [.int .i64 0, .int .i64 0, .bool false, .int .i64 0, .int .i64 0, .int .i64 0, .int .i64 0, .int .i64 0, .int .i64 0, .int .i64 0, .int .i64 0, .int .i64 0, .snil]) (Hp.box_setBox _ _ _) (by repeat (first | exact HLe.refl _ | refine HLe.over ?_ hid4.1 | refine acc.hle.trans ?_)) hid4.1 Sealed.ptr ?_
        refine .region <|
          .lw rfl isAgg111 sizeOf111 rfl rfl <|
          .sw sizeOf111 rfl rfl rfl rfl <|
          .aB rfl rfl <|
          .nil ?_
        refine AW.ret ?_
        exact retQ.mk' (Res.cellB1 isAgg111 sizeOf111 rfl (by exact bsb) rfl) (card_end hn.1 hn.2 (l := [⟨2, noCost, false, 0, ⟨3, (n - 4), 0, 0, []⟩⟩, giveF ([1, 1, 2, 2, 3].getD (n - 5).toNat 0) 5]) (LLe.sl (LLe.append (abilN_le rfl) (.refl _))) (by rw [refCardF, if_neg (by omega), if_pos h2]) rfl) (HLe.setBox hid2.1) ⟨rfl, rfl⟩
      · have h2 : 10 ≤ n := by simpa using c2
        refine .seq <|
          .region <|
          .mI rfl rfl <|
          .ql rfl rfl rfl <|
          .nil ?_
        refine AW.cond rfl (fun c3 => ?_) (fun c3 => ?_)
        · have h3 : n < 50 := by simpa using c3
          have hk : 0 ≤ (n - 10) / 5 ∧ (n - 10) / 5 < 8 := by omega
          have hp8 := pw8_in ((n - 10) / 5)
          have ht8 := tg8_in ((n - 10) / 5)
          refine .seq <|
            .region <|
            .mI rfl rfl ?_
          refine .u rfl rfl rfl (q_sub' rfl rfl rfl (by omega)) ?_
          refine .u rfl rfl rfl (q_quo' rfl rfl rfl (by omega) (by omega)) ?_
          refine .aI rfl rfl <|
            .nil <|
            .seq <|
            .region <|
            .mI rfl rfl ?_
          refine .u rfl rfl rfl (q_rem' rfl rfl rfl (by omega) (by omega)) ?_
          refine .fb rfl f111_0 rfl rfl ?_
          refine AOps.s0 rfl rfl (a_store1 rfl sizeOf3 rfl (by exact bsb) (rfl : _ = V.int _ _) rfl rfl (by first | decide | exact Nat.le_of_ble_eq_true rfl | (simp only [splice_len, cCardV, List.length_cons, List.length_nil]; omega)) ?_)
          refine .fb rfl f111_1 rfl rfl ?_
          refine AOps.s0 rfl rfl (a_store1 rfl sizeOf3 rfl (by exact bsb) (rfl : _ = V.int _ _) rfl rfl (by first | decide | exact Nat.le_of_ble_eq_true rfl | (simp only [splice_len, cCardV, List.length_cons, List.length_nil]; omega)) ?_)
          refine .nil <|
            .seq ?_
          refine AW.hp (h' := (h.setBox id2 [.int .i64 0, .int .i64 0, .bool false, .int .i64 0, .int .i64 0, .int .i64 0, .int .i64 0, .int .i64 0, .int .i64 0, .int .i64 0, .int .i64 0, .int .i64 0, .snil]).setBox id4 (cCardV 1 (n % 5) false noCost 0 0 0 .snil)) (by rw [Hp.setBox_setBox, Hp.setBox_setBox]; rfl) ?_
          refine .region <|
            .fb rfl f111_1 rfl rfl <|
            .lb rfl isAgg3 rfl rfl <|
            .fb rfl f111_3 rfl rfl ?_
          refine .u rfl rfl rfl (q_ia_ab rfl underlying108 sizeOf3 rfl rfl (by omega) (by omega)) ?_
          refine AOps.s0 rfl rfl (a_store1 rfl sizeOf3 rfl (by exact bsb) (rfl : _ = V.int _ _) rfl rfl (by first | decide | exact Nat.le_of_ble_eq_true rfl | (simp only [splice_len, cCardV, List.length_cons, List.length_nil]; omega)) ?_)
          refine .nil <|
            .seq <|
            .seq ?_
          refine AW.hp (h' := (h.setBox id2 [.int .i64 0, .int .i64 0, .bool false, .int .i64 0, .int .i64 0, .int .i64 0, .int .i64 0, .int .i64 0, .int .i64 0, .int .i64 0, .int .i64 0, .int .i64 0, .snil]).setBox id4 (cCardV 1 (n % 5) false (oneCost (n % 5) 1) 0 0 0 .snil)) (by rw [Hp.setBox_setBox, cardV_set hc.1 (by omega)]) ?_
          refine .region <|
            .mI rfl rfl ?_
          refine .u rfl rfl rfl (q_gt rfl rfl rfl) ?_
          refine .nil ?_
          refine AW.cond rfl (fun c4 => ?_) (fun c4 => ?_)
          · have hx : (if 3 < (n - 10) / 5 then (2 : Int) else 1) = 2 := if_pos (of_decide_eq_true c4)
            refine .region <|
              .fb rfl f111_1 rfl rfl <|
              .lb rfl isAgg3 rfl rfl <|
              .fb rfl f111_3 rfl rfl ?_
            refine .u rfl rfl rfl (q_ia_ab rfl underlying108 sizeOf3 rfl rfl (by omega) (by omega)) ?_
            refine AOps.s0 rfl rfl (a_store1 rfl sizeOf3 rfl (by exact bsb) (rfl : _ = V.int _ _) rfl rfl (by first | decide | exact Nat.le_of_ble_eq_true rfl | (simp only [splice_len, cCardV, List.length_cons, List.length_nil]; omega)) ?_)
            refine .nil <|
              .seq ?_
            first | refine AW.hp (h' := (h.setBox id2 [.int .i64 0, .int .i64 0, .bool false, .int .i64 0, .int .i64 0, .int .i64 0, .int .i64 0, .int .i64 0, .int .i64 0, .int .i64 0, .int .i64 0, .int .i64 0, .snil]).setBox id4 (cCardV 1 (n % 5) false (oneCost (n % 5) (if 3 < (n - 10) / 5 then 2 else 1)) 0 0 0 .snil)) (by rw [Hp.setBox_setBox, cardV_set2 hc.1 (by omega), hx]) ?_ | refine AW.hp (h' := (h.setBox id2 [.int .i64 0, .int .i64 0, .bool false, .int .i64 0, .int .i64 0, .int .i64 0, .int .i64 0, .int .i64 0, .int .i64 0, .int .i64 0, .int .i64 0, .int .i64 0, .snil]).setBox id4 (cCardV 1 (n % 5) false (oneCost (n % 5) (if 3 < (n - 10) / 5 then 2 else 1)) 0 0 0 .snil)) (by rw [hx]) ?_
            refine .region <|
              .mI rfl rfl <|
              .fb rfl f111_3 rfl rfl ?_
            refine .u rfl rfl rfl (q_ia_ab rfl underlying108 sizeOf3 rfl rfl (by decide) (by decide)) ?_
            refine AOps.s0 rfl rfl (a_store1 rfl sizeOf3 rfl (by exact bsb) (rfl : _ = V.int _ _) rfl rfl (by first | decide | exact Nat.le_of_ble_eq_true rfl | (simp only [splice_len, cCardV, List.length_cons, List.length_nil]; omega)) ?_)
            refine .nil <|
              .seq ?_
            refine AW.draw [9, 11] [4, 5, 6, 7] [(0, true), (1, true), (2, true), (3, true), (4, true), (5, true), (6, true), (7, true), (8, true), (9, false), (10, true), (11, false)] mixed (by kernel_rfl) rfl (by kernel_rfl) ?_
            refine .q rfl rfl rfl rfl (q_buildSl (ds := cInts [1, 1, 2, 2, 3, 3, 4, 4]) rfl underlying23 sizeOf3 zeroValue3 rfl rfl rfl rfl (by kernel_rfl)) ?_
            refine .q rfl rfl rfl rfl (q_mv rfl (rfl : _ = V.int _ _)) ?_
            refine .q rfl rfl rfl rfl (q_ia_s rfl underlying23 sizeOf3 rfl rfl (by omega) (by omega) (show _ = [V.int .i64 (pw8 ((n - 10) / 5))] from cInts_elem (by omega) (by simp only [List.length_cons, List.length_nil]; omega))) ?_
            refine .q rfl rfl rfl rfl (q_load_i1 rfl isAgg3 rfl rfl) ?_
            refine .p rfl rfl rfl (fun _ => q_buildSl (ds := cInts [1, 2, 2, 3, 3, 4, 4, 5]) rfl underlying23 sizeOf3 zeroValue3 rfl rfl rfl rfl (by kernel_rfl)) ?_
            refine .p rfl rfl rfl (fun _ => q_mv rfl (rfl : _ = V.int _ _)) ?_
            refine .p rfl rfl rfl (fun _ => q_ia_s rfl underlying23 sizeOf3 rfl rfl (by omega) (by omega) (show _ = [V.int .i64 (tg8 ((n - 10) / 5))] from cInts_elem (by omega) (by simp only [List.length_cons, List.length_nil]; omega))) ?_
            refine .p rfl rfl rfl (fun _ => q_load_i1 rfl isAgg3 rfl rfl) ?_
            refine .q rfl rfl rfl rfl (q_fa_b rfl underlying111 rfl (by exact sizeOf3) (by decide) rfl (rfl : _ = 9)) ?_
            refine AOrd.s0 rfl rfl rfl rfl (a_store1 rfl sizeOf3 rfl (by exact bsb) (rfl : _ = V.int _ _) rfl rfl (by first | decide | exact Nat.le_of_ble_eq_true rfl | (simp only [splice_len, cCardV, List.length_cons, List.length_nil]; omega)) ?_)
            refine .q rfl rfl rfl rfl (q_fa_b rfl underlying111 rfl (by exact sizeOf3) (by decide) rfl (rfl : _ = 10)) ?_
            refine AOrd.s0 rfl rfl rfl rfl (a_store1 rfl sizeOf3 rfl (by exact bsb) (rfl : _ = V.int _ _) rfl rfl (by first | decide | exact Nat.le_of_ble_eq_true rfl | (simp only [splice_len, cCardV, List.length_cons, List.length_nil]; omega)) ?_)
            refine AOrd.nil ?_
            refine .seq <|
              .region ?_
            refine .u rfl rfl rfl (q_buildSl (ds := cInts [1, 2, 4, 8, 16, 32, 64, 128]) rfl underlying23 sizeOf3 zeroValue3 rfl rfl rfl rfl (by kernel_rfl)) ?_
            refine .mI rfl rfl ?_
            refine .u rfl rfl rfl (q_ia_s rfl underlying23 sizeOf3 rfl rfl (by omega) (by omega) (show _ = [V.int .i64 (sy8 ((n - 10) / 5))] from cInts_elem (by omega) (by simp only [List.length_cons, List.length_nil]; omega))) ?_
            refine .li rfl isAgg3 rfl rfl <|
              .fb rfl f111_11 rfl rfl ?_
            refine AOps.s0 rfl rfl (a_store1 rfl sizeOf3 rfl (by exact bsb) (rfl : _ = V.int _ _) rfl rfl (by first | decide | exact Nat.le_of_ble_eq_true rfl | (simp only [splice_len, cCardV, List.length_cons, List.length_nil]; omega)) ?_)
            refine .nil <|
              .seq ?_
            refine AW.hp (h' := (h.setBox id2 [.int .i64 0, .int .i64 0, .bool false, .int .i64 0, .int .i64 0, .int .i64 0, .int .i64 0, .int .i64 0, .int .i64 0, .int .i64 0, .int .i64 0, .int .i64 0, .snil]).setBox id4 (cCardV 1 (n % 5) false (costR (n % 5) (if 3 < (n - 10) / 5 then 2 else 1) ((n - 10) / 5)) (pw8 ((n - 10) / 5)) (tg8 ((n - 10) / 5)) (sy8 ((n - 10) / 5)) .snil)) (by rw [Hp.setBox_setBox, Hp.setBox_setBox, Hp.setBox_setBox, Hp.setBox_setBox]; rfl) ?_
            refine .region ?_
            refine .u rfl rfl rfl (q_buildS (ds := [.int .i64 0, .int .i64 0, .int .i64 0, .int .i64 0, .int .i64 0, .int .i64 0, .int .i64 0, .bool false, .int .i64 0, .int .i64 0, .int .i64 0, .int .i64 0, .int .i64 0, .snil]) rfl zeroValue159 underlying159 (pl159 underlying159) rfl (by kernel_rfl)) ?_
            refine AOps.s rfl rfl rfl (a_alloc rfl zeroValue159 rfl (fun id6 hid6 => ?_))
            refine .sw sizeOf159 rfl rfl rfl rfl <|
              .nil <|
              .seq <|
              .seq ?_
            have n64 : id6 ≠ id4 := (fresh_ne hid6).symm
            refine .region <|
              .fb rfl f111_1 rfl rfl ?_
            refine .u rfl rfl rfl (q_load_b1 rfl isAgg3 rfl (by exact box_under n64 (Hp.box_setBox _ _ _)) rfl) ?_
            refine .nil <|
              .block <|
              .seq <|
              .region <|
              .qe rfl rfl rfl <|
              .aB rfl rfl <|
              .nil ?_
            refine AW.cond rfl (fun c5 => ?_) (fun c5 => ?_)
            · have e : n % 5 = 0 := by simpa using c5
              refine .region <|
                .mI rfl rfl <|
                .ad rfl rfl rfl (by omega) ?_
              refine .u rfl rfl rfl (q_buildS rfl zeroValue118 underlying118 (pl118 underlying118) rfl rfl) ?_
              refine .u rfl rfl rfl (q_buildS (ds := (cAbilN ⟨2, noCost, false, 0, ⟨2, ((n - 10) / 5 + 1), 0, 0, []⟩⟩)) rfl zeroValue159 underlying159 (pl159 underlying159) rfl (by kernel_rfl)) ?_
              refine .sw sizeOf159 rfl rfl rfl rfl <|
                .nil ?_
              refine AW.done 6 rfl (by first | exact hid6 | exact Hp.fresh_swap hid6) ?_
              refine .region <|
                .lw rfl isAgg159 sizeOf159 rfl rfl ?_
              refine .u rfl rfl rfl (q_buildSl rfl underlying109 sizeOf159 zeroValue159 rfl rfl rfl rfl rfl) ?_
              refine .fb rfl f111_12 rfl rfl ?_
              refine AOps.s0 rfl rfl (a_store1 rfl sizeOf109 rfl (by exact bsb) (rfl : _ = V.sl _ _ _ _) rfl rfl (by first | decide | exact Nat.le_of_ble_eq_true rfl | (simp only [splice_len, cCardV, List.length_cons, List.length_nil]; omega)) ?_)
              refine .nil <|
                .seq ?_
              refine AW.stay (d := 4) (id := id4) (h0 := h.setBox id2 [.int .i64 0, .int .i64 0, .bool false, .int .i64 0, .int .i64 0, .int .i64 0, .int .i64 0, .int .i64 0, .int .i64 0, .int .i64 0, .int .i64 0, .int .i64 0, .snil]) (Hp.box_setBox _ _ _) (by repeat (first | exact HLe.refl _ | refine HLe.over ?_ hid4.1 | refine acc.hle.trans ?_)) hid4.1 Sealed.ptr ?_
              refine .region <|
                .lw rfl isAgg111 sizeOf111 rfl rfl <|
                .sw sizeOf111 rfl rfl rfl rfl <|
                .aB rfl rfl <|
                .nil ?_
              refine AW.ret ?_
              exact retQ.mk' (Res.cellB1 isAgg111 sizeOf111 rfl (by exact bsb) rfl) (card_end hn.1 hn.2 (l := [⟨2, noCost, false, 0, ⟨2, ((n - 10) / 5 + 1), 0, 0, []⟩⟩]) (LLe.sl (abilN_le rfl)) (by rw [refCardF, if_neg (by omega), if_neg (by omega), if_pos h3]; simp only [if_neg (show ¬ n % 5 = 3 by omega), if_neg (show ¬ n % 5 = 4 by omega), refBeastA]; rw [if_pos e]) rfl) (HLe.setBox hid2.1) ⟨rfl, rfl⟩
            · have e0 : n % 5 ≠ 0 := by simpa using c5
              refine .seq <|
                .region <|
                .qe rfl rfl rfl <|
                .aB rfl rfl <|
                .nil ?_
              refine AW.cond rfl (fun c6 => ?_) (fun c6 => ?_)
              · have e : n % 5 = 1 := by simpa using c6
                refine .seq <|
                  .region ?_
                refine .u rfl rfl rfl (q_buildS rfl zeroValue118 underlying118 (pl118 underlying118) rfl rfl) ?_
                refine .u rfl rfl rfl (q_buildS (ds := (cAbilN ⟨2, noCost, false, 0, ⟨4, 1, 0, 0, []⟩⟩)) rfl zeroValue159 underlying159 (pl159 underlying159) rfl (by kernel_rfl)) ?_
                refine .sw sizeOf159 rfl rfl rfl rfl <|
                  .nil <|
                  .seq <|
                  .region <|
                  .mI rfl rfl ?_
                refine .u rfl rfl rfl (q_rem' rfl rfl rfl (by omega) (by omega)) ?_
                refine .qe rfl rfl rfl <|
                  .nil ?_
                refine AW.cond rfl (fun c7 => ?_) (fun c7 => ?_)
                · have ek : (n - 10) / 5 % 2 = 0 := by simpa using c7
                  refine .seq ?_
                  refine AW.done 6 rfl (by first | exact hid6 | exact Hp.fresh_swap hid6) ?_
                  refine AW.stay (d := 4) (id := id4) (h0 := h.setBox id2 [.int .i64 0, .int .i64 0, .bool false, .int .i64 0, .int .i64 0, .int .i64 0, .int .i64 0, .int .i64 0, .int .i64 0, .int .i64 0, .int .i64 0, .int .i64 0, .snil]) (Hp.box_setBox _ _ _) (by repeat (first | exact HLe.refl _ | refine HLe.over ?_ hid4.1 | refine acc.hle.trans ?_)) hid4.1 Sealed.ptr ?_
                  refine .region <|
                    .lw rfl isAgg111 sizeOf111 rfl rfl <|
                    .sw sizeOf111 rfl rfl rfl rfl <|
                    .aB rfl rfl <|
                    .nil ?_
                  refine AW.ret ?_
                  exact retQ.mk' (Res.cellB1 isAgg111 sizeOf111 rfl (by exact bsb) rfl) (card_end hn.1 hn.2 (l := []) (.nilimm) (by rw [refCardF, if_neg (by omega), if_neg (by omega), if_pos h3]; simp only [if_neg (show ¬ n % 5 = 3 by omega), if_neg (show ¬ n % 5 = 4 by omega), refBeastA]; rw [if_neg e0, if_pos e, if_pos ek]) rfl) (HLe.setBox hid2.1) ⟨rfl, rfl⟩
                · have ek : (n - 10) / 5 % 2 ≠ 0 := by simpa using c7
                  refine AW.skip ?_
                  refine AW.done 6 rfl (by first | exact hid6 | exact Hp.fresh_swap hid6) ?_
                  refine .region <|
                    .lw rfl isAgg159 sizeOf159 rfl rfl ?_
                  refine .u rfl rfl rfl (q_buildSl rfl underlying109 sizeOf159 zeroValue159 rfl rfl rfl rfl rfl) ?_
                  refine .fb rfl f111_12 rfl rfl ?_
                  refine AOps.s0 rfl rfl (a_store1 rfl sizeOf109 rfl (by exact bsb) (rfl : _ = V.sl _ _ _ _) rfl rfl (by first | decide | exact Nat.le_of_ble_eq_true rfl | (simp only [splice_len, cCardV, List.length_cons, List.length_nil]; omega)) ?_)
                  refine .nil <|
                    .seq ?_
                  refine AW.stay (d := 4) (id := id4) (h0 := h.setBox id2 [.int .i64 0, .int .i64 0, .bool false, .int .i64 0, .int .i64 0, .int .i64 0, .int .i64 0, .int .i64 0, .int .i64 0, .int .i64 0, .int .i64 0, .int .i64 0, .snil]) (Hp.box_setBox _ _ _) (by repeat (first | exact HLe.refl _ | refine HLe.over ?_ hid4.1 | refine acc.hle.trans ?_)) hid4.1 Sealed.ptr ?_
                  refine .region <|
                    .lw rfl isAgg111 sizeOf111 rfl rfl <|
                    .sw sizeOf111 rfl rfl rfl rfl <|
                    .aB rfl rfl <|
                    .nil ?_
                  refine AW.ret ?_
                  exact retQ.mk' (Res.cellB1 isAgg111 sizeOf111 rfl (by exact bsb) rfl) (card_end hn.1 hn.2 (l := [⟨2, noCost, false, 0, ⟨4, 1, 0, 0, []⟩⟩]) (LLe.sl (abilN_le rfl)) (by rw [refCardF, if_neg (by omega), if_neg (by omega), if_pos h3]; simp only [if_neg (show ¬ n % 5 = 3 by omega), if_neg (show ¬ n % 5 = 4 by omega), refBeastA]; rw [if_neg e0, if_pos e, if_neg ek]) rfl) (HLe.setBox hid2.1) ⟨rfl, rfl⟩
              · have e1 : n % 5 ≠ 1 := by simpa using c6
                refine .seq <|
                  .region <|
                  .qe rfl rfl rfl <|
                  .aB rfl rfl <|
                  .nil ?_
                refine AW.cond rfl (fun c8 => ?_) (fun c8 => ?_)
                · have e : n % 5 = 2 := by simpa using c8
                  refine .region ?_
                  refine .u rfl rfl rfl (q_buildSl (ds := cInts [1, 1, 2, 2, 3, 3, 4, 4]) rfl underlying23 sizeOf3 zeroValue3 rfl rfl rfl rfl (by kernel_rfl)) ?_
                  refine .mI rfl rfl ?_
                  refine .u rfl rfl rfl (q_ia_s rfl underlying23 sizeOf3 rfl rfl (by omega) (by omega) (show _ = [V.int .i64 (pw8 ((n - 10) / 5))] from cInts_elem (by omega) (by simp only [List.length_cons, List.length_nil]; omega))) ?_
                  refine .li rfl isAgg3 rfl rfl ?_
                  refine .u rfl rfl rfl (q_buildS rfl zeroValue118 underlying118 (pl118 underlying118) rfl rfl) ?_
                  refine .u rfl rfl rfl (q_buildS (ds := (cAbilN ⟨3, noCost, false, 0, ⟨3, (pw8 ((n - 10) / 5)), 0, 1, []⟩⟩)) rfl zeroValue159 underlying159 (pl159 underlying159) rfl (by kernel_rfl)) ?_
                  refine .sw sizeOf159 rfl rfl rfl rfl <|
                    .nil ?_
                  refine AW.done 6 rfl (by first | exact hid6 | exact Hp.fresh_swap hid6) ?_
                  refine .region <|
                    .lw rfl isAgg159 sizeOf159 rfl rfl ?_
                  refine .u rfl rfl rfl (q_buildSl rfl underlying109 sizeOf159 zeroValue159 rfl rfl rfl rfl rfl) ?_
                  refine .fb rfl f111_12 rfl rfl ?_
                  refine AOps.s0 rfl rfl (a_store1 rfl sizeOf109 rfl (by exact bsb) (rfl : _ = V.sl _ _ _ _) rfl rfl (by first | decide | exact Nat.le_of_ble_eq_true rfl | (simp only [splice_len, cCardV, List.length_cons, List.length_nil]; omega)) ?_)
                  refine .nil <|
                    .seq ?_
                  refine AW.stay (d := 4) (id := id4) (h0 := h.setBox id2 [.int .i64 0, .int .i64 0, .bool false, .int .i64 0, .int .i64 0, .int .i64 0, .int .i64 0, .int .i64 0, .int .i64 0, .int .i64 0, .int .i64 0, .int .i64 0, .snil]) (Hp.box_setBox _ _ _) (by repeat (first | exact HLe.refl _ | refine HLe.over ?_ hid4.1 | refine acc.hle.trans ?_)) hid4.1 Sealed.ptr ?_
                  refine .region <|
                    .lw rfl isAgg111 sizeOf111 rfl rfl <|
                    .sw sizeOf111 rfl rfl rfl rfl <|
                    .aB rfl rfl <|
                    .nil ?_
                  refine AW.ret ?_
                  exact retQ.mk' (Res.cellB1 isAgg111 sizeOf111 rfl (by exact bsb) rfl) (card_end hn.1 hn.2 (l := [⟨3, noCost, false, 0, ⟨3, (pw8 ((n - 10) / 5)), 0, 1, []⟩⟩]) (LLe.sl (abilN_le rfl)) (by rw [refCardF, if_neg (by omega), if_neg (by omega), if_pos h3]; simp only [if_neg (show ¬ n % 5 = 3 by omega), if_neg (show ¬ n % 5 = 4 by omega), refBeastA]; rw [if_neg e0, if_neg e1, if_pos e]) rfl) (HLe.setBox hid2.1) ⟨rfl, rfl⟩
                · have e2 : n % 5 ≠ 2 := by simpa using c8
                  refine .seq <|
                    .region <|
                    .qe rfl rfl rfl <|
                    .aB rfl rfl <|
                    .nil ?_
                  refine AW.cond rfl (fun c9 => ?_) (fun c9 => ?_)
                  · have e : n % 5 = 3 := by simpa using c9
                    refine .seq <|
                      .region <|
                      .fb rfl f111_9 rfl rfl ?_
                    refine .u rfl rfl rfl (q_load_b1 rfl isAgg3 rfl (by exact box_under n64 (Hp.box_setBox _ _ _)) rfl) ?_
                    refine .ad rfl rfl rfl (by omega) <|
                      .fb rfl f111_9 rfl rfl ?_
                    refine AOps.s0 rfl rfl (a_store1 rfl sizeOf3 rfl (by exact box_under n64 (Hp.box_setBox _ _ _)) (rfl : _ = V.int _ _) rfl rfl (by exact Nat.le_of_ble_eq_true rfl) ?_)
                    refine .nil ?_
                    refine AW.hp (by rw [swap_mem n64.symm]) ?_
                    refine .region ?_
                    refine .u rfl rfl rfl (q_buildA rfl zeroValue108 underlying108 sizeOf3 rfl rfl) ?_
                    refine .u rfl rfl rfl (q_buildS rfl zeroValue118 underlying118 (pl118 underlying118) rfl rfl) ?_
                    refine .u rfl rfl rfl (q_buildS (ds := (cAbilN ⟨1, (oneCost 3 1), true, 3, ⟨1, 1, 0, 2, []⟩⟩)) rfl zeroValue159 underlying159 (pl159 underlying159) rfl (by kernel_rfl)) ?_
                    refine .sw sizeOf159 rfl rfl rfl rfl <|
                      .nil ?_
                    refine AW.done 6 rfl (by first | exact hid6 | exact Hp.fresh_swap hid6) ?_
                    refine .region <|
                      .lw rfl isAgg159 sizeOf159 rfl rfl ?_
                    refine .u rfl rfl rfl (q_buildSl rfl underlying109 sizeOf159 zeroValue159 rfl rfl rfl rfl rfl) ?_
                    refine .fb rfl f111_12 rfl rfl ?_
                    refine AOps.s0 rfl rfl (a_store1 rfl sizeOf109 rfl (by exact bsb) (rfl : _ = V.sl _ _ _ _) rfl rfl (by first | decide | exact Nat.le_of_ble_eq_true rfl | (simp only [splice_len, cCardV, List.length_cons, List.length_nil]; omega)) ?_)
                    refine .nil <|
                      .seq ?_
                    refine AW.stay (d := 4) (id := id4) (h0 := h.setBox id2 [.int .i64 0, .int .i64 0, .bool false, .int .i64 0, .int .i64 0, .int .i64 0, .int .i64 0, .int .i64 0, .int .i64 0, .int .i64 0, .int .i64 0, .int .i64 0, .snil]) (Hp.box_setBox _ _ _) (by repeat (first | exact HLe.refl _ | refine HLe.over ?_ hid4.1 | refine acc.hle.trans ?_)) hid4.1 Sealed.ptr ?_
                    refine .region <|
                      .lw rfl isAgg111 sizeOf111 rfl rfl <|
                      .sw sizeOf111 rfl rfl rfl rfl <|
                      .aB rfl rfl <|
                      .nil ?_
                    refine AW.ret ?_
                    exact retQ.mk' (Res.cellB1 isAgg111 sizeOf111 rfl (by exact bsb) rfl) (card_end hn.1 hn.2 (l := [⟨1, (oneCost 3 1), true, 3, ⟨1, 1, 0, 2, []⟩⟩]) (LLe.sl (abilN_le rfl)) (by rw [refCardF, if_neg (by omega), if_neg (by omega), if_pos h3]; simp only [if_pos e, if_neg (show ¬ n % 5 = 4 by omega), if_neg e0, if_neg e1, if_neg e2, if_pos e, refBeastA]) rfl) (HLe.setBox hid2.1) ⟨rfl, rfl⟩
                  · have e3 : n % 5 ≠ 3 := by simpa using c9
                    have e : n % 5 = 4 := by omega
                    refine .seq <|
                      .region <|
                      .fb rfl f111_10 rfl rfl ?_
                    refine .u rfl rfl rfl (q_load_b1 rfl isAgg3 rfl (by exact box_under n64 (Hp.box_setBox _ _ _)) rfl) ?_
                    refine .ad rfl rfl rfl (by omega) <|
                      .fb rfl f111_10 rfl rfl ?_
                    refine AOps.s0 rfl rfl (a_store1 rfl sizeOf3 rfl (by exact box_under n64 (Hp.box_setBox _ _ _)) (rfl : _ = V.int _ _) rfl rfl (by exact Nat.le_of_ble_eq_true rfl) ?_)
                    refine .nil ?_
                    refine AW.hp (by rw [swap_mem n64.symm]) ?_
                    refine .region ?_
                    refine .u rfl rfl rfl (q_buildA rfl zeroValue108 underlying108 sizeOf3 rfl rfl) ?_
                    refine .u rfl rfl rfl (q_buildS rfl zeroValue118 underlying118 (pl118 underlying118) rfl rfl) ?_
                    refine .u rfl rfl rfl (q_buildS (ds := (cAbilN ⟨1, (oneCost 4 1), false, 0, ⟨10, 1, 1, 3, []⟩⟩)) rfl zeroValue159 underlying159 (pl159 underlying159) rfl (by kernel_rfl)) ?_
                    refine .sw sizeOf159 rfl rfl rfl rfl <|
                      .nil ?_
                    refine AW.done 6 rfl (by first | exact hid6 | exact Hp.fresh_swap hid6) ?_
                    refine .region <|
                      .lw rfl isAgg159 sizeOf159 rfl rfl ?_
                    refine .u rfl rfl rfl (q_buildSl rfl underlying109 sizeOf159 zeroValue159 rfl rfl rfl rfl rfl) ?_
                    refine .fb rfl f111_12 rfl rfl ?_
                    refine AOps.s0 rfl rfl (a_store1 rfl sizeOf109 rfl (by exact bsb) (rfl : _ = V.sl _ _ _ _) rfl rfl (by first | decide | exact Nat.le_of_ble_eq_true rfl | (simp only [splice_len, cCardV, List.length_cons, List.length_nil]; omega)) ?_)
                    refine .nil <|
                      .seq ?_
                    refine AW.stay (d := 4) (id := id4) (h0 := h.setBox id2 [.int .i64 0, .int .i64 0, .bool false, .int .i64 0, .int .i64 0, .int .i64 0, .int .i64 0, .int .i64 0, .int .i64 0, .int .i64 0, .int .i64 0, .int .i64 0, .snil]) (Hp.box_setBox _ _ _) (by repeat (first | exact HLe.refl _ | refine HLe.over ?_ hid4.1 | refine acc.hle.trans ?_)) hid4.1 Sealed.ptr ?_
                    refine .region <|
                      .lw rfl isAgg111 sizeOf111 rfl rfl <|
                      .sw sizeOf111 rfl rfl rfl rfl <|
                      .aB rfl rfl <|
                      .nil ?_
                    refine AW.ret ?_
                    exact retQ.mk' (Res.cellB1 isAgg111 sizeOf111 rfl (by exact bsb) rfl) (card_end hn.1 hn.2 (l := [⟨1, (oneCost 4 1), false, 0, ⟨10, 1, 1, 3, []⟩⟩]) (LLe.sl (abilN_le rfl)) (by rw [refCardF, if_neg (by omega), if_neg (by omega), if_pos h3]; simp only [if_neg e3, if_pos e, if_neg e0, if_neg e1, if_neg e2, if_neg e3, refBeastA]) rfl) (HLe.setBox hid2.1) ⟨rfl, rfl⟩
          · have hx : (if 3 < (n - 10) / 5 then (2 : Int) else 1) = 1 := if_neg (of_decide_eq_false c4)
            refine AW.skip ?_
            refine .seq ?_
            first | refine AW.hp (h' := (h.setBox id2 [.int .i64 0, .int .i64 0, .bool false, .int .i64 0, .int .i64 0, .int .i64 0, .int .i64 0, .int .i64 0, .int .i64 0, .int .i64 0, .int .i64 0, .int .i64 0, .snil]).setBox id4 (cCardV 1 (n % 5) false (oneCost (n % 5) (if 3 < (n - 10) / 5 then 2 else 1)) 0 0 0 .snil)) (by rw [Hp.setBox_setBox, cardV_set2 hc.1 (by omega), hx]) ?_ | refine AW.hp (h' := (h.setBox id2 [.int .i64 0, .int .i64 0, .bool false, .int .i64 0, .int .i64 0, .int .i64 0, .int .i64 0, .int .i64 0, .int .i64 0, .int .i64 0, .int .i64 0, .int .i64 0, .snil]).setBox id4 (cCardV 1 (n % 5) false (oneCost (n % 5) (if 3 < (n - 10) / 5 then 2 else 1)) 0 0 0 .snil)) (by rw [hx]) ?_
            refine .region <|
              .mI rfl rfl <|
              .fb rfl f111_3 rfl rfl ?_
            refine .u rfl rfl rfl (q_ia_ab rfl underlying108 sizeOf3 rfl rfl (by decide) (by decide)) ?_
            refine AOps.s0 rfl rfl (a_store1 rfl sizeOf3 rfl (by exact bsb) (rfl : _ = V.int _ _) rfl rfl (by first | decide | exact Nat.le_of_ble_eq_true rfl | (simp only [splice_len, cCardV, List.length_cons, List.length_nil]; omega)) ?_)
            refine .nil <|
              .seq ?_
            refine AW.draw [9, 11] [4, 5, 6, 7] [(0, true), (1, true), (2, true), (3, true), (4, true), (5, true), (6, true), (7, true), (8, true), (9, false), (10, true), (11, false)] mixed (by kernel_rfl) rfl (by kernel_rfl) ?_
            refine .q rfl rfl rfl rfl (q_buildSl (ds := cInts [1, 1, 2, 2, 3, 3, 4, 4]) rfl underlying23 sizeOf3 zeroValue3 rfl rfl rfl rfl (by kernel_rfl)) ?_
            refine .q rfl rfl rfl rfl (q_mv rfl (rfl : _ = V.int _ _)) ?_
            refine .q rfl rfl rfl rfl (q_ia_s rfl underlying23 sizeOf3 rfl rfl (by omega) (by omega) (show _ = [V.int .i64 (pw8 ((n - 10) / 5))] from cInts_elem (by omega) (by simp only [List.length_cons, List.length_nil]; omega))) ?_
            refine .q rfl rfl rfl rfl (q_load_i1 rfl isAgg3 rfl rfl) ?_
            refine .p rfl rfl rfl (fun _ => q_buildSl (ds := cInts [1, 2, 2, 3, 3, 4, 4, 5]) rfl underlying23 sizeOf3 zeroValue3 rfl rfl rfl rfl (by kernel_rfl)) ?_
            refine .p rfl rfl rfl (fun _ => q_mv rfl (rfl : _ = V.int _ _)) ?_
            refine .p rfl rfl rfl (fun _ => q_ia_s rfl underlying23 sizeOf3 rfl rfl (by omega) (by omega) (show _ = [V.int .i64 (tg8 ((n - 10) / 5))] from cInts_elem (by omega) (by simp only [List.length_cons, List.length_nil]; omega))) ?_
            refine .p rfl rfl rfl (fun _ => q_load_i1 rfl isAgg3 rfl rfl) ?_
            refine .q rfl rfl rfl rfl (q_fa_b rfl underlying111 rfl (by exact sizeOf3) (by decide) rfl (rfl : _ = 9)) ?_
            refine AOrd.s0 rfl rfl rfl rfl (a_store1 rfl sizeOf3 rfl (by exact bsb) (rfl : _ = V.int _ _) rfl rfl (by first | decide | exact Nat.le_of_ble_eq_true rfl | (simp only [splice_len, cCardV, List.length_cons, List.length_nil]; omega)) ?_)
            refine .q rfl rfl rfl rfl (q_fa_b rfl underlying111 rfl (by exact sizeOf3) (by decide) rfl (rfl : _ = 10)) ?_
            refine AOrd.s0 rfl rfl rfl rfl (a_store1 rfl sizeOf3 rfl (by exact bsb) (rfl : _ = V.int _ _) rfl rfl (by first | decide | exact Nat.le_of_ble_eq_true rfl | (simp only [splice_len, cCardV, List.length_cons, List.length_nil]; omega)) ?_)
            refine AOrd.nil ?_
            refine .seq <|
              .region ?_
            refine .u rfl rfl rfl (q_buildSl (ds := cInts [1, 2, 4, 8, 16, 32, 64, 128]) rfl underlying23 sizeOf3 zeroValue3 rfl rfl rfl rfl (by kernel_rfl)) ?_
            refine .mI rfl rfl ?_
            refine .u rfl rfl rfl (q_ia_s rfl underlying23 sizeOf3 rfl rfl (by omega) (by omega) (show _ = [V.int .i64 (sy8 ((n - 10) / 5))] from cInts_elem (by omega) (by simp only [List.length_cons, List.length_nil]; omega))) ?_
            refine .li rfl isAgg3 rfl rfl <|
              .fb rfl f111_11 rfl rfl ?_
            refine AOps.s0 rfl rfl (a_store1 rfl sizeOf3 rfl (by exact bsb) (rfl : _ = V.int _ _) rfl rfl (by first | decide | exact Nat.le_of_ble_eq_true rfl | (simp only [splice_len, cCardV, List.length_cons, List.length_nil]; omega)) ?_)
            refine .nil <|
              .seq ?_
            refine AW.hp (h' := (h.setBox id2 [.int .i64 0, .int .i64 0, .bool false, .int .i64 0, .int .i64 0, .int .i64 0, .int .i64 0, .int .i64 0, .int .i64 0, .int .i64 0, .int .i64 0, .int .i64 0, .snil]).setBox id4 (cCardV 1 (n % 5) false (costR (n % 5) (if 3 < (n - 10) / 5 then 2 else 1) ((n - 10) / 5)) (pw8 ((n - 10) / 5)) (tg8 ((n - 10) / 5)) (sy8 ((n - 10) / 5)) .snil)) (by rw [Hp.setBox_setBox, Hp.setBox_setBox, Hp.setBox_setBox, Hp.setBox_setBox]; rfl) ?_
            refine .region ?_
            refine .u rfl rfl rfl (q_buildS (ds := [.int .i64 0, .int .i64 0, .int .i64 0, .int .i64 0, .int .i64 0, .int .i64 0, .int .i64 0, .bool false, .int .i64 0, .int .i64 0, .int .i64 0, .int .i64 0, .int .i64 0, .snil]) rfl zeroValue159 underlying159 (pl159 underlying159) rfl (by kernel_rfl)) ?_
            refine AOps.s rfl rfl rfl (a_alloc rfl zeroValue159 rfl (fun id6 hid6 => ?_))
            refine .sw sizeOf159 rfl rfl rfl rfl <|
              .nil <|
              .seq <|
              .seq ?_
            have n64 : id6 ≠ id4 := (fresh_ne hid6).symm
            refine .region <|
              .fb rfl f111_1 rfl rfl ?_
            refine .u rfl rfl rfl (q_load_b1 rfl isAgg3 rfl (by exact box_under n64 (Hp.box_setBox _ _ _)) rfl) ?_
            refine .nil <|
              .block <|
              .seq <|
              .region <|
              .qe rfl rfl rfl <|
              .aB rfl rfl <|
              .nil ?_
            refine AW.cond rfl (fun c10 => ?_) (fun c10 => ?_)
            · have e : n % 5 = 0 := by simpa using c10
              refine .region <|
                .mI rfl rfl <|
                .ad rfl rfl rfl (by omega) ?_
              refine .u rfl rfl rfl (q_buildS rfl zeroValue118 underlying118 (pl118 underlying118) rfl rfl) ?_
              refine .u rfl rfl rfl (q_buildS (ds := (cAbilN ⟨2, noCost, false, 0, ⟨2, ((n - 10) / 5 + 1), 0, 0, []⟩⟩)) rfl zeroValue159 underlying159 (pl159 underlying159) rfl (by kernel_rfl)) ?_
              refine .sw sizeOf159 rfl rfl rfl rfl <|
                .nil ?_
              refine AW.done 6 rfl (by first | exact hid6 | exact Hp.fresh_swap hid6) ?_
              refine .region <|
                .lw rfl isAgg159 sizeOf159 rfl rfl ?_
              refine .u rfl rfl rfl (q_buildSl rfl underlying109 sizeOf159 zeroValue159 rfl rfl rfl rfl rfl) ?_
              refine .fb rfl f111_12 rfl rfl ?_
              refine AOps.s0 rfl rfl (a_store1 rfl sizeOf109 rfl (by exact bsb) (rfl : _ = V.sl _ _ _ _) rfl rfl (by first | decide | exact Nat.le_of_ble_eq_true rfl | (simp only [splice_len, cCardV, List.length_cons, List.length_nil]; omega)) ?_)
              refine .nil <|
                .seq ?_
              refine AW.stay (d := 4) (id := id4) (h0 := h.setBox id2 [.int .i64 0, .int .i64 0, .bool false, .int .i64 0, .int .i64 0, .int .i64 0, .int .i64 0, .int .i64 0, .int .i64 0, .int .i64 0, .int .i64 0, .int .i64 0, .snil]) (Hp.box_setBox _ _ _) (by repeat (first | exact HLe.refl _ | refine HLe.over ?_ hid4.1 | refine acc.hle.trans ?_)) hid4.1 Sealed.ptr ?_
              refine .region <|
                .lw rfl isAgg111 sizeOf111 rfl rfl <|
                .sw sizeOf111 rfl rfl rfl rfl <|
                .aB rfl rfl <|
                .nil ?_
              refine AW.ret ?_
              exact retQ.mk' (Res.cellB1 isAgg111 sizeOf111 rfl (by exact bsb) rfl) (card_end hn.1 hn.2 (l := [⟨2, noCost, false, 0, ⟨2, ((n - 10) / 5 + 1), 0, 0, []⟩⟩]) (LLe.sl (abilN_le rfl)) (by rw [refCardF, if_neg (by omega), if_neg (by omega), if_pos h3]; simp only [if_neg (show ¬ n % 5 = 3 by omega), if_neg (show ¬ n % 5 = 4 by omega), refBeastA]; rw [if_pos e]) rfl) (HLe.setBox hid2.1) ⟨rfl, rfl⟩
            · have e0 : n % 5 ≠ 0 := by simpa using c10
              refine .seq <|
                .region <|
                .qe rfl rfl rfl <|
                .aB rfl rfl <|
                .nil ?_
              refine AW.cond rfl (fun c11 => ?_) (fun c11 => ?_)
              · have e : n % 5 = 1 := by simpa using c11
                refine .seq <|
                  .region ?_
                refine .u rfl rfl rfl (q_buildS rfl zeroValue118 underlying118 (pl118 underlying118) rfl rfl) ?_
                refine .u rfl rfl rfl (q_buildS (ds := (cAbilN ⟨2, noCost, false, 0, ⟨4, 1, 0, 0, []⟩⟩)) rfl zeroValue159 underlying159 (pl159 underlying159) rfl (by kernel_rfl)) ?_
                refine .sw sizeOf159 rfl rfl rfl rfl <|
                  .nil <|
                  .seq <|
                  .region <|
                  .mI rfl rfl ?_
                refine .u rfl rfl rfl (q_rem' rfl rfl rfl (by omega) (by omega)) ?_
                refine .qe rfl rfl rfl <|
                  .nil ?_
                refine AW.cond rfl (fun c12 => ?_) (fun c12 => ?_)
                · have ek : (n - 10) / 5 % 2 = 0 := by simpa using c12
                  refine .seq ?_
                  refine AW.done 6 rfl (by first | exact hid6 | exact Hp.fresh_swap hid6) ?_
                  refine AW.stay (d := 4) (id := id4) (h0 := h.setBox id2 [.int .i64 0, .int .i64 0, .bool false, .int .i64 0, .int .i64 0, .int .i64 0, .int .i64 0, .int .i64 0, .int .i64 0, .int .i64 0, .int .i64 0, .int .i64 0, .snil]) (Hp.box_setBox _ _ _) (by repeat (first | exact HLe.refl _ | refine HLe.over ?_ hid4.1 | refine acc.hle.trans ?_)) hid4.1 Sealed.ptr ?_
                  refine .region <|
                    .lw rfl isAgg111 sizeOf111 rfl rfl <|
                    .sw sizeOf111 rfl rfl rfl rfl <|
                    .aB rfl rfl <|
                    .nil ?_
                  refine AW.ret ?_
                  exact retQ.mk' (Res.cellB1 isAgg111 sizeOf111 rfl (by exact bsb) rfl) (card_end hn.1 hn.2 (l := []) (.nilimm) (by rw [refCardF, if_neg (by omega), if_neg (by omega), if_pos h3]; simp only [if_neg (show ¬ n % 5 = 3 by omega), if_neg (show ¬ n % 5 = 4 by omega), refBeastA]; rw [if_neg e0, if_pos e, if_pos ek]) rfl) (HLe.setBox hid2.1) ⟨rfl, rfl⟩
                · have ek : (n - 10) / 5 % 2 ≠ 0 := by simpa using c12
                  refine AW.skip ?_
                  refine AW.done 6 rfl (by first | exact hid6 | exact Hp.fresh_swap hid6) ?_
                  refine .region <|
                    .lw rfl isAgg159 sizeOf159 rfl rfl ?_
                  refine .u rfl rfl rfl (q_buildSl rfl underlying109 sizeOf159 zeroValue159 rfl rfl rfl rfl rfl) ?_
                  refine .fb rfl f111_12 rfl rfl ?_
                  refine AOps.s0 rfl rfl (a_store1 rfl sizeOf109 rfl (by exact bsb) (rfl : _ = V.sl _ _ _ _) rfl rfl (by first | decide | exact Nat.le_of_ble_eq_true rfl | (simp only [splice_len, cCardV, List.length_cons, List.length_nil]; omega)) ?_)
                  refine .nil <|
                    .seq ?_
                  refine AW.stay (d := 4) (id := id4) (h0 := h.setBox id2 [.int .i64 0, .int .i64 0, .bool false, .int .i64 0, .int .i64 0, .int .i64 0, .int .i64 0, .int .i64 0, .int .i64 0, .int .i64 0, .int .i64 0, .int .i64 0, .snil]) (Hp.box_setBox _ _ _) (by repeat (first | exact HLe.refl _ | refine HLe.over ?_ hid4.1 | refine acc.hle.trans ?_)) hid4.1 Sealed.ptr ?_
                  refine .region <|
                    .lw rfl isAgg111 sizeOf111 rfl rfl <|
                    .sw sizeOf111 rfl rfl rfl rfl <|
                    .aB rfl rfl <|
                    .nil ?_
                  refine AW.ret ?_
                  exact retQ.mk' (Res.cellB1 isAgg111 sizeOf111 rfl (by exact bsb) rfl) (card_end hn.1 hn.2 (l := [⟨2, noCost, false, 0, ⟨4, 1, 0, 0, []⟩⟩]) (LLe.sl (abilN_le rfl)) (by rw [refCardF, if_neg (by omega), if_neg (by omega), if_pos h3]; simp only [if_neg (show ¬ n % 5 = 3 by omega), if_neg (show ¬ n % 5 = 4 by omega), refBeastA]; rw [if_neg e0, if_pos e, if_neg ek]) rfl) (HLe.setBox hid2.1) ⟨rfl, rfl⟩
              · have e1 : n % 5 ≠ 1 := by simpa using c11
                refine .seq <|
                  .region <|
                  .qe rfl rfl rfl <|
                  .aB rfl rfl <|
                  .nil ?_
                refine AW.cond rfl (fun c13 => ?_) (fun c13 => ?_)
                · have e : n % 5 = 2 := by simpa using c13
                  refine .region ?_
                  refine .u rfl rfl rfl (q_buildSl (ds := cInts [1, 1, 2, 2, 3, 3, 4, 4]) rfl underlying23 sizeOf3 zeroValue3 rfl rfl rfl rfl (by kernel_rfl)) ?_
                  refine .mI rfl rfl ?_
                  refine .u rfl rfl rfl (q_ia_s rfl underlying23 sizeOf3 rfl rfl (by omega) (by omega) (show _ = [V.int .i64 (pw8 ((n - 10) / 5))] from cInts_elem (by omega) (by simp only [List.length_cons, List.length_nil]; omega))) ?_
                  refine .li rfl isAgg3 rfl rfl ?_
                  refine .u rfl rfl rfl (q_buildS rfl zeroValue118 underlying118 (pl118 underlying118) rfl rfl) ?_
                  refine .u rfl rfl rfl (q_buildS (ds := (cAbilN ⟨3, noCost, false, 0, ⟨3, (pw8 ((n - 10) / 5)), 0, 1, []⟩⟩)) rfl zeroValue159 underlying159 (pl159 underlying159) rfl (by kernel_rfl)) ?_
                  refine .sw sizeOf159 rfl rfl rfl rfl <|
                    .nil ?_
                  refine AW.done 6 rfl (by first | exact hid6 | exact Hp.fresh_swap hid6) ?_
                  refine .region <|
                    .lw rfl isAgg159 sizeOf159 rfl rfl ?_
                  refine .u rfl rfl rfl (q_buildSl rfl underlying109 sizeOf159 zeroValue159 rfl rfl rfl rfl rfl) ?_
                  refine .fb rfl f111_12 rfl rfl ?_
                  refine AOps.s0 rfl rfl (a_store1 rfl sizeOf109 rfl (by exact bsb) (rfl : _ = V.sl _ _ _ _) rfl rfl (by first | decide | exact Nat.le_of_ble_eq_true rfl | (simp only [splice_len, cCardV, List.length_cons, List.length_nil]; omega)) ?_)
                  refine .nil <|
                    .seq ?_
                  refine AW.stay (d := 4) (id := id4) (h0 := h.setBox id2 [.int .i64 0, .int .i64 0, .bool false, .int .i64 0, .int .i64 0, .int .i64 0, .int .i64 0, .int .i64 0, .int .i64 0, .int .i64 0, .int .i64 0, .int .i64 0, .snil]) (Hp.box_setBox _ _ _) (by repeat (first | exact HLe.refl _ | refine HLe.over ?_ hid4.1 | refine acc.hle.trans ?_)) hid4.1 Sealed.ptr ?_
                  refine .region <|
                    .lw rfl isAgg111 sizeOf111 rfl rfl <|
                    .sw sizeOf111 rfl rfl rfl rfl <|
                    .aB rfl rfl <|
                    .nil ?_
                  refine AW.ret ?_
                  exact retQ.mk' (Res.cellB1 isAgg111 sizeOf111 rfl (by exact bsb) rfl) (card_end hn.1 hn.2 (l := [⟨3, noCost, false, 0, ⟨3, (pw8 ((n - 10) / 5)), 0, 1, []⟩⟩]) (LLe.sl (abilN_le rfl)) (by rw [refCardF, if_neg (by omega), if_neg (by omega), if_pos h3]; simp only [if_neg (show ¬ n % 5 = 3 by omega), if_neg (show ¬ n % 5 = 4 by omega), refBeastA]; rw [if_neg e0, if_neg e1, if_pos e]) rfl) (HLe.setBox hid2.1) ⟨rfl, rfl⟩
                · have e2 : n % 5 ≠ 2 := by simpa using c13
                  refine .seq <|
                    .region <|
                    .qe rfl rfl rfl <|
                    .aB rfl rfl <|
                    .nil ?_
                  refine AW.cond rfl (fun c14 => ?_) (fun c14 => ?_)
                  · have e : n % 5 = 3 := by simpa using c14
                    refine .seq <|
                      .region <|
                      .fb rfl f111_9 rfl rfl ?_
                    refine .u rfl rfl rfl (q_load_b1 rfl isAgg3 rfl (by exact box_under n64 (Hp.box_setBox _ _ _)) rfl) ?_
                    refine .ad rfl rfl rfl (by omega) <|
                      .fb rfl f111_9 rfl rfl ?_
                    refine AOps.s0 rfl rfl (a_store1 rfl sizeOf3 rfl (by exact box_under n64 (Hp.box_setBox _ _ _)) (rfl : _ = V.int _ _) rfl rfl (by exact Nat.le_of_ble_eq_true rfl) ?_)
                    refine .nil ?_
                    refine AW.hp (by rw [swap_mem n64.symm]) ?_
                    refine .region ?_
                    refine .u rfl rfl rfl (q_buildA rfl zeroValue108 underlying108 sizeOf3 rfl rfl) ?_
                    refine .u rfl rfl rfl (q_buildS rfl zeroValue118 underlying118 (pl118 underlying118) rfl rfl) ?_
                    refine .u rfl rfl rfl (q_buildS (ds := (cAbilN ⟨1, (oneCost 3 1), true, 3, ⟨1, 1, 0, 2, []⟩⟩)) rfl zeroValue159 underlying159 (pl159 underlying159) rfl (by kernel_rfl)) ?_
                    refine .sw sizeOf159 rfl rfl rfl rfl <|
                      .nil ?_
                    refine AW.done 6 rfl (by first | exact hid6 | exact Hp.fresh_swap hid6) ?_
                    refine .region <|
                      .lw rfl isAgg159 sizeOf159 rfl rfl ?_
                    refine .u rfl rfl rfl (q_buildSl rfl underlying109 sizeOf159 zeroValue159 rfl rfl rfl rfl rfl) ?_
                    refine .fb rfl f111_12 rfl rfl ?_
                    refine AOps.s0 rfl rfl (a_store1 rfl sizeOf109 rfl (by exact bsb) (rfl : _ = V.sl _ _ _ _) rfl rfl (by first | decide | exact Nat.le_of_ble_eq_true rfl | (simp only [splice_len, cCardV, List.length_cons, List.length_nil]; omega)) ?_)
                    refine .nil <|
                      .seq ?_
                    refine AW.stay (d := 4) (id := id4) (h0 := h.setBox id2 [.int .i64 0, .int .i64 0, .bool false, .int .i64 0, .int .i64 0, .int .i64 0, .int .i64 0, .int .i64 0, .int .i64 0, .int .i64 0, .int .i64 0, .int .i64 0, .snil]) (Hp.box_setBox _ _ _) (by repeat (first | exact HLe.refl _ | refine HLe.over ?_ hid4.1 | refine acc.hle.trans ?_)) hid4.1 Sealed.ptr ?_
                    refine .region <|
                      .lw rfl isAgg111 sizeOf111 rfl rfl <|
                      .sw sizeOf111 rfl rfl rfl rfl <|
                      .aB rfl rfl <|
                      .nil ?_
                    refine AW.ret ?_
                    exact retQ.mk' (Res.cellB1 isAgg111 sizeOf111 rfl (by exact bsb) rfl) (card_end hn.1 hn.2 (l := [⟨1, (oneCost 3 1), true, 3, ⟨1, 1, 0, 2, []⟩⟩]) (LLe.sl (abilN_le rfl)) (by rw [refCardF, if_neg (by omega), if_neg (by omega), if_pos h3]; simp only [if_pos e, if_neg (show ¬ n % 5 = 4 by omega), if_neg e0, if_neg e1, if_neg e2, if_pos e, refBeastA]) rfl) (HLe.setBox hid2.1) ⟨rfl, rfl⟩
                  · have e3 : n % 5 ≠ 3 := by simpa using c14
                    have e : n % 5 = 4 := by omega
                    refine .seq <|
                      .region <|
                      .fb rfl f111_10 rfl rfl ?_
                    refine .u rfl rfl rfl (q_load_b1 rfl isAgg3 rfl (by exact box_under n64 (Hp.box_setBox _ _ _)) rfl) ?_
                    refine .ad rfl rfl rfl (by omega) <|
                      .fb rfl f111_10 rfl rfl ?_
                    refine AOps.s0 rfl rfl (a_store1 rfl sizeOf3 rfl (by exact box_under n64 (Hp.box_setBox _ _ _)) (rfl : _ = V.int _ _) rfl rfl (by exact Nat.le_of_ble_eq_true rfl) ?_)
                    refine .nil ?_
                    refine AW.hp (by rw [swap_mem n64.symm]) ?_
                    refine .region ?_
                    refine .u rfl rfl rfl (q_buildA rfl zeroValue108 underlying108 sizeOf3 rfl rfl) ?_
                    refine .u rfl rfl rfl (q_buildS rfl zeroValue118 underlying118 (pl118 underlying118) rfl rfl) ?_
                    refine .u rfl rfl rfl (q_buildS (ds := (cAbilN ⟨1, (oneCost 4 1), false, 0, ⟨10, 1, 1, 3, []⟩⟩)) rfl zeroValue159 underlying159 (pl159 underlying159) rfl (by kernel_rfl)) ?_
                    refine .sw sizeOf159 rfl rfl rfl rfl <|
                      .nil ?_
                    refine AW.done 6 rfl (by first | exact hid6 | exact Hp.fresh_swap hid6) ?_
                    refine .region <|
                      .lw rfl isAgg159 sizeOf159 rfl rfl ?_
                    refine .u rfl rfl rfl (q_buildSl rfl underlying109 sizeOf159 zeroValue159 rfl rfl rfl rfl rfl) ?_
                    refine .fb rfl f111_12 rfl rfl ?_
                    refine AOps.s0 rfl rfl (a_store1 rfl sizeOf109 rfl (by exact bsb) (rfl : _ = V.sl _ _ _ _) rfl rfl (by first | decide | exact Nat.le_of_ble_eq_true rfl | (simp only [splice_len, cCardV, List.length_cons, List.length_nil]; omega)) ?_)
                    refine .nil <|
                      .seq ?_
                    refine AW.stay (d := 4) (id := id4) (h0 := h.setBox id2 [.int .i64 0, .int .i64 0, .bool false, .int .i64 0, .int .i64 0, .int .i64 0, .int .i64 0, .int .i64 0, .int .i64 0, .int .i64 0, .int .i64 0, .int .i64 0, .snil]) (Hp.box_setBox _ _ _) (by repeat (first | exact HLe.refl _ | refine HLe.over ?_ hid4.1 | refine acc.hle.trans ?_)) hid4.1 Sealed.ptr ?_
                    refine .region <|
                      .lw rfl isAgg111 sizeOf111 rfl rfl <|
                      .sw sizeOf111 rfl rfl rfl rfl <|
                      .aB rfl rfl <|
                      .nil ?_
                    refine AW.ret ?_
                    exact retQ.mk' (Res.cellB1 isAgg111 sizeOf111 rfl (by exact bsb) rfl) (card_end hn.1 hn.2 (l := [⟨1, (oneCost 4 1), false, 0, ⟨10, 1, 1, 3, []⟩⟩]) (LLe.sl (abilN_le rfl)) (by rw [refCardF, if_neg (by omega), if_neg (by omega), if_pos h3]; simp only [if_neg e3, if_pos e, if_neg e0, if_neg e1, if_neg e2, if_neg e3, refBeastA]) rfl) (HLe.setBox hid2.1) ⟨rfl, rfl⟩
        · have h3 : 50 ≤ n := by simpa using c3
          refine .seq <|
            .region <|
            .mI rfl rfl <|
            .ql rfl rfl rfl <|
            .nil ?_
          refine AW.cond rfl (fun c15 => ?_) (fun c15 => ?_)
          · have h4 : n < 80 := by simpa using c15
            have hm := magic_at (i := (n - 50).toNat) (by omega)
            refine .seq <|
              .region ?_
            refine .u rfl rfl rfl (QOp.call rfl call129 fun h' hl' => by exact refMagic_calls h') ?_
            refine .mI rfl rfl ?_
            refine .u rfl rfl rfl (q_sub' rfl rfl rfl (by omega)) ?_
            refine .u rfl rfl rfl (q_ia_s rfl underlying178 sizeOf23 rfl rfl (by omega) (by omega) (cRows_elem (by omega) (by omega))) ?_
            refine .li rfl isAgg23 rfl rfl <|
              .aS rfl rfl <|
              .nil <|
              .seq <|
              .region <|
              .mI rfl rfl ?_
            refine .u rfl rfl rfl (q_rem' rfl rfl rfl (by omega) (by omega)) ?_
            refine .fb rfl f111_0 rfl rfl ?_
            refine AOps.s0 rfl rfl (a_store1 rfl sizeOf3 rfl (by exact bsb) (rfl : _ = V.int _ _) rfl rfl (by first | decide | exact Nat.le_of_ble_eq_true rfl | (simp only [splice_len, cCardV, List.length_cons, List.length_nil]; omega)) ?_)
            refine .fb rfl f111_1 rfl rfl ?_
            refine AOps.s0 rfl rfl (a_store1 rfl sizeOf3 rfl (by exact bsb) (rfl : _ = V.int _ _) rfl rfl (by first | decide | exact Nat.le_of_ble_eq_true rfl | (simp only [splice_len, cCardV, List.length_cons, List.length_nil]; omega)) ?_)
            refine .nil <|
              .seq <|
              .region <|
              .mI rfl rfl ?_
            refine .u rfl rfl rfl (q_sub' rfl rfl rfl (by omega)) ?_
            refine .u rfl rfl rfl (q_quo' rfl rfl rfl (by omega) (by omega)) ?_
            refine .u rfl rfl rfl (q_rem' rfl rfl rfl (by omega) (by omega)) ?_
            refine .qe rfl rfl rfl <|
              .fb rfl f111_2 rfl rfl ?_
            refine AOps.s0 rfl rfl (a_store1 rfl sizeOf4 rfl (by exact bsb) (rfl : _ = V.bool _) rfl rfl (by first | decide | exact Nat.le_of_ble_eq_true rfl | (simp only [splice_len, cCardV, List.length_cons, List.length_nil]; omega)) ?_)
            refine .nil <|
              .seq ?_
            refine AW.hp (h' := (h.setBox id2 [.int .i64 0, .int .i64 0, .bool false, .int .i64 0, .int .i64 0, .int .i64 0, .int .i64 0, .int .i64 0, .int .i64 0, .int .i64 0, .int .i64 0, .int .i64 0, .snil]).setBox id4 (cCardV 2 (n % 5) ((n - 50) / 5 % 2 == 0) noCost 0 0 0 .snil)) (by rw [Hp.setBox_setBox, Hp.setBox_setBox, Hp.setBox_setBox]; rfl) ?_
            refine .region <|
              .fb rfl f111_1 rfl rfl <|
              .lb rfl isAgg3 rfl rfl <|
              .mI rfl rfl ?_
            refine .u rfl rfl rfl (q_sub' rfl rfl rfl (by omega)) ?_
            refine .u rfl rfl rfl (q_quo' rfl rfl rfl (by omega) (by omega)) ?_
            refine .fb rfl f111_3 rfl rfl ?_
            refine .u rfl rfl rfl (q_ia_ab rfl underlying108 sizeOf3 rfl rfl (by omega) (by omega)) ?_
            refine AOps.s0 rfl rfl (a_store1 rfl sizeOf3 rfl (by exact bsb) (rfl : _ = V.int _ _) rfl rfl (by first | decide | exact Nat.le_of_ble_eq_true rfl | (simp only [splice_len, cCardV, List.length_cons, List.length_nil]; omega)) ?_)
            refine .fb rfl f111_3 rfl rfl ?_
            refine .u rfl rfl rfl (q_ia_ab rfl underlying108 sizeOf3 rfl rfl (by decide) (by decide)) ?_
            refine AOps.s0 rfl rfl (a_store1 rfl sizeOf3 rfl (by exact bsb) (rfl : _ = V.int _ _) rfl rfl (by first | decide | exact Nat.le_of_ble_eq_true rfl | (simp only [splice_len, cCardV, List.length_cons, List.length_nil]; omega)) ?_)
            refine .nil ?_
            refine AW.hp (h' := (h.setBox id2 [.int .i64 0, .int .i64 0, .bool false, .int .i64 0, .int .i64 0, .int .i64 0, .int .i64 0, .int .i64 0, .int .i64 0, .int .i64 0, .int .i64 0, .int .i64 0, .snil]).setBox id4 (cCardV 2 (n % 5) ((n - 50) / 5 % 2 == 0) (costR (n % 5) 1 ((n - 50) / 5)) 0 0 0 .snil)) (by rw [Hp.setBox_setBox, Hp.setBox_setBox, cardV_set hc.1 (by omega)]; rfl) ?_
            refine AW.draw [9] [] [(0, true), (1, true), (2, true), (3, true), (4, true), (5, true), (6, true), (7, true), (8, true), (9, false)] mixed (by kernel_rfl) rfl (by kernel_rfl) ?_
            refine .q rfl rfl rfl rfl (q_mv rfl (rfl : _ = V.sl _ _ _ _)) ?_
            refine .q rfl rfl rfl rfl (q_ia_s rfl underlying23 sizeOf3 rfl rfl (by omega) (by omega) (cInts_to 0 rfl (by omega) (by omega))) ?_
            refine .q rfl rfl rfl rfl (q_load_i1 rfl isAgg3 rfl rfl) ?_
            refine .q rfl rfl rfl rfl (q_mv rfl (rfl : _ = V.sl _ _ _ _)) ?_
            refine .q rfl rfl rfl rfl (q_sliceI (l := 1) rfl underlying23 sizeOf3 rfl rfl (by omega)) ?_
            refine .q rfl rfl rfl rfl (QOp.call rfl (by exact call130) fun h' hl' => by exact refEffect_calls _ _ (by simp only [List.length_drop]; omega) h') ?_
            refine .q rfl rfl rfl rfl (q_buildS (ds := cAbil ⟨0, noCost, false, (magicRows.getD (n - 50).toNat []).getD 0 0, effR ((magicRows.getD (n - 50).toNat []).drop 1)⟩) rfl zeroValue159 underlying159 (pl159 underlying159) rfl (by kernel_rfl)) ?_
            refine .q rfl rfl rfl rfl (q_buildSl (ds := cAbil ⟨0, noCost, false, (magicRows.getD (n - 50).toNat []).getD 0 0, effR ((magicRows.getD (n - 50).toNat []).drop 1)⟩) rfl underlying109 sizeOf159 zeroValue159 rfl rfl rfl rfl (by kernel_rfl)) ?_
            refine .q rfl rfl rfl rfl (q_fa_b rfl underlying111 rfl (by exact sizeOf109) (by decide) rfl (rfl : _ = 12)) ?_
            refine AOrd.s0 rfl rfl rfl rfl (a_store1 rfl sizeOf109 rfl (by exact bsb) (rfl : _ = V.sl _ _ _ _) rfl rfl (by first | decide | exact Nat.le_of_ble_eq_true rfl | (simp only [splice_len, cCardV, List.length_cons, List.length_nil]; omega)) ?_)
            refine AOrd.nil ?_
            refine .seq ?_
            refine AW.stay (d := 4) (id := id4) (h0 := h.setBox id2 [.int .i64 0, .int .i64 0, .bool false, .int .i64 0, .int .i64 0, .int .i64 0, .int .i64 0, .int .i64 0, .int .i64 0, .int .i64 0, .int .i64 0, .int .i64 0, .snil]) (Hp.box_setBox _ _ _) (by repeat (first | exact HLe.refl _ | refine HLe.over ?_ hid4.1 | refine acc.hle.trans ?_)) hid4.1 Sealed.ptr ?_
            refine .region <|
              .lw rfl isAgg111 sizeOf111 rfl rfl <|
              .sw sizeOf111 rfl rfl rfl rfl <|
              .aB rfl rfl <|
              .nil ?_
            refine AW.ret ?_
            exact retQ.mk' (Res.cellB1 isAgg111 sizeOf111 rfl (by exact bsb) rfl) (card_end hn.1 hn.2 (l := [⟨0, noCost, false, (magicRows.getD (n - 50).toNat []).getD 0 0, effR ((magicRows.getD (n - 50).toNat []).drop 1)⟩]) (abils_le rfl) (by rw [refCardF, if_neg (by omega), if_neg (by omega), if_neg (by omega), if_pos h4]) rfl) (HLe.setBox hid2.1) ⟨rfl, rfl⟩
          · have h4 : 80 ≤ n := by simpa using c15
            refine .seq <|
              .region <|
              .mI rfl rfl <|
              .ql rfl rfl rfl <|
              .nil ?_
            refine AW.cond rfl (fun c16 => ?_) (fun c16 => ?_)
            · have h5 : n < 100 := by simpa using c16
              have hm := relic_at (i := (n - 80).toNat) (by omega)
              refine .seq <|
                .region <|
                .mI rfl rfl ?_
              refine .u rfl rfl rfl (q_rem' rfl rfl rfl (by omega) (by omega)) ?_
              refine .fb rfl f111_0 rfl rfl ?_
              refine AOps.s0 rfl rfl (a_store1 rfl sizeOf3 rfl (by exact bsb) (rfl : _ = V.int _ _) rfl rfl (by first | decide | exact Nat.le_of_ble_eq_true rfl | (simp only [splice_len, cCardV, List.length_cons, List.length_nil]; omega)) ?_)
              refine .fb rfl f111_1 rfl rfl ?_
              refine AOps.s0 rfl rfl (a_store1 rfl sizeOf3 rfl (by exact bsb) (rfl : _ = V.int _ _) rfl rfl (by first | decide | exact Nat.le_of_ble_eq_true rfl | (simp only [splice_len, cCardV, List.length_cons, List.length_nil]; omega)) ?_)
              refine .nil <|
                .seq ?_
              refine AW.hp (h' := (h.setBox id2 [.int .i64 0, .int .i64 0, .bool false, .int .i64 0, .int .i64 0, .int .i64 0, .int .i64 0, .int .i64 0, .int .i64 0, .int .i64 0, .int .i64 0, .int .i64 0, .snil]).setBox id4 (cCardV 3 (n % 5) false noCost 0 0 0 .snil)) (by rw [Hp.setBox_setBox, Hp.setBox_setBox]; rfl) ?_
              refine .region <|
                .fb rfl f111_1 rfl rfl <|
                .lb rfl isAgg3 rfl rfl <|
                .mI rfl rfl ?_
              refine .u rfl rfl rfl (q_sub' rfl rfl rfl (by omega)) ?_
              refine .u rfl rfl rfl (q_quo' rfl rfl rfl (by omega) (by omega)) ?_
              refine .ad rfl rfl rfl (by omega) <|
                .fb rfl f111_3 rfl rfl ?_
              refine .u rfl rfl rfl (q_ia_ab rfl underlying108 sizeOf3 rfl rfl (by omega) (by omega)) ?_
              refine AOps.s0 rfl rfl (a_store1 rfl sizeOf3 rfl (by exact bsb) (rfl : _ = V.int _ _) rfl rfl (by first | decide | exact Nat.le_of_ble_eq_true rfl | (simp only [splice_len, cCardV, List.length_cons, List.length_nil]; omega)) ?_)
              refine .fb rfl f111_3 rfl rfl ?_
              refine .u rfl rfl rfl (q_ia_ab rfl underlying108 sizeOf3 rfl rfl (by decide) (by decide)) ?_
              refine AOps.s0 rfl rfl (a_store1 rfl sizeOf3 rfl (by exact bsb) (rfl : _ = V.int _ _) rfl rfl (by first | decide | exact Nat.le_of_ble_eq_true rfl | (simp only [splice_len, cCardV, List.length_cons, List.length_nil]; omega)) ?_)
              refine .nil ?_
              refine AW.hp (h' := (h.setBox id2 [.int .i64 0, .int .i64 0, .bool false, .int .i64 0, .int .i64 0, .int .i64 0, .int .i64 0, .int .i64 0, .int .i64 0, .int .i64 0, .int .i64 0, .int .i64 0, .snil]).setBox id4 (cCardV 3 (n % 5) false (costR (n % 5) 1 ((n - 80) / 5 + 1)) 0 0 0 .snil)) (by rw [Hp.setBox_setBox, Hp.setBox_setBox, cardV_set hc.1 (by omega)]; rfl) ?_
              refine .region ?_
              refine .u rfl rfl rfl (QOp.call rfl call132 fun h' hl' => by exact refRelic_calls h') ?_
              refine .mI rfl rfl ?_
              refine .u rfl rfl rfl (q_sub' rfl rfl rfl (by omega)) ?_
              refine .u rfl rfl rfl (q_ia_s rfl underlying178 sizeOf23 rfl rfl (by omega) (by omega) (cRows_elem (by omega) (by omega))) ?_
              refine .li rfl isAgg23 rfl rfl ?_
              refine .u rfl rfl rfl (QOp.call rfl call131 fun h' hl' => by exact refAbility_calls _ _ (by first | omega | (simp only [List.length_drop]; omega)) h') ?_
              refine .u rfl rfl rfl (q_buildSl (ds := cAbil (abilR (relicRows8.getD (n - 80).toNat []))) rfl underlying109 sizeOf159 zeroValue159 rfl rfl rfl rfl (by kernel_rfl)) ?_
              refine .fb rfl f111_12 rfl rfl ?_
              refine AOps.s0 rfl rfl (a_store1 rfl sizeOf109 rfl (by exact bsb) (rfl : _ = V.sl _ _ _ _) rfl rfl (by first | decide | exact Nat.le_of_ble_eq_true rfl | (simp only [splice_len, cCardV, List.length_cons, List.length_nil]; omega)) ?_)
              refine .nil <|
                .seq ?_
              refine AW.stay (d := 4) (id := id4) (h0 := h.setBox id2 [.int .i64 0, .int .i64 0, .bool false, .int .i64 0, .int .i64 0, .int .i64 0, .int .i64 0, .int .i64 0, .int .i64 0, .int .i64 0, .int .i64 0, .int .i64 0, .snil]) (Hp.box_setBox _ _ _) (by repeat (first | exact HLe.refl _ | refine HLe.over ?_ hid4.1 | refine acc.hle.trans ?_)) hid4.1 Sealed.ptr ?_
              refine .region <|
                .lw rfl isAgg111 sizeOf111 rfl rfl <|
                .sw sizeOf111 rfl rfl rfl rfl <|
                .aB rfl rfl <|
                .nil ?_
              refine AW.ret ?_
              exact retQ.mk' (Res.cellB1 isAgg111 sizeOf111 rfl (by exact bsb) rfl) (card_end hn.1 hn.2 (l := [abilR (relicRows8.getD (n - 80).toNat [])]) (abils_le rfl) (by rw [refCardF, if_neg (by omega), if_neg (by omega), if_neg (by omega), if_neg (by omega), if_pos h5]) rfl) (HLe.setBox hid2.1) ⟨rfl, rfl⟩
            · have h5 : 100 ≤ n := by simpa using c16
              refine .seq <|
                .region <|
                .mI rfl rfl <|
                .ql rfl rfl rfl <|
                .nil ?_
              refine AW.cond rfl (fun c17 => ?_) (fun c17 => ?_)
              · have h6 : n < 112 := by simpa using c17
                have hm := special_atR (i := (n - 100).toNat) (by omega)
                refine .seq <|
                  .region ?_
                refine .u rfl rfl rfl (QOp.call rfl call133 fun h' hl' => by exact refSpecial_calls h') ?_
                refine .mI rfl rfl ?_
                refine .u rfl rfl rfl (q_sub' rfl rfl rfl (by omega)) ?_
                refine .u rfl rfl rfl (q_ia_s rfl underlying178 sizeOf23 rfl rfl (by omega) (by omega) (cRows_elem (by omega) (by omega))) ?_
                refine .li rfl isAgg23 rfl rfl <|
                  .aS rfl rfl <|
                  .nil <|
                  .seq ?_
                refine AW.draw [17, 19, 21, 23, 25] [3, 4, 5, 6, 7, 8, 9, 10, 11, 12, 13, 14, 15] [(0, true), (1, true), (2, true), (3, true), (4, true), (5, true), (6, true), (7, true), (8, true), (9, true), (10, true), (11, true), (12, true), (13, true), (14, true), (15, true), (16, true), (17, false), (18, true), (19, false), (20, true), (21, false), (22, true), (23, false), (24, true), (25, false)] mixed (by kernel_rfl) rfl (by kernel_rfl) ?_
                refine .q rfl rfl rfl rfl (q_mv rfl (rfl : _ = V.sl _ _ _ _)) ?_
                refine .q rfl rfl rfl rfl (q_ia_s rfl underlying23 sizeOf3 rfl rfl (by omega) (by omega) (cInts_to 0 rfl (by omega) (by omega))) ?_
                refine .q rfl rfl rfl rfl (q_load_i1 rfl isAgg3 rfl rfl) ?_
                refine .p rfl rfl rfl (fun _ => q_mv rfl (rfl : _ = V.sl _ _ _ _)) ?_
                refine .p rfl rfl rfl (fun _ => q_ia_s rfl underlying23 sizeOf3 rfl rfl (by omega) (by omega) (cInts_to 2 rfl (by omega) (by omega))) ?_
                refine .p rfl rfl rfl (fun _ => q_load_i1 rfl isAgg3 rfl rfl) ?_
                refine .p rfl rfl rfl (fun _ => q_eq rfl rfl rfl) ?_
                refine .p rfl rfl rfl (fun _ => q_mv rfl (rfl : _ = V.sl _ _ _ _)) ?_
                refine .p rfl rfl rfl (fun _ => q_ia_s rfl underlying23 sizeOf3 rfl rfl (by omega) (by omega) (cInts_to 3 rfl (by omega) (by omega))) ?_
                refine .p rfl rfl rfl (fun _ => q_load_i1 rfl isAgg3 rfl rfl) ?_
                refine .p rfl rfl rfl (fun _ => q_mv rfl (rfl : _ = V.sl _ _ _ _)) ?_
                refine .p rfl rfl rfl (fun _ => q_ia_s rfl underlying23 sizeOf3 rfl rfl (by omega) (by omega) (cInts_to 4 rfl (by omega) (by omega))) ?_
                refine .p rfl rfl rfl (fun _ => q_load_i1 rfl isAgg3 rfl rfl) ?_
                refine .p rfl rfl rfl (fun _ => q_mv rfl (rfl : _ = V.sl _ _ _ _)) ?_
                refine .p rfl rfl rfl (fun _ => q_ia_s rfl underlying23 sizeOf3 rfl rfl (by omega) (by omega) (cInts_to 5 rfl (by omega) (by omega))) ?_
                refine .p rfl rfl rfl (fun _ => q_load_i1 rfl isAgg3 rfl rfl) ?_
                refine .q rfl rfl rfl rfl (q_fa_b rfl underlying111 rfl (by exact sizeOf3) (by decide) rfl (rfl : _ = 0)) ?_
                refine AOrd.s0 rfl rfl rfl rfl (a_store1 rfl sizeOf3 rfl (by exact bsb) (rfl : _ = V.int _ _) rfl rfl (by first | decide | exact Nat.le_of_ble_eq_true rfl | (simp only [splice_len, cCardV, List.length_cons, List.length_nil]; omega)) ?_)
                refine .q rfl rfl rfl rfl (q_fa_b rfl underlying111 rfl (by exact sizeOf4) (by decide) rfl (rfl : _ = 2)) ?_
                refine AOrd.s0 rfl rfl rfl rfl (a_store1 rfl sizeOf4 rfl (by exact bsb) (rfl : _ = V.bool _) rfl rfl (by first | decide | exact Nat.le_of_ble_eq_true rfl | (simp only [splice_len, cCardV, List.length_cons, List.length_nil]; omega)) ?_)
                refine .q rfl rfl rfl rfl (q_fa_b rfl underlying111 rfl (by exact sizeOf3) (by decide) rfl (rfl : _ = 9)) ?_
                refine AOrd.s0 rfl rfl rfl rfl (a_store1 rfl sizeOf3 rfl (by exact bsb) (rfl : _ = V.int _ _) rfl rfl (by first | decide | exact Nat.le_of_ble_eq_true rfl | (simp only [splice_len, cCardV, List.length_cons, List.length_nil]; omega)) ?_)
                refine .q rfl rfl rfl rfl (q_fa_b rfl underlying111 rfl (by exact sizeOf3) (by decide) rfl (rfl : _ = 10)) ?_
                refine AOrd.s0 rfl rfl rfl rfl (a_store1 rfl sizeOf3 rfl (by exact bsb) (rfl : _ = V.int _ _) rfl rfl (by first | decide | exact Nat.le_of_ble_eq_true rfl | (simp only [splice_len, cCardV, List.length_cons, List.length_nil]; omega)) ?_)
                refine .q rfl rfl rfl rfl (q_fa_b rfl underlying111 rfl (by exact sizeOf3) (by decide) rfl (rfl : _ = 11)) ?_
                refine AOrd.s0 rfl rfl rfl rfl (a_store1 rfl sizeOf3 rfl (by exact bsb) (rfl : _ = V.int _ _) rfl rfl (by first | decide | exact Nat.le_of_ble_eq_true rfl | (simp only [splice_len, cCardV, List.length_cons, List.length_nil]; omega)) ?_)
                refine AOrd.nil ?_
                refine .seq <|
                  .region <|
                  .mS rfl rfl ?_
                refine .u rfl rfl rfl (q_ia_s rfl underlying23 sizeOf3 rfl rfl (by omega) (by omega) (cInts_to 1 rfl (by omega) (by omega))) ?_
                refine .li rfl isAgg3 rfl rfl <|
                  .fb rfl f111_3 rfl rfl ?_
                refine .u rfl rfl rfl (q_ia_ab rfl underlying108 sizeOf3 rfl rfl (by decide) (by decide)) ?_
                refine AOps.s0 rfl rfl (a_store1 rfl sizeOf3 rfl (by exact bsb) (rfl : _ = V.int _ _) rfl rfl (by first | decide | exact Nat.le_of_ble_eq_true rfl | (simp only [splice_len, cCardV, List.length_cons, List.length_nil]; omega)) ?_)
                refine .nil <|
                  .seq <|
                  .region <|
                  .mS rfl rfl ?_
                refine .u rfl rfl rfl (q_sliceI (l := 6) rfl underlying23 sizeOf3 rfl rfl (by omega)) ?_
                refine .u rfl rfl rfl (QOp.call rfl call131 fun h' hl' => by exact refAbility_calls _ _ (by first | omega | (simp only [List.length_drop]; omega)) h') ?_
                refine .u rfl rfl rfl (q_buildSl (ds := cAbil (abilR ((specialRows.getD (n - 100).toNat []).drop 6))) rfl underlying109 sizeOf159 zeroValue159 rfl rfl rfl rfl (by kernel_rfl)) ?_
                refine .fb rfl f111_12 rfl rfl ?_
                refine AOps.s0 rfl rfl (a_store1 rfl sizeOf109 rfl (by exact bsb) (rfl : _ = V.sl _ _ _ _) rfl rfl (by first | decide | exact Nat.le_of_ble_eq_true rfl | (simp only [splice_len, cCardV, List.length_cons, List.length_nil]; omega)) ?_)
                refine .nil <|
                  .seq ?_
                refine AW.hp (h' := (h.setBox id2 [.int .i64 0, .int .i64 0, .bool false, .int .i64 0, .int .i64 0, .int .i64 0, .int .i64 0, .int .i64 0, .int .i64 0, .int .i64 0, .int .i64 0, .int .i64 0, .snil]).setBox id4 (cCardV ((specialRows.getD (n - 100).toNat []).getD 0 0) 5 ((specialRows.getD (n - 100).toNat []).getD 2 0 == 1) (cost5 ((specialRows.getD (n - 100).toNat []).getD 1 0)) ((specialRows.getD (n - 100).toNat []).getD 3 0) ((specialRows.getD (n - 100).toNat []).getD 4 0) ((specialRows.getD (n - 100).toNat []).getD 5 0) (.sl .full 14 1 (cAbil (abilR ((specialRows.getD (n - 100).toNat []).drop 6)))))) (by rw [Hp.setBox_setBox, Hp.setBox_setBox, Hp.setBox_setBox, Hp.setBox_setBox, Hp.setBox_setBox, Hp.setBox_setBox, Hp.setBox_setBox]; rfl) ?_
                refine .region <|
                  .mI rfl rfl <|
                  .qe rfl rfl rfl <|
                  .nil ?_
                refine AW.cond rfl (fun c18 => ?_) (fun c18 => ?_)
                · have e8 : n = 108 := by simpa using c18
                  refine AW.draw [4, 6] [0] [(0, true), (1, true), (2, true), (3, true), (4, false), (5, true), (6, false)] mixed (by kernel_rfl) rfl (by kernel_rfl) ?_
                  refine .p rfl rfl rfl (fun _ => q_fa_b rfl underlying111 rfl (by exact sizeOf109) (by decide) rfl (rfl : _ = 12)) ?_
                  refine .q rfl rfl rfl rfl (q_load_b1 rfl isAgg109 rfl (by exact bsb) rfl) ?_
                  refine .q rfl rfl rfl rfl (QOp.call rfl (by exact call128) fun h' hl' => by exact refGive_calls _ _ h') ?_
                  refine .q rfl rfl rfl rfl (q_buildSl (ds := cAbil (giveF 2 5)) rfl underlying109 sizeOf159 zeroValue159 rfl rfl rfl rfl (by kernel_rfl)) ?_
                  refine AOrd.s rfl rfl rfl rfl (a_append rfl underlying109 (i := t159) (by kernel_rfl) rfl (n := 14) (by' := 128) rfl rfl rfl rfl (Acc.full rfl) rfl rfl (by decide) (by decide) (by decide) rfl (fun v19 h19 acc => ?_))
                  refine .q rfl rfl rfl rfl (q_fa_b rfl underlying111 rfl (by exact sizeOf109) (by decide) rfl (rfl : _ = 12)) ?_
                  refine AOrd.s0 rfl rfl rfl rfl (a_store1 rfl sizeOf109 rfl (by exact acc.hle.box _ _ (Hp.box_setBox _ _ _)) (rfl : _ = v19) acc.solid.2 acc.solid.1 (by exact Nat.le_of_ble_eq_true rfl) ?_)
                  refine AOrd.nil ?_
                  refine .seq ?_
                  refine AW.stay (d := 4) (id := id4) (h0 := h.setBox id2 [.int .i64 0, .int .i64 0, .bool false, .int .i64 0, .int .i64 0, .int .i64 0, .int .i64 0, .int .i64 0, .int .i64 0, .int .i64 0, .int .i64 0, .int .i64 0, .snil]) (Hp.box_setBox _ _ _) (by repeat (first | exact HLe.refl _ | refine HLe.over ?_ hid4.1 | refine acc.hle.trans ?_)) hid4.1 Sealed.ptr ?_
                  refine .region <|
                    .lw rfl isAgg111 sizeOf111 rfl rfl <|
                    .sw sizeOf111 rfl rfl rfl rfl <|
                    .aB rfl rfl <|
                    .nil ?_
                  refine AW.ret ?_
                  refine retQ.mk' (Res.cellB1 isAgg111 sizeOf111 rfl (by exact bsb) rfl) (card_end hn.1 hn.2 (l := [abilR ((specialRows.getD (n - 100).toNat []).drop 6), giveF 2 5]) (v := v19) (acc.vle.trans (.refl _)) (by rw [refCardF, if_neg (by omega), if_neg (by omega), if_neg (by omega), if_neg (by omega), if_neg (by omega), if_pos h6, specR, if_pos e8]) rfl) (HLe.setBox hid2.1) ⟨rfl, rfl⟩
                · have e8 : n ≠ 108 := by simpa using c18
                  refine AW.skip ?_
                  refine .seq ?_
                  refine AW.stay (d := 4) (id := id4) (h0 := h.setBox id2 [.int .i64 0, .int .i64 0, .bool false, .int .i64 0, .int .i64 0, .int .i64 0, .int .i64 0, .int .i64 0, .int .i64 0, .int .i64 0, .int .i64 0, .int .i64 0, .snil]) (Hp.box_setBox _ _ _) (by repeat (first | exact HLe.refl _ | refine HLe.over ?_ hid4.1 | refine acc.hle.trans ?_)) hid4.1 Sealed.ptr ?_
                  refine .region <|
                    .lw rfl isAgg111 sizeOf111 rfl rfl <|
                    .sw sizeOf111 rfl rfl rfl rfl <|
                    .aB rfl rfl <|
                    .nil ?_
                  refine AW.ret ?_
                  exact retQ.mk' (Res.cellB1 isAgg111 sizeOf111 rfl (by exact bsb) rfl) (card_end hn.1 hn.2 (l := [abilR ((specialRows.getD (n - 100).toNat []).drop 6)]) (abils_le rfl) (by rw [refCardF, if_neg (by omega), if_neg (by omega), if_neg (by omega), if_neg (by omega), if_neg (by omega), if_pos h6, specR, if_neg e8]) rfl) (HLe.setBox hid2.1) ⟨rfl, rfl⟩
              · have h6 : 112 ≤ n := by simpa using c17
                refine .seq <|
                  .region <|
                  .fb rfl f111_0 rfl rfl ?_
                refine AOps.s0 rfl rfl (a_store1 rfl sizeOf3 rfl (by exact bsb) (rfl : _ = V.int _ _) rfl rfl (by first | decide | exact Nat.le_of_ble_eq_true rfl | (simp only [splice_len, cCardV, List.length_cons, List.length_nil]; omega)) ?_)
                refine .nil <|
                  .seq <|
                  .region ?_
                refine .u rfl rfl rfl (q_buildSl (ds := cInts [1, 1, 2, 2, 3, 3, 4, 4]) rfl underlying23 sizeOf3 zeroValue3 rfl rfl rfl rfl (by kernel_rfl)) ?_
                refine .mI rfl rfl ?_
                refine .u rfl rfl rfl (q_sub' rfl rfl rfl (by omega)) ?_
                refine .u rfl rfl rfl (q_ia_s rfl underlying23 sizeOf3 rfl rfl (by omega) (by omega) (cInts_elem (by omega) (by simp only [List.length_cons, List.length_nil]; omega))) ?_
                refine .li rfl isAgg3 rfl rfl <|
                  .fb rfl f111_9 rfl rfl ?_
                refine AOps.s0 rfl rfl (a_store1 rfl sizeOf3 rfl (by exact bsb) (rfl : _ = V.int _ _) rfl rfl (by first | decide | exact Nat.le_of_ble_eq_true rfl | (simp only [splice_len, cCardV, List.length_cons, List.length_nil]; omega)) ?_)
                refine .nil <|
                  .region <|
                  .fb rfl f111_9 rfl rfl <|
                  .lb rfl isAgg3 rfl rfl <|
                  .mI rfl rfl ?_
                refine .u rfl rfl rfl (q_rem' rfl rfl rfl (by omega) (by omega)) ?_
                refine .fb rfl f111_10 rfl rfl ?_
                refine AOps.s0 rfl rfl (a_store1 rfl sizeOf3 rfl (by exact bsb) (rfl : _ = V.int _ _) rfl rfl (by first | decide | exact Nat.le_of_ble_eq_true rfl | (simp only [splice_len, cCardV, List.length_cons, List.length_nil]; omega)) ?_)
                refine .fb rfl f111_11 rfl rfl ?_
                refine AOps.s0 rfl rfl (a_store1 rfl sizeOf3 rfl (by exact bsb) (rfl : _ = V.int _ _) rfl rfl (by first | decide | exact Nat.le_of_ble_eq_true rfl | (simp only [splice_len, cCardV, List.length_cons, List.length_nil]; omega)) ?_)
                refine .nil <|
                  .seq ?_
                refine AW.stay (d := 4) (id := id4) (h0 := h.setBox id2 [.int .i64 0, .int .i64 0, .bool false, .int .i64 0, .int .i64 0, .int .i64 0, .int .i64 0, .int .i64 0, .int .i64 0, .int .i64 0, .int .i64 0, .int .i64 0, .snil]) (Hp.box_setBox _ _ _) (by repeat (first | exact HLe.refl _ | refine HLe.over ?_ hid4.1 | refine acc.hle.trans ?_)) hid4.1 Sealed.ptr ?_
                refine .region <|
                  .lw rfl isAgg111 sizeOf111 rfl rfl <|
                  .sw sizeOf111 rfl rfl rfl rfl <|
                  .aB rfl rfl <|
                  .nil ?_
                refine AW.ret ?_
                exact retQ.mk' (Res.cellB1 isAgg111 sizeOf111 rfl (by exact bsb) rfl) (card_end hn.1 hn.2 (l := []) .nilimm (by rw [refCardF, if_neg (by omega), if_neg (by omega), if_neg (by omega), if_neg (by omega), if_neg (by omega), if_neg (by omega)]) rfl) (HLe.setBox hid2.1) ⟨rfl, rfl⟩

end Go.Proofs.YtijhmlkffkedeaaGreatDoor
/- Walks: sets of numbers as numbers, bit by bit. -/
namespace Go.Proofs.YtijhmlkffkedeaaGreatDoor
open Go Go.AV Go.Proofs.Tryz
set_option maxRecDepth 100000
set_option maxHeartbeats 1000000
theorem u64_in {n : Int} (h : 0 ≤ n ∧ n < 18446744073709551616) : IntKind.u64.wrap n = n := by rw [IntKind.wrap_u64]; omega
section
variable {P : Program} {G : Nat → Option (List V)} {h : Hp} {o : Oper} {ρ : Operand → V}
theorem q_quoU {t t2 : TypeId} {x y : Operand} (ho : o.op = .binOp .quo t x y t2) {m n : Int} (hx : ρ x = .int .u64 m) (hy : ρ y = .int .u64 n) (hm : 0 ≤ m ∧ m < 18446744073709551616) (hn : 0 < n) : QOp P G h o ρ (.int .u64 (m / n)) := by
  have := q_quo (P := P) (G := G) (h := h) ho hx hy (by omega)
  rw [Int.tdiv_eq_ediv_of_nonneg hm.1, u64_in ⟨Int.ediv_nonneg hm.1 (by omega), Int.lt_of_le_of_lt (Int.ediv_le_self _ hm.1) hm.2⟩] at this
  exact this
theorem q_remU {t t2 : TypeId} {x y : Operand} (ho : o.op = .binOp .rem t x y t2) {m n : Int} (hx : ρ x = .int .u64 m) (hy : ρ y = .int .u64 n) (hm : 0 ≤ m) (hn : 0 < n) : QOp P G h o ρ (.int .u64 (m % n)) := by
  have := q_rem (P := P) (G := G) (h := h) ho hx hy (by omega)
  rw [Int.tmod_eq_emod_of_nonneg hm] at this
  exact this
theorem q_addU {t t2 : TypeId} {x y : Operand} (ho : o.op = .binOp .add t x y t2) {m n : Int} (hx : ρ x = .int .u64 m) (hy : ρ y = .int .u64 n) (hm : 0 ≤ m + n ∧ m + n < 18446744073709551616) : QOp P G h o ρ (.int .u64 (m + n)) := by
  have := q_add (P := P) (G := G) (h := h) ho hx hy
  rwa [u64_in hm] at this
theorem q_convU {s t : TypeId} {x : Operand} (ho : o.op = .convert s t x) {d : TypeDesc} (hs : P.underlying s = some d) (ht : P.underlying t = some (.int .u64)) {k2 : IntKind} {n : Int} (hx : ρ x = .int k2 n) (hn : 0 ≤ n ∧ n < 18446744073709551616) : QOp P G h o ρ (.int .u64 n) := by
  have := q_conv (P := P) (G := G) (h := h) ho hs ht hx
  rwa [u64_in hn] at this
end
/-- The bits of a number. -/
def bitF (x : Int) (j : Nat) : Bool := x / 2 ^ j % 2 == 1
def cBits (b : Nat → Bool) : List V := (List.range 64).map fun j => .bool (b j)
/-- The number of some bits. -/
def ofUp (b : Nat → Bool) : Nat → Int
  | 0 => 0
  | k + 1 => if b k then ofUp b k + 2 ^ k else ofUp b k
def ofB (b : Nat → Bool) : Int := ofUp b 64
def setB (x : Int) (i : Int) (is : Bool) : Int := ofB (if 0 ≤ i ∧ i < 64 then upd (bitF x) i.toNat is else bitF x)
/-- Words with those of a number, or without them. -/
def turnedUp (w n : Int) (is : Bool) : Nat → Int
  | 0 => w
  | k + 1 => if bitF n k then setB (turnedUp w n is k) k is else turnedUp w n is k
def turnedF (w n : Int) (is : Bool) : Int := turnedUp w n is 8
theorem cBits_len (b : Nat → Bool) : (cBits b).length = 64 := by simp [cBits]
theorem cBits_at {b : Nat → Bool} {j : Nat} (hj : j < 64) : (cBits b)[j]? = some (.bool (b j)) := by simp [cBits, hj]
theorem cBits_hd {b : Nat → Bool} {i : Int} (h0 : 0 ≤ i) (h1 : i < 64) : ((cBits b).drop (i.toNat * 1))[0]? = some (.bool (b i.toNat)) := by
  rw [List.getElem?_drop, Nat.add_zero, Nat.mul_one, cBits_at (by omega)]
theorem cBits_set {b : Nat → Bool} {i : Int} {v : Bool} (h0 : 0 ≤ i) (h1 : i < 64) : splice (cBits b) (0 + i.toNat * 1) [.bool v] = cBits (upd b i.toNat v) := by
  obtain ⟨n, rfl⟩ := Int.eq_ofNat_of_zero_le h0
  have hn : n < 64 := by omega
  rw [splice_eq _ _ _ (by rw [cBits_len]; simp; omega)]
  refine List.ext_getElem? fun j => ?_
  simp only [Int.toNat_natCast, Nat.mul_one, Nat.zero_add, List.length_singleton]
  by_cases e : j < n
  · rw [List.append_assoc, List.getElem?_append_left (by rw [List.length_take, cBits_len]; omega), List.getElem?_take_of_lt e, cBits_at (by omega), cBits_at (by omega), upd, if_neg (by omega)]
  · by_cases e2 : j = n
    · subst e2
      rw [List.append_assoc, List.getElem?_append_right (by rw [List.length_take, cBits_len]; omega), cBits_at hn, List.length_take, cBits_len, show j - min j 64 = 0 by omega, upd, if_pos rfl]; rfl
    · rw [List.getElem?_append_right (by rw [List.length_append, List.length_take, cBits_len, List.length_singleton]; omega), List.length_append, List.length_take, cBits_len, List.length_singleton, List.getElem?_drop, show n + 1 + (j - (min n 64 + 1)) = j by omega]
      by_cases e3 : j < 64
      · rw [cBits_at e3, cBits_at e3, upd, if_neg e2]
      · rw [List.getElem?_eq_none (by rw [cBits_len]; omega), List.getElem?_eq_none (by rw [cBits_len]; omega)]
def bitUp (x : Int) (i : Nat) (j : Nat) : Bool := decide (j < i) && bitF x j
theorem bitUp_zero {x : Int} : cBits (bitUp x 0) = cBits fun _ => false := by
  simp [cBits, bitUp]
theorem bitUp_next {x : Int} {i : Nat} : upd (bitUp x i) i (bitF x i) = bitUp x (i + 1) := by
  funext j; unfold upd bitUp
  by_cases e : j = i
  · subst e; simp
  · by_cases e2 : j < i
    · simp [e, e2, Nat.lt_succ_of_lt e2]
    · have : ¬ j < i + 1 := by omega
      simp [e, e2, this]
theorem bitUp_all {x : Int} : cBits (bitUp x 64) = cBits (bitF x) := by
  refine List.map_congr_left fun j hj => ?_
  have : j < 64 := by simpa using hj
  simp [bitUp, this]
theorem half_next {x : Int} {i : Nat} : x / 2 ^ i / 2 = x / 2 ^ (i + 1) := by
  rw [Int.ediv_ediv_of_nonneg (by exact Int.le_of_lt (Int.pow_pos (by decide))), Int.pow_succ]
theorem half_in {x : Int} (hx : 0 ≤ x ∧ x < 18446744073709551616) (i : Nat) : 0 ≤ x / 2 ^ i ∧ x / 2 ^ i < 18446744073709551616 :=
  ⟨Int.ediv_nonneg hx.1 (Int.le_of_lt (Int.pow_pos (by decide))), Int.lt_of_le_of_lt (Int.ediv_le_self _ hx.1) hx.2⟩
theorem ofUp_in (b : Nat → Bool) : ∀ k, 0 ≤ ofUp b k ∧ ofUp b k < 2 ^ k
  | 0 => by simp [ofUp]
  | k + 1 => by
    have ih := ofUp_in b k
    rw [ofUp, Int.pow_succ]
    split <;> omega
theorem pow_in {k : Nat} (h : k < 64) : 0 < (2 : Int) ^ k ∧ 2 * (2 : Int) ^ k ≤ 18446744073709551616 := by
  have : (2 : Int) ^ (k + 1) ≤ 2 ^ 64 := by exact_mod_cast Nat.pow_le_pow_right (by decide) (by omega)
  rw [Int.pow_succ] at this
  exact ⟨Int.pow_pos (by decide), by omega⟩
theorem ofB_in (b : Nat → Bool) : 0 ≤ ofB b ∧ ofB b < 18446744073709551616 := ofUp_in b 64
theorem setB_in (x i : Int) (is : Bool) : 0 ≤ setB x i is ∧ setB x i is < 18446744073709551616 := ofB_in _
theorem turned_in64 {w n : Int} {is : Bool} (hw : 0 ≤ w ∧ w < 18446744073709551616) : ∀ k, 0 ≤ turnedUp w n is k ∧ turnedUp w n is k < 18446744073709551616
  | 0 => hw
  | k + 1 => by
    rw [turnedUp]; split
    · exact setB_in _ _ _
    · exact turned_in64 hw k
theorem worth_next {k : Nat} : IntKind.u64.wrap (IntKind.u64.wrap (2 ^ k) * 2) = IntKind.u64.wrap (2 ^ (k + 1)) := by
  rw [IntKind.wrap_u64, IntKind.wrap_u64, IntKind.wrap_u64, Int.pow_succ]
  generalize (2 : Int) ^ k = a; omega
theorem worth_in {k : Nat} (h : k < 64) : IntKind.u64.wrap (2 ^ k) = 2 ^ k := u64_in (by have := pow_in h; omega)

theorem bits_calls (x : Int) (hx : 0 ≤ x ∧ x < 18446744073709551616) (h : Hp) : ACalls prog G 112 [.int .u64 x] h fun r h' => r = .agg (cBits (bitF x)) ∧ h' = h := by
  refine ACalls.enter func112 rfl ntmps112 results112 rfl ?_
  refine .seq <|
    .region ?_
  refine AOps.s rfl rfl rfl (a_alloc rfl zeroValue160 rfl (fun id2 hid2 => ?_))
  refine .nil <|
    .seq <|
    .region ?_
  refine AOps.s rfl rfl rfl (a_alloc rfl zeroValue160 rfl (fun id3 hid3 => ?_))
  refine .nil <|
    .seq <|
    .seq <|
    .region <|
    .aI rfl rfl <|
    .nil <|
    .block ?_
  refine AW.loop (fun n T hh => ∃ (i : Nat) , i ≤ 64 ∧ n = 64 - i ∧ T = put (put (put (put (T0) 4 (V.int .i64 (i : Nat))) 3 (V.ptr id3 0)) 2 (V.ptr id2 0)) 0 (V.int .u64 (x / 2 ^ i)) ∧ hh = (h.setBox id2 (cBits fun _ => false)).setBox id3 (cBits (bitUp x i))) (64) ?_ ?_
  · skip
    refine Wk.mk (TLe.put (d := 0) (VLe.of_eq (congrArg (V.int .u64) (by simp))) (TLe.put (d := 2) (VLe.refl _) (TLe.put (d := 3) (VLe.refl _) (TLe.put (d := 4) (by exact VLe.of_eq (congrArg (V.int .i64) (by first | rfl | omega))) (TLe.zero _))))) (HLe.refl _) ⟨0, Nat.zero_le _, rfl, rfl, by rw [bitUp_zero]; rfl⟩
  · skip
    rintro n T h' ⟨i, hi, rfl, rfl, rfl⟩
    refine .seq <|
      .seq <|
      .region <|
      .mI rfl rfl <|
      .ql rfl rfl rfl <|
      .nil ?_
    refine AW.cond rfl (fun c0 => ?_) (fun c0 => ?_)
    · have hlt : i < 64 := by have := of_decide_eq_true c0; omega
      refine AW.skip ?_
      refine .seq <|
        .block <|
        .seq <|
        .region <|
        .mI rfl rfl <|
        .mI rfl rfl ?_
      refine .u rfl rfl rfl (q_remU rfl rfl rfl (half_in hx i).1 (by decide)) ?_
      refine .qe rfl rfl rfl ?_
      refine .u rfl rfl rfl (q_ia_ab rfl underlying160 sizeOf4 rfl rfl (by omega) (by omega)) ?_
      refine AOps.s0 rfl rfl (a_store1 rfl sizeOf4 rfl (by exact bsb) (rfl : _ = V.bool _) rfl rfl (by first | decide | exact Nat.le_of_ble_eq_true rfl | (rw [cBits_len]; omega)) ?_)
      refine .nil <|
        .region <|
        .mI rfl rfl ?_
      refine .u rfl rfl rfl (q_quoU rfl rfl rfl (half_in hx i) (by decide)) ?_
      refine .aI rfl rfl <|
        .nil <|
        .region <|
        .mI rfl rfl <|
        .ad rfl rfl rfl (by omega) <|
        .aI rfl rfl <|
        .nil ?_
      refine Wk.mk (TLe.put (d := 0) (VLe.of_eq (congrArg (V.int .u64) half_next)) (TLe.put (d := 2) (VLe.refl _) (TLe.put (d := 3) (VLe.refl _) (TLe.put (d := 4) (by exact VLe.of_eq (congrArg (V.int .i64) (by first | rfl | omega))) (TLe.zero _))))) (HLe.refl _) ⟨_, ?_, i + 1, ?_, rfl, rfl, by rw [Hp.setBox_setBox, cBits_set (by omega) (by omega), Int.toNat_natCast, ← bitUp_next]; rfl⟩
      · omega
      · omega
    · obtain rfl : i = 64 := by have := of_decide_eq_false c0; omega
      rw [bitUp_all]
      refine AW.exit ?_
      refine .seq ?_
      refine AW.done 3 rfl (Hp.fresh_swap hid3) ?_
      refine .region <|
        .lw rfl isAgg160 sizeOf160 rfl rfl <|
        .sw sizeOf160 rfl rfl rfl rfl <|
        .nil ?_
      refine AW.ret ?_
      exact retQ.mk' (Res.cellB isAgg160 sizeOf160 rfl (by exact bsb) rfl) (VLe.refl _) (HLe.setBox hid2.1) ⟨rfl, rfl⟩

theorem bitsOf_calls (b : Nat → Bool) (h : Hp) : ACalls prog G 134 [.agg (cBits b)] h fun r h' => r = .int .u64 (ofB b) ∧ h' = h := by
  refine ACalls.enter func134 rfl ntmps134 results134 rfl ?_
  refine .seq <|
    .region <|
    .bx rfl rfl <|
    .aI rfl rfl <|
    .nil <|
    .seq <|
    .region <|
    .aI rfl rfl <|
    .aI rfl rfl <|
    .nil <|
    .seq <|
    .seq <|
    .region <|
    .aI rfl rfl <|
    .nil <|
    .block ?_
  refine AW.loop (fun n T hh => ∃ (i : Nat) , i ≤ 64 ∧ n = 64 - i ∧ T = put (put (put (put (T0) 5 (V.int .i64 (i : Nat))) 4 (V.int .u64 (IntKind.u64.wrap (2 ^ i)))) 3 (V.int .u64 (ofUp b i))) 1 (V.iptr (cBits b)) ∧ hh = h) (64) ?_ ?_
  · skip
    refine Wk.mk (TLe.put (d := 1) (VLe.refl _) (TLe.put (d := 3) (VLe.refl _) (TLe.put (d := 4) (VLe.refl _) (TLe.put (d := 5) (by exact VLe.of_eq (congrArg (V.int .i64) (by first | rfl | omega))) (TLe.zero _))))) (HLe.refl _) ⟨0, Nat.zero_le _, rfl, rfl, rfl⟩
  · skip
    rintro n T h' ⟨i, hi, rfl, rfl, rfl⟩
    refine .seq <|
      .seq <|
      .region <|
      .mI rfl rfl <|
      .ql rfl rfl rfl <|
      .nil ?_
    refine AW.cond rfl (fun c0 => ?_) (fun c0 => ?_)
    · have hlt : i < 64 := by have := of_decide_eq_true c0; omega
      refine AW.skip ?_
      refine .seq <|
        .block <|
        .seq <|
        .seq <|
        .region <|
        .mI rfl rfl ?_
      refine .u rfl rfl rfl (q_ia_ai rfl underlying160 sizeOf4 rfl rfl (by omega) (by omega) rfl) ?_
      refine .u rfl rfl rfl (q_load_i1 rfl isAgg4 rfl (cBits_hd (by omega) (by omega))) ?_
      refine .nil ?_
      refine AW.cond rfl (fun c1 => ?_) (fun c1 => ?_)
      · skip
        refine .region ?_
        refine .u rfl rfl rfl (q_mv rfl (rfl : _ = V.int .u64 _)) ?_
        refine .u rfl rfl rfl (q_mv rfl (rfl : _ = V.int .u64 _)) ?_
        refine .u rfl rfl rfl (q_addU rfl rfl rfl (by rw [worth_in (by omega)]; have h1 := ofUp_in b i; have h2 := pow_in (k := i) (by omega); omega)) ?_
        refine .aI rfl rfl <|
          .nil <|
          .region ?_
        refine .u rfl rfl rfl (q_mv rfl (rfl : _ = V.int .u64 _)) ?_
        refine .u rfl rfl rfl (q_mul rfl rfl rfl) ?_
        refine .u rfl rfl rfl (q_as rfl (rfl : _ = V.int .u64 _)) ?_
        refine .nil <|
          .region <|
          .mI rfl rfl <|
          .ad rfl rfl rfl (by omega) <|
          .aI rfl rfl <|
          .nil ?_
        refine Wk.mk (TLe.put (d := 1) (VLe.refl _) (TLe.put (d := 3) (VLe.of_eq (congrArg (V.int .u64) (by first | (rw [ofUp, if_pos (by simpa using c1), worth_in (by omega)]; done) | rw [ofUp, if_neg (by simpa using c1)]))) (TLe.put (d := 4) (VLe.of_eq (congrArg (V.int .u64) worth_next)) (TLe.put (d := 5) (by exact VLe.of_eq (congrArg (V.int .i64) (by first | rfl | omega))) (TLe.zero _))))) (HLe.refl _) ⟨_, ?_, i + 1, ?_, rfl, rfl, rfl⟩
        · omega
        · omega
      · skip
        refine AW.skip ?_
        refine .region ?_
        refine .u rfl rfl rfl (q_mv rfl (rfl : _ = V.int .u64 _)) ?_
        refine .u rfl rfl rfl (q_mul rfl rfl rfl) ?_
        refine .u rfl rfl rfl (q_as rfl (rfl : _ = V.int .u64 _)) ?_
        refine .nil <|
          .region <|
          .mI rfl rfl <|
          .ad rfl rfl rfl (by omega) <|
          .aI rfl rfl <|
          .nil ?_
        refine Wk.mk (TLe.put (d := 1) (VLe.refl _) (TLe.put (d := 3) (VLe.of_eq (congrArg (V.int .u64) (by first | (rw [ofUp, if_pos (by simpa using c1), worth_in (by omega)]; done) | rw [ofUp, if_neg (by simpa using c1)]))) (TLe.put (d := 4) (VLe.of_eq (congrArg (V.int .u64) worth_next)) (TLe.put (d := 5) (by exact VLe.of_eq (congrArg (V.int .i64) (by first | rfl | omega))) (TLe.zero _))))) (HLe.refl _) ⟨_, ?_, i + 1, ?_, rfl, rfl, rfl⟩
        · omega
        · omega
    · obtain rfl : i = 64 := by have := of_decide_eq_false c0; omega
      refine AW.exit ?_
      refine .seq <|
        .region ?_
      refine .u rfl rfl rfl (q_mv rfl (rfl : _ = V.int .u64 _)) ?_
      refine .u rfl rfl rfl (q_as rfl (rfl : _ = V.int .u64 _)) ?_
      refine .nil ?_
      refine AW.ret ?_
      exact retQ.mk' (.one _) (VLe.refl _) (HLe.refl _) ⟨rfl, rfl⟩

theorem bitsSet_calls (x i : Int) (is : Bool) (hx : 0 ≤ x ∧ x < 18446744073709551616) (h : Hp) : ACalls prog G 113 [.int .u64 x, .int .i64 i, .bool is] h fun r h' => r = .int .u64 (setB x i is) ∧ h' = h := by
  refine ACalls.enter func113 rfl ntmps113 results113 rfl ?_
  refine .seq <|
    .region <|
    .aI rfl rfl <|
    .nil <|
    .seq <|
    .region <|
    .mI rfl rfl ?_
  refine .u rfl rfl rfl (QOp.call rfl call112 fun h' hl' => by exact bits_calls _ (by assumption) h') ?_
  refine AOps.s rfl rfl rfl (a_alloc rfl zeroValue160 rfl (fun id7 hid7 => ?_))
  refine .sw sizeOf160 rfl rfl rfl rfl <|
    .nil <|
    .seq <|
    .seq <|
    .region <|
    .mI rfl rfl <|
    .qg rfl rfl rfl <|
    .mB rfl rfl ?_
  refine .gt rfl rfl rfl (fun _ => tl0) (fun hc => q_mv rfl (rfl : _ = V.int _ _)) ?_
  refine .gt rfl rfl rfl (fun hc => tl1 13 (.opt hc)) (fun hc => q_lt rfl rfl rfl) ?_
  refine .pt rfl rfl rfl rfl <|
    .nil ?_
  refine AW.cond rfl (fun c0 => ?_) (fun c0 => ?_)
  · have hi : 0 ≤ i ∧ i < 64 := cr_in c0
    refine .region <|
      .mI rfl rfl <|
      .mB rfl rfl ?_
    refine .u rfl rfl rfl (q_ia_ab rfl underlying160 sizeOf4 rfl rfl (by omega) (by omega)) ?_
    refine AOps.s0 rfl rfl (a_store1 rfl sizeOf4 rfl (by exact bsb) (rfl : _ = V.bool _) rfl rfl (by first | decide | exact Nat.le_of_ble_eq_true rfl | (rw [cBits_len]; omega)) ?_)
    refine .nil <|
      .seq ?_
    first | refine AW.hp (h' := h.setBox id7 (cBits (upd (bitF x) i.toNat is))) (by rw [Hp.setBox_setBox, cBits_set hi.1 hi.2]) ?_ | skip
    refine AW.done 7 rfl hid7 ?_
    refine .region <|
      .lw rfl isAgg160 sizeOf160 rfl rfl ?_
    refine .u rfl rfl rfl (QOp.call rfl call134 fun h' hl' => by exact bitsOf_calls _ h') ?_
    refine .aI rfl rfl <|
      .nil ?_
    refine AW.ret ?_
    exact retQ.mk' (.one _) (VLe.of_eq (congrArg (V.int .u64) (by rw [setB, if_pos hi]))) (HLe.refl _) ⟨rfl, rfl⟩
  · have hi : ¬ (0 ≤ i ∧ i < 64) := fun e => by simp [e.1, e.2] at c0
    refine AW.skip ?_
    refine .seq ?_
    first | refine AW.hp (h' := h.setBox id7 (cBits (upd (bitF x) i.toNat is))) (by rw [Hp.setBox_setBox, cBits_set hi.1 hi.2]) ?_ | skip
    refine AW.done 7 rfl hid7 ?_
    refine .region <|
      .lw rfl isAgg160 sizeOf160 rfl rfl ?_
    refine .u rfl rfl rfl (QOp.call rfl call134 fun h' hl' => by exact bitsOf_calls _ h') ?_
    refine .aI rfl rfl <|
      .nil ?_
    refine AW.ret ?_
    exact retQ.mk' (.one _) (VLe.of_eq (congrArg (V.int .u64) (by rw [setB, if_neg hi]))) (HLe.refl _) ⟨rfl, rfl⟩

theorem turned_calls (w v : Int) (is : Bool) (hw : 0 ≤ w ∧ w < 18446744073709551616) (hn : 0 ≤ v ∧ v < 18446744073709551616) (h : Hp) : ACalls prog G 81 [.int .u64 w, .int .i64 v, .bool is] h fun r h' => r = .int .u64 (turnedF w v is) ∧ h' = h := by
  refine ACalls.enter func81 rfl ntmps81 results81 rfl ?_
  refine .seq <|
    .region <|
    .aI rfl rfl <|
    .nil <|
    .seq <|
    .region <|
    .mI rfl rfl ?_
  refine .u rfl rfl rfl (q_convU rfl underlying3 underlying113 rfl hn) ?_
  refine .u rfl rfl rfl (QOp.call rfl call112 fun h' hl' => by exact bits_calls _ (by assumption) h') ?_
  refine AOps.s rfl rfl rfl (a_alloc rfl zeroValue160 rfl (fun id7 hid7 => ?_))
  refine .sw sizeOf160 rfl rfl rfl rfl ?_
  refine AOps.done 7 rfl hid7 ?_
  refine .nil <|
    .seq <|
    .seq <|
    .region <|
    .aI rfl rfl <|
    .nil <|
    .block ?_
  refine AW.loop (fun n T hh => ∃ (i : Nat) , i ≤ 8 ∧ n = 8 - i ∧ T = put (put (put (put (T0) 8 (V.int .i64 (i : Nat))) 7 (V.iptr (cBits (bitF v)))) 2 (V.bool is)) 0 (V.int .u64 (turnedUp w v is i)) ∧ hh = h) (8) ?_ ?_
  · skip
    refine Wk.mk (TLe.put (d := 0) (VLe.refl _) (TLe.put (d := 2) (VLe.refl _) (TLe.put (d := 7) (VLe.refl _) (TLe.put (d := 8) (by exact VLe.of_eq (congrArg (V.int .i64) (by first | rfl | omega))) (TLe.zero _))))) (HLe.refl _) ⟨0, Nat.zero_le _, rfl, rfl, rfl⟩
  · skip
    rintro n T h' ⟨i, hi, rfl, rfl, rfl⟩
    refine .seq <|
      .seq <|
      .region <|
      .mI rfl rfl <|
      .ql rfl rfl rfl <|
      .nil ?_
    refine AW.cond rfl (fun c0 => ?_) (fun c0 => ?_)
    · have hlt : i < 8 := by have := of_decide_eq_true c0; omega
      have hwi := turned_in64 (n := v) (is := is) hw i
      refine AW.skip ?_
      refine .seq <|
        .block <|
        .seq <|
        .region <|
        .mI rfl rfl ?_
      refine .u rfl rfl rfl (q_ia_ai rfl underlying160 sizeOf4 rfl rfl (by omega) (by omega) rfl) ?_
      refine .u rfl rfl rfl (q_load_i1 rfl isAgg4 rfl (cBits_hd (by omega) (by omega))) ?_
      refine .nil ?_
      refine AW.cond rfl (fun c1 => ?_) (fun c1 => ?_)
      · skip
        refine .region ?_
        refine .u rfl rfl rfl (q_mv rfl (rfl : _ = V.int .u64 _)) ?_
        refine .mI rfl rfl <|
          .mB rfl rfl ?_
        refine .u rfl rfl rfl (QOp.call rfl call113 fun h' hl' => by exact bitsSet_calls _ _ _ (by assumption) h') ?_
        refine .aI rfl rfl <|
          .nil <|
          .region <|
          .mI rfl rfl <|
          .ad rfl rfl rfl (by omega) <|
          .aI rfl rfl <|
          .nil ?_
        refine Wk.mk (TLe.put (d := 0) (VLe.of_eq (congrArg (V.int .u64) (by first | rw [turnedUp, if_pos (by simpa using c1)] | rw [turnedUp, if_neg (by simpa using c1)]))) (TLe.put (d := 2) (VLe.refl _) (TLe.put (d := 7) (VLe.refl _) (TLe.put (d := 8) (by exact VLe.of_eq (congrArg (V.int .i64) (by first | rfl | omega))) (TLe.zero _))))) (HLe.refl _) ⟨_, ?_, i + 1, ?_, rfl, rfl, rfl⟩
        · omega
        · omega
      · skip
        refine AW.skip ?_
        refine .region <|
          .mI rfl rfl <|
          .ad rfl rfl rfl (by omega) <|
          .aI rfl rfl <|
          .nil ?_
        refine Wk.mk (TLe.put (d := 0) (VLe.of_eq (congrArg (V.int .u64) (by first | rw [turnedUp, if_pos (by simpa using c1)] | rw [turnedUp, if_neg (by simpa using c1)]))) (TLe.put (d := 2) (VLe.refl _) (TLe.put (d := 7) (VLe.refl _) (TLe.put (d := 8) (by exact VLe.of_eq (congrArg (V.int .i64) (by first | rfl | omega))) (TLe.zero _))))) (HLe.refl _) ⟨_, ?_, i + 1, ?_, rfl, rfl, rfl⟩
        · omega
        · omega
    · obtain rfl : i = 8 := by have := of_decide_eq_false c0; omega
      refine AW.exit ?_
      refine .seq <|
        .region ?_
      refine .u rfl rfl rfl (q_mv rfl (rfl : _ = V.int .u64 _)) ?_
      refine .u rfl rfl rfl (q_as rfl (rfl : _ = V.int .u64 _)) ?_
      refine .nil ?_
      refine AW.ret ?_
      exact retQ.mk' (.one _) (VLe.refl _) (HLe.refl _) ⟨rfl, rfl⟩

end Go.Proofs.YtijhmlkffkedeaaGreatDoor
