/- Contracts: merkle, seg, disk, sync, meter, chain. -/
import Derived.Test.YtnmkbnfidjoljaaDoorGe
import Derived.Test.YtnmkbnfidjoljaaDoorGb

/-! merkle -/
set_option maxRecDepth 20000
namespace Go.Dv
open Go Go.Sh Go.Sl

theorem el_arrs : El P t_sl_arr32_uint8 t_arr32_uint8 32 32 := El.of (by kernel_rfl)

variable {B : Bs} {w : World} {F : List HP} {K : Value → World → Prop}

def halfF : Nat → Nat → Nat → Nat
  | 0, k, _ => k
  | f + 1, k, n => if 2 * k < n then halfF f (2 * k) n else k
/-- The greatest power of two below a number. -/
def half (n : Nat) : Nat := halfF 40 1 n

theorem halfF_lt : ∀ (f k n : Nat), 1 ≤ k → k < n → 1 ≤ halfF f k n ∧ halfF f k n < n
  | 0, k, n, h1, h2 => ⟨h1, h2⟩
  | f + 1, k, n, h1, h2 => by
    unfold halfF
    split
    · exact halfF_lt f (2 * k) n (by omega) (by assumption)
    · exact ⟨h1, h2⟩
theorem half_lt {n : Nat} (h : 2 ≤ n) : 1 ≤ half n ∧ half n < n := halfF_lt 40 1 n (by omega) (by omega)

theorem half_ok {n : Nat} (h : Sat B w F) (hn : 2 ≤ n) (hn2 : n ≤ 1000000) (hk : ∀ w', Sat B w' F → K (.int .i64 (half n)) w') : Cs P f_merkle_half #[.int .i64 (n : Int)] w K := by
  refine ok_merkle_half _ ?_
  unfold vc_merkle_half
  refine Lp.up 40 (fun i vs w => ∃ k : Nat, vs = [.int .i64 (k : Int)] ∧ k = 2 ^ i ∧ k < n ∧ halfF (40 - i) k n = half n ∧ Sat B w F) ⟨1, rfl, rfl, by omega, rfl, h⟩ fun I nx cs => ?_
  intro n0 l0 w0 hI
  obtain ⟨i, hi, rfl, k, hv, hp, hlt, hf, h⟩ := cs _ _ _ hI
  obtain rfl : n0 = (k : Int) := by simpa using hv
  have hi20 : i < 20 := by
    refine Nat.lt_of_not_le fun hge => ?_
    have : 2 ^ 20 ≤ 2 ^ i := Nat.pow_le_pow_right (by omega) hge
    omega
  rw [w64 (x := 2 * (k : Int)) (by omega) (by omega)]
  obtain ⟨f, hfe⟩ : ∃ f, 40 - i = f + 1 := ⟨40 - i - 1, by omega⟩
  rw [hfe, halfF] at hf
  refine Br.lt (fun h1 => ?_) (fun h1 => ?_)
  · refine nx i _ _ _ (by omega) rfl ⟨2 * k, ?_, by rw [hp, Nat.pow_succ]; omega, by omega, ?_, h⟩
    · rw [w64 (by omega) (by omega)]
      congr 2
      omega
    · rw [if_pos (by omega)] at hf
      rw [show 40 - (i + 1) = f by omega]
      exact hf
  · rw [if_neg (by omega)] at hf
    rw [hf]
    exact hk _ h

/-- A leaf; two together; the root. -/
def Id.leaf (I : Id) (b : List UInt8) : Id := I.hash ([49] ++ b)
def Id.leafD (I : Id) (b : List UInt8) : List UInt8 := I.dig ([49] ++ b)
def rootF : Nat → Id → List (List UInt8) → Id × List UInt8
  | _, I, [] => (I.hash [48], I.dig [48])
  | _, I, [l] => (I, l)
  | 0, I, _ => (I, [])
  | f + 1, I, l => 
    let a := rootF f I (l.take (half l.length))
    let b := rootF f a.1 (l.drop (half l.length))
    (b.1.hash ([50] ++ a.2 ++ b.2), b.1.dig ([50] ++ a.2 ++ b.2))
def root (I : Id) (l : List (List UInt8)) : Id × List UInt8 := rootF l.length I l

theorem dig_length (I : Id) (t : List UInt8) : (I.dig t).length = 32 := thg_length (by omega)

theorem rootF_length : ∀ (f : Nat) (I : Id) (l : List (List UInt8)), l.length ≤ f → (∀ x ∈ l, x.length = 32) → (rootF f I l).2.length = 32
  | f, I, [], _, _ => by cases f <;> exact dig_length _ _
  | f, I, [x], _, h => by cases f <;> exact h x (by simp)
  | 0, I, _ :: _ :: _, hl, _ => by simp at hl
  | f + 1, I, x :: y :: l, _, _ => by simp only [rootF]; exact dig_length _ _

theorem rootF_made : ∀ (f : Nat) (I : Id) (l : List (List UInt8)), 1 ≤ l.length → (rootF f I l).1.made.length + 1 ≤ I.made.length + l.length
  | f, I, [x], _ => by cases f <;> simp [rootF]
  | 0, I, _ :: _ :: _, _ => by simp [rootF]
  | f + 1, I, x :: y :: l, _ => by
    simp only [rootF]
    have hh := half_lt (n := (x :: y :: l).length) (by simp)
    generalize hk : half (x :: y :: l).length = k at *
    generalize (x :: y :: l) = L at *
    have h1 := rootF_made f I (L.take k) (by simp; omega)
    have h2 := rootF_made f (rootF f I (L.take k)).1 (L.drop k) (by simp; omega)
    have h3 := Id.put_le (rootF f (rootF f I (L.take k)).1 (L.drop k)).1 (nm 72 [[50] ++ (rootF f I (L.take k)).2 ++ (rootF f (rootF f I (L.take k)).1 (L.drop k)).2])
    simp only [List.length_take, List.length_drop] at h1 h2
    simp only [Id.hash]
    omega

theorem Leaf_ok {b wb m mc : Nat} {V : Vt} {I : Id} {q : Option Addr} {t : List UInt8} (h : Sat B w (vlt b wb V :: idl wb I :: F)) (hr : Rd B q (bcells t)) (hm : m = t.length) (hb : t.length ≤ 1099511627)
    (hI : I.made.length < 1152921504606846976)
    (hk : ∀ w', Sat B w' (vlt b wb V :: idl wb (I.leaf t) :: F) → K (arr (I.leafD t)) w') :
    Cs P f_merkle_Leaf #[.pointer (at0 b), .slice q m mc] w K := by
  subst hm
  refine ok_merkle_Leaf _ _ _ _ ?_
  unfold vc_merkle_Leaf
  refine h.var zr_arr32 fun b0 w' h => ?_
  refine h.build1 el_bytes rfl fun p1 w' h => ?_
  obtain ⟨B1, hle1, h, hr1, _⟩ := h.fix
  refine h.build2 el_pieces rfl rfl fun p2 w' h => ?_
  obtain ⟨B2, hle2, h, hr2, _⟩ := h.fix
  have e49 : [Value.int .u8 49] = bcells [49] := rfl
  rw [e49] at hr1
  refine VHash_ok (ps := [[49], t]) ((h.pull 2).pull 2) (Rds.two hr2 (SlOf.mk (hr1.mono hle2) rfl) (SlOf.mk ((hr.mono hle1).mono hle2) rfl)) rfl (by simp) (by simp only [List.flatten_cons, List.flatten_nil, List.length_append, List.length_nil, List.length_cons]; omega) hI fun w' h => ⟨_, rfl, ?_⟩
  have hl : (bcells (I.dig [[49], t].flatten)).length = 32 := by rw [bcells_length, dig_length]
  refine Sat.stA (n := 32) (h.pull 2) wd_arr32 hl (ones_bcells _) (by simp [bcells]) fun w' h => ⟨_, ldA (n := 32) wd_arr32 h.bk (by simp only [List.length_append, hl]; omega), ?_⟩
  have e : ((List.take 0 (bcells (List.replicate 32 0)) ++ bcells (I.dig [[49], t].flatten) ++ List.drop (0 + 32) (bcells (List.replicate 32 0))).drop 0).take 32 = bcells (I.dig [[49], t].flatten) := by
    simp only [List.take_zero, List.nil_append, List.drop_zero]
    exact List.take_left' hl
  rw [e]
  have ef : [[49], t].flatten = [49] ++ t := by simp
  rw [ef] at h ⊢
  exact hk _ ((h.tail.thaw hle2).thaw hle1)

theorem Rds.three {q : Option Addr} {v v2 v3 : Value} {a a2 a3 : List UInt8} (hr : Rd B q [v, v2, v3]) (h1 : SlOf B v a) (h2 : SlOf B v2 a2) (h3 : SlOf B v3 a3) : Rds B q [v, v2, v3] [a, a2, a3] :=
  ⟨hr, rfl, fun i h h' => by match i, h with | 0, _ => exact h1 | 1, _ => exact h2 | 2, _ => exact h3⟩

theorem pair_ok {b wb : Nat} {V : Vt} {I : Id} {x y : List UInt8} (h : Sat B w (vlt b wb V :: idl wb I :: F)) (hx : x.length = 32) (hy : y.length = 32)
    (hI : I.made.length < 1152921504606846976)
    (hk : ∀ w', Sat B w' (vlt b wb V :: idl wb (I.hash ([50] ++ x ++ y)) :: F) → K (arr (I.dig ([50] ++ x ++ y))) w') :
    Cs P f_merkle_pair #[.pointer (at0 b), arr x, arr y] w K := by
  refine ok_merkle_pair _ _ _ ?_
  unfold vc_merkle_pair
  refine h.new fun b1 w' h => ?_
  refine h.new fun b2 w' h => ?_
  refine h.var zr_arr32 fun b0 w' h => ?_
  have ex : (arr x).cells.toList = bcells x := rfl
  have ey : (arr y).cells.toList = bcells y := rfl
  rw [ex, ey] at h
  intro w1 ha
  have h := h.alk ha
  have hf1 := Sat.freeze (h.pull 1)
  obtain ⟨B1, hB1⟩ : ∃ B1, B1 = B.and b2 (.cells (bcells y).toArray t_arr32_uint8 (0, 0)) := ⟨_, rfl⟩
  rw [← hB1] at hf1
  obtain ⟨h, hle1, hzy⟩ := hf1
  have hf2 := Sat.freeze (h.pull 1)
  obtain ⟨B2, hB2⟩ : ∃ B2, B2 = B1.and b1 (.cells (bcells x).toArray t_arr32_uint8 (0, 0)) := ⟨_, rfl⟩
  rw [← hB2] at hf2
  obtain ⟨h, hle2, hzx⟩ := hf2
  have hzy := hle2.z _ _ hzy
  have rx : Rd B2 (at0 b1) (bcells x) := Rd.ofBlock hzx (by rw [List.drop_zero, List.take_length]) (by omega)
  have ry : Rd B2 (at0 b2) (bcells y) := Rd.ofBlock hzy (by rw [List.drop_zero, List.take_length]) (by omega)
  refine ⟨_, _, _, arr_all un_arr32 sz_u8 (by omega), _, _, _, arr_all un_arr32 sz_u8 (by omega), ?_⟩
  refine h.build1 el_bytes rfl fun p1 w' h => ?_
  obtain ⟨B3, hle3, h, hr1, _⟩ := h.fix
  refine ⟨⟨arr_all un_arr32 sz_u8 (by omega), arr_all un_arr32 sz_u8 (by omega), trivial⟩, ?_⟩
  refine h.build3 el_pieces rfl rfl rfl fun p2 w' h => ?_
  obtain ⟨B4, hle4, h, hr2, _⟩ := h.fix
  have e50 : [Value.int .u8 50] = bcells [50] := rfl
  rw [e50] at hr1
  refine VHash_ok (ps := [[50], x, y]) ((h.pull 2).pull 2) (Rds.three hr2 (SlOf.mk (hr1.mono hle4) rfl) (SlOf.mk ((rx.mono hle3).mono hle4) hx.symm) (SlOf.mk ((ry.mono hle3).mono hle4) hy.symm)) rfl (by simp) (by simp only [List.flatten_cons, List.flatten_nil, List.length_append, List.length_nil, List.length_cons]; omega) hI fun w' h => ⟨_, rfl, ?_⟩
  have hl : (bcells (I.dig [[50], x, y].flatten)).length = 32 := by rw [bcells_length, dig_length]
  refine Sat.stA (n := 32) (h.pull 2) wd_arr32 hl (ones_bcells _) (by simp [bcells]) fun w' h => ⟨_, ldA (n := 32) wd_arr32 h.bk (by simp only [List.length_append, hl]; omega), ?_⟩
  have e : ((List.take 0 (bcells (List.replicate 32 0)) ++ bcells (I.dig [[50], x, y].flatten) ++ List.drop (0 + 32) (bcells (List.replicate 32 0))).drop 0).take 32 = bcells (I.dig [[50], x, y].flatten) := by
    simp only [List.take_zero, List.nil_append, List.drop_zero]
    exact List.take_left' hl
  rw [e]
  have ef : [[50], x, y].flatten = [50] ++ x ++ y := by simp
  rw [ef] at h ⊢
  exact hk _ ((((h.tail.thaw hle4).thaw hle3).thaw hle2).thaw hle1)

def lcells (ls : List (List UInt8)) : List Value := ls.flatMap bcells
theorem lcells_length {ls : List (List UInt8)} (h : ∀ x ∈ ls, x.length = 32) : (lcells ls).length = ls.length * 32 := by
  induction ls with
  | nil => rfl
  | cons x ls ih =>
    have h1 := h x (by simp)
    have h2 := ih fun y hy => h y (by simp [hy])
    simp only [lcells, List.flatMap_cons, List.length_append, bcells_length, List.length_cons] at h2 ⊢
    rw [h2, h1, Nat.add_mul]; omega
theorem lcells_split (ls : List (List UInt8)) (k : Nat) : lcells ls = lcells (ls.take k) ++ lcells (ls.drop k) := by
  simp only [lcells]
  rw [← List.flatMap_append, List.take_append_drop]

theorem Root_nil {b wb mc : Nat} {V : Vt} {I : Id} {q : Option Addr} (h : Sat B w (vlt b wb V :: idl wb I :: F)) (hI : I.made.length < 1152921504606846976)
    (hk : ∀ w', Sat B w' (vlt b wb V :: idl wb (I.hash [48]) :: F) → K (arr (I.dig [48])) w') : Cs P f_merkle_Root #[.pointer (at0 b), .slice q 0 mc] w K := by
  refine ok_merkle_Root _ _ _ _ ?_
  unfold vc_merkle_Root
  refine h.var zr_arr32 fun b0 w' h => ?_
  refine Br.t ?_
  refine h.build1 el_bytes rfl fun p1 w' h => ?_
  obtain ⟨B1, hle1, h, hr1, _⟩ := h.fix
  refine h.build1 el_pieces rfl fun p2 w' h => ?_
  obtain ⟨B2, hle2, h, hr2, _⟩ := h.fix
  have e48 : [Value.int .u8 48] = bcells [48] := rfl
  rw [e48] at hr1
  refine VHash_ok (ps := [[48]]) ((h.pull 2).pull 2) (Rds.one hr2 (SlOf.mk (hr1.mono hle2) rfl)) rfl (by simp) (by simp) (by omega) fun w' h => ⟨_, rfl, ?_⟩
  have hl : (bcells (I.dig [[48]].flatten)).length = 32 := by rw [bcells_length, dig_length]
  refine Sat.stA (n := 32) (h.pull 2) wd_arr32 hl (ones_bcells _) (by simp [bcells]) fun w' h => ⟨_, ldA (n := 32) wd_arr32 h.bk (by simp only [List.length_append, hl]; omega), ?_⟩
  have e : ((List.take 0 (bcells (List.replicate 32 0)) ++ bcells (I.dig [[48]].flatten) ++ List.drop (0 + 32) (bcells (List.replicate 32 0))).drop 0).take 32 = bcells (I.dig [[48]].flatten) := by
    simp only [List.take_zero, List.nil_append, List.drop_zero]
    exact List.take_left' hl
  rw [e]
  have ef : [[48]].flatten = ([48] : List UInt8) := by simp
  rw [ef] at h ⊢
  exact hk _ ((h.tail.thaw hle2).thaw hle1)

theorem Root_one {b wb mc : Nat} {V : Vt} {I : Id} {q : Option Addr} {x : List UInt8} (h : Sat B w (vlt b wb V :: idl wb I :: F)) (hx : x.length = 32) (hr : Rd B q (bcells x))
    (hk : ∀ w', Sat B w' (vlt b wb V :: idl wb I :: F) → K (arr x) w') : Cs P f_merkle_Root #[.pointer (at0 b), .slice q 1 mc] w K := by
  refine ok_merkle_Root _ _ _ _ ?_
  unfold vc_merkle_Root
  refine h.var zr_arr32 fun b0 w' h => ?_
  have hl : (bcells x).length = 32 := by rw [bcells_length, hx]
  refine Br.f (Br.t (hr.ix (j := 0) (by omega) (by omega) fun a hr' => ⟨_, hr'.ldA (n := 32) h wd_arr32 (by omega), ?_⟩))
  have e0 : ((bcells x).drop (0 * 32)).take 32 = bcells x := by rw [Nat.zero_mul, List.drop_zero, List.take_of_length_le (by omega)]
  rw [e0]
  refine Sat.stA (n := 32) h wd_arr32 hl (ones_bcells _) (by simp [bcells]) fun w' h => ⟨_, ldA (n := 32) wd_arr32 h.bk (by simp only [List.length_append, hl]; omega), ?_⟩
  have e : ((List.take 0 (bcells (List.replicate 32 0)) ++ bcells x ++ List.drop (0 + 32) (bcells (List.replicate 32 0))).drop 0).take 32 = bcells x := by
    simp only [List.take_zero, List.nil_append, List.drop_zero]
    exact List.take_left' hl
  rw [e]
  exact hk _ h.tail

theorem Root_ok : ∀ (f : Nat) {B : Bs} {w : World} {F : List HP} {K : Value → World → Prop} {b wb m mc : Nat} {V : Vt} {I : Id} {q : Option Addr} {ls : List (List UInt8)}, Sat B w (vlt b wb V :: idl wb I :: F) → Rd B q (lcells ls) → m = ls.length → m ≤ mc → ls.length ≤ f → (∀ x ∈ ls, x.length = 32) → ls.length ≤ 1000000 →
    I.made.length + ls.length < 1152921504606846976 →
    (∀ w', Sat B w' (vlt b wb V :: idl wb (rootF f I ls).1 :: F) → K (arr (rootF f I ls).2) w') →
    Cs P f_merkle_Root #[.pointer (at0 b), .slice q m mc] w K := by
  intro f
  induction f with
  | zero =>
    intro B w F K b wb m mc V I q ls h hr hm hmc hlf h32 hn hI hk
    have hnil : ls = [] := List.eq_nil_of_length_eq_zero (by omega)
    subst hnil hm
    exact Root_nil h (by omega) hk
  | succ f ih =>
    intro B w F K b wb m mc V I q ls h hr hm hmc hlf h32 hn hI hk
    subst hm
    match ls, hr, hmc, hlf, h32, hn, hI, hk with
    | [], hr, hmc, hlf, h32, hn, hI, hk => exact Root_nil h (by omega) hk
    | [x], hr, hmc, hlf, h32, hn, hI, hk => exact Root_one h (h32 x (by simp)) (by simpa [lcells] using hr) hk
    | x :: y :: l, hr, hmc, hlf, h32, hn, hI, hk =>
      have hl2 : 2 ≤ (x :: y :: l).length := by simp
      simp only [rootF] at hk
      generalize (x :: y :: l) = ls at *
      have hh := half_lt hl2
      generalize hkk : half ls.length = k at *
      refine ok_merkle_Root _ _ _ _ ?_
      unfold vc_merkle_Root
      refine h.var zr_arr32 fun b0 w' h => ?_
      have n0 : eqI (ls.length : Int) 0 = false := by simp only [eqI, beq_eq_false_iff_ne]; omega
      have n1 : eqI (ls.length : Int) 1 = false := by simp only [eqI, beq_eq_false_iff_ne]; omega
      rw [n0, n1]
      refine Br.f (Br.f (half_ok h hl2 hn fun w' h => ⟨_, rfl, fun w1 ha => ?_⟩))
      rw [hkk]
      have h := h.alk ha
      have hs := lcells_split ls k
      have hlt : (lcells (ls.take k)).length = k * 32 := by rw [lcells_length (fun x hx => h32 x (List.mem_of_mem_take hx)), List.length_take]; congr 1; omega
      rw [hs] at hr
      refine ⟨_, _, _, part_run el_arrs (bounds_h (by omega) (by omega)), _, _, _, part_run el_arrs (bounds_l (by omega) (by omega)), ?_⟩
      simp only [Int.toNat_natCast, Nat.sub_zero]
      refine ih (ls := ls.take k) (h.pull 1 |>.pull 2 |>.pull 1) (by have := hr.left (m := mc) (a := 0) rfl; simpa using this) (by simp; omega) (by omega) (by simp; omega) (fun x hx => h32 x (List.mem_of_mem_take hx)) (by simp; omega) (by simp; omega) fun w' h => ⟨_, rfl, ⟨part_run el_arrs (bounds_l (by omega) (by omega)), trivial⟩, ?_⟩
      have hm1 := rootF_made f I (ls.take k) (by simp; omega)
      have hla := rootF_length f I (ls.take k) (by simp; omega) (fun x hx => h32 x (List.mem_of_mem_take hx))
      generalize hra : rootF f I (ls.take k) = ra at *
      have hld : (ls.drop k).length = ls.length - k := List.length_drop
      have hlk : (ls.take k).length = k := by rw [List.length_take]; omega
      have hrr : Rd B (q.map (·.add (k * 32))) (lcells (ls.drop k)) := by
        have h1 := hr.right (m := 0) (a := 1) (a' := k * 32) hlt.symm (fun e => by omega)
        exact h1
      have hne : ¬ mc = k := by omega
      simp only [if_neg hne]
      refine ih (ls := ls.drop k) h hrr hld.symm (by omega) (by omega) (fun x hx => h32 x (List.mem_of_mem_drop hx)) (by omega) (by omega) fun w' h => ⟨_, rfl, ?_⟩
      have hm2 := rootF_made f ra.1 (ls.drop k) (by simp; omega)
      have hlb := rootF_length f ra.1 (ls.drop k) (by simp; omega) (fun x hx => h32 x (List.mem_of_mem_drop hx))
      generalize hrb : rootF f ra.1 (ls.drop k) = rb at *
      refine pair_ok h hla hlb (by simp only [List.length_take, List.length_drop] at hm1 hm2; omega) fun w' h => ⟨_, rfl, ?_⟩
      have hl : (bcells (rb.1.dig ([50] ++ ra.2 ++ rb.2))).length = 32 := by rw [bcells_length, dig_length]
      refine Sat.stA (n := 32) (h.pull 2) wd_arr32 hl (ones_bcells _) (by simp [bcells]) fun w' h => ⟨_, ldA (n := 32) wd_arr32 h.bk (by simp only [List.length_append, hl]; omega), ?_⟩
      have e : ((List.take 0 (bcells (List.replicate 32 0)) ++ bcells (rb.1.dig ([50] ++ ra.2 ++ rb.2)) ++ List.drop (0 + 32) (bcells (List.replicate 32 0))).drop 0).take 32 = bcells (rb.1.dig ([50] ++ ra.2 ++ rb.2)) := by
        simp only [List.take_zero, List.nil_append, List.drop_zero]
        exact List.take_left' hl
      rw [e]
      exact hk _ h.tail

end Go.Dv

/-! seg: Size, Sectors, Start, place, Key, Length -/
set_option maxRecDepth 20000
namespace Go.Dv
open Go Go.Sh Go.Sl

variable {B : Bs} {w : World} {F : List HP} {K : Value → World → Prop}

/-- A result's variable is set, and read. -/
theorem ret_arr {t b n : Nat} {t' : TypeId} {L X : List Value} (h : Sat B w (bk b t' L :: F)) (ht : wide P t = some n) (hX : X.length = n) (hL : L.length = n) (h1 : ones X) (hk : ∀ w', Sat B w' F → K (.agg X.toArray) w') :
    DoU P (storeVar t ⟨b, 0, none⟩ (.agg X.toArray)) w fun w' ↦ LdV P t ⟨b, 0, none⟩ w' fun v ↦ K v w' := by
  refine Sat.stA h ht hX h1 (by omega) fun w' h => ⟨_, ldA ht h.bk (by simp only [List.length_append, hX]; omega), ?_⟩
  have e : ((List.take 0 L ++ X ++ List.drop (0 + n) L).drop 0).take n = X := by
    simp only [List.take_zero, List.nil_append, List.drop_zero]
    exact List.take_left' hX
  rw [e]
  exact hk _ h.tail

/-- How many bytes a frame has; how many sectors. -/
def fsize (rs : List Rec) : Nat := 48 + sizes rs + 27 * rs.length
def fsect (rs : List Rec) : Nat := (fsize rs + 255) / 256

theorem SSize_ok {q : Option Addr} {m mc : Nat} {rs : List Rec} (h : Sat B w F) (hr : Rd B q (rs.flatMap Rec.cells)) (hm : m = rs.length) (hs : ∀ r ∈ rs, r.body.length ≤ 1048576) (hn : rs.length ≤ 1048576)
    (hk : ∀ w', Sat B w' F → K (.int .i64 (fsize rs)) w') : Cs P f_seg_Size #[.slice q m mc] w K := by
  subst hm
  refine ok_seg_Size _ _ _ ?_
  unfold vc_seg_Size
  refine RSize_ok h hr rfl hs hn fun w' h => ⟨_, rfl, ?_⟩
  have hsz := sizes_le hs
  have hsz2 : sizes rs ≤ 1048612 * 1048576 := Nat.le_trans hsz (Nat.mul_le_mul_left _ hn)
  rw [w64 (x := 48 + (sizes rs : Int)) (by omega) (by omega), w64 (x := 27 * (rs.length : Int)) (by omega) (by omega), w64 (by omega) (by omega)]
  have : (48 + (sizes rs : Int) + 27 * (rs.length : Int)) = (fsize rs : Int) := by simp [fsize]
  rw [this]
  exact hk _ h

theorem SSectors_ok {q : Option Addr} {m mc : Nat} {rs : List Rec} (h : Sat B w F) (hr : Rd B q (rs.flatMap Rec.cells)) (hm : m = rs.length) (hs : ∀ r ∈ rs, r.body.length ≤ 1048576) (hn : rs.length ≤ 1048576)
    (hk : ∀ w', Sat B w' F → K (.int .i64 (fsect rs)) w') : Cs P f_seg_Sectors #[.slice q m mc] w K := by
  refine ok_seg_Sectors _ _ _ ?_
  unfold vc_seg_Sectors
  refine SSize_ok h hr hm hs hn fun w' h => ⟨_, rfl, by simp [Nz], ?_⟩
  have hsz := sizes_le hs
  have hsz2 : sizes rs ≤ 1048612 * 1048576 := Nat.le_trans hsz (Nat.mul_le_mul_left _ hn)
  have hf : fsize rs ≤ 1048612 * 1048576 + 27 * 1048576 + 48 := by unfold fsize; omega
  rw [w64 (x := (fsize rs : Int) + 256) (by omega) (by omega), w64 (x := (fsize rs : Int) + 256 - 1) (by omega) (by omega)]
  have e : Int.tdiv ((fsize rs : Int) + 256 - 1) 256 = (fsect rs : Int) := by
    rw [Int.tdiv_eq_ediv_of_nonneg (by omega)]
    unfold fsect
    omega
  have hfs : fsect rs ≤ fsize rs + 255 := Nat.div_le_self _ _
  rw [e, w64 (by omega) (by omega)]
  exact hk _ h

def bEpoch : List UInt8 := [101, 112, 111, 99, 104]
def bQueue : List UInt8 := [113, 117, 101, 117, 101]
/-- What the head ahead of an epoch is made of; what a record's sealT knows; what a queue's key is made of. -/
def startT (e : Int) : List UInt8 := txt bEpoch ++ num8 e
def placeT (at_ : List UInt8) (i n : Int) : List UInt8 := at_ ++ num8 i ++ num8 n
def keyT (q : Int) : List UInt8 := keyText bQueue [q]

theorem Start_ok {b wb : Nat} {V : Vt} {I : Id} {e : Int} (h : Sat B w (vlt b wb V :: idl wb I :: F)) (hI : I.made.length < 1152921504606846976)
    (hk : ∀ w', Sat B w' (vlt b wb V :: idl wb (I.hash (startT e)) :: F) → K (arr (I.dig (startT e))) w') : Cs P f_seg_Start #[.pointer (at0 b), .int .i64 e] w K := by
  refine ok_seg_Start _ _ ?_
  unfold vc_seg_Start
  refine h.var zr_arr32 fun b0 w' h => ?_
  refine ⟨_, _, bld_run pt_Writer fill_nil, ?_⟩
  refine h.new fun bw w' h => ?_
  have h := newWriter h
  refine h.build1 el_strings rfl fun p1 w' h => ?_
  obtain ⟨B1, hle1, h, hr1, _⟩ := h.fix
  refine Text_ok (ts := [bEpoch]) (N := 0) h hr1 rfl (by simp [bEpoch]) (by simp) (by simp) fun w' h => ⟨rfl, ?_⟩
  refine h.build1 el_ints rfl fun p2 w' h => ?_
  obtain ⟨B2, hle2, h, hr2, _⟩ := h.fix
  refine Num_ok (ns := [e]) h hr2 rfl (by simp [txt_length, bEpoch]) fun w' h => ⟨rfl, ?_⟩
  have es : ([] ++ [bEpoch].flatMap txt ++ [e].flatMap num8) = startT e := by simp [startT]
  rw [es] at h
  have hsl : (startT e).length = 16 := by simp [startT, txt_length, num8_length, bEpoch]
  refine Bytes_ok h (by omega) fun p3 c3 w' h => ⟨_, _, _, rfl, ?_⟩
  obtain ⟨B3, hle3, h, hr3, _⟩ := h.fix
  refine h.build1 el_pieces rfl fun p4 w' h => ?_
  obtain ⟨B4, hle4, h, hr4, _⟩ := h.fix
  refine VHash_ok (ps := [startT e]) (((h.tail.pull 2).pull 2)) (Rds.one hr4 (SlOf.mk (hr3.mono hle4) rfl)) rfl (by simp) (by simp only [List.flatten_cons, List.flatten_nil, List.length_append, List.length_nil, hsl]; omega) hI fun w' h => ⟨_, rfl, ?_⟩
  have ef : [startT e].flatten = startT e := by simp
  rw [ef] at h ⊢
  refine ret_arr (h.pull 2) wd_arr32 (by rw [bcells_length, dig_length]) (by simp [bcells]) (ones_bcells _) fun w' h => ?_
  exact hk _ ((((h.thaw hle4).thaw hle3).thaw hle2).thaw hle1)

theorem place_ok {at_ : List UInt8} {i n : Int} (h : Sat B w F) (ha : at_.length = 32)
    (hk : ∀ p c w', Sat B w' (buf t_uint8 1 p 48 c (bcells (placeT at_ i n)) :: F) → K (.slice p 48 c) w') : Cs P f_seg_place #[arr at_, .int .i64 i, .int .i64 n] w K := by
  refine ok_seg_place _ _ _ ?_
  unfold vc_seg_place
  refine h.new fun b1 w' h => ?_
  have ex : (arr at_).cells.toList = bcells at_ := rfl
  rw [ex] at h
  refine ⟨_, _, bld_run pt_Writer fill_nil, ?_⟩
  refine h.new fun bw w' h => ?_
  have h := newWriter h
  have hf1 := Sat.freeze (h.pull 1)
  obtain ⟨B1, hB1⟩ : ∃ B1, B1 = B.and b1 (.cells (bcells at_).toArray t_arr32_uint8 (0, 0)) := ⟨_, rfl⟩
  rw [← hB1] at hf1
  obtain ⟨h, hle1, hz⟩ := hf1
  have ra : Rd B1 (at0 b1) (bcells at_) := Rd.ofBlock hz (by rw [List.drop_zero, List.take_length]) (by omega)
  refine ⟨_, _, _, _, arr_all un_arr32 sz_u8 (by omega), ?_⟩
  refine Byte_ok h ra ha.symm (by simp; omega) fun w' h => ⟨rfl, ?_⟩
  refine h.build2 el_ints rfl rfl fun p2 w' h => ?_
  obtain ⟨B2, hle2, h, hr2, _⟩ := h.fix
  refine Num_ok (ns := [i, n]) h hr2 rfl (by simp; omega) fun w' h => ⟨rfl, ?_⟩
  have es : ([] ++ at_ ++ [i, n].flatMap num8) = placeT at_ i n := by simp [placeT]
  rw [es] at h
  have hsl : (placeT at_ i n).length = 48 := by simp [placeT, num8_length, ha]
  refine Bytes_ok h (by omega) fun p3 c3 w' h => ⟨_, _, _, rfl, ?_⟩
  rw [hsl] at h ⊢
  exact hk _ _ _ (((h.thaw hle2).thaw hle1).pull 1).tail

theorem SKey_ok {b wb : Nat} {V : Vt} {I : Id} {q : Int} (h : Sat B w (vlt b wb V :: idl wb I :: F)) (hI : I.made.length < 1152921504606846976)
    (hk : ∀ w', Sat B w' (vlt b wb V :: idl wb (I.derive V.master (keyT q)) :: F) → K (arr (I.key V.master (keyT q))) w') : Cs P f_seg_Key #[.pointer (at0 b), .int .i64 q] w K := by
  refine ok_seg_Key _ _ ?_
  unfold vc_seg_Key
  refine h.var zr_Key fun b0 w' h => ?_
  refine h.build1 el_ints rfl fun p1 w' h => ?_
  obtain ⟨B1, hle1, h, hr1, _⟩ := h.fix
  refine VKey_ok (p := bQueue) (ns := [q]) ((h.pull 2).pull 2) (by simp [bQueue]) hr1 rfl (by simp) hI fun w' h => ⟨_, rfl, ?_⟩
  refine ret_arr (h.pull 2) wd_Key (by rw [bcells_length, Id.key, thg_length (by omega)]) (by simp [bcells]) (ones_bcells _) fun w' h => ?_
  exact hk _ (h.thaw hle1)

/-- How many bytes the frame has that bytes begin with. -/
def flen (bs : List UInt8) : Int := if 8 ≤ bs.length ∧ 48 ≤ num (bs.take 8) ∧ num (bs.take 8) ≤ 16384 ∧ num (bs.take 8) ≤ bs.length then num (bs.take 8) else 0

theorem Length_ok {q : Option Addr} {m mc : Nat} {bs : List UInt8} (h : Sat B w F) (hr : Rd B q (bcells bs)) (hm : m = bs.length) (hb : bs.length ≤ 140737488355328) (hk : ∀ w', Sat B w' F → K (.int .i64 (flen bs)) w') :
    Cs P f_seg_Length #[.slice q m mc] w K := by
  subst hm
  refine ok_seg_Length _ _ _ ?_
  unfold vc_seg_Length
  refine Read_ok h hr rfl hb fun B' br w' hle h => ⟨_, rfl, ?_⟩
  refine In_ok h (fun _ h8 hlo hhi w' h => ⟨_, rfl, Br.gt (fun hgt => ?_) fun hle2 => ?_⟩) fun hf w' h => ⟨_, rfl, Br.gt (fun hgt => by omega) fun hle2 => ?_⟩
  · have e : flen bs = 0 := by unfold flen; rw [if_neg (by omega)]
    rw [← e]; exact hk _ (h.tail.thaw hle)
  · have e : flen bs = num (bs.take 8) := by unfold flen; rw [if_pos (by omega)]
    rw [← e]; exact hk _ (h.tail.thaw hle)
  · have e : flen bs = 0 := by
      unfold flen
      rw [if_neg]
      rintro ⟨a, b, c, d⟩
      rcases hf with hf | hf | hf | hf
      · cases hf
      · omega
      · omega
      · omega
    rw [← e]; exact hk _ (h.tail.thaw hle)

end Go.Dv

/-! seg.Split -/
set_option maxRecDepth 20000
namespace Go.Dv
open Go Go.Sh Go.Sl

theorem el_recs : El P t_sl_api_Record t_api_Record 6 56 := El.of (by kernel_rfl)
theorem el_rows : El P t_sl_sl_api_Record t_sl_api_Record 1 24 := El.of (by kernel_rfl)
theorem sc_recs : scal P t_sl_api_Record = true := by kernel_rfl

variable {B : Bs} {w : World} {F : List HP} {K : Value → World → Prop}

def rcells (rs : List Rec) : List Value := rs.flatMap Rec.cells
theorem rcells_length (rs : List Rec) : (rcells rs).length = rs.length * 6 := flat_length Rec.cells_length rs

/-- A slice of records, as a value. -/
def RsOf (B : Bs) (v : Value) (rs : List Rec) : Prop := ∃ p c, v = .slice p rs.length c ∧ rs.length ≤ c ∧ Rd B p (rcells rs)
theorem RsOf.mono {B B' : Bs} (hle : B.le B') {v : Value} {rs : List Rec} (h : RsOf B v rs) : RsOf B' v rs := let ⟨p, c, e, hc, hr⟩ := h; ⟨p, c, e, hc, hr.mono hle⟩

/-- A row of slices of records. -/
structure Rows (B : Bs) (vs : List Value) (ps : List (List Rec)) : Prop where
  len : vs.length = ps.length
  each : ∀ i (h : i < ps.length) (h' : i < vs.length), RsOf B vs[i] ps[i]

theorem Rows.snoc {vs : List Value} {ps : List (List Rec)} {v : Value} {p : List Rec} (h : Rows B vs ps) (hv : RsOf B v p) : Rows B (vs ++ [v]) (ps ++ [p]) := by
  refine ⟨by simp [h.len], fun i h1 h2 => ?_⟩
  by_cases hi : i < ps.length
  · rw [List.getElem_append_left hi, List.getElem_append_left (by rw [h.len]; exact hi)]
    exact h.each i hi _
  · have : i = ps.length := by simp at h1; omega
    subst this
    have e1 : (vs ++ [v])[ps.length] = v := by simp [← h.len]
    have e2 : (ps ++ [p])[ps.length] = p := by simp
    rw [e1, e2]
    exact hv

/-- A part of a slice of records. -/
theorem RsOf.part {q : Option Addr} {rs : List Rec} {a b : Nat} (hr : Rd B q (rcells rs)) (hab : a ≤ b) (hb : b ≤ rs.length) :
    RsOf B (.slice (if b = a then q else q.map (·.add (a * 6))) (b - a) (b - a)) ((rs.take b).drop a) := by
  have hl : ((rs.take b).drop a).length = b - a := by simp; omega
  refine ⟨_, b - a, by rw [hl], by omega, ?_⟩
  have e : rcells ((rs.take b).drop a) = ((rcells rs).drop (a * 6)).take ((b - a) * 6) := by
    have h1 : rcells rs = rcells (rs.take a) ++ (rcells ((rs.take b).drop a) ++ rcells (rs.drop b)) := by
      simp only [rcells]
      rw [← List.flatMap_append, ← List.flatMap_append]
      congr 1
      have h2 : rs.take a = (rs.take b).take a := by rw [List.take_take, Nat.min_eq_left hab]
      rw [h2, ← List.append_assoc, List.take_append_drop, List.take_append_drop]
    have h3 : (rcells (rs.take a)).length = a * 6 := by rw [rcells_length]; simp; omega
    have h4 : (rcells ((rs.take b).drop a)).length = (b - a) * 6 := by rw [rcells_length, hl]
    rw [h1, List.drop_left' h3, List.take_left' h4]
  rw [e]
  split
  · rename_i h0
    rw [h0, Nat.sub_self, Nat.zero_mul]
    exact .inl (by simp)
  · refine hr.sub (a * 6) ((b - a) * 6) ?_
    rw [rcells_length]; omega

/-- Records in lists: those that are done, and the one at hand. -/
def splitStep (st : List (List Rec) × List Rec) (r : Rec) : List (List Rec) × List Rec :=
  if st.2 ≠ [] ∧ 16384 < fsize st.2 + (36 + r.body.length + 27) then (st.1 ++ [st.2], [r]) else (st.1, st.2 ++ [r])
def splitEnd (st : List (List Rec) × List Rec) : List (List Rec) := if st.2 = [] then st.1 else st.1 ++ [st.2]
def split (rs : List Rec) : List (List Rec) := splitEnd (rs.foldl splitStep ([], []))

theorem foldl_take {α β : Type} (f : β → α → β) (b : β) (l : List α) (i : Nat) (h : i < l.length) : (l.take (i + 1)).foldl f b = f ((l.take i).foldl f b) l[i] := by
  have : l.take (i + 1) = l.take i ++ [l[i]] := by rw [List.take_add_one, List.getElem?_eq_getElem h]; rfl
  rw [this, List.foldl_append]; rfl

theorem fsize_snoc (rs : List Rec) (r : Rec) : fsize (rs ++ [r]) = fsize rs + (36 + r.body.length + 27) := by
  simp [fsize, sizes]; omega

theorem cur_drop {rs : List Rec} {i : Nat} (hi : i ≤ rs.length) : ∀ {st : List (List Rec) × List Rec}, st = (rs.take i).foldl splitStep ([], []) → st.2.length ≤ i ∧ (rs.take i).drop (i - st.2.length) = st.2 := by
  induction i with
  | zero => intro st h; simp at h; subst h; simp
  | succ i ih =>
    intro st h
    have hlt : i < rs.length := by omega
    rw [foldl_take _ _ _ _ hlt] at h
    obtain ⟨h1, h2⟩ := ih (by omega) rfl
    generalize (rs.take i).foldl splitStep ([], []) = s0 at *
    have ht : rs.take (i + 1) = rs.take i ++ [rs[i]] := by rw [List.take_add_one, List.getElem?_eq_getElem hlt]; rfl
    have hli : (rs.take i).length = i := by simp; omega
    unfold splitStep at h
    split at h
    · subst h
      simp only [List.length_cons, List.length_nil]
      refine ⟨by omega, ?_⟩
      rw [ht, show i + 1 - (0 + 1) = i by omega, List.drop_left' hli]
    · subst h
      simp only [List.length_append, List.length_cons, List.length_nil]
      refine ⟨by omega, ?_⟩
      rw [ht, show i + 1 - (s0.2.length + (0 + 1)) = i - s0.2.length by omega, List.drop_append_of_le_length (by omega), h2]

theorem cur_small {rs : List Rec} (hs : ∀ r ∈ rs, r.body.length ≤ 1048576) {i : Nat} (hi : i ≤ rs.length) {st : List (List Rec) × List Rec} (h : st = (rs.take i).foldl splitStep ([], [])) : fsize st.2 ≤ 48 + 1048639 * rs.length := by
  obtain ⟨h1, h2⟩ := cur_drop hi h
  have hsz : sizes st.2 ≤ (36 + 1048576) * st.2.length := sizes_le fun r hr => hs r (by
    rw [← h2] at hr
    exact List.mem_of_mem_take (List.mem_of_mem_drop hr))
  unfold fsize
  omega

theorem Split_ok {q : Option Addr} {m mc : Nat} {rs : List Rec} (h : Sat B w F) (hr : Rd B q (rcells rs)) (hm : m = rs.length) (hc : rs.length ≤ mc) (hs : ∀ r ∈ rs, r.body.length ≤ 1048576) (hn : rs.length ≤ 1048576)
    (hk : ∀ p c vs w', Sat B w' (buf t_sl_api_Record 1 p (split rs).length c vs :: F) → Rows B vs (split rs) → K (.slice p (split rs).length c) w') : Cs P f_seg_Split #[.slice q m mc] w K := by
  subst hm
  refine ok_seg_Split _ _ _ ?_
  unfold vc_seg_Split
  refine Lp.up rs.length (fun i vs w => ∃ p c rows, vs = [.slice p ((rs.take i).foldl splitStep ([], [])).1.length c, .int .i64 ((i - ((rs.take i).foldl splitStep ([], [])).2.length : Nat) : Int), .int .i64 (fsize ((rs.take i).foldl splitStep ([], [])).2), .int .i64 i] ∧
    Sat B w (buf t_sl_api_Record 1 p ((rs.take i).foldl splitStep ([], [])).1.length c rows :: F) ∧ Rows B rows ((rs.take i).foldl splitStep ([], [])).1 ∧ ((rs.take i).foldl splitStep ([], [])).1.length ≤ i) ⟨none, 0, [], by simp [fsize, sizes], by simpa using h.buf0, ⟨rfl, fun i h => absurd h (by simp)⟩, by simp⟩ fun I nx cs => ?_
  intro p0 l0 l1 n0 n1 n2 l2 w0 hI
  obtain ⟨i, hi, rfl, p, c, rows, hv, h, hrows, hol⟩ := cs _ _ _ hI
  have hst := foldl_take splitStep ([], []) rs i
  have hcd := cur_drop hi rfl
  have hcs := cur_small hs hi rfl
  generalize hS : (rs.take i).foldl splitStep ([], []) = S at *
  obtain ⟨⟨rfl, rfl, rfl⟩, rfl, rfl, rfl⟩ : (p0 = p ∧ l0 = S.1.length ∧ l1 = c) ∧ n0 = ((i - S.2.length : Nat) : Int) ∧ n1 = (fsize S.2 : Int) ∧ n2 = (i : Int) := by simpa using hv
  have hmc := hc
  have addRow : ∀ {b : Nat} {w : World} {G : Option Addr → Nat → Nat → World → Prop}, Sat B w (buf t_sl_api_Record 1 p0 S.1.length l1 rows :: F) → S.2 ≠ [] → b = i →
      (∀ p' c' rows' w', Sat B w' (buf t_sl_api_Record 1 p' (S.1 ++ [S.2]).length c' rows' :: F) → Rows B rows' (S.1 ++ [S.2]) → G p' (S.1 ++ [S.2]).length c' w') →
      DoL P (Instr.sliceAt t_sl_api_Record (.slice q rs.length mc) (some (.int .i64 ((i - S.2.length : Nat) : Int))) (some (.int .i64 (b : Int))) (some (.int .i64 (b : Int)))) w fun p2 l5 l6 w6 ↦
        DoL P (Instr.buildSlice t_sl_sl_api_Record 1 #[(0, .slice p2 l5 l6)]) w6 fun p3 l7 l8 w7 ↦
          DoL P (Builtin.append_ #[t_sl_sl_api_Record, t_sl_sl_api_Record] t_sl_sl_api_Record #[.slice p0 S.1.length l1, .slice p3 l7 l8]) w7 fun p4 l9 l10 w8 ↦ G p4 l9 l10 w8 := by
    intro b w G h hne hb hG
    subst hb
    refine DoL.part el_recs (bounds_lhm (by omega) (by omega) (by omega) (by omega)) ?_
    simp only [Int.toNat_natCast]
    have hpart := RsOf.part (a := b - S.2.length) (b := b) hr (by omega) hi
    rw [hcd.2] at hpart
    refine h.build1 el_rows rfl fun p3 w' h => ?_
    obtain ⟨B1, hle1, h, hr1, _⟩ := h.fix
    refine Sat.append h el_rows hr1 rfl (by intro v hv; simp only [List.mem_singleton] at hv; subst hv; rfl) (by omega) fun p' c' w' h => ?_
    have := hG p' c' _ w' (by simpa using h.thaw hle1) (hrows.snoc hpart)
    simpa using this
  refine Br.lt (fun hlt => ?_) (fun hge => ?_)
  · have hlt : i < rs.length := by omega
    have hst := hst hlt
    have hbi := hs rs[i] (List.getElem_mem hlt)
    refine hr.ix hlt (by rw [rcells_length]; omega) fun a hr' => ⟨_, ld_rec h hr' hlt, ?_⟩
    refine h.var zr_Record fun b1 w' h => ?_
    refine Sat.stA (n := 6) (vs := rs[i].cells) h wd_Record rfl (ones_Rec _) (by simp) fun w' h => ⟨_, ldA (n := 6) (L := rs[i].cells) wd_Record h.bk (by simp [Rec.cells]), ?_⟩
    refine h.buildOne (L := rs[i].cells) el_recs (by omega) rfl rfl fun p1 w' h => ?_
    obtain ⟨B1, hle1, h, hr1, _⟩ := h.fix
    refine RSize_ok (rs := [rs[i]]) h (by simpa using hr1) rfl (by simpa using hbi) (by simp) fun w' h => ⟨_, rfl, ?_⟩
    have h := (h.thaw hle1).tail
    have esz : (sizes [rs[i]] : Int) = 36 + rs[i].body.length := by simp [sizes]
    have e1 : IntKind.i64.wrap ((sizes [rs[i]] : Int) + 27) = 36 + rs[i].body.length + 27 := by rw [esz, w64 (by omega) (by omega)]
    have e2 : IntKind.i64.wrap ((fsize S.2 : Int) + (36 + rs[i].body.length + 27)) = fsize S.2 + (36 + rs[i].body.length + 27) := w64 (by omega) (by omega)
    rw [e1, e2]
    have next : ∀ (c : Bool), (c = true ↔ S.2 ≠ [] ∧ 16384 < fsize S.2 + (36 + rs[i].body.length + 27)) → Jn
                                    (fun K3 ↦
                                      Br c
                                        (DoL P (Instr.sliceAt t_sl_api_Record (.slice q rs.length mc) (some (.int .i64 ((i - S.2.length : Nat) : Int))) (some (.int .i64 (i : Int))) (some (.int .i64 (i : Int)))) w' fun p2 l5 l6 w6 ↦
                                          DoL P (Instr.buildSlice t_sl_sl_api_Record 1 #[(0, .slice p2 l5 l6)]) w6 fun p3 l7 l8 w7 ↦
                                            DoL P (Builtin.append_ #[t_sl_sl_api_Record, t_sl_sl_api_Record] t_sl_sl_api_Record #[.slice p0 S.1.length l1, .slice p3 l7 l8]) w7 fun p4 l9 l10 w8 ↦ K3 [.slice p4 l9 l10, .int .i64 (i : Int), .int .i64 48] w8)
                                        (K3 [.slice p0 S.1.length l1, .int .i64 ((i - S.2.length : Nat) : Int), .int .i64 (fsize S.2 : Int)] w'))
                                    fun K4 ↦
                                    ∀ (p5 : Option Addr) (l11 l12 : Nat) (n4 n5 : Int) (w9 : World),
                                      K4 [.slice p5 l11 l12, .int .i64 n4, .int .i64 n5] w9 → Nx I (rs.length - i) [.slice p5 l11 l12, .int .i64 n4, .int .i64 (IntKind.i64.wrap (n5 + (36 + rs[i].body.length + 27))), .int .i64 (IntKind.i64.wrap ((i : Int) + 1))] w9 := by
      intro c hc
      refine Jn.by (fun vs w => ∃ p' c' rows' n5, vs = [.slice p' (splitStep S rs[i]).1.length c', .int .i64 ((i + 1 - (splitStep S rs[i]).2.length : Nat) : Int), .int .i64 n5] ∧ n5 + (36 + rs[i].body.length + 27) = fsize (splitStep S rs[i]).2 ∧ Sat B w (buf t_sl_api_Record 1 p' (splitStep S rs[i]).1.length c' rows' :: F) ∧ Rows B rows' (splitStep S rs[i]).1 ∧ (splitStep S rs[i]).1.length ≤ i + 1) ?_ ?_
      · cases c with
        | true =>
          have hcc := hc.1 rfl
          have es : splitStep S rs[i] = (S.1 ++ [S.2], [rs[i]]) := by unfold splitStep; rw [if_pos hcc]
          refine Br.t (addRow h hcc.1 rfl fun p' c' rows' w' h hrows => ?_)
          rw [es]
          refine ⟨p', c', rows', 48, by simp, by simp [fsize, sizes]; omega, h, hrows, by simp; omega⟩
        | false =>
          have hcc : ¬ (S.2 ≠ [] ∧ 16384 < fsize S.2 + (36 + rs[i].body.length + 27)) := fun hx => by have := hc.2 hx; cases this
          have es : splitStep S rs[i] = (S.1, S.2 ++ [rs[i]]) := by unfold splitStep; rw [if_neg hcc]
          refine Br.f ?_
          rw [es]
          refine ⟨p0, l1, rows, (fsize S.2 : Int), ?_, ?_, h, hrows, by simp only; omega⟩
          · simp only [List.length_append, List.length_cons, List.length_nil]
            congr 3
            omega
          · rw [fsize_snoc]; omega
      · rintro p5 l11 l12 n4 n5 w9 ⟨p', c', rows', n5', hv, hn5, h, hrows, hle⟩
        obtain ⟨⟨rfl, rfl, rfl⟩, rfl, rfl⟩ : (p5 = p' ∧ l11 = (splitStep S rs[i]).1.length ∧ l12 = c') ∧ n4 = ((i + 1 - (splitStep S rs[i]).2.length : Nat) : Int) ∧ n5 = n5' := by simpa using hv
        have hcs2 := cur_small hs (show i + 1 ≤ rs.length by omega) rfl
        rw [hst] at hcs2
        refine nx i _ _ _ hlt rfl ⟨p5, l12, rows', ?_, ?_⟩
        · rw [hst, hn5, w64 (x := (fsize (splitStep S rs[i]).2 : Int)) (by omega) (by omega), w64 (x := (i : Int) + 1) (by omega) (by omega)]
          rfl
        · rw [hst]; exact ⟨h, hrows, hle⟩
    refine Jn.dupB (Br.gt (fun hgt => ⟨_, rfl, next _ ?_⟩) fun hle => ⟨_, rfl, next _ ?_⟩)
    · simp only [gtI, decide_eq_true_eq]
      constructor
      · intro hx; refine ⟨fun e => ?_, by omega⟩
        rw [e] at hgt; simp at hgt
      · intro hx; omega
    · constructor
      · intro hx; cases hx
      · rintro ⟨hx, _⟩
        have : 0 < S.2.length := List.length_pos_iff.2 hx
        omega
  · have hin : i = rs.length := by omega
    have hsp : split rs = splitEnd S := by unfold split; rw [← hS, hin, List.take_length]
    refine Jn.by (fun vs w => ∃ p' c' rows', vs = [.slice p' (split rs).length c'] ∧ Sat B w (buf t_sl_api_Record 1 p' (split rs).length c' rows' :: F) ∧ Rows B rows' (split rs)) ?_ ?_
    · refine Br.lt (fun hlt2 => ?_) fun hge2 => ?_
      · have hne : S.2 ≠ [] := fun e => by rw [e] at hlt2; simp at hlt2; omega
        refine addRow h hne hin.symm fun p' c' rows' w' h hrows => ⟨p', c', rows', ?_⟩
        rw [hsp, splitEnd, if_neg hne]
        exact ⟨rfl, h, hrows⟩
      · have he : S.2 = [] := by
          refine List.eq_nil_of_length_eq_zero ?_
          omega
        rw [hsp, splitEnd, if_pos he]
        exact ⟨p0, l1, rows, rfl, h, hrows⟩
    · rintro p9 l19 l20 w13 ⟨p', c', rows', hv, h, hrows⟩
      obtain ⟨rfl, rfl, rfl⟩ : p9 = p' ∧ l19 = (split rs).length ∧ l20 = c' := by simpa using hv
      exact hk _ _ _ _ h hrows

end Go.Dv

/-! seg.Pack -/
set_option maxRecDepth 20000
namespace Go.Dv
open Go Go.Sh Go.Sl

variable {B : Bs} {w : World} {F : List HP} {K : Value → World → Prop}

/-- A frame under way. -/
structure Pk where
  I : Id
  V : Vt
  body : List UInt8
  leaves : List (List UInt8)

/-- One record's sealed bytes. -/
def sealB (I : Id) (m at_ : List UInt8) (e s : Int) (n i : Nat) (r : Rec) : List UInt8 :=
  (I.derive m (keyT r.queue)).sealed (I.key m (keyT r.queue)) (nonceB e (s + i)) (placeT at_ i n) r.bytes
def sealI (I : Id) (m at_ : List UInt8) (e s : Int) (n i : Nat) (r : Rec) : Id :=
  (I.derive m (keyT r.queue)).sealT (I.key m (keyT r.queue)) (nonceB e (s + i)) (placeT at_ i n) r.bytes

def Pk.step (at_ : List UInt8) (e s : Int) (n : Nat) (st : Pk) (x : Rec × Nat) : Pk :=
  { I := (sealI st.I st.V.master at_ e s n x.2 x.1).leaf (sealB st.I st.V.master at_ e s n x.2 x.1)
    V := st.V.use (st.I.key st.V.master (keyT x.1.queue) ++ nonceB e (s + x.2)) x.1.bytes
    body := st.body ++ num8 x.1.queue ++ txt (sealB st.I st.V.master at_ e s n x.2 x.1)
    leaves := st.leaves ++ [(sealI st.I st.V.master at_ e s n x.2 x.1).leafD (sealB st.I st.V.master at_ e s n x.2 x.1)] }
def packF (I : Id) (V : Vt) (at_ : List UInt8) (e s : Int) (n : Nat) (rs : List Rec) : Pk := rs.zipIdx.foldl (Pk.step at_ e s n) ⟨I, V, [], []⟩

theorem packF_take {I : Id} {V : Vt} {at_ : List UInt8} {e s : Int} {n : Nat} {rs : List Rec} {i : Nat} (h : i < rs.length) :
    packF I V at_ e s n (rs.take (i + 1)) = (packF I V at_ e s n (rs.take i)).step at_ e s n (rs[i], i) := by
  have ht : rs.take (i + 1) = rs.take i ++ [rs[i]] := by rw [List.take_add_one, List.getElem?_eq_getElem h]; rfl
  have hl : (rs.take i).length = i := by simp; omega
  unfold packF
  rw [ht, List.zipIdx_append, List.foldl_append, hl]
  simp

theorem sealB_length (I : Id) (m at_ : List UInt8) (e s : Int) (n i : Nat) (r : Rec) : (sealB I m at_ e s n i r).length = r.bytes.length + 16 := thg_length (by omega)

theorem packF_facts {I : Id} {V : Vt} {at_ : List UInt8} {e s : Int} {n : Nat} {rs : List Rec} : ∀ {i : Nat}, i ≤ rs.length →
    (packF I V at_ e s n (rs.take i)).body.length = sizes (rs.take i) + 27 * i ∧ (packF I V at_ e s n (rs.take i)).leaves.length = i ∧ (∀ x ∈ (packF I V at_ e s n (rs.take i)).leaves, x.length = 32) ∧
    (packF I V at_ e s n (rs.take i)).V.limit = V.limit ∧ (packF I V at_ e s n (rs.take i)).V.master = V.master ∧ (packF I V at_ e s n (rs.take i)).I.made.length ≤ I.made.length + 3 * i
  | 0, _ => by simp [packF, sizes]
  | i + 1, h => by
    have hlt : i < rs.length := h
    obtain ⟨h1, h2, h3, h4, h5, h6⟩ := packF_facts (I := I) (V := V) (at_ := at_) (e := e) (s := s) (n := n) (rs := rs) (i := i) (by omega)
    rw [packF_take hlt, sizes_take hlt]
    generalize packF I V at_ e s n (rs.take i) = S at *
    refine ⟨?_, ?_, ?_, h4, h5, ?_⟩
    · simp only [Pk.step, List.length_append, num8_length, txt_length, sealB_length, Rec.bytes_length]; omega
    · simp [Pk.step, h2]
    · intro x hx
      simp only [Pk.step, List.mem_append, List.mem_singleton] at hx
      rcases hx with hx | rfl
      · exact h3 x hx
      · exact dig_length _ _
    · simp only [Pk.step, Id.leaf, Id.hash]
      have a := Id.put_le (sealI S.I S.V.master at_ e s n i rs[i]) (nm 72 [[49] ++ sealB S.I S.V.master at_ e s n i rs[i]])
      have b : (sealI S.I S.V.master at_ e s n i rs[i]).made.length ≤ (S.I.derive S.V.master (keyT rs[i].queue)).made.length + 1 := Id.put_le _ _
      have c := Id.put_le S.I (nm 68 [S.V.master, keyT rs[i].queue])
      simp only [Id.derive] at b
      omega

end Go.Dv

/-! seg.Pack -/
set_option maxRecDepth 20000
namespace Go.Dv
open Go Go.Sh Go.Sl

variable {B : Bs} {w : World} {F : List HP} {K : Value → World → Prop}

/-- A frame, and what its making leaves. -/
def frameB (S : Pk) (n : Nat) : List UInt8 := num8 (S.body.length + 48) ++ num8 n ++ S.body ++ (rootF S.leaves.length S.I S.leaves).2
def packI (I : Id) (V : Vt) (at_ : List UInt8) (e s : Int) (rs : List Rec) : Id := (rootF rs.length (packF I V at_ e s rs.length rs).I (packF I V at_ e s rs.length rs).leaves).1
def packB (I : Id) (V : Vt) (at_ : List UInt8) (e s : Int) (rs : List Rec) : List UInt8 :=
  num8 ((packF I V at_ e s rs.length rs).body.length + 48) ++ num8 rs.length ++ (packF I V at_ e s rs.length rs).body ++ (rootF rs.length (packF I V at_ e s rs.length rs).I (packF I V at_ e s rs.length rs).leaves).2
def packV (I : Id) (V : Vt) (at_ : List UInt8) (e s : Int) (rs : List Rec) : Vt := (packF I V at_ e s rs.length rs).V

theorem may_limit {V V' : Vt} (h : V'.limit = V.limit) (e s : Int) : V'.may e s = V.may e s := by simp [Vt.may, h]

theorem key_length (I : Id) (k t : List UInt8) : (I.key k t).length = 32 := thg_length (by omega)
theorem placeT_length {at_ : List UInt8} (h : at_.length = 32) (i n : Int) : (placeT at_ i n).length = 48 := by simp [placeT, num8_length, h]

theorem Pack_ok {b wb m mc : Nat} {V : Vt} {I : Id} {e s : Int} {at_ : List UInt8} {q : Option Addr} {rs : List Rec} (h : Sat B w (vlt b wb V :: idl wb I :: F)) (G : Gl B) (hat : at_.length = 32) (hr : Rd B q (rcells rs)) (hm : m = rs.length)
    (hne : rs ≠ []) (hg : ∀ r ∈ rs, r.good = true) (hsz : fsize rs ≤ 16384) (hmay : ∀ i : Nat, i < rs.length → V.may e (s + i) = 0) (hs0 : 0 ≤ s) (hs1 : s < 4611686018427387904) (hI : I.made.length < 1000000000000000000)
    (hk : ∀ p c w', Sat B w' (buf t_uint8 1 p (fsize rs) c (bcells (packB I V at_ e s rs)) :: vlt b wb (packV I V at_ e s rs) :: idl wb ((packI I V at_ e s rs).hash (at_ ++ packB I V at_ e s rs)) :: F) → K (.tuple #[.slice p (fsize rs) c, arr ((packI I V at_ e s rs).dig (at_ ++ packB I V at_ e s rs)), .int .i64 0]) w') :
    Cs P f_seg_Pack #[.pointer (at0 b), .int .i64 e, .int .i64 s, arr at_, .slice q m mc] w K := by
  subst hm
  have hlen : rs.length ≤ 16384 := by unfold fsize at hsz; omega
  have hl1 : 1 ≤ rs.length := by cases rs with | nil => exact absurd rfl hne | cons _ _ => simp
  refine ok_seg_Pack _ _ _ _ _ _ _ ?_
  unfold vc_seg_Pack
  refine h.new fun a0 w' h => ?_
  have ex : (arr at_).cells.toList = bcells at_ := rfl
  rw [ex] at h
  have hf1 := Sat.freeze h
  obtain ⟨B1, hB1⟩ : ∃ B1, B1 = B.and a0 (.cells (bcells at_).toArray t_arr32_uint8 (0, 0)) := ⟨_, rfl⟩
  rw [← hB1] at hf1
  obtain ⟨h, hle1, hz⟩ := hf1
  have hbl : (bcells at_).length = 32 := by rw [bcells_length, hat]
  have lat : ∀ {w' F'}, Sat B1 w' F' → (loadVar t_arr32_uint8 ⟨a0, 0, none⟩).run P w' = .ok (arr at_) w' := fun h => by
    have := ldA (P := P) (n := 32) (off := 0) wd_arr32 (h.z hz) (by omega)
    rw [List.drop_zero, List.take_of_length_le (by omega)] at this
    exact this
  have rat : Rd B1 (at0 a0) (bcells at_) := Rd.ofBlock hz (by rw [List.drop_zero, List.take_length]) (by omega)
  refine h.var zr_arr32 fun a1 w' h => ?_
  have n0 : eqI (rs.length : Int) 0 = false := by simp only [eqI, beq_eq_false_iff_ne]; omega
  rw [n0]
  refine Br.f ⟨_, _, bld_run pt_Writer fill_nil, ?_⟩
  refine h.new fun bw w' h => ?_
  have h := newWriter h
  have hG := G.mono hle1
  have hr1 := hr.mono hle1
  refine Lp.up rs.length (fun i vs w => ∃ p c, vs = [.slice p i c, .int .i64 i] ∧ Sat B1 w (buf t_arr32_uint8 32 p i c (lcells (packF I V at_ e s rs.length (rs.take i)).leaves) :: wr bw (packF I V at_ e s rs.length (rs.take i)).body :: vlt b wb (packF I V at_ e s rs.length (rs.take i)).V :: idl wb (packF I V at_ e s rs.length (rs.take i)).I :: bk a1 t_arr32_uint8 (bcells (List.replicate 32 0)) :: F)) ⟨none, 0, rfl, ?_⟩ fun J nx cs => ?_
  · exact (((h.pull 3).pull 3).pull 2).buf0
  intro p0 l0 l1 n1 l2 w6 hJ
  obtain ⟨i, hi, rfl, p, c, hv, h⟩ := cs _ _ _ hJ
  obtain ⟨⟨rfl, rfl, rfl⟩, rfl⟩ : (p0 = p ∧ l0 = i ∧ l1 = c) ∧ n1 = (i : Int) := by simpa using hv
  obtain ⟨f1, f2, f3, f4, f5, f6⟩ := packF_facts (I := I) (V := V) (at_ := at_) (e := e) (s := s) (n := rs.length) hi
  refine Br.lt (fun hlt => ?_) (fun hge => ?_)
  · have hlt : l0 < rs.length := by omega
    have hst := packF_take (I := I) (V := V) (at_ := at_) (e := e) (s := s) (n := rs.length) hlt
    have hgi := hg rs[l0] (List.getElem_mem hlt)
    have hgs := good_spans hgi
    have hsum : sizes (rs.take l0) + (36 + rs[l0].body.length) + 27 * (l0 + 1) + 48 ≤ 16384 := by
      have h1 := sizes_take hlt
      have h2 : sizes (rs.take (l0 + 1)) + sizes (rs.drop (l0 + 1)) = sizes rs := by
        simp only [sizes]
        rw [← List.sum_append, ← List.map_append, List.take_append_drop]
      unfold fsize at hsz
      omega
    generalize hS : packF I V at_ e s rs.length (rs.take l0) = S at *
    refine hr1.ix hlt (by rw [rcells_length]; omega) fun a hr' => ⟨_, ld_rec h hr' hlt, ?_⟩
    refine h.var zr_Record fun b1 w' h => ?_
    refine Sat.stA (n := 6) (vs := rs[l0].cells) h wd_Record rfl (ones_Rec _) (by simp) fun w' h => ⟨_, ldA (n := 6) (L := rs[l0].cells) wd_Record h.bk (by simp [Rec.cells]), ?_⟩
    refine Put_ok (r := rs[l0]) h hG (fun _ p1 c1 w' h => ⟨_, _, _, _, rfl, Br.f ?_⟩) fun hb => by rw [hgi] at hb; cases hb
    obtain ⟨B2, hle2, h, hr2, _⟩ := h.fix
    refine Bytes_ok (h.pull 2) (by omega) fun p2 c2 w' h => ⟨_, _, _, rfl, ?_⟩
    have h := h.tail
    have hbl := rs[l0].bytes_length
    have e1 : gtI (IntKind.i64.wrap (IntKind.i64.wrap (IntKind.i64.wrap ((S.body.length : Int) + (rs[l0].bytes.length : Int)) + 27) + 48)) 16384 = false := by
      rw [w64 (x := (S.body.length : Int) + (rs[l0].bytes.length : Int)) (by omega) (by omega), w64 (x := (S.body.length : Int) + (rs[l0].bytes.length : Int) + 27) (by omega) (by omega), w64 (by omega) (by omega)]
      simp only [gtI, decide_eq_false_iff_not]; omega
    rw [e1]
    refine Br.f fun w2 ha => ?_
    have h := h.alk ha
    have lat2 : ∀ {B' w' F'}, B2.le B' → Sat B' w' F' → (loadVar t_arr32_uint8 ⟨a0, 0, none⟩).run P w' = .ok (arr at_) w' := fun hle h => lat (Sat.thaw (hle2.trans hle) h)
    refine ⟨_, ld1 (L := rs[l0].cells) sc_int (h.pull 1).bk rfl, _, lat2 (Bs.le.refl _) h, ?_⟩
    refine SKey_ok ((h.pull 4).pull 4) (by omega) fun w' h => ⟨_, rfl, ⟨lat2 (Bs.le.refl _) h, trivial⟩, ?_⟩
    rw [f5] at h ⊢
    refine place_ok h hat fun p3 c3 w' h => ⟨_, _, _, rfl, ?_⟩
    obtain ⟨B3, hle3, h, hr3, _⟩ := h.fix
    refine h.build1 el_pieces rfl fun p4 w' h => ?_
    obtain ⟨B4, hle4, h, hr4, _⟩ := h.fix
    rw [w64 (x := s + (l0 : Int)) (by omega) (by omega)]
    have hpl := placeT_length hat (l0 : Int) (rs.length : Int)
    refine VSeal_ok (ps := [placeT at_ l0 rs.length]) h (key_length _ _ _) ((hr2.mono hle3).mono hle4) rfl (Rds.one hr4 (SlOf.mk (hr3.mono hle4) hpl.symm)) rfl (by simp) (by omega) (by simp only [List.flatten_cons, List.flatten_nil, List.length_append, List.length_nil, hpl]; omega) (by
      have := Id.put_le S.I (nm 68 [V.master, keyT rs[l0].queue])
      simp only [Id.derive]; omega) (fun _ p5 w' h => ⟨_, _, _, _, rfl, Br.f ?_⟩) fun hx => absurd ((may_limit f4 _ _).trans (hmay l0 hlt)) hx
    have efl : [placeT at_ (l0 : Int) (rs.length : Int)].flatten = placeT at_ l0 rs.length := by simp
    rw [efl] at h
    obtain ⟨B5, hle5, h, hr5, _⟩ := h.fix
    refine ⟨_, ld1 (L := rs[l0].cells) sc_int (h.pull 3).bk rfl, ?_⟩
    refine h.build1 el_ints rfl fun p6 w' h => ?_
    obtain ⟨B6, hle6, h, hr6, _⟩ := h.fix
    refine Num_ok (ns := [rs[l0].queue]) (h.pull 2) hr6 rfl (by simp; omega) fun w' h => ⟨rfl, ?_⟩
    have hsl : (sealB S.I V.master at_ e s rs.length l0 rs[l0]).length = rs[l0].bytes.length + 16 := sealB_length _ _ _ _ _ _ _ _
    have eB : (S.I.derive V.master (keyT rs[l0].queue)).sealed (S.I.key V.master (keyT rs[l0].queue)) (nonceB e (s + l0)) (placeT at_ l0 rs.length) rs[l0].bytes = sealB S.I V.master at_ e s rs.length l0 rs[l0] := rfl
    have eI : (S.I.derive V.master (keyT rs[l0].queue)).sealT (S.I.key V.master (keyT rs[l0].queue)) (nonceB e (s + l0)) (placeT at_ l0 rs.length) rs[l0].bytes = sealI S.I V.master at_ e s rs.length l0 rs[l0] := rfl
    rw [eI] at h
    rw [eB] at hr5
    refine Rd.string h (hr5.mono hle6) (by rw [hsl]) un_bytes un_u8 un_string ?_
    refine h.build1 el_strings rfl fun p7 w' h => ?_
    obtain ⟨B7, hle7, h, hr7, _⟩ := h.fix
    refine Text_ok (ts := [sealB S.I V.master at_ e s rs.length l0 rs[l0]]) (N := 16384) h hr7 rfl (by simp [hsl]; omega) (by simp [num8_length]; omega) (by simp) fun w' h => ⟨rfl, ?_⟩
    refine Leaf_ok ((h.pull 2).pull 2) ((hr5.mono hle6).mono hle7) (by rw [hsl]) (by rw [hsl]; omega) (by
      have a1 : (sealI S.I V.master at_ e s rs.length l0 rs[l0]).made.length ≤ (S.I.derive V.master (keyT rs[l0].queue)).made.length + 1 := Id.put_le _ _
      have a2 := Id.put_le S.I (nm 68 [V.master, keyT rs[l0].queue])
      simp only [Id.derive] at a1; omega) fun w' h => ⟨_, rfl, ?_⟩
    refine h.buildOne (L := bcells _) el_arrs (by omega) rfl (by rw [bcells_length]; exact dig_length _ _) fun p8 w' h => ?_
    obtain ⟨B8, hle8, h, hr8, _⟩ := h.fix
    refine Sat.append (h.pull 4) el_arrs hr8 (by rw [bcells_length]; exact dig_length _ _) (ones_bcells _) (by omega) fun p9 c9 w' h => ?_
    refine nx l0 _ _ _ hlt rfl ⟨p9, c9, ?_, ?_⟩
    · rw [w64 (by omega) (by omega)]; rfl
    · have h := ((((h.pull 4).tail).pull 3).pull 1)
      have hle18 := ((((((hle2.trans hle3).trans hle4).trans hle5).trans hle6).trans hle7).trans hle8)
      rw [hst]
      have h := Sat.thaw hle18 h
      have el : lcells (S.step at_ e s rs.length (rs[l0], l0)).leaves = lcells S.leaves ++ bcells ((sealI S.I V.master at_ e s rs.length l0 rs[l0]).leafD (sealB S.I V.master at_ e s rs.length l0 rs[l0])) := by
        simp [Pk.step, lcells, f5]
      rw [el]
      have eb : (S.step at_ e s rs.length (rs[l0], l0)).body = S.body ++ [rs[l0].queue].flatMap num8 ++ [sealB S.I V.master at_ e s rs.length l0 rs[l0]].flatMap txt := by simp [Pk.step, f5]
      rw [eb]
      have ev : (S.step at_ e s rs.length (rs[l0], l0)).V = S.V.use (S.I.key V.master (keyT rs[l0].queue) ++ nonceB e (s + l0)) rs[l0].bytes := by simp [Pk.step, f5]
      rw [ev]
      have ei : (S.step at_ e s rs.length (rs[l0], l0)).I = (sealI S.I V.master at_ e s rs.length l0 rs[l0]).leaf (sealB S.I V.master at_ e s rs.length l0 rs[l0]) := by simp [Pk.step, f5]
      rw [ei]
      exact h
  · have hin : l0 = rs.length := by omega
    subst hin
    rw [List.take_length] at h f1 f2 f3 f4 f5 f6
    have hplen : ∀ y : Pk, packF I V at_ e s rs.length rs = y → packB I V at_ e s rs = num8 (y.body.length + 48) ++ num8 rs.length ++ y.body ++ (rootF rs.length y.I y.leaves).2 := fun y hy => by rw [← hy]; rfl
    have hpI : ∀ y : Pk, packF I V at_ e s rs.length rs = y → packI I V at_ e s rs = (rootF rs.length y.I y.leaves).1 := fun y hy => by rw [← hy]; rfl
    have hpV : ∀ y : Pk, packF I V at_ e s rs.length rs = y → packV I V at_ e s rs = y.V := fun y hy => by rw [← hy]; rfl
    generalize hS : packF I V at_ e s rs.length rs = S at *
    have hplen := hplen S rfl
    have hpI := hpI S rfl
    have hpV := hpV S rfl
    have hfs : fsize rs = S.body.length + 48 := by unfold fsize; omega
    have hlc : rs.length ≤ l1 := by
      rcases h.bufCases with ⟨_, h1, h2, _⟩ | ⟨_, _, _, h1, _⟩
      · omega
      · exact h1
    obtain ⟨B2, hle2, h, hr2, _⟩ := h.fix
    refine Root_ok rs.length ((h.pull 2).pull 2) hr2 f2.symm hlc (by omega) f3 (by omega) (by omega) fun w' h => ⟨_, rfl, ?_⟩
    have hrl := rootF_length rs.length S.I S.leaves (by omega) f3
    have hrm := rootF_made rs.length S.I S.leaves (by omega)
    generalize hRt : rootF rs.length S.I S.leaves = rt at *
    have hbr : (bcells rt.2).length = 32 := by rw [bcells_length, hrl]
    refine h.var zr_arr32 fun a5 w' h => ?_
    refine Sat.stA (n := 32) h wd_arr32 hbr (ones_bcells _) (by simp [bcells]) fun w' h => ?_
    have e32 : List.take 0 (bcells (List.replicate 32 0)) ++ bcells rt.2 ++ List.drop (0 + 32) (bcells (List.replicate 32 0)) = bcells rt.2 := by
      rw [List.drop_eq_nil_iff.2 (by simp [bcells_length])]; simp
    rw [e32] at h
    obtain ⟨B3, hle3, h, hz5, _⟩ := h.lendBk
    have r5 : Rd B3 (at0 a5) (bcells rt.2) := Rd.ofBlock hz5 (by rw [List.drop_zero, List.take_length]) (by omega)
    refine ⟨_, _, bld_run pt_Writer fill_nil, ?_⟩
    refine h.new fun b6 w' h => ?_
    have h := newWriter h
    refine Bytes_ok (h.pull 3) (by omega) fun p2 c2 w' h => ⟨_, _, _, rfl, ?_⟩
    have h := h.tail
    refine h.build2 el_ints rfl rfl fun p3 w' h => ?_
    obtain ⟨B4, hle4, h, hr4, _⟩ := h.fix
    rw [w64 (x := (S.body.length : Int) + 48) (by omega) (by omega)] at hr4
    refine Num_ok (ns := [(S.body.length : Int) + 48, (rs.length : Int)]) (h.pull 1) hr4 rfl (by simp) fun w' h => ⟨rfl, ?_⟩
    refine Bytes_ok (h.pull 1) (by omega) fun p4 c4 w' h => ⟨_, _, _, rfl, ?_⟩
    obtain ⟨B5, hle5, h, hr5, _⟩ := h.fix
    refine Byte_ok (h.pull 1) hr5 rfl (by simp [num8_length]; omega) fun w' h => ⟨rfl, ?_⟩
    refine ⟨_, _, _, _, arr_all un_arr32 sz_u8 (by omega), ?_⟩
    refine Byte_ok h ((r5.mono hle4).mono hle5) hrl.symm (by simp [num8_length]; omega) fun w' h => ⟨rfl, fun w1 ha => ?_⟩
    have h := h.alk ha
    have eF : [] ++ [(S.body.length : Int) + 48, (rs.length : Int)].flatMap num8 ++ S.body ++ rt.2 = packB I V at_ e s rs := by rw [hplen]; simp
    rw [eF] at h
    have hpl : (packB I V at_ e s rs).length = fsize rs := by rw [hplen]; simp only [List.length_append, num8_length, hrl]; omega
    refine ⟨_, _, _, arr_all un_arr32 sz_u8 (by omega), ?_⟩
    refine Bytes_ok h (by omega) fun p6 c6 w' h => ⟨_, _, _, rfl, ⟨arr_all un_arr32 sz_u8 (by omega), trivial⟩, ?_⟩
    refine Bytes_ok (h.pull 1) (by omega) fun p7 c7 w' h => ⟨_, _, _, rfl, ⟨arr_all un_arr32 sz_u8 (by omega), trivial⟩, ?_⟩
    obtain ⟨B6, hle6, h, hr6, _⟩ := h.fix
    refine h.build2 el_pieces rfl rfl fun p8 w' h => ?_
    obtain ⟨B7, hle7, h, hr7, _⟩ := h.fix
    have hle27 := ((((hle2.trans hle3).trans hle4).trans hle5).trans hle6).trans hle7
    have h := (h.pull 4).pull 4
    refine VHash_ok (ps := [at_, packB I V at_ e s rs]) h (Rds.two hr7 (SlOf.mk (rat.mono hle27) hat.symm) (SlOf.mk (hr6.mono hle7) rfl)) rfl (by simp) (by simp only [List.flatten_cons, List.flatten_nil, List.length_append, List.length_nil, hpl, hat]; omega) (by omega) fun w' h => ⟨_, rfl, ?_⟩
    have ef : [at_, packB I V at_ e s rs].flatten = at_ ++ packB I V at_ e s rs := by simp
    rw [ef] at h ⊢
    refine ret_arr (K := fun v w => K (.tuple #[.slice p6 (packB I V at_ e s rs).length c6, v, .int .i64 0]) w) (h.pull 5) wd_arr32 (by rw [bcells_length, dig_length]) (by simp [bcells]) (ones_bcells _) fun w' h => ?_
    rw [← hpI, ← hpV] at h
    rw [← hpI, hpl]
    rw [hpl] at h
    have h := Sat.thaw (hle1.trans hle27) h
    exact hk _ _ _ ((((h.pull 4).tail.pull 2).tail.pull 2))

end Go.Dv

/-! seg.Unpack, its plain side -/
set_option maxRecDepth 20000
namespace Go.Dv
open Go Go.Sh Go.Sl

open Classical in
/-- The record of bytes. -/
noncomputable def recOf (x : List UInt8) : Option Rec := if h : ∃ r : Rec, r.good = true ∧ r.bytes = x then some h.choose else none
theorem recOf_some {x : List UInt8} {r : Rec} (h : recOf x = some r) : r.good = true ∧ r.bytes = x := by
  unfold recOf at h
  split at h
  · rename_i h0
    cases h
    exact h0.choose_spec
  · cases h
theorem recOf_bytes {r : Rec} (h : r.good = true) : ∃ r', recOf r.bytes = some r' ∧ r'.good = true ∧ r'.bytes = r.bytes := by
  have h0 : ∃ r' : Rec, r'.good = true ∧ r'.bytes = r.bytes := ⟨r, h, rfl⟩
  refine ⟨h0.choose, ?_, h0.choose_spec⟩
  unfold recOf
  rw [dif_pos h0]

/-- The text behind a name. -/
def Id.text (I : Id) (s : List UInt8) : Option (List UInt8) := (I.texts.find? fun p => decide (p.1 = s)).map (·.2)
theorem find_mem {l : List (List UInt8 × List UInt8)} {s x : List UInt8} (hn : (l.map (·.1)).Nodup) (h : (s, x) ∈ l) : (l.find? fun p => decide (p.1 = s)) = some (s, x) := by
  induction l with
  | nil => cases h
  | cons p l ih =>
    rw [List.map_cons, List.nodup_cons] at hn
    rcases List.mem_cons.1 h with rfl | h
    · simp
    · have hne : p.1 ≠ s := fun e => hn.1 (e ▸ List.mem_map.2 ⟨(s, x), h, rfl⟩)
      rw [List.find?_cons_of_neg (by simpa using hne)]
      exact ih hn.2 h
theorem Id.text_mem {I : Id} {s x : List UInt8} (hn : (I.texts.map (·.1)).Nodup) (h : (s, x) ∈ I.texts) : I.text s = some x := by
  simp [Id.text, find_mem hn h]
theorem Id.text_none {I : Id} {s : List UInt8} (h : ∀ x, (s, x) ∉ I.texts) : I.text s = none := by
  simp only [Id.text, Option.map_eq_none_iff, List.find?_eq_none]
  rintro ⟨a, b⟩ hp he
  simp only [decide_eq_true_eq] at he
  subst he
  exact h _ hp
theorem Id.mem_text {I : Id} {s x : List UInt8} (h : I.text s = some x) : (s, x) ∈ I.texts := by
  simp only [Id.text, Option.map_eq_some_iff] at h
  obtain ⟨⟨a, b⟩, h1, rfl⟩ := h
  have h2 := List.find?_some h1
  simp only [decide_eq_true_eq] at h2
  subst h2
  exact List.mem_of_find?_eq_some h1

/-- A frame that is being unpacked. -/
structure Up where
  I : Id
  rest : List UInt8
  bad : Bool
  list : List Rec
  leaves : List (List UInt8)

noncomputable def upRec (V : Vt) (e s : Int) (at_ : List UInt8) (n : Int) (i : Nat) (u : Up) (q : Int) (t rest : List UInt8) : Up × Int :=
  if V.may e (s + i) ≠ 0 then ({ u with I := u.I.derive V.master (keyT q) }, V.may e (s + i))
  else match (u.I.derive V.master (keyT q)).text (nm 83 [u.I.key V.master (keyT q), nonceB e (s + i), placeT at_ i n, t]) with
    | none => ({ u with I := u.I.derive V.master (keyT q) }, 9)
    | some x => match recOf x with
      | none => ({ u with I := u.I.derive V.master (keyT q) }, 4)
      | some r => if r.queue ≠ q then ({ u with I := u.I.derive V.master (keyT q) }, 4)
        else (⟨(u.I.derive V.master (keyT q)).leaf t, rest, false, u.list ++ [r], u.leaves ++ [(u.I.derive V.master (keyT q)).leafD t]⟩, 0)

/-- A queue's number, and a text's bytes, ahead of what is left. -/
def upAt (rest : List UInt8) : Option (Int × List UInt8 × List UInt8) :=
  if 8 ≤ rest.length ∧ 0 ≤ num (rest.take 8) ∧ num (rest.take 8) ≤ 16 ∧ 3 ≤ (rest.drop 8).length ∧ le ((rest.drop 8).take 3) ≤ 16384 ∧ le ((rest.drop 8).take 3) ≤ ((rest.drop 8).drop 3).length then
    some (num (rest.take 8), ((rest.drop 8).drop 3).take (le ((rest.drop 8).take 3)).toNat, ((rest.drop 8).drop 3).drop (le ((rest.drop 8).take 3)).toNat)
  else none

noncomputable def upStep (V : Vt) (e s : Int) (at_ : List UInt8) (n : Int) (i : Nat) (u : Up) : Up × Int :=
  match upAt u.rest with
  | some x => upRec V e s at_ n i u x.1 x.2.1 x.2.2
  | none => ({ u with rest := [], bad := true }, 0)

noncomputable def upF (V : Vt) (e s : Int) (at_ : List UInt8) (n : Int) : Nat → Nat → Up → Up × Int
  | 0, _, u => (u, 0)
  | k + 1, i, u => if u.bad then (u, 0) else if (upStep V e s at_ n i u).2 ≠ 0 then upStep V e s at_ n i u else upF V e s at_ n k (i + 1) (upStep V e s at_ n i u).1

/-- What is behind a frame's records. -/
noncomputable def upEnd (at_ bs : List UInt8) (u : Up × Int) : Id × (Int ⊕ (List Rec × List UInt8)) :=
  if u.2 ≠ 0 then (u.1.I, .inl u.2)
  else if u.1.bad = false ∧ u.1.rest = (rootF u.1.leaves.length u.1.I u.1.leaves).2 then
    ((rootF u.1.leaves.length u.1.I u.1.leaves).1.hash (at_ ++ bs), .inr (u.1.list, (rootF u.1.leaves.length u.1.I u.1.leaves).1.dig (at_ ++ bs)))
  else ((rootF u.1.leaves.length u.1.I u.1.leaves).1, .inl 4)

noncomputable def upGo (I : Id) (V : Vt) (e s : Int) (at_ b1 : List UInt8) : Up × Int :=
  if 8 ≤ b1.length ∧ 1 ≤ num (b1.take 8) ∧ num (b1.take 8) ≤ 260 then upF V e s at_ (num (b1.take 8)) (num (b1.take 8)).toNat 0 ⟨I, b1.drop 8, false, [], []⟩
  else (⟨I, [], true, [], []⟩, 0)

/-- The records of a frame, and the head behind it. -/
noncomputable def unpackF (I : Id) (V : Vt) (e s : Int) (at_ bs : List UInt8) : Id × (Int ⊕ (List Rec × List UInt8)) :=
  if bs = [] ∨ flen bs ≠ bs.length then (I, .inl 4) else upEnd at_ bs (upGo I V e s at_ (bs.drop 8))

theorem upRec_made {V : Vt} {e s : Int} {at_ : List UInt8} {n : Int} {i : Nat} {u : Up} {q : Int} {t rest : List UInt8} :
    (upRec V e s at_ n i u q t rest).1.I.made.length ≤ u.I.made.length + 2 ∧ (upRec V e s at_ n i u q t rest).1.I.texts = u.I.texts ∧ (upRec V e s at_ n i u q t rest).1.leaves.length ≤ u.leaves.length + 1 ∧
    ((∀ x ∈ u.leaves, x.length = 32) → ∀ x ∈ (upRec V e s at_ n i u q t rest).1.leaves, x.length = 32) := by
  have a := Id.put_le u.I (nm 68 [V.master, keyT q])
  have b := Id.put_le (u.I.derive V.master (keyT q)) (nm 72 [[49] ++ t])
  have tx : ∀ (I : Id) s, (I.put s).texts = I.texts := fun I s => by unfold Id.put; split <;> rfl
  have c : (u.I.derive V.master (keyT q)).made.length ≤ u.I.made.length + 1 := a
  have d : ((u.I.derive V.master (keyT q)).leaf t).made.length ≤ (u.I.derive V.master (keyT q)).made.length + 1 := b
  have f : (u.I.derive V.master (keyT q)).texts = u.I.texts := tx _ _
  have g : ((u.I.derive V.master (keyT q)).leaf t).texts = u.I.texts := (tx _ _).trans f
  unfold upRec
  repeat' split
  all_goals try dsimp only
  all_goals refine ⟨by omega, by first | exact f | exact g, by simp, ?_⟩
  all_goals intro h32 x hx
  all_goals first
    | exact h32 x hx
    | (simp only [List.mem_append, List.mem_singleton] at hx
       rcases hx with hx | rfl
       · exact h32 x hx
       · exact dig_length _ _)

end Go.Dv

/-! readers: either way -/
set_option maxRecDepth 20000
namespace Go.Dv
open Go Go.Sh Go.Sl

variable {B : Bs} {w : World} {F : List HP} {K : Value → World → Prop}

theorem In_any {b : Nat} {rest : List UInt8} {bad : Bool} {lo hi : Int} (h : Sat B w (rdr B b rest bad :: F))
    (hk : ∀ n rest' bad', ((bad = false ∧ 8 ≤ rest.length ∧ lo ≤ num (rest.take 8) ∧ num (rest.take 8) ≤ hi) ∧ n = num (rest.take 8) ∧ rest' = rest.drop 8 ∧ bad' = false) ∨
      ((bad = true ∨ rest.length < 8 ∨ num (rest.take 8) < lo ∨ hi < num (rest.take 8)) ∧ n = 0 ∧ rest' = [] ∧ bad' = true) → ∀ w', Sat B w' (rdr B b rest' bad' :: F) → K (.int .i64 n) w') :
    Cs P f_code_Reader_In #[.pointer (at0 b), .int .i64 lo, .int .i64 hi] w K :=
  In_ok h (fun h1 h2 h3 h4 w' h => hk _ _ _ (.inl ⟨⟨h1, h2, h3, h4⟩, rfl, rfl, rfl⟩) w' h) fun hf w' h => hk _ _ _ (.inr ⟨hf, rfl, rfl, rfl⟩) w' h

theorem RText_any {b : Nat} {rest : List UInt8} {bad : Bool} {most : Int} (h : Sat B w (rdr B b rest bad :: F))
    (hk : ∀ t rest' bad', ((bad = false ∧ 3 ≤ rest.length ∧ le (rest.take 3) ≤ mnI most 65536 ∧ le (rest.take 3) ≤ (rest.drop 3).length) ∧ t = (rest.drop 3).take (le (rest.take 3)).toNat ∧ rest' = (rest.drop 3).drop (le (rest.take 3)).toNat ∧ bad' = false) ∨
      ((bad = true ∨ rest.length < 3 ∨ mnI most 65536 < le (rest.take 3) ∨ (rest.drop 3).length < le (rest.take 3)) ∧ t = [] ∧ rest' = [] ∧ bad' = true) → ∀ w', Sat B w' (rdr B b rest' bad' :: F) → K (.string (str t)) w') :
    Cs P f_code_Reader_Text #[.pointer (at0 b), .int .i64 most] w K :=
  RText_ok h (fun h1 h2 h3 h4 w' h => hk _ _ _ (.inl ⟨⟨h1, h2, h3, h4⟩, rfl, rfl, rfl⟩) w' h) fun hf w' h => hk _ _ _ (.inr ⟨hf, rfl, rfl, rfl⟩) w' h

theorem Take_any {b : Nat} {rest : List UInt8} {bad : Bool} {n : Nat} (h : Sat B w (rdr B b rest bad :: F)) (hn : n < 9223372036854775808)
    (hk : ∀ t rest' bad' p c, ((bad = false ∧ n ≤ rest.length) ∧ t = rest.take n ∧ rest' = rest.drop n ∧ bad' = false) ∨ ((bad = true ∨ rest.length < n) ∧ t = [] ∧ rest' = [] ∧ bad' = true) →
      ∀ w', Rd B p (bcells t) → Sat B w' (rdr B b rest' bad' :: F) → K (.tuple #[.slice p t.length c, .bool (!bad')]) w') :
    Cs P f_code_Reader_Take #[.pointer (at0 b), .int .i64 (n : Int)] w K := by
  refine Take_ok h (by omega) (fun h1 _ h3 p w' hr h => ?_) fun hf w' h => ?_
  · rw [Int.toNat_natCast] at h hr ⊢
    have := hk (rest.take n) (rest.drop n) false p n (.inl ⟨⟨h1, by omega⟩, rfl, rfl, rfl⟩) w' hr h
    rw [List.length_take, Nat.min_eq_left (by omega)] at this
    exact this
  · refine hk [] [] true none 0 (.inr ⟨?_, rfl, rfl, rfl⟩) w' (.inl rfl) h
    rcases hf with hf | hf | hf
    · exact .inl hf
    · omega
    · right; omega

theorem b_zero32 : (Instr.build t_arr32_uint8 #[]).run P w = .ok (arr (List.replicate 32 0)) w := bldA_run un_arr32 zr_arr32 sz_u8

/-- Noughts are the result. -/
theorem ret_zero {b : Nat} {L : List Value} (h : Sat B w (bk b t_arr32_uint8 L :: F)) (hL : L.length = 32) (hk : ∀ w', Sat B w' F → K (arr (List.replicate 32 0)) w') :
    DoV P (Instr.build t_arr32_uint8 #[]) w fun v w' ↦ DoU P (storeVar t_arr32_uint8 ⟨b, 0, none⟩ v) w' fun w'' ↦ LdV P t_arr32_uint8 ⟨b, 0, none⟩ w'' fun v' ↦ K v' w'' :=
  ⟨_, _, b_zero32, ret_arr h wd_arr32 (by simp [bcells]) hL (ones_bcells _) hk⟩

theorem eq_str (a b : List UInt8) : (!eqS (str a) (str b)) = decide (a ≠ b) := by
  rw [eqS_str]; by_cases h : a = b <;> simp [h]

end Go.Dv

/-! seg.Unpack -/
set_option maxRecDepth 20000
namespace Go.Dv
open Go Go.Sh Go.Sl

variable {B : Bs} {w : World} {F : List HP} {K : Value → World → Prop}

/-- All texts are records'. -/
def Id.recs (I : Id) : Prop := ∀ x ∈ I.texts, ∃ r : Rec, r.good = true ∧ r.bytes = x.2

theorem put_texts (I : Id) (s : List UInt8) : (I.put s).texts = I.texts := by unfold Id.put; split <;> rfl

theorem upF_bad {V : Vt} {e s : Int} {at_ : List UInt8} {n : Int} {k i : Nat} {u : Up} (h : u.bad = true) : upF V e s at_ n k i u = (u, 0) := by
  cases k with
  | zero => rfl
  | succ k => simp [upF, h]

theorem Unpack_ok {b wb m mc : Nat} {V : Vt} {I : Id} {e s : Int} {at_ bs : List UInt8} {q : Option Addr} (h : Sat B w (vlt b wb V :: idl wb I :: F)) (G : Gl B) (hat : at_.length = 32) (hr : Rd B q (bcells bs)) (hm : m = bs.length) (hbl : bs.length ≤ 16777216)
    (hT : I.recs) (hs0 : 0 ≤ s) (hs1 : s < 4611686018427387904) (hI : I.made.length < 1000000000000000000)
    (hk1 : ∀ list hd I', unpackF I V e s at_ bs = (I', .inr (list, hd)) → ∀ p c w', Sat B w' (buf t_api_Record 6 p list.length c (rcells list) :: vlt b wb V :: idl wb I' :: F) → K (.tuple #[.slice p list.length c, arr hd, .int .i64 0]) w')
    (hk2 : ∀ x I', unpackF I V e s at_ bs = (I', .inl x) → x ≠ 0 → ∀ w', Sat B w' (vlt b wb V :: idl wb I' :: F) → K (.tuple #[.slice none 0 0, arr (List.replicate 32 0), .int .i64 x]) w') :
    Cs P f_seg_Unpack #[.pointer (at0 b), .int .i64 e, .int .i64 s, arr at_, .slice q m mc] w K := by
  subst hm
  refine ok_seg_Unpack _ _ _ _ _ _ _ ?_
  unfold vc_seg_Unpack
  refine h.new fun a0 w' h => ?_
  have ex : (arr at_).cells.toList = bcells at_ := rfl
  rw [ex] at h
  obtain ⟨B1, hle1, h, hz, _⟩ := h.lendBk
  have hbl0 : (bcells at_).length = 32 := by rw [bcells_length, hat]
  have lat : ∀ {B' w' F'}, B1.le B' → Sat B' w' F' → (loadVar t_arr32_uint8 ⟨a0, 0, none⟩).run P w' = .ok (arr at_) w' := fun hle h => by
    have := ldA (P := P) (n := 32) (off := 0) wd_arr32 (h.z (hle.z _ _ hz)) (by omega)
    rw [List.drop_zero, List.take_of_length_le (by omega)] at this
    exact this
  have rat : Rd B1 (at0 a0) (bcells at_) := Rd.ofBlock hz (by rw [List.drop_zero, List.take_length]) (by omega)
  have hG := G.mono hle1
  have hr1 := hr.mono hle1
  refine h.var zr_arr32 fun a1 w' h => ?_
  have hl1 : (bcells (List.replicate 32 0)).length = 32 := by simp [bcells]
  have err : ∀ {B' w' x I'}, B1.le B' → Sat B' w' (bk a1 t_arr32_uint8 (bcells (List.replicate 32 0)) :: vlt b wb V :: idl wb I' :: F) → unpackF I V e s at_ bs = (I', .inl x) → x ≠ 0 →
      DoV P (Instr.build t_arr32_uint8 #[]) w' fun v w'' ↦ DoU P (storeVar t_arr32_uint8 ⟨a1, 0, none⟩ v) w'' fun w3 ↦ LdV P t_arr32_uint8 ⟨a1, 0, none⟩ w3 fun v' ↦ K (.tuple #[.slice none 0 0, v', .int .i64 x]) w3 :=
    fun {B' w' x I'} hle h hu hx => ret_zero (K := fun v w => K (.tuple #[.slice none 0 0, v, .int .i64 x]) w) h hl1 fun w' h => hk2 _ _ hu hx w' ((h.thaw hle).thaw hle1)
  refine Jn.dupB (Br.eq (fun e0 => ⟨_, rfl, Br.t ?_⟩) fun n0 => Length_ok h hr1 rfl (by omega) fun w' h => ⟨_, rfl, _, rfl, Br.ne (fun hne => ?_) fun hfl => ?_⟩)
  · have hnil : bs = [] := List.eq_nil_of_length_eq_zero (by omega)
    exact err (Bs.le.refl _) h (by simp [unpackF, hnil]) (by omega)
  · exact err (Bs.le.refl _) h (by simp [unpackF, hne]) (by omega)
  have hnn : bs ≠ [] := fun e' => n0 (by rw [e']; rfl)
  have h48 : 48 ≤ bs.length := by
    unfold flen at hfl
    split at hfl <;> omega
  have hu0 : unpackF I V e s at_ bs = upEnd at_ bs (upGo I V e s at_ (bs.drop 8)) := by
    unfold unpackF; rw [if_neg]; rintro (h | h)
    · exact hnn h
    · exact h hfl
  rw [hu0] at hk1 hk2 err
  clear hu0
  refine Read_ok h hr1 rfl (by omega) fun B2 br w' hle2 h => ⟨_, rfl, ?_⟩
  refine RNum_ok h (fun _ _ w' h => ⟨_, rfl, ?_⟩) fun hf => absurd hf (by simp; omega)
  generalize hb1 : bs.drop 8 = b1 at *
  refine In_any h fun n2 rest' bad' hc w' h => ⟨_, rfl, ?_⟩
  obtain ⟨N, u0, hN, hN2, hul, huv, hui, hgo, hrest, hbad⟩ : ∃ (N : Nat) (u0 : Up), n2 = (N : Int) ∧ N ≤ 260 ∧ u0.list = [] ∧ u0.leaves = [] ∧ u0.I = I ∧ upF V e s at_ n2 N 0 u0 = upGo I V e s at_ b1 ∧ u0.rest = rest' ∧ u0.bad = bad' := by
    rcases hc with ⟨⟨_, c1, c2, c3⟩, e1, e2, e3⟩ | ⟨hf, e1, e2, e3⟩
    · refine ⟨(num (b1.take 8)).toNat, ⟨I, b1.drop 8, false, [], []⟩, by omega, by omega, rfl, rfl, rfl, ?_, e2.symm, e3.symm⟩
      unfold upGo; rw [if_pos ⟨c1, c2, c3⟩, e1]
    · refine ⟨0, ⟨I, [], true, [], []⟩, by omega, by omega, rfl, rfl, rfl, ?_, e2.symm, e3.symm⟩
      unfold upGo; rw [if_neg (by rintro ⟨a, b', c'⟩; simp at hf; omega)]; rfl
  subst hN hrest hbad
  clear hc
  generalize hR : upGo I V e s at_ b1 = R at *
  have hG2 := hG.mono hle2
  refine Jn.by (fun vs w => ∃ (u : Up) (p1 : Option Addr) (c1 : Nat) (p2 : Option Addr) (c2 : Nat), vs = [.slice p1 u.list.length c1, .slice p2 u.leaves.length c2] ∧ R = (u, 0) ∧ u.leaves.length ≤ 260 ∧ (∀ x ∈ u.leaves, x.length = 32) ∧ u.I.made.length ≤ I.made.length + 520 ∧
    Sat B2 w (buf t_api_Record 6 p1 u.list.length c1 (rcells u.list) :: buf t_arr32_uint8 32 p2 u.leaves.length c2 (lcells u.leaves) :: rdr B2 br u.rest u.bad :: bk a1 t_arr32_uint8 (bcells (List.replicate 32 0)) :: vlt b wb V :: idl wb u.I :: F)) ?_ ?_
  · refine Lp.up N (fun i vs w => ∃ (u : Up) (p1 : Option Addr) (c1 : Nat) (p2 : Option Addr) (c2 : Nat), vs = [.slice p1 u.list.length c1, .slice p2 u.leaves.length c2, .int .i64 i] ∧ upF V e s at_ N (N - i) i u = R ∧ u.list.length = i ∧ u.leaves.length = i ∧ (∀ x ∈ u.leaves, x.length = 32) ∧ u.I.made.length ≤ I.made.length + 2 * i ∧ u.I.texts = I.texts ∧
      Sat B2 w (buf t_api_Record 6 p1 u.list.length c1 (rcells u.list) :: buf t_arr32_uint8 32 p2 u.leaves.length c2 (lcells u.leaves) :: rdr B2 br u.rest u.bad :: bk a1 t_arr32_uint8 (bcells (List.replicate 32 0)) :: vlt b wb V :: idl wb u.I :: F)) ?_ fun J nx cs => ?_
    · refine ⟨u0, none, 0, none, 0, by simp [hul, huv], hgo, by simp [hul], by simp [huv], by simp [huv], by simp [hui], by rw [hui], ?_⟩
      rw [hul, huv, hui]
      exact Sat.buf0 (Sat.buf0 h)
    intro p1 l0 l1 p2 l2 l3 n3 l4 w9 hJ
    obtain ⟨i, hi, rfl, u, p1', c1, p2', c2, hv, hup, hll, hlv, h32, hmade, htx, h⟩ := cs _ _ _ hJ
    obtain ⟨⟨rfl, rfl, rfl⟩, ⟨rfl, rfl, rfl⟩, rfl⟩ : (p1 = p1' ∧ l0 = u.list.length ∧ l1 = c1) ∧ (p2 = p2' ∧ l2 = u.leaves.length ∧ l3 = c2) ∧ n3 = (i : Int) := by simpa using hv
    have brk : ∀ {w' : World} (u' : Up), upF V e s at_ N (N - i) i u = (u', 0) → u'.list = u.list → u'.leaves = u.leaves → u'.I = u.I →
        Sat B2 w' (buf t_api_Record 6 p1 u.list.length l1 (rcells u.list) :: buf t_arr32_uint8 32 p2 u.leaves.length l3 (lcells u.leaves) :: rdr B2 br u'.rest u'.bad :: bk a1 t_arr32_uint8 (bcells (List.replicate 32 0)) :: vlt b wb V :: idl wb u.I :: F) →
        ∃ (v : Up) (p1' : Option Addr) (c1 : Nat) (p2' : Option Addr) (c2 : Nat), [Value.slice p1 u.list.length l1, Value.slice p2 u.leaves.length l3] = [.slice p1' v.list.length c1, .slice p2' v.leaves.length c2] ∧ R = (v, 0) ∧ v.leaves.length ≤ 260 ∧ (∀ x ∈ v.leaves, x.length = 32) ∧ v.I.made.length ≤ I.made.length + 520 ∧
    Sat B2 w' (buf t_api_Record 6 p1' v.list.length c1 (rcells v.list) :: buf t_arr32_uint8 32 p2' v.leaves.length c2 (lcells v.leaves) :: rdr B2 br v.rest v.bad :: bk a1 t_arr32_uint8 (bcells (List.replicate 32 0)) :: vlt b wb V :: idl wb v.I :: F) := by
      intro w' u' hu' e1 e2 e3 h
      refine ⟨u', p1, l1, p2, l3, by rw [e1, e2], by rw [← hup, hu'], by rw [e2]; omega, by rw [e2]; exact h32, by rw [e3]; omega, ?_⟩
      rw [e1, e2, e3]; exact h
    refine Jn.dupB (Br.lt (fun hlt => Good_ok (h.pull 2) ⟨_, rfl, _, rfl, ?_⟩) fun hge => ⟨_, rfl, Br.f (by
      have : i = N := by omega
      subst this
      exact brk u (by rw [Nat.sub_self]; rfl) rfl rfl rfl h)⟩)
    cases hbd : u.bad with
    | true => exact Br.f (brk u (upF_bad hbd) rfl rfl rfl h)
    | false =>
      refine Br.t ?_
      have hiN : i < N := by omega
      obtain ⟨k, hk⟩ : ∃ k, N - i = k + 1 := ⟨N - i - 1, by omega⟩
      have hstep : upF V e s at_ N (N - i) i u = if (upStep V e s at_ N i u).2 ≠ 0 then upStep V e s at_ N i u else upF V e s at_ N k (i + 1) (upStep V e s at_ N i u).1 := by
        rw [hk, upF, hbd]; rfl
      rw [hbd] at h
      refine In_any (h.pull 2) fun n4 r1 b1' hc1 w' h => ⟨_, rfl, ?_⟩
      refine RText_any h fun t r2 b2 hc2 w' h => ⟨_, rfl, ?_⟩
      refine h.bytesOf un_string un_bytes un_u8 fun B3 p3 c3 w' hle3 h hr3 => ?_
      refine Good_ok (rdr.mono hle3 h) ⟨_, rfl, ?_⟩
      have h := h.pull 2 |>.pull 2
      cases hb2 : b2 with
      | true =>
        have hr2 : r2 = [] := by
          rcases hc2 with ⟨_, _, _, h0⟩ | ⟨_, _, h0, _⟩
          · rw [hb2] at h0; cases h0
          · exact h0
        have hat0 : upAt u.rest = none := by
          unfold upAt
          rw [if_neg]
          rintro ⟨a1, a2, a3, a4, a5, a6⟩
          rcases hc1 with ⟨_, _, e1, e2⟩ | ⟨hf, _⟩
          · subst e1 e2
            rcases hc2 with ⟨_, _, _, h0⟩ | ⟨hf, _⟩
            · rw [hb2] at h0; cases h0
            · have em : mnI 16384 65536 = 16384 := rfl
              rw [em] at hf
              rcases hf with hf | hf | hf | hf
              · cases hf
              all_goals omega
          · rcases hf with hf | hf | hf | hf
            · cases hf
            all_goals omega
        have hst : upStep V e s at_ N i u = ({ u with rest := [], bad := true }, 0) := by unfold upStep; rw [hat0]
        refine Br.t (brk { u with rest := [], bad := true } ?_ rfl rfl rfl ?_)
        · rw [hstep, hst]
          rw [if_neg (by simp)]
          exact upF_bad rfl
        · have := h.thaw hle3
          rw [hb2, hr2] at this
          exact this
      | false =>
        obtain ⟨⟨_, d1, d2, d3⟩, e1, e2, e3⟩ : (u.bad = false ∧ 8 ≤ u.rest.length ∧ 0 ≤ num (u.rest.take 8) ∧ num (u.rest.take 8) ≤ 16) ∧ n4 = num (u.rest.take 8) ∧ r1 = u.rest.drop 8 ∧ b1' = false := by
          rcases hc1 with ⟨⟨a1, a2, a3, a4⟩, a5, a6, a7⟩ | ⟨_, _, _, a4⟩
          · exact ⟨⟨hbd, a2, a3, a4⟩, a5, a6, a7⟩
          · rcases hc2 with ⟨⟨a1, _⟩, _⟩ | ⟨_, _, _, a1⟩
            · rw [a4] at a1; cases a1
            · rw [hb2] at a1; cases a1
        obtain ⟨⟨_, d4, d5, d6⟩, e4, e5, e6⟩ : (b1' = false ∧ 3 ≤ r1.length ∧ le (r1.take 3) ≤ mnI 16384 65536 ∧ le (r1.take 3) ≤ (r1.drop 3).length) ∧ t = (r1.drop 3).take (le (r1.take 3)).toNat ∧ r2 = (r1.drop 3).drop (le (r1.take 3)).toNat ∧ b2 = false := by
          rcases hc2 with a | ⟨_, _, _, a⟩
          · exact a
          · rw [hb2] at a; cases a
        have em : mnI 16384 65536 = 16384 := rfl
        rw [em] at d5
        have htl : t.length ≤ 16384 := by rw [e4]; simp only [List.length_take]; omega
        have hat1 : upAt u.rest = some (n4, t, r2) := by
          subst e2
          unfold upAt
          rw [if_pos ⟨d1, d2, d3, d4, d5, d6⟩, e1, e4, e5]
        have hst : upStep V e s at_ N i u = upRec V e s at_ N i u n4 t r2 := by unfold upStep; rw [hat1]
        rw [hst] at hstep
        refine Br.f fun w2 ha => ?_
        have h := h.alk ha
        refine ⟨_, lat (hle2.trans hle3) h, ?_⟩
        refine SKey_ok ((h.pull 5).pull 5) (by omega) fun w' h => ⟨_, rfl, ⟨lat (hle2.trans hle3) h, trivial⟩, ?_⟩
        refine place_ok h hat fun p4 c4 w' h => ⟨_, _, _, rfl, ?_⟩
        obtain ⟨B4, hle4, h, hr4, _⟩ := h.fix
        refine h.build1 el_pieces rfl fun p5 w' h => ?_
        obtain ⟨B5, hle5, h, hr5, _⟩ := h.fix
        rw [w64 (x := s + (i : Int)) (by omega) (by omega)]
        have hpl := placeT_length hat (i : Int) (N : Int)
        have efl : [placeT at_ (i : Int) (N : Int)].flatten = placeT at_ i N := by simp
        have h35 := hle4.trans hle5
        have h25 := hle3.trans h35
        have shp : ∀ {w' I'}, Sat B5 w' (vlt b wb V :: idl wb I' :: buf t_api_Record 6 p1 u.list.length l1 (rcells u.list) :: buf t_arr32_uint8 32 p2 u.leaves.length l3 (lcells u.leaves) :: rdr B2 br r2 b2 :: bk a1 t_arr32_uint8 (bcells (List.replicate 32 0)) :: F) → 
          Sat B5 w' (bk a1 t_arr32_uint8 (bcells (List.replicate 32 0)) :: vlt b wb V :: idl wb I' :: F) := fun h => ((((h.pull 4).tail.pull 3).tail.pull 2).tail).pull 2
        refine VOpen_ok (ps := [placeT at_ i N]) h (key_length _ _ _) ((hr3.mono h35)) rfl (Rds.one hr5 (SlOf.mk (hr4.mono hle5) hpl.symm)) rfl (by simp) (by omega) (by simp only [List.flatten_cons, List.flatten_nil, List.length_append, List.length_nil, hpl]; omega)
          (fun hmay x hx B6 p6 c6 w' hle6 h hr6 => ⟨_, _, _, _, rfl, Br.f ?_⟩) (fun hmay hno w' h => ⟨_, _, _, _, rfl, Br.t ?_⟩) fun hmay w' h => ⟨_, _, _, _, rfl, Br.ne (fun _ => ?_) fun h0 => absurd h0 hmay⟩
        · rw [efl] at hx
          have htd : (u.I.derive V.master (keyT n4)).texts = I.texts := (put_texts _ _).trans htx
          obtain ⟨r0, hg0, hb0⟩ := hT _ (htd ▸ hx)
          obtain ⟨r', hrec, hg', hb'⟩ := recOf_bytes hg0
          simp only at hb0
          rw [hb0] at hrec hb'
          have hnod := (Id.nodup (h.pull 1)).2
          have htxt := Id.text_mem hnod hx
          have hu : upRec V e s at_ N i u n4 t r2 = if r'.queue ≠ n4 then ({ u with I := u.I.derive V.master (keyT n4) }, 4) else (⟨(u.I.derive V.master (keyT n4)).leaf t, r2, false, u.list ++ [r'], u.leaves ++ [(u.I.derive V.master (keyT n4)).leafD t]⟩, 0) := by
            unfold upRec
            rw [if_neg (by simpa using hmay), htxt]
            simp only [hrec]
          refine Get_ok (r := r') h (((hG2.mono hle3).mono h35).mono hle6) (by rw [hb']; exact hr6) (by rw [hb']) hg' fun w' h => ⟨_, _, rfl, ?_⟩
          refine h.var zr_Record fun a2 w' h => ?_
          refine Sat.stA (n := 6) (vs := r'.cells) h wd_Record rfl (ones_Rec _) (by simp) fun w' h => Jn.dupB (Br.f ⟨_, ld1 (L := r'.cells) sc_int h.bk rfl, _, rfl, ?_⟩)
          refine Br.ne (fun hne => ?_) fun heq => ?_
          · rw [hu, if_pos hne] at hstep
            refine err ((hle2.trans h25).trans hle6) (((((h.tail.pull 4).tail.pull 3).tail.pull 2).tail).pull 2) ?_ (by omega)
            rw [← hup, hstep]; rfl
          · rw [if_neg (show ¬ r'.queue ≠ n4 from fun h => h heq)] at hu
            rw [hu, if_neg (by simp)] at hstep
            have h : Sat B6 _ (bk a2 t_api_Record r'.cells :: _) := h
            refine ⟨_, ldA (n := 6) (L := r'.cells) wd_Record h.bk (by simp [Rec.cells]), ?_⟩
            refine h.buildOne (L := r'.cells) el_recs (by omega) rfl rfl fun p7 w' h => ?_
            obtain ⟨B7, hle7, h, hr7, _⟩ := h.fix
            refine Sat.append (h.tail.pull 2) el_recs hr7 rfl (ones_Rec _) (by omega) fun p8 c8 w' h => ?_
            have hmd : (u.I.derive V.master (keyT n4)).made.length ≤ u.I.made.length + 1 := Id.put_le _ _
            refine Leaf_ok ((h.pull 2).pull 2) (((hr3.mono h35).mono hle6).mono hle7) rfl (by omega) (by omega) fun w' h => ⟨_, rfl, ?_⟩
            refine h.buildOne (L := bcells _) el_arrs (by omega) rfl (by rw [bcells_length]; exact dig_length _ _) fun p9 w' h => ?_
            obtain ⟨B8, hle8, h, hr8, _⟩ := h.fix
            refine Sat.append (h.pull 3) el_arrs hr8 (by rw [bcells_length]; exact dig_length _ _) (ones_bcells _) (by omega) fun p10 c10 w' h => ?_
            have hml : ((u.I.derive V.master (keyT n4)).leaf t).made.length ≤ (u.I.derive V.master (keyT n4)).made.length + 1 := Id.put_le _ _
            refine nx i _ _ _ hiN rfl ⟨⟨(u.I.derive V.master (keyT n4)).leaf t, r2, false, u.list ++ [r'], u.leaves ++ [(u.I.derive V.master (keyT n4)).leafD t]⟩, p8, c8, p10, c10, ?_, ?_, by simp [hll], by simp [hlv], ?_, by dsimp only; omega, (put_texts _ _).trans htd, ?_⟩
            · rw [w64 (by omega) (by omega)]; simp
            · rw [show N - (i + 1) = k by omega, ← hup, hstep]
            · intro x hx'
              simp only [List.mem_append, List.mem_singleton] at hx'
              rcases hx' with hx' | rfl
              · exact h32 x hx'
              · exact dig_length _ _
            · have h := ((((((h.pull 2).pull 2).pull 5).pull 5).pull 4).pull 5)
              have h := Sat.thaw (((h25.trans hle6).trans hle7).trans hle8) h
              have el1 : rcells (u.list ++ [r']) = rcells u.list ++ r'.cells := by simp [rcells]
              have el2 : lcells (u.leaves ++ [(u.I.derive V.master (keyT n4)).leafD t]) = lcells u.leaves ++ bcells ((u.I.derive V.master (keyT n4)).leafD t) := by simp [lcells]
              simp only [el1, el2, List.length_append, List.length_cons, List.length_nil]
              rw [hb2] at h
              exact h
        · rw [efl] at hno
          have hu : upRec V e s at_ N i u n4 t r2 = ({ u with I := u.I.derive V.master (keyT n4) }, 9) := by
            unfold upRec
            rw [if_neg (by simpa using hmay), Id.text_none hno]
          rw [hu] at hstep
          refine err (hle2.trans h25) (shp h) ?_ (by omega)
          rw [← hup, hstep]; rfl
        · have hu : upRec V e s at_ N i u n4 t r2 = ({ u with I := u.I.derive V.master (keyT n4) }, V.may e (s + i)) := by
            unfold upRec
            rw [if_pos hmay]
          rw [hu, if_pos hmay] at hstep
          refine err (hle2.trans h25) (shp h) ?_ hmay
          rw [← hup, hstep]
          unfold upEnd
          rw [if_pos hmay]
  · rintro p11 l21 l22 p12 l23 l24 w34 ⟨u, p1, c1, p2, c2, hv, hRu, hlen, h32, hmade, h⟩
    obtain ⟨⟨rfl, rfl, rfl⟩, rfl, rfl, rfl⟩ : (p11 = p1 ∧ l21 = u.list.length ∧ l22 = c1) ∧ p12 = p2 ∧ l23 = u.leaves.length ∧ l24 = c2 := by simpa using hv
    rw [hRu] at hk1 hk2 err
    refine Take_any (n := 32) (h.pull 2) (by omega) fun t rest' bad' p13 c13 hc w' hr13 h => ⟨_, _, _, _, rfl, ?_⟩
    have hlc : u.leaves.length ≤ l24 := by
      rcases (h.pull 2).bufCases with ⟨_, h1, h2, _⟩ | ⟨_, _, _, h1, _⟩
      · omega
      · exact h1
    obtain ⟨B3, hle3, h, hr3, _⟩ := (h.pull 2).fix
    refine Root_ok u.leaves.length ((h.pull 4).pull 4) hr3 rfl hlc (by omega) h32 (by omega) (by omega) fun w' h => ⟨_, rfl, ?_⟩
    have hrl := rootF_length u.leaves.length u.I u.leaves (by omega) h32
    have hrm : (rootF u.leaves.length u.I u.leaves).1.made.length ≤ u.I.made.length + 261 := by
      by_cases h1 : 1 ≤ u.leaves.length
      · have := rootF_made u.leaves.length u.I u.leaves h1
        omega
      · have e0 : u.leaves = [] := List.eq_nil_of_length_eq_zero (by omega)
        rw [e0]
        have := Id.put_le u.I (nm 72 [[48]])
        simp only [List.length_nil, rootF, Id.hash]
        omega
    have hend : upEnd at_ bs (u, 0) = if u.bad = false ∧ u.rest = (rootF u.leaves.length u.I u.leaves).2 then
        ((rootF u.leaves.length u.I u.leaves).1.hash (at_ ++ bs), .inr (u.list, (rootF u.leaves.length u.I u.leaves).1.dig (at_ ++ bs)))
      else ((rootF u.leaves.length u.I u.leaves).1, .inl 4) := rfl
    rw [hend] at hk1 hk2 err
    generalize hRt : rootF u.leaves.length u.I u.leaves = rt at *
    have hbr : (bcells rt.2).length = 32 := by rw [bcells_length, hrl]
    refine h.var zr_arr32 fun a3 w' h => ?_
    refine Sat.stA (n := 32) h wd_arr32 hbr (ones_bcells _) (by simp [bcells]) fun w' h => ?_
    have e32 : List.take 0 (bcells (List.replicate 32 0)) ++ bcells rt.2 ++ List.drop (0 + 32) (bcells (List.replicate 32 0)) = bcells rt.2 := by
      rw [List.drop_eq_nil_iff.2 (by simp [bcells_length])]; simp
    rw [e32] at h
    obtain ⟨B4, hle4, h, hz3, _⟩ := h.lendBk
    have r3 : Rd B4 (at0 a3) (bcells rt.2) := Rd.ofBlock hz3 (by rw [List.drop_zero, List.take_length]) (by omega)
    have bad : ∀ w', Sat B4 w' (vlt b wb V :: idl wb rt.1 :: rdr B2 br rest' bad' :: buf t_api_Record 6 p11 u.list.length l22 (rcells u.list) :: bk a1 t_arr32_uint8 (bcells (List.replicate 32 0)) :: F) → ¬ (u.bad = false ∧ u.rest = rt.2) →
        DoV P (Instr.build t_arr32_uint8 #[]) w' fun v w'' ↦ DoU P (storeVar t_arr32_uint8 ⟨a1, 0, none⟩ v) w'' fun w3 ↦ LdV P t_arr32_uint8 ⟨a1, 0, none⟩ w3 fun v' ↦ K (.tuple #[.slice none 0 0, v', .int .i64 4]) w3 :=
      fun w' h hn => err ((hle2.trans hle3).trans hle4) (((h.pull 3).tail.pull 2).tail.pull 2) (by rw [if_neg hn]) (by omega)
    refine Jn.dupB fun w2 ha => ?_
    have h := h.alk ha
    refine End_ok (rdr.mono (hle3.trans hle4) (h.pull 2)) ⟨_, rfl, ?_⟩
    have hcs : (!bad' && rest'.isEmpty) = true ∨ (!bad' && rest'.isEmpty) = false := by cases (!bad' && rest'.isEmpty) <;> simp
    rcases hcs with hcs | hcs
    · rw [hcs]
      simp only [Bool.and_eq_true, Bool.not_eq_true', List.isEmpty_iff] at hcs
      obtain ⟨hb', hr'⟩ := hcs
      obtain ⟨⟨c1, c2⟩, c3, c4⟩ : (u.bad = false ∧ 32 ≤ u.rest.length) ∧ t = u.rest.take 32 ∧ rest' = u.rest.drop 32 := by
        rcases hc with ⟨a, b, c, _⟩ | ⟨_, _, _, d⟩
        · exact ⟨a, b, c⟩
        · rw [hb'] at d; cases d
      have ht : t = u.rest := by
        rw [c3, List.take_of_length_le]
        rw [hr'] at c4
        have := List.drop_eq_nil_iff.1 c4.symm
        exact this
      refine Br.f ⟨_, Rd.strRun h ((hr13.mono hle3).mono hle4) rfl un_bytes un_u8 un_string, _, _, _, arr_all un_arr32 sz_u8 (by omega), _, Rd.strRun h r3 hrl.symm un_bytes un_u8 un_string, _, rfl, ?_⟩
      rw [eq_str, ht]
      by_cases heq : u.rest = rt.2
      · rw [show decide (u.rest ≠ rt.2) = false by simp [heq]]
        have hyes : u.bad = false ∧ u.rest = rt.2 := ⟨c1, heq⟩
        rw [if_pos hyes] at hk1 hk2
        refine Br.f ⟨_, _, _, _, arr_all un_arr32 sz_u8 (by omega), ?_⟩
        refine h.build2 el_pieces rfl rfl fun p8 w' h => ?_
        obtain ⟨B5, hle5, h, hr5, _⟩ := h.fix
        have hle25 := (hle3.trans hle4).trans hle5
        refine VHash_ok (ps := [at_, bs]) h (Rds.two hr5 (SlOf.mk (rat.mono (hle2.trans hle25)) hat.symm) (SlOf.mk (hr1.mono (hle2.trans hle25)) rfl)) rfl (by simp) (by simp only [List.flatten_cons, List.flatten_nil, List.length_append, List.length_nil, hat]; omega) (by omega) fun w' h => ⟨_, rfl, ?_⟩
        have ef : [at_, bs].flatten = at_ ++ bs := by simp
        rw [ef] at h ⊢
        refine ret_arr (K := fun v w => K (.tuple #[.slice p11 u.list.length l22, v, .int .i64 0]) w) (h.pull 4) wd_arr32 (by rw [bcells_length, dig_length]) (by simp [bcells]) (ones_bcells _) fun w' h => ?_
        have h := Sat.thaw ((hle1.trans hle2).trans hle25) h
        exact hk1 _ _ _ rfl _ _ _ ((h.pull 2).tail.pull 2)
      · rw [show decide (u.rest ≠ rt.2) = true by simp [heq]]
        exact Br.t (bad _ h fun hx => heq hx.2)
    · rw [hcs]
      refine Br.t ⟨_, rfl, Br.t (bad _ h ?_)⟩
      rintro ⟨hx1, hx2⟩
      have hl32 : u.rest.length = 32 := by rw [hx2, hrl]
      rcases hc with ⟨_, _, c3, c4⟩ | ⟨hf, _⟩
      · rw [c4, c3, List.drop_eq_nil_iff.2 (by omega)] at hcs
        simp at hcs
      · rcases hf with hf | hf
        · rw [hx1] at hf; cases hf
        · omega

end Go.Dv

/-! disk -/
set_option maxRecDepth 20000
namespace Go.Dv
open Go Go.Sh Go.Sl

theorem el_sectors : El P t_sl_disk_sector t_disk_sector 256 256 := El.of (by kernel_rfl)
theorem el_writes : El P t_sl_disk_write t_disk_write 257 264 := El.of (by kernel_rfl)
theorem wd_sector : wide P t_disk_sector = some 256 := by kernel_rfl
theorem wd_write : wide P t_disk_write = some 257 := by kernel_rfl
theorem zr_sector : zeros P t_disk_sector = some (bcells (List.replicate 256 0)) := by kernel_rfl
theorem zr_write : zeros P t_disk_write = some (.int .i64 0 :: bcells (List.replicate 256 0)) := by kernel_rfl
theorem pt_write : parts P t_disk_write = some ([(0, 1), (1, 256)], .int .i64 0 :: bcells (List.replicate 256 0)) := by kernel_rfl
theorem un_sector : P.underlying t_disk_sector = some (.array 256 t_uint8) := by kernel_rfl
theorem sc_sectors : scal P t_sl_disk_sector = true := by kernel_rfl
theorem sc_writes : scal P t_sl_disk_write = true := by kernel_rfl
theorem pt_Disk : parts P t_disk_Disk = some ([(0, 1), (1, 1), (2, 1), (3, 1), (4, 1), (5, 1), (6, 1)], [.slice none 0 0, .slice none 0 0, .slice none 0 0, .bool false, .int .i64 0, .int .i64 0, .int .u64 0]) := by kernel_rfl

variable {B : Bs} {w : World} {F : List HP} {K : Value → World → Prop}

structure Dk where
  now : List (List UInt8)
  safe : List (List UInt8)
  waits : List (Nat × List UInt8)
  down : Bool
  fuse : Int
  keep : Int

def wcell (x : Nat × List UInt8) : List Value := .int .i64 x.1 :: bcells x.2
def wcells (l : List (Nat × List UInt8)) : List Value := l.flatMap wcell

structure Dk.ok (D : Dk) : Prop where
  len : D.safe.length = D.now.length
  now : ∀ s ∈ D.now, s.length = 256
  safe : ∀ s ∈ D.safe, s.length = 256
  waits : ∀ x ∈ D.waits, x.1 < D.now.length ∧ x.2.length = 256
  size : D.now.length ≤ 4096
  fuse : 0 ≤ D.fuse ∧ D.fuse < 9223372036854775808

structure DkX where
  n : Nat
  s : Nat
  wp : Option Addr
  wc : Nat
  acts : Int

def dcells (D : Dk) (x : DkX) : List Value := [.slice (at0 x.n) D.now.length D.now.length, .slice (at0 x.s) D.now.length D.now.length, .slice x.wp D.waits.length x.wc, .bool D.down, .int .i64 x.acts, .int .i64 D.fuse, .int .u64 D.keep]
def dsk (b : Nat) (D : Dk) : HP := box fun (x : DkX) => [bk b t_disk_Disk (dcells D x), bk x.n t_disk_sector (lcells D.now), bk x.s t_disk_sector (lcells D.safe), buf t_disk_write 257 x.wp D.waits.length x.wc (wcells D.waits), so D.ok]

theorem Sat.dOpen {b : Nat} {D : Dk} (h : Sat B w (dsk b D :: F)) : ∃ x, Sat B w (bk b t_disk_Disk (dcells D x) :: bk x.n t_disk_sector (lcells D.now) :: bk x.s t_disk_sector (lcells D.safe) :: buf t_disk_write 257 x.wp D.waits.length x.wc (wcells D.waits) :: F) ∧ D.ok := by
  obtain ⟨x, h⟩ := h.opened
  obtain ⟨h1, h⟩ := (h.pull 4).fact
  exact ⟨x, h, h1⟩
theorem Sat.dShut {b : Nat} {D : Dk} (x : DkX) (hD : D.ok) (h : Sat B w (bk b t_disk_Disk (dcells D x) :: bk x.n t_disk_sector (lcells D.now) :: bk x.s t_disk_sector (lcells D.safe) :: buf t_disk_write 257 x.wp D.waits.length x.wc (wcells D.waits) :: F)) : Sat B w (dsk b D :: F) :=
  Sat.shut (f := fun (x : DkX) => [bk b t_disk_Disk (dcells D x), bk x.n t_disk_sector (lcells D.now), bk x.s t_disk_sector (lcells D.safe), buf t_disk_write 257 x.wp D.waits.length x.wc (wcells D.waits), so D.ok]) x ((((Sat.known hD h).pull 4).pull 4).pull 4 |>.pull 4)

theorem Sat.dFact {b : Nat} {D : Dk} (h : Sat B w (dsk b D :: F)) : D.ok := let ⟨_, _, h1⟩ := Sat.dOpen h; h1

theorem Down_ok {b : Nat} {D : Dk} (h : Sat B w (dsk b D :: F)) (hk : K (.bool D.down) w) : Cs P f_disk_Disk_Down #[.pointer (at0 b)] w K := by
  obtain ⟨x, h, _⟩ := Sat.dOpen h
  refine ok_disk_Disk_Down _ ?_
  unfold vc_disk_Disk_Down
  exact Jn.dupB (Br.t (NN.some ⟨_, ld1 (L := dcells D x) sc_bool h.bk rfl, _, rfl, hk⟩))

theorem DSize_ok {b : Nat} {D : Dk} (h : Sat B w (dsk b D :: F)) (hk : K (.int .i64 D.now.length) w) : Cs P f_disk_Disk_Size #[.pointer (at0 b)] w K := by
  obtain ⟨x, h, _⟩ := Sat.dOpen h
  refine ok_disk_Disk_Size _ ?_
  unfold vc_disk_Disk_Size
  exact Br.f (NN.some ⟨_, _, _, ld1 (L := dcells D x) sc_sectors h.bk rfl, hk⟩)

/-- Why a sector can't be asked for. -/
def Dk.ready (D : Dk) (i : Int) : Int := if D.down then 8 else if i < 0 ∨ (D.now.length : Int) ≤ i then 1 else 0

theorem ready_ok {b : Nat} {D : Dk} {i : Int} (h : Sat B w (dsk b D :: F)) (hk : K (.int .i64 (D.ready i)) w) : Cs P f_disk_Disk_ready #[.pointer (at0 b), .int .i64 i] w K := by
  obtain ⟨x, h, _⟩ := Sat.dOpen h
  refine ok_disk_Disk_ready _ _ ?_
  unfold vc_disk_Disk_ready
  refine Br.f (NN.some ⟨_, ld1 (L := dcells D x) sc_bool h.bk rfl, Br.bool (fun hd => ?_) fun hd => ?_⟩)
  · simpa [Dk.ready, hd] using hk
  · refine Jn.dupB (Br.lt (fun h1 => ⟨_, rfl, Br.t ?_⟩) fun h1 => NN.some ⟨_, _, _, ld1 (L := dcells D x) sc_sectors h.bk rfl, _, rfl, Br.ge (fun h2 => ?_) fun h2 => ?_⟩)
    · simpa [Dk.ready, hd, h1] using hk
    · simpa [Dk.ready, hd, h2] using hk
    · have : ¬ (i < 0 ∨ (D.now.length : Int) ≤ i) := by omega
      simpa [Dk.ready, hd, this] using hk

/-- An act. -/
def Dk.act (D : Dk) : Dk × Bool := if D.down then (D, false) else if D.fuse = 0 then (D, false) else ({ D with fuse := D.fuse - 1 }, decide (D.fuse - 1 ≤ 0))

theorem Act_ok {b : Nat} {D : Dk} (h : Sat B w (dsk b D :: F)) (hk : ∀ w', Sat B w' (dsk b D.act.1 :: F) → K (.tuple #[.bool D.act.2, .int .u64 (if D.act.2 then D.keep else 0)]) w') : Cs P f_disk_Disk_Act #[.pointer (at0 b)] w K := by
  obtain ⟨x, h, hD⟩ := Sat.dOpen h
  refine ok_disk_Disk_Act _ ?_
  unfold vc_disk_Disk_Act
  refine Jn.dupB (Br.f (NN.some ⟨_, ld1 (L := dcells D x) sc_bool h.bk rfl, _, rfl, Br.bool (fun hd => ?_) fun hd => ?_⟩))
  · have e : D.act = (D, false) := by simp [Dk.act, hd]
    rw [e] at hk
    exact hk _ (Sat.dShut x hD h)
  · refine NN.some ⟨_, ld1 (L := dcells D x) sc_int h.bk rfl, NN.some ?_⟩
    refine Sat.st1 h sc_int rfl (by simp [dcells]) fun w' h => ?_
    have h : Sat B w' (bk b t_disk_Disk (dcells D { x with acts := IntKind.i64.wrap (x.acts + 1) }) :: _) := h
    have hf := hD.fuse
    refine NN.some ⟨_, ld1 sc_int h.bk rfl, Br.eq (fun h0 => ?_) fun h0 => ?_⟩
    · have e : D.act = (D, false) := by simp [Dk.act, hd, h0]
      rw [e] at hk
      exact hk _ (Sat.dShut _ hD h)
    · refine NN.some ⟨_, ld1 sc_int h.bk rfl, NN.some ?_⟩
      rw [w64 (x := D.fuse - 1) (by omega) (by omega)]
      refine Sat.st1 h sc_int rfl (by simp [dcells]) fun w' h => ?_
      have h : Sat B w' (bk b t_disk_Disk (dcells { D with fuse := D.fuse - 1 } { x with acts := IntKind.i64.wrap (x.acts + 1) }) :: _) := h
      have hD' : ({ D with fuse := D.fuse - 1 } : Dk).ok := ⟨hD.len, hD.now, hD.safe, hD.waits, hD.size, by dsimp only; omega⟩
      have e : D.act = ({ D with fuse := D.fuse - 1 }, decide (D.fuse - 1 ≤ 0)) := by simp [Dk.act, hd, h0]
      refine NN.some ⟨_, ld1 sc_int h.bk rfl, Br.gt (fun h1 => ?_) fun h1 => ?_⟩
      · have h1 : 0 < D.fuse - 1 := h1
        rw [e, show decide (D.fuse - 1 ≤ 0) = false by simp; omega] at hk
        exact hk _ (Sat.dShut _ hD' h)
      · have h1 : D.fuse - 1 ≤ 0 := h1
        rw [e, show decide (D.fuse - 1 ≤ 0) = true by simp; omega] at hk
        intro w2 ha
        have h := h.alk ha
        exact NN.some ⟨_, ld1 sc_u64 h.bk rfl, hk _ (Sat.dShut _ hD' h)⟩

theorem On_ok {b : Nat} {D : Dk} (h : Sat B w (dsk b D :: F)) (hk : ∀ w', Sat B w' (dsk b { D with down := false } :: F) → K (.tuple #[]) w') : Cs P f_disk_Disk_On #[.pointer (at0 b)] w K := by
  obtain ⟨x, h, hD⟩ := Sat.dOpen h
  refine ok_disk_Disk_On _ ?_
  unfold vc_disk_Disk_On
  refine Jn.dup (Br.t (NN.some (Sat.st1 h sc_bool rfl (by simp [dcells]) fun w' h => ⟨rfl, hk _ ?_⟩)))
  exact Sat.dShut (D := { D with down := false }) x ⟨hD.len, hD.now, hD.safe, hD.waits, hD.size, hD.fuse⟩ h

def Dk.arm (D : Dk) (n k : Int) : Dk := { D with fuse := mxI n 0, keep := k }
theorem Arm_ok {b : Nat} {D : Dk} {n k : Int} (h : Sat B w (dsk b D :: F)) (hn : n < 9223372036854775808) (hk : ∀ w', Sat B w' (dsk b (D.arm n k) :: F) → K (.tuple #[]) w') : Cs P f_disk_Disk_Arm #[.pointer (at0 b), .int .i64 n, .int .u64 k] w K := by
  obtain ⟨x, h, hD⟩ := Sat.dOpen h
  refine ok_disk_Disk_Arm _ _ _ ?_
  unfold vc_disk_Disk_Arm
  refine Jn.dup (Br.t (NN.some (Sat.st1 h sc_int rfl (by simp [dcells]) fun w' h => NN.some (Sat.st1 h sc_u64 rfl (by simp [dcells]) fun w' h => ⟨rfl, hk _ ?_⟩))))
  exact Sat.dShut (D := D.arm n k) x ⟨hD.len, hD.now, hD.safe, hD.waits, hD.size, by simp only [Dk.arm, mxI]; split <;> omega⟩ h

end Go.Dv

/-! disk: New, Off, Read, Write, Sync -/
set_option maxRecDepth 20000
namespace Go.Dv
open Go Go.Sh Go.Sl

variable {B : Bs} {w : World} {F : List HP} {K : Value → World → Prop}

theorem cells_len {k : Nat} : ∀ {ls : List (List UInt8)}, (∀ x ∈ ls, x.length = k) → (lcells ls).length = ls.length * k
  | [], _ => by simp [lcells]
  | x :: ls, h => by
    have := cells_len (ls := ls) fun y hy => h y (by simp [hy])
    simp only [lcells] at this ⊢
    rw [List.flatMap_cons, List.length_append, bcells_length, this, h x (by simp), List.length_cons, Nat.add_mul]; omega

theorem cells_split {k : Nat} {ls : List (List UInt8)} (h : ∀ x ∈ ls, x.length = k) {i : Nat} (hi : i < ls.length) : (lcells ls).take (i * k) = lcells (ls.take i) ∧ ((lcells ls).drop (i * k)).take k = bcells ls[i] ∧ (lcells ls).drop (i * k + k) = lcells (ls.drop (i + 1)) := by
  have e : lcells ls = lcells (ls.take i) ++ (bcells ls[i] ++ lcells (ls.drop (i + 1))) := by
    have : ls = ls.take i ++ ls[i] :: ls.drop (i + 1) := by rw [← List.drop_eq_getElem_cons hi, List.take_append_drop]
    refine (congrArg lcells this).trans ?_
    simp only [lcells, List.flatMap_append, List.flatMap_cons]
  have h1 : (lcells (ls.take i)).length = i * k := by
    rw [cells_len (k := k) fun x hx => h x (List.mem_of_mem_take hx), List.length_take, Nat.min_eq_left (by omega)]
  have h2 : (bcells ls[i]).length = k := by rw [bcells_length, h _ (List.getElem_mem hi)]
  rw [e]
  refine ⟨List.take_left' h1, ?_, ?_⟩
  · rw [List.drop_left' h1]; exact List.take_left' h2
  · rw [← List.drop_drop, List.drop_left' h1]; exact List.drop_left' h2

theorem cells_set {k : Nat} {ls : List (List UInt8)} (h : ∀ x ∈ ls, x.length = k) {i : Nat} (hi : i < ls.length) (s : List UInt8) :
    (lcells ls).take (i * k) ++ bcells s ++ (lcells ls).drop (i * k + k) = lcells (ls.set i s) := by
  obtain ⟨h1, _, h3⟩ := cells_split h hi
  rw [h1, h3, List.set_eq_take_append_cons_drop, if_pos hi]
  simp [lcells]

theorem cells_bound {k i n : Nat} (hi : i < n) : i * k + k ≤ n * k := by
  have := Nat.mul_le_mul_right k (show i + 1 ≤ n by omega)
  rw [Nat.add_mul, Nat.one_mul] at this; exact this

theorem wcell_len {x : Nat × List UInt8} (h : x.2.length = 256) : (wcell x).length = 257 := by simp [wcell, bcells_length, h]
theorem wcells_len : ∀ {l : List (Nat × List UInt8)}, (∀ x ∈ l, x.2.length = 256) → (wcells l).length = l.length * 257
  | [], _ => rfl
  | x :: l, h => by
    have := wcells_len (l := l) fun y hy => h y (by simp [hy])
    simp only [wcells] at this ⊢
    rw [List.flatMap_cons, List.length_append, this, wcell_len (h x (by simp)), List.length_cons, Nat.add_mul]; omega
theorem wcells_at : ∀ {l : List (Nat × List UInt8)} (_ : ∀ x ∈ l, x.2.length = 256) (j : Nat) (hj : j < l.length), ((wcells l).drop (j * 257)).take 257 = wcell l[j]
  | x :: l, h, 0, _ => by
    simp only [wcells, List.flatMap_cons, Nat.zero_mul, List.drop_zero]
    exact List.take_left' (wcell_len (h x (by simp)))
  | x :: l, h, j + 1, hj => by
    have h' : j < l.length := by simpa using hj
    have := wcells_at (l := l) (fun y hy => h y (by simp [hy])) j h'
    simp only [wcells] at this ⊢
    rw [List.flatMap_cons, Nat.add_mul, Nat.one_mul, Nat.add_comm, ← List.drop_drop, List.drop_left' (wcell_len (h x (by simp)))]
    simpa using this

theorem ones_wcell (x : Nat × List UInt8) : ones (wcell x) := by
  intro v hv
  simp only [wcell, List.mem_cons] at hv
  rcases hv with rfl | hv
  · rfl
  · exact ones_bcells _ v hv
theorem ones_lcells (l : List (List UInt8)) : ones (lcells l) := by
  intro v hv
  simp only [lcells, List.mem_flatMap] at hv
  obtain ⟨x, _, hv⟩ := hv
  exact ones_bcells _ v hv

/-- New: of noughts. -/
def Dk.new (n : Int) : Dk := ⟨List.replicate (mnI (mxI n 0) 4096).toNat (List.replicate 256 0), List.replicate (mnI (mxI n 0) 4096).toNat (List.replicate 256 0), [], false, 0, 0⟩

theorem new_ok (n : Int) : (Dk.new n).ok := by
  have h0 : mnI (mxI n 0) 4096 ≤ 4096 := by unfold mnI; split <;> omega
  refine ⟨by simp [Dk.new], ?_, ?_, by simp [Dk.new], by simp only [Dk.new, List.length_replicate]; omega, by simp [Dk.new]⟩
  · intro s hs
    rw [List.eq_of_mem_replicate hs]; simp
  · intro s hs
    rw [List.eq_of_mem_replicate hs]; simp

theorem rep_lcells (n : Nat) : List.replicate (n * 256) (bcell 0) = lcells (List.replicate n (List.replicate 256 0)) := by
  induction n with
  | zero => simp [lcells]
  | succ n ih =>
    rw [Nat.add_mul, Nat.one_mul, Nat.add_comm, ← List.replicate_append_replicate, ih, List.replicate_succ (n := n) (a := List.replicate 256 (0 : UInt8))]
    simp only [lcells, List.flatMap_cons, bcells_rep]

theorem DNew_ok {n : Int} (h : Sat B w F) (hk : ∀ b w', Sat B w' (dsk b (Dk.new n) :: F) → K (.pointer (at0 b)) w') : Cs P f_disk_New #[.int .i64 n] w K := by
  refine ok_disk_New _ ?_
  unfold vc_disk_New
  have h0 : 0 ≤ mnI (mxI n 0) 4096 ∧ mnI (mxI n 0) 4096 ≤ 4096 := by unfold mnI mxI; split <;> split <;> omega
  obtain ⟨m, hm⟩ : ∃ m : Nat, mnI (mxI n 0) 4096 = m := ⟨(mnI (mxI n 0) 4096).toNat, by omega⟩
  have hD : (Dk.new n).now = List.replicate m (List.replicate 256 0) ∧ (Dk.new n).safe = List.replicate m (List.replicate 256 0) := by simp [Dk.new, hm]
  have hlen : (Dk.new n).now.length = m := by rw [hD.1]; simp
  rw [hm] at h0 ⊢
  have zs : zeros P t_disk_sector = some (List.replicate 256 (bcell 0)) := by rw [zr_sector]; simp [bcells]
  have fin : ∀ {a b c w'}, Sat B w' (bk c t_disk_Disk [.slice (at0 a) m m, .slice (at0 b) m m, .slice none 0 0, .bool false, .int .i64 0, .int .i64 0, .int .u64 0] :: bk a t_disk_sector (List.replicate (m * 256) (bcell 0)) :: bk b t_disk_sector (List.replicate (m * 256) (bcell 0)) :: F) → Sat B w' (dsk c (Dk.new n) :: F) := by
    intro a b c w' h
    refine Sat.dShut ⟨a, b, none, 0, 0⟩ (new_ok n) ?_
    have e : dcells (Dk.new n) ⟨a, b, none, 0, 0⟩ = [.slice (at0 a) m m, .slice (at0 b) m m, .slice none 0 0, .bool false, .int .i64 0, .int .i64 0, .int .u64 0] := by simp only [dcells, hlen]; rfl
    rw [e, hD.1, hD.2, ← rep_lcells]
    exact (((Sat.buf0 h).pull 3).pull 3).pull 3
  refine Jn.by (fun vs w => ∃ c, vs = [.pointer (at0 c)] ∧ Sat B w (dsk c (Dk.new n) :: F)) (fun w0 ha => ?_) fun p w' ⟨c, e, h⟩ => by
    obtain rfl : p = at0 c := by simpa using e
    exact hk _ _ h
  have h := h.alk ha
  refine ⟨?_, ?_⟩
  · refine h.make el_sectors zs rfl (by omega) fun a w' h => ?_
    refine h.make el_sectors zs rfl (by omega) fun b w' h => ?_
    refine ⟨_, bld_run pt_Disk (by rw [fill_step (L := [.slice (at0 a) m m]) rfl rfl rfl (by simp), fill_step (L := [.slice (at0 b) m m]) rfl rfl rfl (by simp), fill_nil]), ?_⟩
    refine h.new fun c w' h => ⟨c, rfl, fin (h.pull 2 |>.pull 1)⟩
  · refine h.make el_sectors zs rfl (by omega) fun a w' h => ?_
    refine h.make el_sectors zs rfl (by omega) fun b w' h => ?_
    refine ⟨_, bld_run pt_Disk (by rw [fill_step (L := [.slice (at0 b) m m]) rfl rfl rfl (by simp), fill_step (L := [.slice (at0 a) m m]) rfl rfl rfl (by simp), fill_nil]), ?_⟩
    refine h.new fun c w' h => ⟨c, rfl, fin h⟩

end Go.Dv

/-! disk: Off, Read, Write, Sync -/
set_option maxRecDepth 20000
namespace Go.Dv
open Go Go.Sh Go.Sl

variable {B : Bs} {w : World} {F : List HP} {K : Value → World → Prop}

/-- Whether the i-th write is kept. -/
def keepBit (k : Int) (i : Nat) : Bool := eqI (bitsOf BinOp.and .u64 (Int.fdiv k (2 ^ min (Int.toNat (Int.tmod (i : Int) 64)) 64)) 1) 1
def keepStep (k : Int) (s : List (List UInt8)) (x : (Nat × List UInt8) × Nat) : List (List UInt8) := if keepBit k x.2 then s.set x.1.1 x.1.2 else s
def kept (k : Int) (safe : List (List UInt8)) (ws : List (Nat × List UInt8)) : List (List UInt8) := ws.zipIdx.foldl (keepStep k) safe
/-- The power goes. -/
def Dk.off (D : Dk) (k : Int) : Dk := if D.down then D else { D with now := kept k D.safe D.waits, safe := kept k D.safe D.waits, waits := [], down := true, fuse := 0 }

theorem kept_take (k : Int) (safe : List (List UInt8)) {ws : List (Nat × List UInt8)} {i : Nat} (h : i < ws.length) : kept k safe (ws.take (i + 1)) = keepStep k (kept k safe (ws.take i)) (ws[i], i) := by
  have ht : ws.take (i + 1) = ws.take i ++ [ws[i]] := by rw [List.take_add_one, List.getElem?_eq_getElem h]; rfl
  have hl : (ws.take i).length = i := by simp; omega
  unfold kept
  rw [ht, List.zipIdx_append, List.foldl_append, hl]
  simp

theorem kept_facts (k : Int) {safe : List (List UInt8)} {ws : List (Nat × List UInt8)} (hs : ∀ s ∈ safe, s.length = 256) (hw : ∀ x ∈ ws, x.2.length = 256) : ∀ i, i ≤ ws.length → (kept k safe (ws.take i)).length = safe.length ∧ ∀ s ∈ kept k safe (ws.take i), s.length = 256
  | 0, _ => by simpa [kept] using hs
  | i + 1, hi => by
    obtain ⟨h1, h2⟩ := kept_facts k hs hw i (by omega)
    rw [kept_take k safe (show i < ws.length by omega)]
    unfold keepStep
    split
    · refine ⟨by simp [h1], fun s hs' => ?_⟩
      rcases List.mem_or_eq_of_mem_set hs' with h | h
      · exact h2 s h
      · rw [h]; exact hw _ (List.getElem_mem _)
    · exact ⟨h1, h2⟩

theorem kept_ok (k : Int) {safe : List (List UInt8)} {ws : List (Nat × List UInt8)} (hs : ∀ s ∈ safe, s.length = 256) (hw : ∀ x ∈ ws, x.2.length = 256) : (kept k safe ws).length = safe.length ∧ ∀ s ∈ kept k safe ws, s.length = 256 := by
  have := kept_facts k hs hw ws.length (Nat.le_refl _)
  rwa [List.take_length] at this

theorem off_ok {D : Dk} (h : D.ok) (k : Int) : (D.off k).ok := by
  unfold Dk.off
  split
  · exact h
  · obtain ⟨h1, h2⟩ := kept_ok k h.safe fun x hx => (h.waits x hx).2
    exact ⟨rfl, h2, h2, by simp, by dsimp only; rw [h1, h.len]; exact h.size, by simp⟩

theorem off_len {D : Dk} (h : D.ok) (k : Int) : (D.off k).now.length = D.now.length := by
  unfold Dk.off
  split
  · rfl
  · exact (kept_ok k h.safe fun x hx => (h.waits x hx).2).1.trans h.len

theorem Off_ok {b : Nat} {D : Dk} {k : Int} (h : Sat B w (dsk b D :: F)) (hwl : D.waits.length < 1000000000) (hk : ∀ w', Sat B w' (dsk b (D.off k) :: F) → K (.tuple #[]) w') : Cs P f_disk_Disk_Off #[.pointer (at0 b), .int .u64 k] w K := by
  obtain ⟨x, h, hD⟩ := Sat.dOpen h
  refine ok_disk_Disk_Off _ _ ?_
  unfold vc_disk_Disk_Off
  refine Jn.dupB (Br.f (NN.some ⟨_, ld1 (L := dcells D x) sc_bool h.bk rfl, _, rfl, Br.bool (fun hd => ?_) fun hd => ?_⟩))
  · have e : D.off k = D := by simp [Dk.off, hd]
    rw [e] at hk
    exact hk _ (Sat.dShut x hD h)
  have hok := off_ok hD k
  have hw : ∀ y ∈ D.waits, y.2.length = 256 := fun y hy => (hD.waits y hy).2
  refine NN.some ⟨_, _, _, ld1 (L := dcells D x) sc_writes h.bk rfl, ?_⟩
  obtain ⟨B1, hle1, h, hr1, _⟩ := (h.pull 3).fix
  refine Lp.up D.waits.length (fun i vs w => vs = [.int .i64 i] ∧ Sat B1 w (bk b t_disk_Disk (dcells D x) :: bk x.n t_disk_sector (lcells D.now) :: bk x.s t_disk_sector (lcells (kept k D.safe (D.waits.take i))) :: F)) ⟨rfl, by simpa [kept] using h⟩ fun J nx cs => ?_
  intro n0 l2 w1 hJ
  obtain ⟨i, hi, rfl, hv, h⟩ := cs _ _ _ hJ
  obtain rfl : n0 = (i : Int) := by simpa using hv
  obtain ⟨f1, f2⟩ := kept_facts k hD.safe hw i hi
  refine Br.lt (fun hlt => ?_) (fun hge => ?_)
  · have hlt : i < D.waits.length := by omega
    have hkt := kept_take k D.safe hlt
    have hwi := hD.waits _ (List.getElem_mem hlt)
    generalize hS : kept k D.safe (D.waits.take i) = S at *
    refine hr1.ix hlt (by rw [wcells_len hw]; omega) fun a hr' => ?_
    have hld := hr'.ldA (n := 257) (j := i * 257) h wd_write (by rw [wcells_len hw]; omega)
    rw [wcells_at hw i hlt] at hld
    refine ⟨_, hld, ?_⟩
    refine h.var zr_write fun b1 w' h => ?_
    refine Sat.stA (n := 257) (vs := wcell D.waits[i]) h wd_write (wcell_len hwi.2) (ones_wcell _) (by simp [bcells]) fun w' h => ?_
    have ew : List.take 0 (.int .i64 0 :: bcells (List.replicate 256 0)) ++ wcell D.waits[i] ++ List.drop (0 + 257) (.int .i64 0 :: bcells (List.replicate 256 0)) = wcell D.waits[i] := by
      rw [List.drop_eq_nil_iff.2 (by simp [bcells_length])]; simp
    rw [ew] at h
    refine ⟨by simp [Nz], by simp only [Nn]; rw [Int.tmod_eq_emod_of_nonneg (by omega)]; omega, ?_⟩
    refine Jn.dup ?_
    have hbit : eqI (bitsOf BinOp.and .u64 (Int.fdiv k (2 ^ min (Int.toNat (Int.tmod (i : Int) 64)) 64)) 1) 1 = keepBit k i := rfl
    rw [hbit]
    have next : ∀ w', Sat B1 w' (bk b1 t_disk_write (wcell D.waits[i]) :: bk b t_disk_Disk (dcells D x) :: bk x.n t_disk_sector (lcells D.now) :: bk x.s t_disk_sector (lcells (keepStep k S (D.waits[i], i))) :: F) → Nx J (D.waits.length - i) [.int .i64 (IntKind.i64.wrap ((i : Int) + 1))] w' := by
      intro w' h
      refine nx i _ _ _ hlt rfl ⟨?_, ?_⟩
      · rw [w64 (by omega) (by omega)]; simp
      · rw [hkt]; exact h.tail
    refine Br.bool (fun hb w2 ha => ?_) fun hb => ⟨rfl, next _ ?_⟩
    · have h := h.alk ha
      have hl1 : (wcell D.waits[i]).length = 257 := wcell_len hwi.2
      refine NN.some ⟨_, _, _, ld1 (L := dcells D x) sc_sectors (h.pull 1).bk rfl, _, ld1 sc_int h.bk rfl, ?_⟩
      rw [add_mk]
      refine ⟨_, ldA (n := 256) wd_sector h.bk (by omega), ?_⟩
      have e1 : ((wcell D.waits[i]).drop (0 + 1)).take 256 = bcells D.waits[i].2 := by
        simp only [wcell, Nat.zero_add, List.drop_succ_cons, List.drop_zero]
        exact List.take_of_length_le (by rw [bcells_length]; omega)
      rw [e1]
      refine Ix.mk (by omega) (by omega) ?_
      rw [Int.toNat_natCast, add_mk, Nat.zero_add]
      have hlS : S.length = D.now.length := f1.trans hD.len
      refine Sat.stA (n := 256) (h.pull 3) wd_sector (by rw [bcells_length]; exact hwi.2) (ones_bcells _) (by rw [cells_len f2, hlS]; exact cells_bound hwi.1) fun w' h => ⟨rfl, next _ ?_⟩
      rw [cells_set f2 (by omega)] at h
      have ek : keepStep k S (D.waits[i], i) = S.set D.waits[i].1 D.waits[i].2 := by simp [keepStep, hb]
      rw [ek]
      exact ((h.pull 3).pull 3).pull 3
    · have ek : keepStep k S (D.waits[i], i) = S := by simp [keepStep, hb]
      rw [ek]; exact h
  · have hin : i = D.waits.length := by omega
    subst hin
    rw [List.take_length] at h f1 f2
    intro w2 ha
    have h := h.alk ha
    refine NN.some ⟨_, _, _, ld1 (L := dcells D x) sc_sectors h.bk rfl, NN.some ⟨_, _, _, ld1 (L := dcells D x) sc_sectors h.bk rfl, ?_⟩⟩
    have hlS : (kept k D.safe D.waits).length = D.now.length := f1.trans hD.len
    have hlc : (lcells (kept k D.safe D.waits)).length = D.now.length * 256 := by rw [cells_len f2, hlS]
    have hln : (lcells D.now).length = D.now.length * 256 := cells_len hD.now
    obtain ⟨B2, hle2, h, hz, back⟩ := (h.pull 2).lendBk
    have rs : Rd B2 (at0 x.s) (lcells (kept k D.safe D.waits)) := Rd.ofBlock hz (by rw [List.drop_zero, List.take_length]) (by omega)
    refine Sat.copyK (k := 256) (h.pull 1) rs el_sectors.und (by kernel_rfl) (by rw [hlc]; simp) (by omega) (ones_lcells _) fun w' h => ?_
    have e1 : List.take 0 (lcells D.now) ++ lcells (kept k D.safe D.waits) ++ List.drop (0 + (lcells (kept k D.safe D.waits)).length) (lcells D.now) = lcells (kept k D.safe D.waits) := by
      rw [List.drop_eq_nil_iff.2 (by omega)]; simp
    rw [e1] at h
    refine NN.some (Sat.st1 (h.pull 1) sc_writes rfl (by simp [dcells]) fun w' h => NN.some (Sat.st1 h sc_bool rfl (by simp [dcells]) fun w' h => NN.some (Sat.st1 h sc_int rfl (by simp [dcells]) fun w' h => ?_)))
    have eo : D.off k = { D with now := kept k D.safe D.waits, safe := kept k D.safe D.waits, waits := [], down := true, fuse := 0 } := by simp [Dk.off, hd]
    refine hk _ ?_
    have h := (back _ _ h).thaw hle1
    rw [eo] at hok ⊢
    refine Sat.dShut ⟨x.n, x.s, none, 0, x.acts⟩ hok ?_
    have h := (Sat.buf0 (e := t_disk_write) (k := 257) ((h.pull 1).pull 2 |>.pull 1))
    have h := ((h.pull 3).pull 3).pull 3
    simp only [dcells, hlS]
    exact h

end Go.Dv

/-! disk: Read, Write, Sync -/
set_option maxRecDepth 20000
namespace Go.Dv
open Go Go.Sh Go.Sl

variable {B : Bs} {w : World} {F : List HP} {K : Value → World → Prop}

theorem Read_sector {b : Nat} {D : Dk} {i : Nat} (h : Sat B w (dsk b D :: F)) (hd : D.down = false) (hi : i < D.now.length)
    (hk : ∀ B' p w', B.le B' → Sat B' w' (dsk b D :: F) → Rd B' p (bcells D.now[i]) → K (.tuple #[.slice p 256 256, .int .i64 0]) w') : Cs P f_disk_Disk_Read #[.pointer (at0 b), .int .i64 (i : Int)] w K := by
  refine ok_disk_Disk_Read _ _ ?_
  unfold vc_disk_Disk_Read
  have hr : D.ready (i : Int) = 0 := by
    unfold Dk.ready
    rw [hd, if_neg (by simp), if_neg (by omega)]
  refine ready_ok h ⟨_, rfl, ?_⟩
  rw [hr]
  obtain ⟨x, h, hD⟩ := Sat.dOpen h
  refine Br.f (NN.some ⟨_, _, _, ld1 (L := dcells D x) sc_sectors h.bk rfl, ?_⟩)
  refine Ix.mk (by omega) (by omega) ?_
  rw [Int.toNat_natCast, add_mk, Nat.zero_add]
  have hln : (lcells D.now).length = D.now.length * 256 := cells_len hD.now
  refine ⟨_, ldA (n := 256) wd_sector (h.pull 1).bk (by rw [hln]; exact cells_bound hi), ?_⟩
  rw [(cells_split hD.now hi).2.1]
  have hl : (bcells D.now[i]).length = 256 := by rw [bcells_length, hD.now _ (List.getElem_mem hi)]
  refine h.var zr_sector fun b1 w' h => ?_
  refine Sat.stA (n := 256) h wd_sector hl (ones_bcells _) (by simp [bcells]) fun w' h => ?_
  have e : List.take 0 (bcells (List.replicate 256 0)) ++ bcells D.now[i] ++ List.drop (0 + 256) (bcells (List.replicate 256 0)) = bcells D.now[i] := by
    rw [List.drop_eq_nil_iff.2 (by simp [bcells_length])]; simp
  rw [e] at h
  refine ⟨_, _, _, _, arr_all un_sector sz_u8 (by omega), ?_⟩
  obtain ⟨B', hle, h, hz, _⟩ := h.lendBk
  exact hk B' _ _ hle (Sat.dShut x hD h) (Rd.ofBlock hz (by rw [List.drop_zero, List.take_length]) (by omega))

/-- Noughts behind bytes. -/
def full (bs : List UInt8) : List UInt8 := bs ++ List.replicate (256 - bs.length) 0
theorem full_length {bs : List UInt8} (h : bs.length ≤ 256) : (full bs).length = 256 := by simp [full]; omega

/-- A sector is written. -/
def Dk.put (D : Dk) (i : Nat) (bs : List UInt8) : Dk := { D with now := D.now.set i (full bs), waits := D.waits ++ [(i, full bs)] }
def Dk.write (D : Dk) (i : Nat) (bs : List UInt8) : Dk × Int :=
  if D.down then (D, 8) else if D.act.2 then ((D.act.1.put i bs).off D.keep, 8) else (D.act.1.put i bs, 0)

theorem act_same (D : Dk) : D.act.1.now = D.now ∧ D.act.1.safe = D.safe ∧ D.act.1.waits = D.waits ∧ D.act.1.down = D.down ∧ D.act.1.keep = D.keep := by
  unfold Dk.act; split
  · simp
  · split <;> simp

theorem act_okd {D : Dk} (h : D.ok) : D.act.1.ok := by
  obtain ⟨e1, e2, e3, e4, e5⟩ := act_same D
  refine ⟨by rw [e1, e2]; exact h.len, by rw [e1]; exact h.now, by rw [e2]; exact h.safe, by rw [e1, e3]; exact h.waits, by rw [e1]; exact h.size, ?_⟩
  have := h.fuse
  unfold Dk.act; split
  · exact this
  · split
    · exact this
    · dsimp only; omega

theorem put_ok {D : Dk} (h : D.ok) {i : Nat} (hi : i < D.now.length) {bs : List UInt8} (hb : bs.length ≤ 256) : (D.put i bs).ok := by
  refine ⟨by simp [Dk.put, h.len], ?_, h.safe, ?_, by simpa [Dk.put] using h.size, h.fuse⟩
  · intro s hs
    rcases List.mem_or_eq_of_mem_set hs with hs | hs
    · exact h.now s hs
    · rw [hs]; exact full_length hb
  · intro x hx
    simp only [Dk.put, List.mem_append, List.mem_singleton, List.length_set] at hx ⊢
    rcases hx with hx | rfl
    · exact h.waits x hx
    · exact ⟨hi, full_length hb⟩

theorem b_write {i : Nat} : (Instr.build t_disk_write #[(0, .int .i64 (i : Int))]).run P w = .ok (.agg (Value.int .i64 (i : Int) :: bcells (List.replicate 256 0)).toArray) w := by
  refine bld_run pt_write ?_
  rw [fill_step (L := [.int .i64 (i : Int)]) rfl rfl rfl (by simp), fill_nil]
  simp

theorem Write_ok {b : Nat} {D : Dk} {i : Nat} {bs : List UInt8} {q : Option Addr} {m mc : Nat} (h : Sat B w (dsk b D :: F)) (hi : i < D.now.length) (hr : Rd B q (bcells bs)) (hm : m = bs.length) (hb : bs.length ≤ 256) (hwl : D.waits.length < 100000000)
    (hk : ∀ w', Sat B w' (dsk b (D.write i bs).1 :: F) → K (.int .i64 (D.write i bs).2) w') : Cs P f_disk_Disk_Write #[.pointer (at0 b), .int .i64 (i : Int), .slice q m mc] w K := by
  subst hm
  refine ok_disk_Disk_Write _ _ _ _ _ ?_
  unfold vc_disk_Disk_Write
  refine ready_ok h ⟨_, rfl, ?_⟩
  cases hd : D.down with
  | true =>
    have e : D.write i bs = (D, 8) := by simp [Dk.write, hd]
    rw [e] at hk
    have hr8 : D.ready (i : Int) = 8 := by simp [Dk.ready, hd]
    rw [hr8]
    exact Br.t (hk _ h)
  | false =>
  have hr0 : D.ready (i : Int) = 0 := by
    unfold Dk.ready
    rw [hd, if_neg (by simp), if_neg (by omega)]
  rw [hr0]
  refine Br.f (Br.gt (fun hx => by omega) fun _ => ?_)
  refine Act_ok h fun w' h => ⟨_, _, rfl, ?_⟩
  obtain ⟨e1, e2, e3, e4, e5⟩ := act_same D
  have ew : D.write i bs = if D.act.2 then ((D.act.1.put i bs).off D.keep, 8) else (D.act.1.put i bs, 0) := by
    unfold Dk.write; rw [hd, if_neg (by simp)]
  rw [ew] at hk
  clear ew hr0
  have hAo := Sat.dFact h
  generalize hA : D.act.1 = A at *
  generalize D.act.2 = goes at *
  have hiA : i < A.now.length := by rw [e1]; exact hi
  obtain ⟨x, h, _⟩ := Sat.dOpen h
  refine ⟨_, _, b_write, ?_⟩
  refine h.var zr_write fun b1 w' h => ?_
  have hzl : (Value.int .i64 (i : Int) :: bcells (List.replicate 256 0)).length = 257 := by simp [bcells_length]
  refine Sat.stA (n := 257) h wd_write hzl (by
    intro v hv
    rcases List.mem_cons.1 hv with rfl | hv
    · rfl
    · exact ones_bcells _ v hv) (by simp [bcells_length]) fun w' h => ?_
  have e2' : List.take 0 (Value.int .i64 0 :: bcells (List.replicate 256 0)) ++ (Value.int .i64 (i : Int) :: bcells (List.replicate 256 0)) ++ List.drop (0 + 257) (Value.int .i64 0 :: bcells (List.replicate 256 0)) = Value.int .i64 (i : Int) :: bcells (List.replicate 256 0) := by
    rw [List.drop_eq_nil_iff.2 (by simp [bcells_length])]; simp
  rw [e2'] at h
  rw [add_mk]
  refine ⟨_, _, _, _, arr_all un_sector sz_u8 (by omega), ?_⟩
  refine Sat.copy h hr el_bytes.und sz_u8 (by rw [bcells_length]; exact (Nat.min_eq_left hb).symm) (by rw [hzl, bcells_length]; omega) (ones_bcells _) fun w' h => ?_
  have e3' : List.take (0 + 1) (Value.int .i64 (i : Int) :: bcells (List.replicate 256 0)) ++ bcells bs ++ List.drop (0 + 1 + (bcells bs).length) (Value.int .i64 (i : Int) :: bcells (List.replicate 256 0)) = wcell (i, full bs) := by
    have : 0 + 1 + (bcells bs).length = bs.length + 1 := by rw [bcells_length]; omega
    rw [this]
    simp only [wcell, full, bcells_append, bcells_rep, List.drop_succ_cons, List.drop_replicate]
    rfl
  rw [e3'] at h
  intro w2 ha
  have h := h.alk ha
  have hfl := full_length hb
  have hwl' : (wcell (i, full bs)).length = 257 := wcell_len hfl
  refine NN.some ⟨_, _, _, ld1 (L := dcells A x) sc_sectors (h.pull 1).bk rfl, _, ldA (n := 256) wd_sector h.bk (by omega), ?_⟩
  have e4' : ((wcell (i, full bs)).drop (0 + 1)).take 256 = bcells (full bs) := by
    simp only [wcell, Nat.zero_add, List.drop_succ_cons, List.drop_zero]
    exact List.take_of_length_le (by rw [bcells_length]; omega)
  rw [e4']
  refine Ix.mk (by omega) (by omega) ?_
  rw [Int.toNat_natCast, add_mk, Nat.zero_add]
  refine Sat.stA (n := 256) (h.pull 2) wd_sector (by rw [bcells_length]; exact hfl) (ones_bcells _) (by rw [cells_len hAo.now]; exact cells_bound hiA) fun w' h => ?_
  rw [cells_set hAo.now hiA] at h
  intro w3 ha
  have h := h.alk ha
  refine NN.some ⟨_, _, _, ld1 (L := dcells A x) sc_writes (h.pull 2).bk rfl, _, ldA (n := 257) wd_write (h.pull 1).bk (by omega), ?_⟩
  have e5' : ((wcell (i, full bs)).drop 0).take 257 = wcell (i, full bs) := by rw [List.drop_zero]; exact List.take_of_length_le (by omega)
  rw [e5']
  refine h.buildOne (L := wcell (i, full bs)) el_writes (by omega) rfl hwl' fun p3 w' h => ⟨⟨ld1 (L := dcells A x) sc_writes (h.pull 3).bk rfl, trivial⟩, ?_⟩
  obtain ⟨B1, hle1, h, hr1, _⟩ := h.fix
  refine Sat.append (h.pull 4) el_writes hr1 (by rw [hwl']) (ones_wcell _) (by rw [e3]; omega) fun p4 c4 w' h => NN.some ?_
  refine Sat.st1 (h.pull 3) sc_writes rfl (by simp [dcells]) fun w' h => ?_
  have hP := put_ok hAo hiA hb
  have hq : Sat B w' (dsk b (A.put i bs) :: F) := by
    refine Sat.dShut ⟨x.n, x.s, p4, c4, x.acts⟩ hP ?_
    have ew : wcells (A.put i bs).waits = wcells A.waits ++ wcell (i, full bs) := by simp [Dk.put, wcells]
    have el : (A.put i bs).waits.length = A.waits.length + 1 := by simp [Dk.put]
    have en : (A.put i bs).now.length = A.now.length := by simp [Dk.put]
    have ed : dcells (A.put i bs) ⟨x.n, x.s, p4, c4, x.acts⟩ = (dcells A x).set 2 (.slice p4 (A.waits.length + 1) c4) := by simp only [dcells, el, en]; rfl
    rw [ew, el, ed]
    have h := (h.pull 3).tail
    have h := (((h.pull 1).pull 3).pull 3).pull 3
    exact h.thaw hle1
  cases goes with
  | true =>
    refine Br.t ?_
    rw [if_pos rfl] at hk ⊢
    refine Off_ok hq (by simp only [Dk.put, List.length_append, List.length_cons, List.length_nil, e3]; omega) fun w' h => ⟨rfl, hk _ h⟩
  | false => exact Br.f (hk _ hq)

end Go.Dv

/-! disk.Sync; meter -/
set_option maxRecDepth 20000
namespace Go.Dv
open Go Go.Sh Go.Sl

variable {B : Bs} {w : World} {F : List HP} {K : Value → World → Prop}

def Dk.sync (D : Dk) : Dk × Int := if D.down then (D, 8) else if D.act.2 then (D.act.1.off D.keep, 8) else ({ D.act.1 with safe := D.act.1.now, waits := [] }, 0)

theorem Sync_ok {b : Nat} {D : Dk} (h : Sat B w (dsk b D :: F)) (hwl : D.waits.length < 100000000) (hk : ∀ w', Sat B w' (dsk b D.sync.1 :: F) → K (.int .i64 D.sync.2) w') : Cs P f_disk_Disk_Sync #[.pointer (at0 b)] w K := by
  refine ok_disk_Disk_Sync _ ?_
  unfold vc_disk_Disk_Sync
  have hld : (loadVar t_bool (Addr.add ⟨b, 0, none⟩ 3)).run P w = .ok (.bool D.down) w := by
    obtain ⟨x, h, _⟩ := Sat.dOpen h
    exact ld1 (L := dcells D x) sc_bool h.bk rfl
  refine Br.f (NN.some ⟨_, hld, Br.bool (fun hd => ?_) fun hd => ?_⟩)
  · have e : D.sync = (D, 8) := by simp [Dk.sync, hd]
    rw [e] at hk
    exact hk _ h
  refine Act_ok h fun w' h => ⟨_, _, rfl, ?_⟩
  have es : D.sync = if D.act.2 then (D.act.1.off D.keep, 8) else ({ D.act.1 with safe := D.act.1.now, waits := [] }, 0) := by simp [Dk.sync, hd]
  rw [es] at hk
  clear es
  obtain ⟨e1, e2, e3, e4, e5⟩ := act_same D
  have hAo := Sat.dFact h
  generalize hA : D.act.1 = A at *
  generalize D.act.2 = goes at *
  cases goes with
  | true =>
    rw [if_pos rfl] at hk ⊢
    exact Br.t (Off_ok h (by rw [e3]; omega) fun w' h => ⟨rfl, hk _ h⟩)
  | false =>
    simp only [Bool.false_eq_true, if_false] at hk
    refine Br.f fun w2 ha => ?_
    have h := h.alk ha
    obtain ⟨x, h, _⟩ := Sat.dOpen h
    refine NN.some ⟨_, _, _, ld1 (L := dcells A x) sc_sectors h.bk rfl, NN.some ⟨_, _, _, ld1 (L := dcells A x) sc_sectors h.bk rfl, ?_⟩⟩
    have hln : (lcells A.now).length = A.now.length * 256 := cells_len hAo.now
    have hls : (lcells A.safe).length = A.now.length * 256 := by rw [cells_len hAo.safe, hAo.len]
    obtain ⟨B2, hle2, h, hz, back⟩ := (h.pull 1).lendBk
    have rn : Rd B2 (at0 x.n) (lcells A.now) := Rd.ofBlock hz (by rw [List.drop_zero, List.take_length]) (by omega)
    refine Sat.copyK (k := 256) (h.pull 1) rn el_sectors.und (by kernel_rfl) (by rw [hln]; simp) (by omega) (ones_lcells _) fun w' h => ?_
    have e1' : List.take 0 (lcells A.safe) ++ lcells A.now ++ List.drop (0 + (lcells A.now).length) (lcells A.safe) = lcells A.now := by
      rw [List.drop_eq_nil_iff.2 (by omega)]; simp
    rw [e1'] at h
    refine NN.some (Sat.st1 (h.pull 1) sc_writes rfl (by simp [dcells]) fun w' h => hk _ ?_)
    have h := back _ _ h
    have hok : ({ A with safe := A.now, waits := [] } : Dk).ok := ⟨rfl, hAo.now, hAo.now, by simp, hAo.size, hAo.fuse⟩
    refine Sat.dShut ⟨x.n, x.s, none, 0, x.acts⟩ hok ?_
    have h := (Sat.buf0 (e := t_disk_write) (k := 257) ((h.pull 3).tail))
    exact ((h.pull 3).pull 2).pull 3

/-! ### the register -/

theorem wd_Value : wide P t_meter_Value = some 34 := by kernel_rfl
theorem zr_Value : zeros P t_meter_Value = some (.int .i64 0 :: .int .i64 0 :: bcells (List.replicate 32 0)) := by kernel_rfl
theorem pt_Value : parts P t_meter_Value = some ([(0, 1), (1, 1), (2, 32)], .int .i64 0 :: .int .i64 0 :: bcells (List.replicate 32 0)) := by kernel_rfl
theorem pt_Meter : parts P t_meter_Meter = some ([(0, 34), (34, 1), (35, 1)], .int .i64 0 :: .int .i64 0 :: (bcells (List.replicate 32 0) ++ [.int .i64 0, .pointer none])) := by kernel_rfl
theorem sc_pdisk : scal P t_p_disk_Disk = true := by kernel_rfl

structure Mt where
  count : Int
  epoch : Int
  root : List UInt8
  most : Int

def Mt.vcells (M : Mt) : List Value := .int .i64 M.count :: .int .i64 M.epoch :: bcells M.root
def mcells (db : Nat) (M : Mt) : List Value := M.vcells ++ [.int .i64 M.most, .pointer (at0 db)]
structure Mt.ok (M : Mt) : Prop where
  root : M.root.length = 32
  count : 0 ≤ M.count ∧ M.count ≤ M.most
  most : M.most ≤ 1099511627776

def mtr (b db : Nat) (M : Mt) : HP := box fun (_ : Unit) => [bk b t_meter_Meter (mcells db M), so M.ok]
theorem Sat.mOpen {b db : Nat} {M : Mt} (h : Sat B w (mtr b db M :: F)) : Sat B w (bk b t_meter_Meter (mcells db M) :: F) ∧ M.ok := by
  obtain ⟨_, h⟩ := h.opened
  obtain ⟨h1, h⟩ := (h.pull 1).fact
  exact ⟨h, h1⟩
theorem Sat.mShut {b db : Nat} {M : Mt} (hM : M.ok) (h : Sat B w (bk b t_meter_Meter (mcells db M) :: F)) : Sat B w (mtr b db M :: F) :=
  Sat.shut (f := fun (_ : Unit) => [bk b t_meter_Meter (mcells db M), so M.ok]) () ((Sat.known hM h).pull 1)
theorem Sat.mFact {b db : Nat} {M : Mt} (h : Sat B w (mtr b db M :: F)) : M.ok := (Sat.mOpen h).2

theorem vcells_len {M : Mt} (h : M.ok) : M.vcells.length = 34 := by simp [Mt.vcells, bcells_length, h.root]
theorem mc_34 {db : Nat} {M : Mt} (h : M.ok) : (mcells db M)[34]? = some (.int .i64 M.most) := by
  unfold mcells; rw [List.getElem?_append_right (by rw [vcells_len h]; omega), vcells_len h]; rfl
theorem mc_35 {db : Nat} {M : Mt} (h : M.ok) : (mcells db M)[35]? = some (.pointer (at0 db)) := by
  unfold mcells; rw [List.getElem?_append_right (by rw [vcells_len h]; omega), vcells_len h]; rfl

def Mt.new (most : Int) : Mt := ⟨0, 0, List.replicate 32 0, mnI (mxI most 0) 1099511627776⟩
theorem mnew_ok (most : Int) : (Mt.new most).ok := by
  refine ⟨by simp [Mt.new], ?_, ?_⟩
  · simp only [Mt.new, mnI, mxI]; split <;> split <;> omega
  · simp only [Mt.new, mnI]; split <;> omega

theorem MNew_ok {most : Int} {db : Nat} (h : Sat B w F) (hk : ∀ b w', Sat B w' (mtr b db (Mt.new most) :: F) → K (.pointer (at0 b)) w') : Cs P f_meter_New #[.int .i64 most, .pointer (at0 db)] w K := by
  refine ok_meter_New _ _ ?_
  unfold vc_meter_New
  have hb : ∀ m : Int, (Instr.build t_meter_Meter #[(1, .int .i64 m), (2, .pointer (at0 db))]).run P w = .ok (.agg (mcells db ⟨0, 0, List.replicate 32 0, m⟩).toArray) w := fun m => by
    refine bld_run pt_Meter ?_
    rw [fill_step (L := [.int .i64 m]) rfl rfl rfl (by simp [bcells_length]), fill_step (L := [.pointer (at0 db)]) rfl rfl rfl (by simp [bcells_length]), fill_nil]
    rfl
  refine ⟨_, _, hb _, ?_⟩
  exact h.new fun b w' h => hk b w' (Sat.mShut (mnew_ok most) h)

theorem MLeft_ok {b db : Nat} {M : Mt} (h : Sat B w (mtr b db M :: F)) (hk : ∀ w', Sat B w' (mtr b db M :: F) → K (.int .i64 (M.most - M.count)) w') : Cs P f_meter_Meter_Left #[.pointer (at0 b)] w K := by
  obtain ⟨h1, hM⟩ := Sat.mOpen h
  refine ok_meter_Meter_Left _ ?_
  unfold vc_meter_Meter_Left
  have h2 := hM.count
  have h3 := hM.most
  refine Br.f fun w1 ha => NN.some ⟨_, ld1 sc_int (h1.alk ha).bk (mc_34 hM), NN.some ⟨M.count, ld1 sc_int (h1.alk ha).bk rfl, ?_⟩⟩
  show K (.int .i64 (IntKind.i64.wrap (M.most - M.count))) w1
  rw [w64 (by omega) (by omega)]
  exact hk _ (h.alk ha)

theorem Get_m {b db : Nat} {M : Mt} {D : Dk} (h : Sat B w (mtr b db M :: dsk db D :: F))
    (hk1 : D.down = false → ∀ w', Sat B w' (mtr b db M :: dsk db D :: F) → K (.tuple #[.agg M.vcells.toArray, .int .i64 0]) w')
    (hk2 : D.down = true → ∀ w', Sat B w' (mtr b db M :: dsk db D :: F) → K (.tuple #[.agg (Mt.vcells ⟨0, 0, List.replicate 32 0, 0⟩).toArray, .int .i64 8]) w') : Cs P f_meter_Meter_Get #[.pointer (at0 b)] w K := by
  refine ok_meter_Meter_Get _ ?_
  unfold vc_meter_Meter_Get
  have hM := Sat.mFact h
  refine h.var zr_Value fun b0 w' h => Br.f (NN.some ?_)
  have hl : ∀ {G w'}, Sat B w' (mtr b db M :: G) → (loadVar t_p_disk_Disk (Addr.add ⟨b, 0, none⟩ 35)).run P w' = .ok (.pointer (at0 db)) w' := fun h => ld1 sc_pdisk (Sat.mOpen h).1.bk (mc_35 hM)
  refine ⟨_, hl (h.pull 1), ?_⟩
  have ones_v : ∀ {M : Mt}, ones M.vcells := fun v hv => by
    simp only [Mt.vcells, List.mem_cons] at hv
    rcases hv with rfl | rfl | hv
    · rfl
    · rfl
    · exact ones_bcells _ v hv
  have fin : ∀ {M' : Mt} {x : Int} {w'}, M'.root.length = 32 → Sat B w' (bk b0 t_meter_Value (.int .i64 0 :: .int .i64 0 :: bcells (List.replicate 32 0)) :: mtr b db M :: dsk db D :: F) → (∀ w', Sat B w' (mtr b db M :: dsk db D :: F) → K (.tuple #[.agg M'.vcells.toArray, .int .i64 x]) w') →
      DoU P (storeVar t_meter_Value ⟨b0, 0, none⟩ (.agg M'.vcells.toArray)) w' fun w6 ↦ LdV P t_meter_Value ⟨b0, 0, none⟩ w6 fun v6 ↦ K (.tuple #[v6, .int .i64 x]) w6 := by
    intro M' x w' hr h hk
    exact ret_arr (K := fun v w => K (.tuple #[v, .int .i64 x]) w) h wd_Value (by simp [Mt.vcells, bcells_length, hr]) (by simp [bcells_length]) ones_v hk
  refine Down_ok (h.pull 2) ⟨_, rfl, Br.bool (fun hd => ?_) fun hd => NN.some ?_⟩
  · refine ⟨_, _, bld_run pt_Value fill_nil, ?_⟩
    exact fin (M' := ⟨0, 0, List.replicate 32 0, 0⟩) (by simp) h (hk2 hd)
  · have hv : (loadVar t_meter_Value (Addr.add ⟨b, 0, none⟩ 0)).run P w' = .ok (.agg M.vcells.toArray) w' := by
      have := ldA (P := P) (n := 34) (off := 0) wd_Value (Sat.mOpen (h.pull 1)).1.bk (by simp [mcells, vcells_len hM])
      unfold mcells at this
      rw [List.drop_zero, List.take_left' (vcells_len hM)] at this
      exact this
    exact ⟨_, hv, fin hM.root h (hk1 hd)⟩

def lastBit (k : Int) : Bool := eqI (Int.fdiv k (2 ^ 63)) 1
def Mt.go (M : Mt) (e : Int) (root : List UInt8) : Mt := { M with count := M.count + 1, epoch := e, root := root }
/-- The register goes on. -/
def Mt.next (M : Mt) (D : Dk) (e : Int) (root : List UInt8) : Mt × Dk × Int :=
  if D.down then (M, D, 8) else if e < M.epoch then (M, D, 1) else if M.most - M.count = 0 then (M, D, 10)
  else if D.act.2 then (if lastBit D.keep then M.go e root else M, D.act.1.off D.keep, 8) else (M.go e root, D.act.1, 0)

theorem Next_m {b db : Nat} {M : Mt} {D : Dk} {e : Int} {root : List UInt8} (h : Sat B w (mtr b db M :: dsk db D :: F)) (hr : root.length = 32) (hwl : D.waits.length < 100000000)
    (hk : ∀ w', Sat B w' (mtr b db (M.next D e root).1 :: dsk db (M.next D e root).2.1 :: F) → K (.int .i64 (M.next D e root).2.2) w') : Cs P f_meter_Meter_Next #[.pointer (at0 b), .int .i64 e, arr root] w K := by
  refine ok_meter_Meter_Next _ _ _ ?_
  unfold vc_meter_Meter_Next
  have hM := Sat.mFact h
  refine h.new fun b0 w' h => Br.f (NN.some ?_)
  have ex : (arr root).cells.toList = bcells root := rfl
  rw [ex] at h
  have hbr : (bcells root).length = 32 := by rw [bcells_length, hr]
  have hl : ∀ {M' G w'}, M'.ok → Sat B w' (mtr b db M' :: G) → (loadVar t_p_disk_Disk (Addr.add ⟨b, 0, none⟩ 35)).run P w' = .ok (.pointer (at0 db)) w' := fun hM h => ld1 sc_pdisk (Sat.mOpen h).1.bk (mc_35 hM)
  refine ⟨_, hl hM (h.pull 1), ?_⟩
  refine Down_ok (h.pull 2) ⟨_, rfl, Br.bool (fun hd => ?_) fun hd => NN.some ⟨_, ld1 sc_int (Sat.mOpen (h.pull 1)).1.bk rfl, ?_⟩⟩
  · have e : M.next D e root = (M, D, 8) := by simp [Mt.next, hd]
    rw [e] at hk
    exact hk _ h.tail
  refine Br.lt (fun h1 => ?_) fun h1 => ?_
  · have e : M.next D e root = (M, D, 1) := by simp [Mt.next, hd, h1]
    rw [e] at hk
    exact hk _ h.tail
  refine MLeft_ok (h.pull 1) fun w' h => ⟨_, rfl, Br.eq (fun h2 => ?_) fun h2 => NN.some ⟨_, hl hM h, ?_⟩⟩
  · have e : M.next D e root = (M, D, 10) := by simp [Mt.next, hd, h1, h2]
    rw [e] at hk
    exact hk _ (h.pull 1).tail
  have en : M.next D e root = if D.act.2 then (if lastBit D.keep then M.go e root else M, D.act.1.off D.keep, 8) else (M.go e root, D.act.1, 0) := by
    unfold Mt.next; rw [hd, if_neg (by simp), if_neg (by omega), if_neg h2]
  rw [en] at hk
  clear en
  refine Act_ok (h.pull 2) fun w' h => ⟨_, _, rfl, ?_⟩
  obtain ⟨e1, e2, e3, e4, e5⟩ := act_same D
  generalize hA : D.act.1 = A at *
  generalize D.act.2 = goes at *
  have hc := hM.count
  have hm := hM.most
  have hgo : (M.go e root).ok := ⟨hr, by simp only [Mt.go]; omega, hm⟩
  have go : ∀ {w'}, Sat B w' (dsk db A :: mtr b db M :: bk b0 t_arr32_uint8 (bcells root) :: F) → ∀ (X : World → Prop), (∀ w', Sat B w' (mtr b db (M.go e root) :: dsk db A :: bk b0 t_arr32_uint8 (bcells root) :: F) → X w') → 
      Dr w' fun w5 ↦ NN (at0 b) fun a4 ↦ LdI .i64 P t_int (Addr.add (Addr.add a4 0) 0) w5 fun n3 ↦ LdV P t_arr32_uint8 ⟨b0, 0, none⟩ w5 fun v3 ↦
        RdV P (Instr.build t_meter_Value #[(0, .int .i64 (IntKind.i64.wrap (n3 + 1))), (1, .int .i64 e), (2, v3)]) w5 fun v4 ↦ NN (at0 b) fun a5 ↦ DoU P (storeVar t_meter_Value (Addr.add a5 0) v4) w5 fun w6 ↦ X w6 := by
    intro w' h X hX w1 ha
    have h := h.alk ha
    have h1' := (Sat.mOpen (h.pull 1)).1
    refine NN.some ⟨M.count, ld1 sc_int h1'.bk rfl, _, ldA (n := 32) wd_arr32 (h.pull 2).bk (by omega), ?_⟩
    rw [List.drop_zero, List.take_of_length_le (by omega), w64 (x := M.count + 1) (by omega) (by omega)]
    have hb : (Instr.build t_meter_Value #[(0, .int .i64 (M.count + 1)), (1, .int .i64 e), (2, arr root)]).run P w1 = .ok (.agg (M.go e root).vcells.toArray) w1 := by
      refine bld_run pt_Value ?_
      have s1 : List.take 0 (Value.int .i64 0 :: .int .i64 0 :: bcells (List.replicate 32 0)) ++ [Value.int .i64 (M.count + 1)] ++ List.drop (0 + 1) (Value.int .i64 0 :: .int .i64 0 :: bcells (List.replicate 32 0)) = Value.int .i64 (M.count + 1) :: .int .i64 0 :: bcells (List.replicate 32 0) := rfl
      have s2 : List.take 1 (Value.int .i64 (M.count + 1) :: .int .i64 0 :: bcells (List.replicate 32 0)) ++ [Value.int .i64 e] ++ List.drop (1 + 1) (Value.int .i64 (M.count + 1) :: .int .i64 0 :: bcells (List.replicate 32 0)) = Value.int .i64 (M.count + 1) :: .int .i64 e :: bcells (List.replicate 32 0) := rfl
      have s3 : List.take 2 (Value.int .i64 (M.count + 1) :: .int .i64 e :: bcells (List.replicate 32 0)) ++ bcells root ++ List.drop (2 + 32) (Value.int .i64 (M.count + 1) :: .int .i64 e :: bcells (List.replicate 32 0)) = (M.go e root).vcells := by
        rw [List.drop_eq_nil_iff.2 (by simp [bcells_length]), List.append_nil]; rfl
      rw [fill_step (size := 1) (L := [.int .i64 (M.count + 1)]) rfl rfl rfl (by simp [bcells_length]), s1, fill_step (size := 1) (L := [.int .i64 e]) rfl rfl rfl (by simp [bcells_length]), s2, fill_step (L := bcells root) rfl rfl hbr (by simp [bcells_length]), s3, fill_nil]
    refine ⟨_, hb, NN.some ?_⟩
    refine Sat.stA (n := 34) h1' wd_Value (vcells_len hgo) (by
      intro v hv
      simp only [Mt.vcells, List.mem_cons] at hv
      rcases hv with rfl | rfl | hv
      · rfl
      · rfl
      · exact ones_bcells _ v hv) (by simp [mcells, vcells_len hM]) fun w' h => hX _ ?_
    refine Sat.mShut hgo ?_
    have ec : (mcells db M).take 0 ++ (M.go e root).vcells ++ (mcells db M).drop (0 + 34) = mcells db (M.go e root) := by
      simp only [mcells, List.take_zero, List.nil_append, Nat.zero_add]
      rw [List.drop_left' (vcells_len hM)]
      rfl
    rw [ec] at h
    exact h
  cases goes with
  | false =>
    refine Jn.dupB (Br.t ⟨_, rfl, Jn.dup (Br.t (go h _ fun w' h => ⟨rfl, Br.f ?_⟩))⟩)
    exact hk _ ((h.pull 2).tail)
  | true =>
    rw [if_pos rfl] at hk ⊢
    refine Jn.dupB (Br.f ⟨by simp [Nn], _, rfl, Jn.dup (Br.bool (fun hb => ?_) fun hb => ?_)⟩)
    · have hlb : lastBit D.keep = true := hb
      rw [if_pos hlb] at hk
      refine go h _ fun w' h => ⟨rfl, Br.t (NN.some ⟨_, hl hgo h, Off_ok (h.pull 1) (by rw [e3]; exact Nat.lt_trans hwl (by omega)) fun w' h => ⟨rfl, ?_⟩⟩)⟩
      exact hk _ ((h.pull 2).tail.pull 1)
    · have hlb : ¬ lastBit D.keep = true := by rw [show lastBit D.keep = false from hb]; simp
      rw [if_neg hlb] at hk
      refine ⟨rfl, Br.t (NN.some ⟨_, hl hM (h.pull 1), Off_ok h (by rw [e3]; exact Nat.lt_trans hwl (by omega)) fun w' h => ⟨rfl, ?_⟩⟩)⟩
      exact hk _ ((h.pull 2).tail.pull 1)

end Go.Dv

/-! chain: Half, Left, Next -/
set_option maxRecDepth 20000
namespace Go.Dv
open Go Go.Sh Go.Sl

theorem pt_Area : parts P t_chain_Area = some ([(0, 1), (1, 1), (2, 1), (3, 1)], [.pointer none, .int .i64 0, .int .i64 0, .int .i64 0]) := by kernel_rfl

variable {B : Bs} {w : World} {F : List HP} {K : Value → World → Prop}

structure Ar where
  frm : Nat
  to : Nat
  at_ : Nat
structure Ar.ok (A : Ar) : Prop where
  frm : A.frm ≤ A.at_
  at_ : A.at_ ≤ A.to
  to : A.to ≤ 4096

def acells (db : Nat) (A : Ar) : List Value := [.pointer (at0 db), .int .i64 A.frm, .int .i64 A.to, .int .i64 A.at_]
def ara (b db : Nat) (A : Ar) : HP := box fun (_ : Unit) => [bk b t_chain_Area (acells db A), so A.ok]
theorem Sat.aOpen {b db : Nat} {A : Ar} (h : Sat B w (ara b db A :: F)) : Sat B w (bk b t_chain_Area (acells db A) :: F) ∧ A.ok := by
  obtain ⟨_, h⟩ := h.opened
  obtain ⟨h1, h⟩ := (h.pull 1).fact
  exact ⟨h, h1⟩
theorem Sat.aShut {b db : Nat} {A : Ar} (hA : A.ok) (h : Sat B w (bk b t_chain_Area (acells db A) :: F)) : Sat B w (ara b db A :: F) :=
  Sat.shut (f := fun (_ : Unit) => [bk b t_chain_Area (acells db A), so A.ok]) () ((Sat.known hA h).pull 1)

theorem and_one {x : Int} (h0 : 0 ≤ x) (h1 : x < 9223372036854775808) : bitsOf .and .i64 x 1 = x % 2 := by
  have e0 : bitsOf .and .i64 x 1 = IntKind.i64.wrap (((BitVec.ofInt 64 x &&& BitVec.ofInt 64 1) : BitVec 64).toNat : Int) := rfl
  have h64 : (2:Int) ^ 64 = 18446744073709551616 := by decide
  rw [e0, BitVec.toNat_and, toNat_ofInt h0 (by omega), toNat_ofInt (by omega) (by omega)]
  obtain ⟨a, rfl⟩ := Int.eq_ofNat_of_zero_le h0
  rw [Int.toNat_natCast, show (1 : Int).toNat = 1 from rfl, Nat.and_one_is_mod, w64 (by omega) (by omega)]
  omega

/-- An epoch's area. -/
def areaOf (n : Nat) (e : Int) : Ar := ⟨(e % 2).toNat * (n / 2), (e % 2).toNat * (n / 2) + n / 2, (e % 2).toNat * (n / 2)⟩

theorem Half_ok {db : Nat} {D : Dk} {e : Int} (h : Sat B w (dsk db D :: F)) (h0 : 0 ≤ e) (h1 : e < 9223372036854775808) (hk : ∀ b w', Sat B w' (ara b db (areaOf D.now.length e) :: dsk db D :: F) → K (.pointer (at0 b)) w') :
    Cs P f_chain_Half #[.pointer (at0 db), .int .i64 e] w K := by
  refine ok_chain_Half _ _ ?_
  unfold vc_chain_Half
  refine DSize_ok h ⟨_, rfl, by simp [Nz], ?_⟩
  have hD := Sat.dFact h
  have hs := hD.size
  generalize hn : D.now.length = n at *
  have e1 : Int.tdiv (n : Int) 2 = (n / 2 : Nat) := by rw [Int.tdiv_eq_ediv_of_nonneg (by omega)]; omega
  rw [and_one h0 h1, e1, w64 (x := ((n / 2 : Nat) : Int)) (by omega) (by omega)]
  obtain ⟨m, hm⟩ : ∃ m : Nat, e % 2 = m := ⟨(e % 2).toNat, by omega⟩
  have hm2 : m ≤ 1 := by omega
  have e2 : e % 2 * ((n / 2 : Nat) : Int) = ((m * (n / 2) : Nat) : Int) := by rw [hm, Int.natCast_mul]
  have hle : m * (n / 2) ≤ 1 * (n / 2) := Nat.mul_le_mul_right _ hm2
  rw [e2, w64 (x := ((m * (n / 2) : Nat) : Int)) (by omega) (by omega), w64 (by omega) (by omega)]
  have hA : areaOf n e = ⟨m * (n / 2), m * (n / 2) + n / 2, m * (n / 2)⟩ := by simp [areaOf, hm]
  have hb : (Instr.build t_chain_Area #[(0, .pointer (at0 db)), (1, .int .i64 ((m * (n / 2) : Nat) : Int)), (2, .int .i64 (((m * (n / 2) : Nat) : Int) + ((n / 2 : Nat) : Int))), (3, .int .i64 ((m * (n / 2) : Nat) : Int))]).run P w = .ok (.agg (acells db (areaOf n e)).toArray) w := by
    refine bld_run pt_Area ?_
    rw [fill_step (L := [.pointer (at0 db)]) rfl rfl rfl (by simp), fill_step (L := [.int .i64 ((m * (n / 2) : Nat) : Int)]) rfl rfl rfl (by simp), fill_step (L := [.int .i64 (((m * (n / 2) : Nat) : Int) + ((n / 2 : Nat) : Int))]) rfl rfl rfl (by simp), fill_step (L := [.int .i64 ((m * (n / 2) : Nat) : Int)]) rfl rfl rfl (by simp), fill_nil]
    rw [hA]
    simp [acells]
  refine ⟨_, _, hb, ?_⟩
  exact h.new fun b w' h => hk b w' (Sat.aShut (by rw [hA]; exact ⟨Nat.le_refl _, by dsimp only; omega, by dsimp only; omega⟩) h)

theorem ALeft_ok {b db : Nat} {A : Ar} (h : Sat B w (ara b db A :: F)) (hk : ∀ w', Sat B w' (ara b db A :: F) → K (.int .i64 ((A.to - A.at_ : Nat) : Int)) w') : Cs P f_chain_Area_Left #[.pointer (at0 b)] w K := by
  obtain ⟨h1, hA⟩ := Sat.aOpen h
  refine ok_chain_Area_Left _ ?_
  unfold vc_chain_Area_Left
  have h2 := hA.at_
  have h3 := hA.to
  refine Br.f fun w1 ha => NN.some ⟨_, ld1 (L := acells db A) sc_int (h1.alk ha).bk rfl, NN.some ⟨_, ld1 (L := acells db A) sc_int (h1.alk ha).bk rfl, ?_⟩⟩
  show K (.int .i64 (IntKind.i64.wrap ((A.to : Int) - (A.at_ : Int)))) w1
  rw [w64 (by omega) (by omega), show (A.to : Int) - (A.at_ : Int) = ((A.to - A.at_ : Nat) : Int) by omega]
  exact hk _ (h.alk ha)

/-- The frame that stands behind the last one, and where it ends. -/
def nextF (now : List (List UInt8)) (to : Nat) : Nat → Nat → List UInt8 → Option (List UInt8 × Nat)
  | 0, _, _ => none
  | k + 1, i, acc => if i < to then (if 0 < flen (acc ++ now.getD i []) then some ((acc ++ now.getD i []).take (flen (acc ++ now.getD i [])).toNat, i + 1) else nextF now to k (i + 1) (acc ++ now.getD i [])) else none
def Ar.next (A : Ar) (now : List (List UInt8)) : Option (List UInt8 × Nat) := nextF now A.to 64 A.at_ []

theorem flen_le (bs : List UInt8) : 0 ≤ flen bs ∧ flen bs ≤ bs.length ∧ flen bs ≤ 16384 := by
  unfold flen; split <;> omega

theorem ANext_ok {ab db : Nat} {A : Ar} {D : Dk} (h : Sat B w (ara ab db A :: dsk db D :: F)) (hto : A.to ≤ D.now.length)
    (hk1 : D.down = true → ∀ w', Sat B w' (ara ab db A :: dsk db D :: F) → K (.tuple #[.slice none 0 0, .int .i64 8]) w')
    (hk2 : D.down = false → ∀ bs at', A.next D.now = some (bs, at') → at' ≤ A.to → ∀ B' p c w', B.le B' → Sat B' w' (ara ab db { A with at_ := at' } :: dsk db D :: F) → Rd B' p (bcells bs) → K (.tuple #[.slice p bs.length c, .int .i64 0]) w')
    (hk3 : D.down = false → A.next D.now = none → ∀ w', Sat B w' (ara ab db A :: dsk db D :: F) → K (.tuple #[.slice none 0 0, .int .i64 0]) w') :
    Cs P f_chain_Area_Next #[.pointer (at0 ab)] w K := by
  refine ok_chain_Area_Next _ ?_
  unfold vc_chain_Area_Next
  obtain ⟨h1, hA⟩ := Sat.aOpen h
  have hD := Sat.dFact (h.pull 1)
  have a1 := hA.at_
  have a2 := hA.to
  have lds : ∀ {B' w' G}, Sat B' w' (ara ab db A :: G) → (loadVar t_p_disk_Disk (Addr.add ⟨ab, 0, none⟩ 0)).run P w' = .ok (.pointer (at0 db)) w' ∧ (loadVar t_int (Addr.add ⟨ab, 0, none⟩ 2)).run P w' = .ok (.int .i64 A.to) w' ∧ (loadVar t_int (Addr.add ⟨ab, 0, none⟩ 3)).run P w' = .ok (.int .i64 A.at_) w' := fun h =>
    ⟨ld1 (L := acells db A) sc_pdisk (Sat.aOpen h).1.bk rfl, ld1 (L := acells db A) sc_int (Sat.aOpen h).1.bk rfl, ld1 (L := acells db A) sc_int (Sat.aOpen h).1.bk rfl⟩
  refine Br.f (NN.some ⟨_, (lds h).1, ?_⟩)
  refine Down_ok (h.pull 1) ⟨_, rfl, Br.bool (fun hd => hk1 hd _ h) fun hd => NN.some ⟨_, (lds h).2.2, ?_⟩⟩
  refine Lp.up 64 (fun j vs w => ∃ p c acc, vs = [.slice p acc.length c, .int .i64 ((A.at_ + j : Nat) : Int)] ∧ A.at_ + j ≤ A.to ∧ acc.length = 256 * j ∧ nextF D.now A.to (64 - j) (A.at_ + j) acc = A.next D.now ∧ Sat B w (buf t_uint8 1 p acc.length c (bcells acc) :: ara ab db A :: dsk db D :: F)) ⟨none, 0, [], by simp, by omega, rfl, rfl, by simpa [bcells] using h.buf0⟩ fun J nx cs => ?_
  intro p1 l0 l1 n1 l2 w1 hJ
  obtain ⟨j, hj, rfl, p, c, acc, hv, hle, hacc, hnx, h⟩ := cs _ _ _ hJ
  obtain ⟨⟨rfl, rfl, rfl⟩, rfl⟩ : (p1 = p ∧ l0 = acc.length ∧ l1 = c) ∧ n1 = ((A.at_ + j : Nat) : Int) := by simpa using hv
  refine Jn.dupB (NN.some ⟨_, (lds (h.pull 1)).2.1, Br.lt (fun hlt => NN.some ⟨_, (lds (h.pull 1)).2.2, _, rfl, ?_⟩) fun hge => ⟨_, rfl, Br.f ?_⟩⟩)
  · rw [w64 (x := ((A.at_ + j : Nat) : Int) - (A.at_ : Int)) (by omega) (by omega)]
    refine Br.lt (fun h64 => ?_) fun h64 => ?_
    · have hj64 : j < 64 := by omega
      have hin : A.at_ + j < D.now.length := by omega
      obtain ⟨k, hk⟩ : ∃ k, 64 - j = k + 1 := ⟨63 - j, by omega⟩
      rw [hk, nextF, if_pos (by omega)] at hnx
      refine NN.some ⟨_, (lds (h.pull 1)).1, ?_⟩
      refine Read_sector (h.pull 2) hd hin fun B1 p3 w' hle1 h hr3 => ⟨_, _, _, _, rfl, Br.f ?_⟩
      have hl : D.now[A.at_ + j].length = 256 := hD.now _ (List.getElem_mem hin)
      have hg : D.now.getD (A.at_ + j) [] = D.now[A.at_ + j] := by simp [List.getD, hin]
      rw [hg] at hnx
      refine Sat.append (h.pull 1) el_bytes hr3 (by rw [bcells_length, hl]) (ones_bcells _) (by omega) fun p4 c4 w' h => ?_
      have hlen : (acc ++ D.now[A.at_ + j]).length = acc.length + 256 := by rw [List.length_append, hl]
      rw [← bcells_append, ← hlen] at h
      rw [← hlen]
      generalize hac : acc ++ D.now[A.at_ + j] = acc' at *
      have hc4 : acc'.length ≤ c4 := by
        rcases h.bufCases with ⟨_, b1, b2, _⟩ | ⟨_, _, _, b1, _⟩
        · omega
        · exact b1
      obtain ⟨B2, hle2, h, hr4, _, back⟩ := h.lend
      have hfl := flen_le acc'
      refine Length_ok h hr4 rfl (by omega) fun w' h => ⟨_, rfl, Br.gt (fun hgt => NN.some ?_) fun hng => ?_⟩
      · rw [if_pos hgt] at hnx
        obtain ⟨ha1, _⟩ := Sat.aOpen (h.pull 1)
        rw [w64 (x := ((A.at_ + j : Nat) : Int) + 1) (by omega) (by omega)]
        refine Sat.st1 ha1 sc_int rfl (by simp [acells]) fun w' h => ?_
        refine DoL.part el_bytes (bounds_hm hfl.1 (Int.le_refl _) (by omega)) ?_
        have hd' : D.down = false := hd
        have hfin := hk2 hd' _ _ hnx.symm (by omega) B2
        have hlt' : (acc'.take (flen acc').toNat).length = (flen acc').toNat := by rw [List.length_take]; omega
        have hgo := hfin (if (flen acc').toNat = 0 then p4 else p4.map (·.add (0 * 1))) ((flen acc').toNat - 0) w' (hle1.trans hle2) (Sat.aShut ⟨by have := hA.frm; dsimp only; omega, by dsimp only; omega, a2⟩ h) ?_
        · rw [hlt'] at hgo
          simpa using hgo
        · have e : bcells (acc'.take (flen acc').toNat) = (bcells acc').take (flen acc').toNat := by simp [bcells, List.map_take]
          rw [e]
          have := hr4.sub 0 (flen acc').toNat (by rw [bcells_length]; omega)
          rw [List.drop_zero] at this
          rw [if_neg (by omega)]
          exact this
      · rw [if_neg (by omega)] at hnx
        refine nx j _ _ _ hj64 rfl ⟨p4, c4, acc', ?_, by omega, by omega, ?_, ?_⟩
        · rw [w64 (x := ((A.at_ + j : Nat) : Int) + 1) (by omega) (by omega)]; rfl
        · rw [show 64 - (j + 1) = k by omega]; exact hnx
        · exact (back _ _ (h.pull 1)).thaw hle1
    · have : j = 64 := by omega
      subst this
      exact hk3 hd (by rw [← hnx]; rfl) _ h.tail
  · refine hk3 hd ?_ _ h.tail
    rw [← hnx]
    obtain he : 64 - j = 0 ∨ ∃ k, 64 - j = k + 1 := by
      cases 64 - j with
      | zero => exact .inl rfl
      | succ k => exact .inr ⟨k, rfl⟩
    rcases he with he | ⟨k, he⟩
    · rw [he]; rfl
    · rw [he, nextF, if_neg (by omega)]

end Go.Dv
